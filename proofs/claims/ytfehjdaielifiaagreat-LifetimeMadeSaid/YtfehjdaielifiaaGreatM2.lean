/-
  Uses and policies out of dice.
-/
import Derived.Test.YtfehjdaielifiaaGreatV7
set_option linter.unusedSimpArgs false
set_option linter.unusedVariables false
namespace Go.Proofs.YtfehjdaielifiaaGreat.K
open Go.RowKit
/-! dice -/
theorem dOk_nextI {d : Dice} {n : Int} (h : dOk d = true) : dOk (dnext d n) = true := dOk_next h
theorem dOk_of {d : Dice} {l : List Int} (h : dOk d = true) : dOk (dofN d l) = true := dOk_next h
theorem dof_mem {d : Dice} {l : List Int} (h : l ≠ []) : dof d l ∈ l := by
  have hl : 0 < (l.length : Int) := by
    cases l with
    | nil => exact absurd rfl h
    | cons a l => rw [List.length_cons]; omega
  have h2 := dval_lt (d := d) hl
  have h3 : (dval d l.length).toNat < l.length := by omega
  unfold dof
  rw [List.getD_eq_getElem?_getD, List.getElem?_eq_getElem h3]
  exact List.getElem_mem h3
/-! size, Use -/
def szL (a : Int) : List Int :=
  if a = 5 ∨ a = 6 ∨ a = 10 ∨ a = 11 then [2048, 1024, 512, 3072, 1023, 4096, 16384]
  else if a = 7 ∨ a = 12 then [256, 160, 224, 384, 521]
  else if a = 9 then [65, 44, 87]
  else if a = 13 then [768, 512, 1024]
  else if a = 14 then [128, 40]
  else if a = 15 then [168, 112]
  else if a = 16 ∨ a = 17 then [128, 256]
  else []
def sizeV (d : Dice) (a : Int) : Int := if szL a = [] then 0 else dof d (szL a)
def sizeN (d : Dice) (a : Int) : Dice := if szL a = [] then d else dofN d (szL a)
def dOk1 (d : Dice) (_a : Int) : Bool := dOk d
/-- cipherplan/cipherplanmake.size -/
def tc_f49 : TC := (.sq (.reg [(oP 4 (.mv (cI 0)))]) (.sq (.sq (.reg [(oV 5 1)]) (.bk 0 (.sq (.sq (.reg [(oP 7 (.bin false .eql (.t 5) (cI 5))), (oV 6 7)]) (.cd (.t 6) .sk (.sq (.reg [(oP 8 (.bin false .eql (.t 5) (cI 6))), (oV 6 8)]) (.cd (.t 6) .sk (.sq (.reg [(oP 9 (.bin false .eql (.t 5) (cI 10))), (oV 6 9)]) (.cd (.t 6) .sk (.reg [(oP 10 (.bin false .eql (.t 5) (cI 11))), (oV 6 10)]))))))) (.cd (.t 6) (.sq (.reg [(oV 11 0), (oM 12 (.bs 3 1 7 [(.v (.int .i64 0)), (.v (.int .i64 0)), (.v (.int .i64 0)), (.v (.int .i64 0)), (.v (.int .i64 0)), (.v (.int .i64 0)), (.v (.int .i64 0))] [(0, 1, (cI 2048)), (1, 1, (cI 1024)), (2, 1, (cI 512)), (3, 1, (cI 3072)), (4, 1, (cI 1023)), (5, 1, (cI 4096)), (6, 1, (cI 16384))])), (oC 13 22 [(.t 11), (.t 12)]), (oV 4 13)]) .rt) (.sq (.sq (.reg [(oP 15 (.bin false .eql (.t 5) (cI 7))), (oV 14 15)]) (.cd (.t 14) .sk (.reg [(oP 16 (.bin false .eql (.t 5) (cI 12))), (oV 14 16)]))) (.cd (.t 14) (.sq (.reg [(oV 17 0), (oM 18 (.bs 3 1 5 [(.v (.int .i64 0)), (.v (.int .i64 0)), (.v (.int .i64 0)), (.v (.int .i64 0)), (.v (.int .i64 0))] [(0, 1, (cI 256)), (1, 1, (cI 160)), (2, 1, (cI 224)), (3, 1, (cI 384)), (4, 1, (cI 521))])), (oC 19 22 [(.t 17), (.t 18)]), (oV 4 19)]) .rt) (.sq (.reg [(oP 21 (.bin false .eql (.t 5) (cI 9))), (oV 20 21)]) (.cd (.t 20) (.sq (.reg [(oV 22 0), (oM 23 (.bs 3 1 3 [(.v (.int .i64 0)), (.v (.int .i64 0)), (.v (.int .i64 0))] [(0, 1, (cI 65)), (1, 1, (cI 44)), (2, 1, (cI 87))])), (oC 24 22 [(.t 22), (.t 23)]), (oV 4 24)]) .rt) (.sq (.reg [(oP 26 (.bin false .eql (.t 5) (cI 13))), (oV 25 26)]) (.cd (.t 25) (.sq (.reg [(oV 27 0), (oM 28 (.bs 3 1 3 [(.v (.int .i64 0)), (.v (.int .i64 0)), (.v (.int .i64 0))] [(0, 1, (cI 768)), (1, 1, (cI 512)), (2, 1, (cI 1024))])), (oC 29 22 [(.t 27), (.t 28)]), (oV 4 29)]) .rt) (.sq (.reg [(oP 31 (.bin false .eql (.t 5) (cI 14))), (oV 30 31)]) (.cd (.t 30) (.sq (.reg [(oV 32 0), (oM 33 (.bs 3 1 2 [(.v (.int .i64 0)), (.v (.int .i64 0))] [(0, 1, (cI 128)), (1, 1, (cI 40))])), (oC 34 22 [(.t 32), (.t 33)]), (oV 4 34)]) .rt) (.sq (.reg [(oP 36 (.bin false .eql (.t 5) (cI 15))), (oV 35 36)]) (.cd (.t 35) (.sq (.reg [(oV 37 0), (oM 38 (.bs 3 1 2 [(.v (.int .i64 0)), (.v (.int .i64 0))] [(0, 1, (cI 168)), (1, 1, (cI 112))])), (oC 39 22 [(.t 37), (.t 38)]), (oV 4 39)]) .rt) (.sq (.sq (.reg [(oP 41 (.bin false .eql (.t 5) (cI 16))), (oV 40 41)]) (.cd (.t 40) .sk (.reg [(oP 42 (.bin false .eql (.t 5) (cI 17))), (oV 40 42)]))) (.cd (.t 40) (.sq (.reg [(oV 43 0), (oM 44 (.bs 3 1 2 [(.v (.int .i64 0)), (.v (.int .i64 0))] [(0, 1, (cI 128)), (1, 1, (cI 256))])), (oC 45 22 [(.t 43), (.t 44)]), (oV 4 45)]) .rt) .sk)))))))))))))))) (.sq (.reg [(oP 4 (.mv (cI 0)))]) .rt)))
def rv_f49 : List (RV × Option Ty) := [((.t 4), some tI)]
def g_f49 : G := ⟨TYs, [], 46, EL [(22, sp_f22)], keeps, (fun _ _ => none), IL [], RL []⟩
def r_f49_1 (d0 : Dice) (p1 : Int) : Option (V × List VO) :=
  br ((ofOk d0 ([2048, 1024, 512, 3072, 1023, 4096, 16384])))
    (some (.t tI (dof d0 ([2048, 1024, 512, 3072, 1023, 4096, 16384])), [.box (.t tyDice (dofN d0 ([2048, 1024, 512, 3072, 1023, 4096, 16384])))]))
    (none)
def r_f49_3 (d0 : Dice) (p1 : Int) : Option (V × List VO) :=
  br ((ofOk d0 ([256, 160, 224, 384, 521])))
    (some (.t tI (dof d0 ([256, 160, 224, 384, 521])), [.box (.t tyDice (dofN d0 ([256, 160, 224, 384, 521])))]))
    (none)
def r_f49_5 (d0 : Dice) (p1 : Int) : Option (V × List VO) :=
  br ((ofOk d0 ([128, 256])))
    (some (.t tI (dof d0 ([128, 256])), [.box (.t tyDice (dofN d0 ([128, 256])))]))
    (none)
def r_f49_4 (d0 : Dice) (p1 : Int) : Option (V × List VO) :=
  br ((ieq p1 9))
    (br ((ofOk d0 ([65, 44, 87])))
      (some (.t tI (dof d0 ([65, 44, 87])), [.box (.t tyDice (dofN d0 ([65, 44, 87])))]))
      (none))
    (br ((ieq p1 13))
      (br ((ofOk d0 ([768, 512, 1024])))
        (some (.t tI (dof d0 ([768, 512, 1024])), [.box (.t tyDice (dofN d0 ([768, 512, 1024])))]))
        (none))
      (br ((ieq p1 14))
        (br ((ofOk d0 ([128, 40])))
          (some (.t tI (dof d0 ([128, 40])), [.box (.t tyDice (dofN d0 ([128, 40])))]))
          (none))
        (br ((ieq p1 15))
          (br ((ofOk d0 ([168, 112])))
            (some (.t tI (dof d0 ([168, 112])), [.box (.t tyDice (dofN d0 ([168, 112])))]))
            (none))
          (br ((ieq p1 16))
            (br ((ieq p1 16))
              (r_f49_5 d0 p1)
              (some (.t tI 0, [.box (.t tyDice d0)])))
            (br ((ieq p1 17))
              (r_f49_5 d0 p1)
              (some (.t tI 0, [.box (.t tyDice d0)])))))))
def r_f49_2 (d0 : Dice) (p1 : Int) : Option (V × List VO) :=
  br ((ieq p1 7))
    (br ((ieq p1 7))
      (r_f49_3 d0 p1)
      (r_f49_4 d0 p1))
    (br ((ieq p1 12))
      (r_f49_3 d0 p1)
      (r_f49_4 d0 p1))
def r_f49 (d0 : Dice) (p1 : Int) : Option (V × List VO) :=
  br ((ieq p1 5))
    (br ((ieq p1 5))
      (r_f49_1 d0 p1)
      (r_f49_2 d0 p1))
    (br ((ieq p1 6))
      (br ((ieq p1 6))
        (r_f49_1 d0 p1)
        (r_f49_2 d0 p1))
      (br ((ieq p1 10))
        (br ((ieq p1 10))
          (r_f49_1 d0 p1)
          (r_f49_2 d0 p1))
        (br ((ieq p1 11))
          (r_f49_1 d0 p1)
          (r_f49_2 d0 p1))))
theorem e_f49 (d0 : Dice) (p1 : Int) : runF g_f49 tc_f49 rv_f49 false [.ptr 50000 0, .t tI p1] [.box (.t tyDice d0)] = r_f49 d0 p1 := by kernel_rfl
theorem ok_f49 : Option.map (trC Tryz.prog) Tryz.f49.body = some tc_f49.er := by kernel_rfl
theorem rok_f49 : trVs Tryz.prog Tryz.f49.results.toList = some (rv_f49.map Prod.fst) := by kernel_rfl
theorem en_f49 : Entered Tryz.prog 49 := .inr ⟨by decide, _, Tryz.func49, by kernel_rfl, by kernel_rfl⟩
theorem gk_f49 : GOk Tryz.prog g_f49 := gok_of _ (by
  intro p hp
  simp only [List.mem_cons, List.not_mem_nil, or_false] at hp
  rcases hp with rfl
  · exact ⟨en_f22, ms_f22⟩)
theorem lk_f49 : tc_f49.lok g_f49 := by repeat (first | exact trivial | refine ⟨?_, ?_⟩)
theorem s_f49 (d : Dice) (a : Int) (h : dOk1 d a = true) : r_f49 d a = some (.t tI (sizeV d a), [.box (.t tyDice (sizeN d a))]) := by
  have h : dOk d = true := h
  have ho : ∀ l : List Int, l ≠ [] → l.length ≤ 100 → ofOk d l = true := fun l h1 h2 => by
    have : 0 < l.length := List.length_pos_iff.2 h1
    simp only [ofOk, h, Bool.true_and, decide_eq_true_eq]
    omega
  simp only [r_f49, r_f49_1, r_f49_2, r_f49_3, r_f49_4, r_f49_5, ho _ (show ([2048, 1024, 512, 3072, 1023, 4096, 16384] : List Int) ≠ [] by decide) (by decide), ho _ (show ([256, 160, 224, 384, 521] : List Int) ≠ [] by decide) (by decide), ho _ (show ([65, 44, 87] : List Int) ≠ [] by decide) (by decide), ho _ (show ([768, 512, 1024] : List Int) ≠ [] by decide) (by decide), ho _ (show ([128, 40] : List Int) ≠ [] by decide) (by decide), ho _ (show ([168, 112] : List Int) ≠ [] by decide) (by decide), ho _ (show ([128, 256] : List Int) ≠ [] by decide) (by decide), br_true]
  rcases alg_cases a with ⟨e, hb⟩ | hc
  · have e1 : szL a = [] := by
      unfold szL
      repeat rw [if_neg (by omega)]
    simp only [e 5 (by decide), e 6 (by decide), e 7 (by decide), e 9 (by decide), e 10 (by decide), e 11 (by decide), e 12 (by decide), e 13 (by decide), e 14 (by decide), e 15 (by decide), e 16 (by decide), e 17 (by decide), br_false, sizeV, sizeN, e1, if_true]
  · rcases hc with rfl | rfl | rfl | rfl | rfl | rfl | rfl | rfl | rfl | rfl | rfl | rfl | rfl | rfl | rfl | rfl | rfl | rfl | rfl | rfl | rfl | rfl <;> rfl
def sp_f49 : Ent := specP tyDice (.pr tI .nil) (fun d x => (dOk1 d x.1)) (fun d x => (.t tI (sizeV d x.1))) (fun d x => (sizeN d x.1))
theorem ms_f49 : Meets Tryz.prog 49 (strip sp_f49) := by
  obtain ⟨c, hc, hi⟩ := Option.map_eq_some_iff.1 ok_f49
  exact meets_specP (R := runF g_f49 tc_f49 rv_f49 false) (meets_of (by decide) Tryz.func49 hc hi Tryz.ntmps49 rok_f49 gk_f49 lk_f49 mixed) rfl fun d x hok => (e_f49 d x.1).trans (s_f49 d x.1 hok)
def useV (d : Dice) : Keep := (1 + dval d 22, (sizeV (dnext d 22) (1 + dval d 22), ()))
def useN (d : Dice) : Dice := sizeN (dnext d 22) (1 + dval d 22)
/-- cipherplan/cipherplanmake.Use -/
def tc_f15 : TC := (.sq (.reg [(oM 2 (.new [(.v (.int .i64 0)), (.v (.int .i64 0))]))]) (.sq (.reg [(oV 4 0), (oC 5 47 [(.t 4), (cI 22)]), (oP 6 (.bin false .add (cI 1) (.t 5))), (oV 3 6)]) (.sq (.reg [(oV 7 3), (oV 8 0), (oV 9 3), (oC 10 49 [(.t 8), (.t 9)]), (oP 11 (.bd [(.v (.int .i64 0)), (.v (.int .i64 0))] [(0, 1, (.t 7)), (1, 1, (.t 10))])), (.mk none none (.m (.st 2 (.t 2) (.t 11))))]) .rt)))
def rv_f15 : List (RV × Option Ty) := [((.c 2 true 2), some tyKeep)]
def g_f15 : G := ⟨TYs, [], 12, EL [(47, sp_f47), (49, sp_f49)], keeps, (fun _ _ => none), IL [], RL []⟩
def r_f15 (d0 : Dice) : Option (V × List VO) :=
  br ((nextOk d0 22))
    (br ((dOk1 (dnext d0 22) (iadd .i64 1 (dval d0 22))))
      (some (.t tyKeep ((iadd .i64 1 (dval d0 22)), ((sizeV (dnext d0 22) (iadd .i64 1 (dval d0 22))), ())), [.box (.t tyDice (sizeN (dnext d0 22) (iadd .i64 1 (dval d0 22))))]))
      (none))
    (none)
theorem e_f15 (d0 : Dice) : runF g_f15 tc_f15 rv_f15 false [.ptr 50000 0] [.box (.t tyDice d0)] = r_f15 d0 := by kernel_rfl
theorem ok_f15 : Option.map (trC Tryz.prog) Tryz.f15.body = some tc_f15.er := by kernel_rfl
theorem rok_f15 : trVs Tryz.prog Tryz.f15.results.toList = some (rv_f15.map Prod.fst) := by kernel_rfl
theorem en_f15 : Entered Tryz.prog 15 := .inr ⟨by decide, _, Tryz.func15, by kernel_rfl, by kernel_rfl⟩
theorem gk_f15 : GOk Tryz.prog g_f15 := gok_of _ (by
  intro p hp
  simp only [List.mem_cons, List.not_mem_nil, or_false] at hp
  rcases hp with rfl | rfl
  · exact ⟨en_f47, ms_f47⟩
  · exact ⟨en_f49, ms_f49⟩)
theorem lk_f15 : tc_f15.lok g_f15 := by repeat (first | exact trivial | refine ⟨?_, ?_⟩)
theorem s_f15 (d : Dice) (h : dOk d = true) : r_f15 d = some (.t tyKeep (useV d), [.box (.t tyDice (useN d))]) := by
  have h1 : nextOk d 22 = true := by simp [nextOk, h]
  have h2 := dval_lt (d := d) (n := 22) (by omega)
  have h3 : iadd .i64 1 (dval d 22) = 1 + dval d 22 := iadd_in (by omega)
  have h4 : ∀ a, dOk1 (dnext d 22) a = true := fun a => dOk_next h
  simp only [r_f15, h1, h3, h4, br_true]
  rfl
def sp_f15 : Ent := specP tyDice .nil (fun d x => (dOk d)) (fun d x => (.t tyKeep (useV d))) (fun d x => (useN d))
theorem ms_f15 : Meets Tryz.prog 15 (strip sp_f15) := by
  obtain ⟨c, hc, hi⟩ := Option.map_eq_some_iff.1 ok_f15
  exact meets_specP (R := runF g_f15 tc_f15 rv_f15 false) (meets_of (by decide) Tryz.func15 hc hi Tryz.ntmps15 rok_f15 gk_f15 lk_f15 mixed) rfl fun d x hok => (e_f15 d).trans (s_f15 d hok)
theorem dOk_size {d : Dice} {a : Int} (h : dOk d = true) : dOk (sizeN d a) = true := by
  unfold sizeN
  split
  · exact h
  · exact dOk_of h
theorem dOk_use {d : Dice} (h : dOk d = true) : dOk (useN d) = true := dOk_size (dOk_next h)
theorem size_valid {d : Dice} {a : Int} (h1 : 1 ≤ a) (h2 : a ≤ 22) : validF (a, (sizeV d a, ())) = true := by
  have hm : sizeV d a ∈ (if szL a = [] then [0] else szL a) := by
    unfold sizeV
    split
    · simp
    · rename_i h
      exact dof_mem h
  have ha : ∀ l : List Int, (∀ x, x ∈ l → validF (a, (x, ())) = true) → sizeV d a ∈ l → validF (a, (sizeV d a, ())) = true := fun l h hm => h _ hm
  have hc : a = 1 ∨ a = 2 ∨ a = 3 ∨ a = 4 ∨ a = 5 ∨ a = 6 ∨ a = 7 ∨ a = 8 ∨ a = 9 ∨ a = 10 ∨ a = 11 ∨ a = 12 ∨ a = 13 ∨ a = 14 ∨ a = 15 ∨ a = 16 ∨ a = 17 ∨ a = 18 ∨ a = 19 ∨ a = 20 ∨ a = 21 ∨ a = 22 := by omega
  rcases hc with rfl | rfl | rfl | rfl | rfl | rfl | rfl | rfl | rfl | rfl | rfl | rfl | rfl | rfl | rfl | rfl | rfl | rfl | rfl | rfl | rfl | rfl <;> exact ha _ (by decide) hm
theorem use_valid (d : Dice) : validF (useV d) = true := by
  have h2 := dval_lt (d := d) (n := 22) (by omega)
  exact size_valid (by omega) (by omega)
theorem use_alg (d : Dice) : 1 ≤ (useV d).1 ∧ (useV d).1 ≤ 22 := by
  have h2 := dval_lt (d := d) (n := 22) (by omega)
  unfold useV
  simp only
  omega

/-! Policy -/
def algs : List Int := [14, 1, 2, 5, 15, 0, 16, 10, 20, 7]
def rDraw (d0 : Dice) : Rule × Dice :=
  let d1 := dnext d0 3
  let d2 := dofN d1 [14, 1, 2, 5, 15, 0, 16, 10, 20, 7]
  let b2 := done d2 2
  let d3 := dnext d2 2
  let below := if b2 then dof d3 [2048, 256, 1024, 3072, 129] else 0
  let d4 := if b2 then dofN d3 [2048, 256, 1024, 3072, 129] else d3
  let b4 := done d4 3
  let d5 := dnext d4 3
  let purpose := if b4 then iadd .i64 1 (dval d5 4) else 0
  let d6 := if b4 then dnext d5 4 else d5
  let b6 := done d6 2
  let d7 := dnext d6 2
  let frm := if b6 then dof d7 [10, 30, 100, 7] else 0
  let d8 := if b6 then dofN d7 [10, 30, 100, 7] else d7
  let b8 := done d8 3
  let d9 := dnext d8 3
  let to := if b8 then iadd .i64 frm (dof d9 [20, 1, 200]) else 40001
  let d10 := if b8 then dofN d9 [20, 1, 200] else d9
  ((done d0 3, (dof d1 [14, 1, 2, 5, 15, 0, 16, 10, 20, 7], (below, (purpose, (frm, (to, ())))))), d10)
def rulesZ : Nat → Dice → List Rule × Dice
  | 0, d => ([], d)
  | n + 1, d => ((rDraw d).1 :: (rulesZ n (rDraw d).2).1, (rulesZ n (rDraw d).2).2)
def kDraw (d : Dice) : Keep × Dice := ((iadd .i64 1 (dval d 4), (dof (dnext d 4) [10, 100, 3000], ())), dofN (dnext d 4) [10, 100, 3000])
def keepsZ : Nat → Dice → List Keep × Dice
  | 0, d => ([], d)
  | n + 1, d => ((kDraw d).1 :: (keepsZ n (kDraw d).2).1, (keepsZ n (kDraw d).2).2)
def polR (d : Dice) : List Rule × Dice := rulesZ (dval d 7).toNat (dnext d 7)
def polK (d : Dice) : List Keep × Dice := keepsZ (dval (polR d).2 3).toNat (dnext (polR d).2 3)
def polV (d : Dice) : Policy := ((polR d).1, ((polK d).1, ()))
def polN (d : Dice) : Dice := (polK d).2
theorem dOk_rDraw {d : Dice} (h : dOk d = true) : dOk (rDraw d).2 = true := by
  unfold rDraw
  simp only
  repeat' split
  all_goals (repeat first | exact h | apply dOk_next | apply dOk_of)
theorem dOk_rules {n : Nat} : ∀ {d : Dice}, dOk d = true → dOk (rulesZ n d).2 = true := by
  induction n with
  | zero => exact fun h => h
  | succ n ih => exact fun h => ih (dOk_rDraw h)
theorem dOk_kDraw {d : Dice} (h : dOk d = true) : dOk (kDraw d).2 = true := dOk_of (l := [10, 100, 3000]) (dOk_next h)
theorem dOk_keeps {n : Nat} : ∀ {d : Dice}, dOk d = true → dOk (keepsZ n d).2 = true := by
  induction n with
  | zero => exact fun h => h
  | succ n ih => exact fun h => ih (dOk_kDraw h)
theorem dOk_pol {d : Dice} (h : dOk d = true) : dOk (polN d) = true := dOk_keeps (dOk_next (dOk_rules (dOk_next h)))
theorem rDraw_ok (d : Dice) : ruledF (rDraw d).1 = true := by
  have ga : ∀ d : Dice, 0 ≤ dof d [14, 1, 2, 5, 15, 0, 16, 10, 20, 7] ∧ dof d [14, 1, 2, 5, 15, 0, 16, 10, 20, 7] ≤ 22 := fun d => by
    have h := dof_mem (d := d) (l := [14, 1, 2, 5, 15, 0, 16, 10, 20, 7]) (by decide)
    simp only [List.mem_cons, List.not_mem_nil, or_false] at h
    omega
  have gb : ∀ d : Dice, 0 ≤ dof d [2048, 256, 1024, 3072, 129] ∧ dof d [2048, 256, 1024, 3072, 129] ≤ 16384 := fun d => by
    have h := dof_mem (d := d) (l := [2048, 256, 1024, 3072, 129]) (by decide)
    simp only [List.mem_cons, List.not_mem_nil, or_false] at h
    omega
  have gf : ∀ d : Dice, 0 ≤ dof d [10, 30, 100, 7] ∧ dof d [10, 30, 100, 7] ≤ 100 := fun d => by
    have h := dof_mem (d := d) (l := [10, 30, 100, 7]) (by decide)
    simp only [List.mem_cons, List.not_mem_nil, or_false] at h
    omega
  have gt : ∀ d : Dice, 1 ≤ dof d [20, 1, 200] ∧ dof d [20, 1, 200] ≤ 200 := fun d => by
    have h := dof_mem (d := d) (l := [20, 1, 200]) (by decide)
    simp only [List.mem_cons, List.not_mem_nil, or_false] at h
    omega
  have gp : ∀ d : Dice, 1 ≤ iadd .i64 1 (dval d 4) ∧ iadd .i64 1 (dval d 4) ≤ 4 := fun d => by
    have h := dval_lt (d := d) (n := 4) (by omega)
    rw [iadd_in (by omega)]
    omega
  have gu : ∀ (x : Int) (d : Dice), 0 ≤ x → x ≤ 100 → iadd .i64 x (dof d [20, 1, 200]) = x + dof d [20, 1, 200] := fun x d h1 h2 => by
    have h := gt d
    exact iadd_in (by omega)
  unfold ruledF
  rw [decide_eq_true_eq]
  unfold rDraw
  simp only [Item.Name, Item.Kind, Item.Purpose, Item.Links, Item.Until, Policy.Rules, Policy.Keeps, Rule.Allow, Rule.Alg, Rule.Below, Rule.Purpose, Rule.From, Rule.To, Keep.Alg, Keep.Bits, Link.Use, Link.Day, Dice.L, Dice.At, LinkX.day, LinkX.fall, LinkX.falls, Row.name, Row.kind, Row.way, Row.sizes, Row.strengths]
  have pB : ∀ (b : Bool) (e : Dice), (0 ≤ if b = true then dof e [2048, 256, 1024, 3072, 129] else 0) ∧ (if b = true then dof e [2048, 256, 1024, 3072, 129] else 0) ≤ 16384 := by
    intro b e
    have h := gb e
    cases b <;> simp only [Bool.false_eq_true, if_true, if_false] <;> omega
  have pP : ∀ (b : Bool) (e : Dice), (0 ≤ if b = true then iadd .i64 1 (dval e 4) else 0) ∧ (if b = true then iadd .i64 1 (dval e 4) else 0) ≤ 4 := by
    intro b e
    have h := gp e
    cases b <;> simp only [Bool.false_eq_true, if_true, if_false] <;> omega
  refine ⟨(ga _).1, (ga _).2, (pB _ _).1, (pB _ _).2, (pP _ _).1, (pP _ _).2, ?_⟩
  have key : ∀ (b1 b2 : Bool) (e1 e2 : Dice), (0 ≤ if b1 = true then dof e1 [10, 30, 100, 7] else 0) ∧ (if b1 = true then dof e1 [10, 30, 100, 7] else 0) < (if b2 = true then iadd .i64 (if b1 = true then dof e1 [10, 30, 100, 7] else 0) (dof e2 [20, 1, 200]) else 40001) ∧ (if b2 = true then iadd .i64 (if b1 = true then dof e1 [10, 30, 100, 7] else 0) (dof e2 [20, 1, 200]) else 40001) ≤ 40001 := by
    intro b1 b2 e1 e2
    have h1 := gf e1
    have h2 := gt e2
    cases b1 <;> cases b2 <;> simp only [Bool.false_eq_true, if_true, if_false]
    · omega
    · rw [gu _ _ (by omega) (by omega)]; omega
    · omega
    · rw [gu _ _ (by omega) (by omega)]; omega
  exact key _ _ _ _
theorem rulesZ_ok : ∀ (n : Nat) (d : Dice), (rulesZ n d).1.length = n ∧ ∀ r, r ∈ (rulesZ n d).1 → ruledF r = true
  | 0, d => ⟨rfl, fun r h => by cases h⟩
  | n + 1, d => by
    obtain ⟨h1, h2⟩ := rulesZ_ok n (rDraw d).2
    refine ⟨by simp only [rulesZ, List.length_cons, h1], fun r h => ?_⟩
    rcases List.mem_cons.1 h with rfl | h
    · exact rDraw_ok d
    · exact h2 r h
theorem kDraw_ok (d : Dice) : keptF (kDraw d).1 = true := by
  have h := dof_mem (d := dnext d 4) (l := [10, 100, 3000]) (by decide)
  simp only [List.mem_cons, List.not_mem_nil, or_false] at h
  have h2 := dval_lt (d := d) (n := 4) (by omega)
  have h3 : iadd .i64 1 (dval d 4) = 1 + dval d 4 := iadd_in (by omega)
  unfold keptF kDraw
  rw [decide_eq_true_eq]
  simp only [h3]
  omega
theorem keepsZ_ok : ∀ (n : Nat) (d : Dice), (keepsZ n d).1.length = n ∧ ∀ r, r ∈ (keepsZ n d).1 → keptF r = true
  | 0, d => ⟨rfl, fun r h => by cases h⟩
  | n + 1, d => by
    obtain ⟨h1, h2⟩ := keepsZ_ok n (kDraw d).2
    refine ⟨by simp only [keepsZ, List.length_cons, h1], fun r h => ?_⟩
    rcases List.mem_cons.1 h with rfl | h
    · exact kDraw_ok d
    · exact h2 r h
theorem pol_size (d : Dice) : (polV d).1.length ≤ 6 ∧ (polV d).2.1.length ≤ 2 := by
  have b7 := dval_lt (d := d) (n := 7) (by omega)
  have b3 := dval_lt (d := (polR d).2) (n := 3) (by omega)
  have h1 := (rulesZ_ok (dval d 7).toNat (dnext d 7)).1
  have h2 := (keepsZ_ok (dval (polR d).2 3).toNat (dnext (polR d).2 3)).1
  unfold polV polK polR at *
  simp only
  omega
theorem pol_ok (d : Dice) : polOk (polV d) = true := by
  have hs := pol_size d
  simp only [polOk, Bool.and_eq_true, decide_eq_true_eq]
  refine ⟨⟨List.all_eq_true.2 (rulesZ_ok _ _).2, List.all_eq_true.2 (keepsZ_ok _ _).2⟩, by omega, by omega⟩
end Go.Proofs.YtfehjdaielifiaaGreat.K
