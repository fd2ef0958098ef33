/-
  Uses and policies out of dice.
-/
import Derived.Test.YtfehjdaielifiaaV7
set_option linter.unusedSimpArgs false
set_option linter.unusedVariables false
namespace Go.Proofs.Ytfehjdaielifiaa.K
open Go.RowKit
/-! dice -/
theorem dOk_nextI {d : Dice} {n : Int} (h : dOk d = true) : dOk (dnext d n) = true := dOk_next h
theorem dOk_of {d : Dice} {l : List Int} (h : dOk d = true) : dOk (dofN d l) = true := dOk_next h
theorem dof_mem {d : Dice} {l : List Int} (h : l ≠ []) : dof d l ∈ l := by
  have hl : 0 < (l.length : Int) := by
    cases l with
    | nil => exact absurd rfl h
    | cons a l => rw [List.length_cons]; omega
  have h2 := dval_lt (d := d) hl
  have h3 : (dval d l.length).toNat < l.length := by omega
  unfold dof
  rw [List.getD_eq_getElem?_getD, List.getElem?_eq_getElem h3]
  exact List.getElem_mem h3
/-! size, Use -/
def szL (a : Int) : List Int :=
  if a = 5 ∨ a = 6 ∨ a = 10 ∨ a = 11 then [2048, 1024, 512, 3072, 1023, 4096, 16384]
  else if a = 7 ∨ a = 12 then [256, 160, 224, 384, 521]
  else if a = 9 then [65, 44, 87]
  else if a = 13 then [768, 512, 1024]
  else if a = 14 then [128, 40]
  else if a = 15 then [168, 112]
  else if a = 16 ∨ a = 17 then [128, 256]
  else []
def sizeV (d : Dice) (a : Int) : Int := if szL a = [] then 0 else dof d (szL a)
def sizeN (d : Dice) (a : Int) : Dice := if szL a = [] then d else dofN d (szL a)
def dOk1 (d : Dice) (_a : Int) : Bool := dOk d
/-- cipherplan/cipherplanmake.size -/
def tc_make_size : TC := (.sq (.reg [(.mk (some 4) none (.m (.pu (.mv (.c (.v (.int .i64 0)))))))]) (.sq (.sq (.reg [(.mk (some 5) none (.m (.pu (.mv (.t 1)))))]) (.bk 0 (.sq (.sq (.reg [(.mk (some 7) none (.m (.pu (.bin false .eql (.t 5) (.c (.v (.int .i64 5))))))), (.mk (some 6) none (.m (.pu (.mv (.t 7)))))]) (.cd (.t 6) .sk (.sq (.reg [(.mk (some 8) none (.m (.pu (.bin false .eql (.t 5) (.c (.v (.int .i64 6))))))), (.mk (some 6) none (.m (.pu (.mv (.t 8)))))]) (.cd (.t 6) .sk (.sq (.reg [(.mk (some 9) none (.m (.pu (.bin false .eql (.t 5) (.c (.v (.int .i64 10))))))), (.mk (some 6) none (.m (.pu (.mv (.t 9)))))]) (.cd (.t 6) .sk (.reg [(.mk (some 10) none (.m (.pu (.bin false .eql (.t 5) (.c (.v (.int .i64 11))))))), (.mk (some 6) none (.m (.pu (.mv (.t 10)))))]))))))) (.cd (.t 6) (.sq (.reg [(.mk (some 11) none (.m (.pu (.mv (.t 0))))), (.mk (some 12) none (.m (.bs 3 1 7 [(.v (.int .i64 0)), (.v (.int .i64 0)), (.v (.int .i64 0)), (.v (.int .i64 0)), (.v (.int .i64 0)), (.v (.int .i64 0)), (.v (.int .i64 0))] [(0, 1, (.c (.v (.int .i64 2048)))), (1, 1, (.c (.v (.int .i64 1024)))), (2, 1, (.c (.v (.int .i64 512)))), (3, 1, (.c (.v (.int .i64 3072)))), (4, 1, (.c (.v (.int .i64 1023)))), (5, 1, (.c (.v (.int .i64 4096)))), (6, 1, (.c (.v (.int .i64 16384))))]))), (.mk (some 13) none (.call 23 [(.t 11), (.t 12)])), (.mk (some 4) none (.m (.pu (.mv (.t 13)))))]) .rt) (.sq (.sq (.reg [(.mk (some 15) none (.m (.pu (.bin false .eql (.t 5) (.c (.v (.int .i64 7))))))), (.mk (some 14) none (.m (.pu (.mv (.t 15)))))]) (.cd (.t 14) .sk (.reg [(.mk (some 16) none (.m (.pu (.bin false .eql (.t 5) (.c (.v (.int .i64 12))))))), (.mk (some 14) none (.m (.pu (.mv (.t 16)))))]))) (.cd (.t 14) (.sq (.reg [(.mk (some 17) none (.m (.pu (.mv (.t 0))))), (.mk (some 18) none (.m (.bs 3 1 5 [(.v (.int .i64 0)), (.v (.int .i64 0)), (.v (.int .i64 0)), (.v (.int .i64 0)), (.v (.int .i64 0))] [(0, 1, (.c (.v (.int .i64 256)))), (1, 1, (.c (.v (.int .i64 160)))), (2, 1, (.c (.v (.int .i64 224)))), (3, 1, (.c (.v (.int .i64 384)))), (4, 1, (.c (.v (.int .i64 521))))]))), (.mk (some 19) none (.call 23 [(.t 17), (.t 18)])), (.mk (some 4) none (.m (.pu (.mv (.t 19)))))]) .rt) (.sq (.reg [(.mk (some 21) none (.m (.pu (.bin false .eql (.t 5) (.c (.v (.int .i64 9))))))), (.mk (some 20) none (.m (.pu (.mv (.t 21)))))]) (.cd (.t 20) (.sq (.reg [(.mk (some 22) none (.m (.pu (.mv (.t 0))))), (.mk (some 23) none (.m (.bs 3 1 3 [(.v (.int .i64 0)), (.v (.int .i64 0)), (.v (.int .i64 0))] [(0, 1, (.c (.v (.int .i64 65)))), (1, 1, (.c (.v (.int .i64 44)))), (2, 1, (.c (.v (.int .i64 87))))]))), (.mk (some 24) none (.call 23 [(.t 22), (.t 23)])), (.mk (some 4) none (.m (.pu (.mv (.t 24)))))]) .rt) (.sq (.reg [(.mk (some 26) none (.m (.pu (.bin false .eql (.t 5) (.c (.v (.int .i64 13))))))), (.mk (some 25) none (.m (.pu (.mv (.t 26)))))]) (.cd (.t 25) (.sq (.reg [(.mk (some 27) none (.m (.pu (.mv (.t 0))))), (.mk (some 28) none (.m (.bs 3 1 3 [(.v (.int .i64 0)), (.v (.int .i64 0)), (.v (.int .i64 0))] [(0, 1, (.c (.v (.int .i64 768)))), (1, 1, (.c (.v (.int .i64 512)))), (2, 1, (.c (.v (.int .i64 1024))))]))), (.mk (some 29) none (.call 23 [(.t 27), (.t 28)])), (.mk (some 4) none (.m (.pu (.mv (.t 29)))))]) .rt) (.sq (.reg [(.mk (some 31) none (.m (.pu (.bin false .eql (.t 5) (.c (.v (.int .i64 14))))))), (.mk (some 30) none (.m (.pu (.mv (.t 31)))))]) (.cd (.t 30) (.sq (.reg [(.mk (some 32) none (.m (.pu (.mv (.t 0))))), (.mk (some 33) none (.m (.bs 3 1 2 [(.v (.int .i64 0)), (.v (.int .i64 0))] [(0, 1, (.c (.v (.int .i64 128)))), (1, 1, (.c (.v (.int .i64 40))))]))), (.mk (some 34) none (.call 23 [(.t 32), (.t 33)])), (.mk (some 4) none (.m (.pu (.mv (.t 34)))))]) .rt) (.sq (.reg [(.mk (some 36) none (.m (.pu (.bin false .eql (.t 5) (.c (.v (.int .i64 15))))))), (.mk (some 35) none (.m (.pu (.mv (.t 36)))))]) (.cd (.t 35) (.sq (.reg [(.mk (some 37) none (.m (.pu (.mv (.t 0))))), (.mk (some 38) none (.m (.bs 3 1 2 [(.v (.int .i64 0)), (.v (.int .i64 0))] [(0, 1, (.c (.v (.int .i64 168)))), (1, 1, (.c (.v (.int .i64 112))))]))), (.mk (some 39) none (.call 23 [(.t 37), (.t 38)])), (.mk (some 4) none (.m (.pu (.mv (.t 39)))))]) .rt) (.sq (.sq (.reg [(.mk (some 41) none (.m (.pu (.bin false .eql (.t 5) (.c (.v (.int .i64 16))))))), (.mk (some 40) none (.m (.pu (.mv (.t 41)))))]) (.cd (.t 40) .sk (.reg [(.mk (some 42) none (.m (.pu (.bin false .eql (.t 5) (.c (.v (.int .i64 17))))))), (.mk (some 40) none (.m (.pu (.mv (.t 42)))))]))) (.cd (.t 40) (.sq (.reg [(.mk (some 43) none (.m (.pu (.mv (.t 0))))), (.mk (some 44) none (.m (.bs 3 1 2 [(.v (.int .i64 0)), (.v (.int .i64 0))] [(0, 1, (.c (.v (.int .i64 128)))), (1, 1, (.c (.v (.int .i64 256))))]))), (.mk (some 45) none (.call 23 [(.t 43), (.t 44)])), (.mk (some 4) none (.m (.pu (.mv (.t 45)))))]) .rt) .sk)))))))))))))))) (.sq (.reg [(.mk (some 4) none (.m (.pu (.mv (.c (.v (.int .i64 0)))))))]) .rt)))
def rv_make_size : List (RV × Option Ty) := [((.t 4), some tI)]
def g_make_size : G := ⟨TYs, [], 46, EL [(23, sp_make_Dice_Of)], keeps, (fun _ _ => none), IL [], RL []⟩
def r_make_size_1 (d0 : Dice) (p1 : Int) : Option (V × List VO) :=
  br ((ofOk d0 ([2048, 1024, 512, 3072, 1023, 4096, 16384])))
    (some (.t tI (dof d0 ([2048, 1024, 512, 3072, 1023, 4096, 16384])), [.box (.t tyDice (dofN d0 ([2048, 1024, 512, 3072, 1023, 4096, 16384])))]))
    (none)
def r_make_size_3 (d0 : Dice) (p1 : Int) : Option (V × List VO) :=
  br ((ofOk d0 ([256, 160, 224, 384, 521])))
    (some (.t tI (dof d0 ([256, 160, 224, 384, 521])), [.box (.t tyDice (dofN d0 ([256, 160, 224, 384, 521])))]))
    (none)
def r_make_size_5 (d0 : Dice) (p1 : Int) : Option (V × List VO) :=
  br ((ofOk d0 ([128, 256])))
    (some (.t tI (dof d0 ([128, 256])), [.box (.t tyDice (dofN d0 ([128, 256])))]))
    (none)
def r_make_size_4 (d0 : Dice) (p1 : Int) : Option (V × List VO) :=
  br ((ieq p1 9))
    (br ((ofOk d0 ([65, 44, 87])))
      (some (.t tI (dof d0 ([65, 44, 87])), [.box (.t tyDice (dofN d0 ([65, 44, 87])))]))
      (none))
    (br ((ieq p1 13))
      (br ((ofOk d0 ([768, 512, 1024])))
        (some (.t tI (dof d0 ([768, 512, 1024])), [.box (.t tyDice (dofN d0 ([768, 512, 1024])))]))
        (none))
      (br ((ieq p1 14))
        (br ((ofOk d0 ([128, 40])))
          (some (.t tI (dof d0 ([128, 40])), [.box (.t tyDice (dofN d0 ([128, 40])))]))
          (none))
        (br ((ieq p1 15))
          (br ((ofOk d0 ([168, 112])))
            (some (.t tI (dof d0 ([168, 112])), [.box (.t tyDice (dofN d0 ([168, 112])))]))
            (none))
          (br ((ieq p1 16))
            (br ((ieq p1 16))
              (r_make_size_5 d0 p1)
              (some (.t tI 0, [.box (.t tyDice d0)])))
            (br ((ieq p1 17))
              (r_make_size_5 d0 p1)
              (some (.t tI 0, [.box (.t tyDice d0)])))))))
def r_make_size_2 (d0 : Dice) (p1 : Int) : Option (V × List VO) :=
  br ((ieq p1 7))
    (br ((ieq p1 7))
      (r_make_size_3 d0 p1)
      (r_make_size_4 d0 p1))
    (br ((ieq p1 12))
      (r_make_size_3 d0 p1)
      (r_make_size_4 d0 p1))
def r_make_size (d0 : Dice) (p1 : Int) : Option (V × List VO) :=
  br ((ieq p1 5))
    (br ((ieq p1 5))
      (r_make_size_1 d0 p1)
      (r_make_size_2 d0 p1))
    (br ((ieq p1 6))
      (br ((ieq p1 6))
        (r_make_size_1 d0 p1)
        (r_make_size_2 d0 p1))
      (br ((ieq p1 10))
        (br ((ieq p1 10))
          (r_make_size_1 d0 p1)
          (r_make_size_2 d0 p1))
        (br ((ieq p1 11))
          (r_make_size_1 d0 p1)
          (r_make_size_2 d0 p1))))
theorem e_make_size (d0 : Dice) (p1 : Int) : runF g_make_size tc_make_size rv_make_size false [.ptr 50000 0, .t tI p1] [.box (.t tyDice d0)] = r_make_size d0 p1 := by kernel_rfl
theorem ok_make_size : Option.map (trC Try.prog) Try.f29.body = some tc_make_size.er := by kernel_rfl
theorem rok_make_size : trVs Try.prog Try.f29.results.toList = some (rv_make_size.map Prod.fst) := by kernel_rfl
theorem en_make_size : Entered Try.prog 29 := .inr ⟨by decide, _, Try.func29, by kernel_rfl, by kernel_rfl⟩
theorem gk_make_size : GOk Try.prog g_make_size := gok_of _ (by
  intro p hp
  simp only [List.mem_cons, List.not_mem_nil, or_false] at hp
  rcases hp with rfl
  · exact ⟨en_make_Dice_Of, ms_make_Dice_Of⟩)
theorem lk_make_size : tc_make_size.lok g_make_size := by repeat (first | exact trivial | refine ⟨?_, ?_⟩)
theorem s_make_size (d : Dice) (a : Int) (h : dOk1 d a = true) : r_make_size d a = some (.t tI (sizeV d a), [.box (.t tyDice (sizeN d a))]) := by
  have h : dOk d = true := h
  have ho : ∀ l : List Int, l ≠ [] → l.length ≤ 100 → ofOk d l = true := fun l h1 h2 => by
    have : 0 < l.length := List.length_pos_iff.2 h1
    simp only [ofOk, h, Bool.true_and, decide_eq_true_eq]
    omega
  simp only [r_make_size, r_make_size_1, r_make_size_2, r_make_size_3, r_make_size_4, r_make_size_5, ho _ (show ([2048, 1024, 512, 3072, 1023, 4096, 16384] : List Int) ≠ [] by decide) (by decide), ho _ (show ([256, 160, 224, 384, 521] : List Int) ≠ [] by decide) (by decide), ho _ (show ([65, 44, 87] : List Int) ≠ [] by decide) (by decide), ho _ (show ([768, 512, 1024] : List Int) ≠ [] by decide) (by decide), ho _ (show ([128, 40] : List Int) ≠ [] by decide) (by decide), ho _ (show ([168, 112] : List Int) ≠ [] by decide) (by decide), ho _ (show ([128, 256] : List Int) ≠ [] by decide) (by decide), br_true]
  rcases alg_cases a with ⟨e, hb⟩ | hc
  · have e1 : szL a = [] := by
      unfold szL
      repeat rw [if_neg (by omega)]
    simp only [e 5 (by decide), e 6 (by decide), e 7 (by decide), e 9 (by decide), e 10 (by decide), e 11 (by decide), e 12 (by decide), e 13 (by decide), e 14 (by decide), e 15 (by decide), e 16 (by decide), e 17 (by decide), br_false, sizeV, sizeN, e1, if_true]
  · rcases hc with rfl | rfl | rfl | rfl | rfl | rfl | rfl | rfl | rfl | rfl | rfl | rfl | rfl | rfl | rfl | rfl | rfl | rfl | rfl | rfl | rfl | rfl <;> rfl
def sp_make_size : Ent := specP tyDice (.pr tI .nil) (fun d x => (dOk1 d x.1)) (fun d x => (.t tI (sizeV d x.1))) (fun d x => (sizeN d x.1))
theorem ms_make_size : Meets Try.prog 29 (strip sp_make_size) := by
  obtain ⟨c, hc, hi⟩ := Option.map_eq_some_iff.1 ok_make_size
  exact meets_specP (R := runF g_make_size tc_make_size rv_make_size false) (meets_of (by decide) Try.func29 hc hi Try.ntmps29 rok_make_size gk_make_size lk_make_size mixed) rfl fun d x hok => (e_make_size d x.1).trans (s_make_size d x.1 hok)
def useV (d : Dice) : Keep := (1 + dval d 22, (sizeV (dnext d 22) (1 + dval d 22), ()))
def useN (d : Dice) : Dice := sizeN (dnext d 22) (1 + dval d 22)
/-- cipherplan/cipherplanmake.Use -/
def tc_make_Use : TC := (.sq (.reg [(.mk (some 2) none (.m (.new [(.v (.int .i64 0)), (.v (.int .i64 0))])))]) (.sq (.reg [(.mk (some 4) none (.m (.pu (.mv (.t 0))))), (.mk (some 5) none (.call 16 [(.t 4), (.c (.v (.int .i64 22)))])), (.mk (some 6) none (.m (.pu (.bin false .add (.c (.v (.int .i64 1))) (.t 5))))), (.mk (some 3) none (.m (.pu (.mv (.t 6)))))]) (.sq (.reg [(.mk (some 7) none (.m (.pu (.mv (.t 3))))), (.mk (some 8) none (.m (.pu (.mv (.t 0))))), (.mk (some 9) none (.m (.pu (.mv (.t 3))))), (.mk (some 10) none (.call 29 [(.t 8), (.t 9)])), (.mk (some 11) none (.m (.pu (.bd [(.v (.int .i64 0)), (.v (.int .i64 0))] [(0, 1, (.t 7)), (1, 1, (.t 10))])))), (.mk none none (.m (.st 2 (.t 2) (.t 11))))]) .rt)))
def rv_make_Use : List (RV × Option Ty) := [((.c 2 true 2), some tyKeep)]
def g_make_Use : G := ⟨TYs, [], 12, EL [(16, sp_make_Dice_Next), (29, sp_make_size)], keeps, (fun _ _ => none), IL [], RL []⟩
def r_make_Use (d0 : Dice) : Option (V × List VO) :=
  br ((nextOk d0 22))
    (br ((dOk1 (dnext d0 22) (iadd .i64 1 (dval d0 22))))
      (some (.t tyKeep ((iadd .i64 1 (dval d0 22)), ((sizeV (dnext d0 22) (iadd .i64 1 (dval d0 22))), ())), [.box (.t tyDice (sizeN (dnext d0 22) (iadd .i64 1 (dval d0 22))))]))
      (none))
    (none)
theorem e_make_Use (d0 : Dice) : runF g_make_Use tc_make_Use rv_make_Use false [.ptr 50000 0] [.box (.t tyDice d0)] = r_make_Use d0 := by kernel_rfl
theorem ok_make_Use : Option.map (trC Try.prog) Try.f18.body = some tc_make_Use.er := by kernel_rfl
theorem rok_make_Use : trVs Try.prog Try.f18.results.toList = some (rv_make_Use.map Prod.fst) := by kernel_rfl
theorem en_make_Use : Entered Try.prog 18 := .inr ⟨by decide, _, Try.func18, by kernel_rfl, by kernel_rfl⟩
theorem gk_make_Use : GOk Try.prog g_make_Use := gok_of _ (by
  intro p hp
  simp only [List.mem_cons, List.not_mem_nil, or_false] at hp
  rcases hp with rfl | rfl
  · exact ⟨en_make_Dice_Next, ms_make_Dice_Next⟩
  · exact ⟨en_make_size, ms_make_size⟩)
theorem lk_make_Use : tc_make_Use.lok g_make_Use := by repeat (first | exact trivial | refine ⟨?_, ?_⟩)
theorem s_make_Use (d : Dice) (h : dOk d = true) : r_make_Use d = some (.t tyKeep (useV d), [.box (.t tyDice (useN d))]) := by
  have h1 : nextOk d 22 = true := by simp [nextOk, h]
  have h2 := dval_lt (d := d) (n := 22) (by omega)
  have h3 : iadd .i64 1 (dval d 22) = 1 + dval d 22 := iadd_in (by omega)
  have h4 : ∀ a, dOk1 (dnext d 22) a = true := fun a => dOk_next h
  simp only [r_make_Use, h1, h3, h4, br_true]
  rfl
def sp_make_Use : Ent := specP tyDice .nil (fun d x => (dOk d)) (fun d x => (.t tyKeep (useV d))) (fun d x => (useN d))
theorem ms_make_Use : Meets Try.prog 18 (strip sp_make_Use) := by
  obtain ⟨c, hc, hi⟩ := Option.map_eq_some_iff.1 ok_make_Use
  exact meets_specP (R := runF g_make_Use tc_make_Use rv_make_Use false) (meets_of (by decide) Try.func18 hc hi Try.ntmps18 rok_make_Use gk_make_Use lk_make_Use mixed) rfl fun d x hok => (e_make_Use d).trans (s_make_Use d hok)
theorem size_valid {d : Dice} {a : Int} (h1 : 1 ≤ a) (h2 : a ≤ 22) : validF (a, (sizeV d a, ())) = true := by
  have hm : sizeV d a ∈ (if szL a = [] then [0] else szL a) := by
    unfold sizeV
    split
    · simp
    · rename_i h
      exact dof_mem h
  have ha : ∀ l : List Int, (∀ x, x ∈ l → validF (a, (x, ())) = true) → sizeV d a ∈ l → validF (a, (sizeV d a, ())) = true := fun l h hm => h _ hm
  have hc : a = 1 ∨ a = 2 ∨ a = 3 ∨ a = 4 ∨ a = 5 ∨ a = 6 ∨ a = 7 ∨ a = 8 ∨ a = 9 ∨ a = 10 ∨ a = 11 ∨ a = 12 ∨ a = 13 ∨ a = 14 ∨ a = 15 ∨ a = 16 ∨ a = 17 ∨ a = 18 ∨ a = 19 ∨ a = 20 ∨ a = 21 ∨ a = 22 := by omega
  rcases hc with rfl | rfl | rfl | rfl | rfl | rfl | rfl | rfl | rfl | rfl | rfl | rfl | rfl | rfl | rfl | rfl | rfl | rfl | rfl | rfl | rfl | rfl <;> exact ha _ (by decide) hm
theorem use_valid (d : Dice) : validF (useV d) = true := by
  have h2 := dval_lt (d := d) (n := 22) (by omega)
  exact size_valid (by omega) (by omega)
/-! Policy -/
def rDraw (d0 : Dice) : Rule × Dice :=
  let d1 := dnext d0 3
  let d2 := dofN d1 [14, 1, 2, 5, 15, 0, 16, 10, 20, 7]
  let b2 := done d2 2
  let d3 := dnext d2 2
  let below := if b2 then dof d3 [2048, 256, 1024, 3072, 129] else 0
  let d4 := if b2 then dofN d3 [2048, 256, 1024, 3072, 129] else d3
  let b4 := done d4 3
  let d5 := dnext d4 3
  let purpose := if b4 then iadd .i64 1 (dval d5 4) else 0
  let d6 := if b4 then dnext d5 4 else d5
  let b6 := done d6 2
  let d7 := dnext d6 2
  let frm := if b6 then dof d7 [10, 30, 100, 7] else 0
  let d8 := if b6 then dofN d7 [10, 30, 100, 7] else d7
  let b8 := done d8 3
  let d9 := dnext d8 3
  let to := if b8 then iadd .i64 frm (dof d9 [20, 1, 200]) else 40001
  let d10 := if b8 then dofN d9 [20, 1, 200] else d9
  ((done d0 3, (dof d1 [14, 1, 2, 5, 15, 0, 16, 10, 20, 7], (below, (purpose, (frm, (to, ())))))), d10)
def rulesZ : Nat → Dice → List Rule × Dice
  | 0, d => ([], d)
  | n + 1, d => ((rDraw d).1 :: (rulesZ n (rDraw d).2).1, (rulesZ n (rDraw d).2).2)
def kDraw (d : Dice) : Keep × Dice := ((iadd .i64 1 (dval d 4), (dof (dnext d 4) [10, 100, 3000], ())), dofN (dnext d 4) [10, 100, 3000])
def keepsZ : Nat → Dice → List Keep × Dice
  | 0, d => ([], d)
  | n + 1, d => ((kDraw d).1 :: (keepsZ n (kDraw d).2).1, (keepsZ n (kDraw d).2).2)
def polR (d : Dice) : List Rule × Dice := rulesZ (dval d 7).toNat (dnext d 7)
def polK (d : Dice) : List Keep × Dice := keepsZ (dval (polR d).2 3).toNat (dnext (polR d).2 3)
def polV (d : Dice) : Policy := ((polR d).1, ((polK d).1, ()))
def polN (d : Dice) : Dice := (polK d).2
theorem dOk_rDraw {d : Dice} (h : dOk d = true) : dOk (rDraw d).2 = true := by
  unfold rDraw
  simp only
  repeat' split
  all_goals (repeat first | exact h | apply dOk_next | apply dOk_of)
theorem dOk_rules {n : Nat} : ∀ {d : Dice}, dOk d = true → dOk (rulesZ n d).2 = true := by
  induction n with
  | zero => exact fun h => h
  | succ n ih => exact fun h => ih (dOk_rDraw h)
theorem dOk_kDraw {d : Dice} (h : dOk d = true) : dOk (kDraw d).2 = true := dOk_of (l := [10, 100, 3000]) (dOk_next h)
theorem dOk_keeps {n : Nat} : ∀ {d : Dice}, dOk d = true → dOk (keepsZ n d).2 = true := by
  induction n with
  | zero => exact fun h => h
  | succ n ih => exact fun h => ih (dOk_kDraw h)
theorem dOk_pol {d : Dice} (h : dOk d = true) : dOk (polN d) = true := dOk_keeps (dOk_next (dOk_rules (dOk_next h)))
theorem rDraw_ok (d : Dice) : ruledF (rDraw d).1 = true := by
  have ga : ∀ d : Dice, 0 ≤ dof d [14, 1, 2, 5, 15, 0, 16, 10, 20, 7] ∧ dof d [14, 1, 2, 5, 15, 0, 16, 10, 20, 7] ≤ 22 := fun d => by
    have h := dof_mem (d := d) (l := [14, 1, 2, 5, 15, 0, 16, 10, 20, 7]) (by decide)
    simp only [List.mem_cons, List.not_mem_nil, or_false] at h
    omega
  have gb : ∀ d : Dice, 0 ≤ dof d [2048, 256, 1024, 3072, 129] ∧ dof d [2048, 256, 1024, 3072, 129] ≤ 16384 := fun d => by
    have h := dof_mem (d := d) (l := [2048, 256, 1024, 3072, 129]) (by decide)
    simp only [List.mem_cons, List.not_mem_nil, or_false] at h
    omega
  have gf : ∀ d : Dice, 0 ≤ dof d [10, 30, 100, 7] ∧ dof d [10, 30, 100, 7] ≤ 100 := fun d => by
    have h := dof_mem (d := d) (l := [10, 30, 100, 7]) (by decide)
    simp only [List.mem_cons, List.not_mem_nil, or_false] at h
    omega
  have gt : ∀ d : Dice, 1 ≤ dof d [20, 1, 200] ∧ dof d [20, 1, 200] ≤ 200 := fun d => by
    have h := dof_mem (d := d) (l := [20, 1, 200]) (by decide)
    simp only [List.mem_cons, List.not_mem_nil, or_false] at h
    omega
  have gp : ∀ d : Dice, 1 ≤ iadd .i64 1 (dval d 4) ∧ iadd .i64 1 (dval d 4) ≤ 4 := fun d => by
    have h := dval_lt (d := d) (n := 4) (by omega)
    rw [iadd_in (by omega)]
    omega
  have gu : ∀ (x : Int) (d : Dice), 0 ≤ x → x ≤ 100 → iadd .i64 x (dof d [20, 1, 200]) = x + dof d [20, 1, 200] := fun x d h1 h2 => by
    have h := gt d
    exact iadd_in (by omega)
  unfold ruledF
  rw [decide_eq_true_eq]
  unfold rDraw
  simp only [Policy.Rules, Policy.Keeps, Item.Name, Item.Kind, Item.Purpose, Item.Links, Item.Until, Keep.Alg, Keep.Bits, Link.Use, Link.Day, Rule.Allow, Rule.Alg, Rule.Below, Rule.Purpose, Rule.From, Rule.To, Dice.L, Dice.At, LinkX.day, LinkX.fall, LinkX.falls, Row.name, Row.kind, Row.way, Row.sizes, Row.strengths]
  have pB : ∀ (b : Bool) (e : Dice), (0 ≤ if b = true then dof e [2048, 256, 1024, 3072, 129] else 0) ∧ (if b = true then dof e [2048, 256, 1024, 3072, 129] else 0) ≤ 16384 := by
    intro b e
    have h := gb e
    cases b <;> simp only [Bool.false_eq_true, if_true, if_false] <;> omega
  have pP : ∀ (b : Bool) (e : Dice), (0 ≤ if b = true then iadd .i64 1 (dval e 4) else 0) ∧ (if b = true then iadd .i64 1 (dval e 4) else 0) ≤ 4 := by
    intro b e
    have h := gp e
    cases b <;> simp only [Bool.false_eq_true, if_true, if_false] <;> omega
  refine ⟨(ga _).1, (ga _).2, (pB _ _).1, (pB _ _).2, (pP _ _).1, (pP _ _).2, ?_⟩
  have key : ∀ (b1 b2 : Bool) (e1 e2 : Dice), (0 ≤ if b1 = true then dof e1 [10, 30, 100, 7] else 0) ∧ (if b1 = true then dof e1 [10, 30, 100, 7] else 0) < (if b2 = true then iadd .i64 (if b1 = true then dof e1 [10, 30, 100, 7] else 0) (dof e2 [20, 1, 200]) else 40001) ∧ (if b2 = true then iadd .i64 (if b1 = true then dof e1 [10, 30, 100, 7] else 0) (dof e2 [20, 1, 200]) else 40001) ≤ 40001 := by
    intro b1 b2 e1 e2
    have h1 := gf e1
    have h2 := gt e2
    cases b1 <;> cases b2 <;> simp only [Bool.false_eq_true, if_true, if_false]
    · omega
    · rw [gu _ _ (by omega) (by omega)]; omega
    · omega
    · rw [gu _ _ (by omega) (by omega)]; omega
  exact key _ _ _ _
theorem rulesZ_ok : ∀ (n : Nat) (d : Dice), (rulesZ n d).1.length = n ∧ ∀ r, r ∈ (rulesZ n d).1 → ruledF r = true
  | 0, d => ⟨rfl, fun r h => by cases h⟩
  | n + 1, d => by
    obtain ⟨h1, h2⟩ := rulesZ_ok n (rDraw d).2
    refine ⟨by simp only [rulesZ, List.length_cons, h1], fun r h => ?_⟩
    rcases List.mem_cons.1 h with rfl | h
    · exact rDraw_ok d
    · exact h2 r h
theorem kDraw_ok (d : Dice) : keptF (kDraw d).1 = true := by
  have h := dof_mem (d := dnext d 4) (l := [10, 100, 3000]) (by decide)
  simp only [List.mem_cons, List.not_mem_nil, or_false] at h
  have h2 := dval_lt (d := d) (n := 4) (by omega)
  have h3 : iadd .i64 1 (dval d 4) = 1 + dval d 4 := iadd_in (by omega)
  unfold keptF kDraw
  rw [decide_eq_true_eq]
  simp only [h3]
  omega
theorem keepsZ_ok : ∀ (n : Nat) (d : Dice), (keepsZ n d).1.length = n ∧ ∀ r, r ∈ (keepsZ n d).1 → keptF r = true
  | 0, d => ⟨rfl, fun r h => by cases h⟩
  | n + 1, d => by
    obtain ⟨h1, h2⟩ := keepsZ_ok n (kDraw d).2
    refine ⟨by simp only [keepsZ, List.length_cons, h1], fun r h => ?_⟩
    rcases List.mem_cons.1 h with rfl | h
    · exact kDraw_ok d
    · exact h2 r h
theorem pol_size (d : Dice) : (polV d).1.length ≤ 6 ∧ (polV d).2.1.length ≤ 2 := by
  have b7 := dval_lt (d := d) (n := 7) (by omega)
  have b3 := dval_lt (d := (polR d).2) (n := 3) (by omega)
  have h1 := (rulesZ_ok (dval d 7).toNat (dnext d 7)).1
  have h2 := (keepsZ_ok (dval (polR d).2 3).toNat (dnext (polR d).2 3)).1
  unfold polV polK polR at *
  simp only
  omega
theorem pol_ok (d : Dice) : polOk (polV d) = true := by
  have hs := pol_size d
  simp only [polOk, Bool.and_eq_true, decide_eq_true_eq]
  refine ⟨⟨List.all_eq_true.2 (rulesZ_ok _ _).2, List.all_eq_true.2 (keepsZ_ok _ _).2⟩, by omega, by omega⟩
end Go.Proofs.Ytfehjdaielifiaa.K
