/-
 The answer of verdict: decides, allowed, Allowed, put, days.
-/
import Derived.Test.YtfehjdaielifiaaGreatV10
set_option linter.unusedSimpArgs false
set_option linter.unusedVariables false
namespace Go.Proofs.YtfehjdaielifiaaGreat.K
open Go.RowKit
def polLen5 (y : Policy) (_u : Keep) (_p _d : Int) : Bool := lenOk5 y.1
def dr_f66_0 : List DO := [(.mk (oP 18 (.fa 0 (.t 4))) []), (.mk (oL 19 18) [0]), (.mk (oV 20 9) []), (.mk (oP 21 (.ix 6 (.t 19) (.t 20))) [1, 2]), (.mk (oM 22 (.ld true 6 (.t 21))) [3]), (.mk (oM 23 (.ld true 2 (.t 5))) []), (.mk (oV 24 2) []), (.mk (oV 25 3) []), (.mk (oC 26 83 [(.t 22), (.t 23), (.t 24), (.t 25)]) [4, 5, 6, 7])]
def fg_f66_0 : Fg := ⟨[(2, some tI), (3, some tI), (4, none), (5, none), (9, some tI)], [(4, some tyPolicy), (5, some tyKeep)]⟩
def tb_f66_0 : TC := (.sq (.sq (.reg [(oV 14 9), (oP 15 (.bin false .geq (.t 14) (cI 0)))]) (.cd (.t 15) .sk (.fg ⟨[], []⟩ (.ex 0)))) (.sq (.bk 1 (.sq (.dr dr_f66_0 [(0, [4]), (1, [4]), (2, []), (3, []), (4, []), (5, [5]), (6, []), (7, []), (8, [])] (.of [0, 1, 2, 3, 4, 5, 6, 7, 8])) (.cd (.t 26) (.sq (.reg [(oV 27 9), (oV 8 27)]) (.fg ⟨[(8, some tI)], []⟩ .rt)) .sk))) (.reg [(oV 16 9), (oP 17 (.bin false .sub (.t 16) (cI 1))), (oV 9 17)])))
def tc_f66 : TC := (.sq (.reg [(oM 4 (.box (.t 0))), (oM 5 (.box (.t 1))), (oP 8 (.mv (cI 0)))]) (.sq (.sq (.reg [(oP 10 (.fa 0 (.t 4))), (oL 11 10), (oP 12 (.len false (.t 11))), (oP 13 (.bin false .sub (.t 12) (cI 1))), (oV 9 13)]) (.bk 0 (.lp 0 fg_f66_0 tb_f66_0))) (.sq (.reg [(oP 8 (.mv (cI (-1))))]) .rt)))
def rv_f66 : List (RV × Option Ty) := [((.t 8), some tI)]
abbrev sh_f66_0 : Sh := ⟨[(2, .ty tI), (3, .ty tI), (4, .ptr 4 0), (5, .ptr 5 0), (9, .ty tI)], [(4, .box tyPolicy), (5, .box tyKeep)]⟩
def st_f66_0 (x2 : Int) (x3 : Int) (x9 : Int) (y4 : Policy) (y5 : Keep) : VS := sh_f66_0.st (x2, x3, (), (), x9, ()) (y4, y5, ())
abbrev sh_f66_0_ret : Sh := ⟨[(8, .ty tI)], []⟩
def st_f66_0_ret (x8 : Int) : VS := sh_f66_0_ret.st (x8, ()) ()
abbrev sh_f66_0_e0 : Sh := ⟨[], []⟩
def st_f66_0_e0  : VS := sh_f66_0_e0.st () ()
-- loop 0: (x2 : Int) (x3 : Int) (x9 : Int) (y4 : Policy) (y5 : Keep); out: ('ret',) (x8 : Int); ('exit', 0)
def L_f66_0 : VS → Option (Bool × List (Bool × Exit × VS)) := mkL sh_f66_0 (fun x y => (decide (-1 ≤ x.2.2.2.2.1 ∧ x.2.2.2.2.1 < y.1.1.length ∧ y.1.1.length ≤ 100000))) (fun x y => [(((decL (y.1.1.take (x.2.2.2.2.1 + 1).toNat) y.2.1 x.1 x.2.1).isSome), .ret, st_f66_0_ret (((decL (y.1.1.take (x.2.2.2.2.1 + 1).toNat) y.2.1 x.1 x.2.1).getD 0 : Nat))), (true, .exit 0, st_f66_0_e0)])
def g_f66 : G := ⟨TYs, [], 28, EL [(83, sp_f83)], keeps, (Ls [L_f66_0]), IL [], RL []⟩
def b_f66_0 (x2 : Int) (x3 : Int) (x9 : Int) (y4 : Policy) (y5 : Keep) : Option (Exit × VS) :=
 br ((ige x9 0))
  (br (cIx y4.1 x9)
   (br ((matches' (lgt tyRule y4.1 (Int.toNat x9)) y5 x2 x3))
    (some (.ret, st_f66_0_ret x9))
    (some (.normal, st_f66_0 x2 x3 (isub .i64 x9 1) y4 y5)))
   (none))
  (some (.exit 0, st_f66_0_e0))
noncomputable def lp_f66_0 (x2 : Int) (x3 : Int) (x9 : Int) (y4 : Policy) (y5 : Keep) : Option (Exit × VS) := loopF (roundF g_f66 fg_f66_0 tb_f66_0) (st_f66_0 x2 x3 x9 y4 y5)
noncomputable def n_f66_0 (x2 : Int) (x3 : Int) (x9 : Int) (y4 : Policy) (y5 : Keep) : Option (Exit × VS) :=
 br ((ige x9 0))
  (br (cIx y4.1 x9)
   (br ((matches' (lgt tyRule y4.1 (Int.toNat x9)) y5 x2 x3))
    (some (.ret, st_f66_0_ret x9))
    (lp_f66_0 x2 x3 (isub .i64 x9 1) y4 y5))
   (none))
  (some (.exit 0, st_f66_0_e0))
def la_f66_0 (x2 : Int) (x3 : Int) (x9 : Int) (y4 : Policy) (y5 : Keep) : Option (Exit × VS) := br ((decL (y4.1.take (x9 + 1).toNat) y5 x2 x3).isSome) (some (.ret, st_f66_0_ret (((decL (y4.1.take (x9 + 1).toNat) y5 x2 x3).getD 0 : Nat)))) <| some (.exit 0, st_f66_0_e0)
theorem be_f66_0 (x2 : Int) (x3 : Int) (x9 : Int) (y4 : Policy) (y5 : Keep) : roundF g_f66 fg_f66_0 tb_f66_0 (st_f66_0 x2 x3 x9 y4 y5) = b_f66_0 x2 x3 x9 y4 y5 := by kernel_rfl
theorem ln_f66_0 (x2 : Int) (x3 : Int) (x9 : Int) (y4 : Policy) (y5 : Keep) : lp_f66_0 x2 x3 x9 y4 y5 = n_f66_0 x2 x3 x9 y4 y5 := (loopF_nxt _ _).trans (by
 rw [be_f66_0]
 simp only [b_f66_0, n_f66_0, nxt_br, nxt_n, nxt_r, nxt_e, nxt_0]
 rfl)
def r_f66 (p0 : Policy) (p1 : Keep) (p2 : Int) (p3 : Int) : Option (V × List VO) :=
 br ((decide (-1 ≤ (isub .i64 (llen p0.1) 1) ∧ (isub .i64 (llen p0.1) 1) < p0.1.length ∧ p0.1.length ≤ 100000)))
  (br (((decL (p0.1.take ((isub .i64 (llen p0.1) 1) + 1).toNat) p1 p2 p3).isSome))
   (some (.t tI (((decL (p0.1.take ((isub .i64 (llen p0.1) 1) + 1).toNat) p1 p2 p3).getD 0 : Nat)), []))
   (some (.t tI (-1), [])))
  (none)
theorem e_f66 (p0 : Policy) (p1 : Keep) (p2 : Int) (p3 : Int) : runF g_f66 tc_f66 rv_f66 false [.t tyPolicy p0, .t tyKeep p1, .t tI p2, .t tI p3] [] = r_f66 p0 p1 p2 p3 := by kernel_rfl
theorem ok_f66 : Option.map (trC Tryz.prog) Tryz.f66.body = some tc_f66.er := by kernel_rfl
theorem rok_f66 : trVs Tryz.prog Tryz.f66.results.toList = some (rv_f66.map Prod.fst) := by kernel_rfl
theorem en_f66 : Entered Tryz.prog 66 := .inr ⟨by decide, _, Tryz.func66, by kernel_rfl, by kernel_rfl⟩
theorem gk_f66 : GOk Tryz.prog g_f66 := gok_of _ (by
 intro p hp
 simp only [List.mem_cons, List.not_mem_nil, or_false] at hp
 rcases hp with rfl
 ·exact ⟨en_f83, ms_f83⟩)
theorem take_snoc {α : Type} {l : List α} {k : Nat} (h : k < l.length) : l.take (k + 1) = l.take k ++ [l[k]] := List.take_succ_eq_append_getElem h
theorem decL_snoc {l : List Rule} {k : Nat} (h : k < l.length) {u : Keep} {p d : Int} : decL (l.take (k + 1)) u p d = if matches' l[k] u p d then some k else decL (l.take k) u p d := by
 rw [take_snoc h]
 unfold decL
 rw [lastI_app]
 simp only [lastI]
 have e : (l.take k).length = k := by simp; omega
 rw [e]
 split <;> rename_i hq
 ·split at hq
  ·rename_i hm
   injection hq with hq
   subst hq
   rw [if_pos hm]
   rfl
  ·cases hq
 ·split at hq
  ·cases hq
  ·rename_i hm
   rw [if_neg hm]
theorem l_f66_0 (x2 : Int) (x3 : Int) (x9 : Int) (y4 : Policy) (y5 : Keep) (h : (decide (-1 ≤ x9 ∧ x9 < y4.1.length ∧ y4.1.length ≤ 100000)) = true) : lp_f66_0 x2 x3 x9 y4 y5 = la_f66_0 x2 x3 x9 y4 y5 := by
 simp only [decide_eq_true_eq] at h
 obtain ⟨h1, h2, h3⟩ := h
 obtain ⟨k, hk⟩ : ∃ k : Nat, x9 = (k : Int) - 1 := ⟨(x9 + 1).toNat, by omega⟩
 subst hk
 have h4 : k ≤ y4.1.length := by omega
 clear h1 h2
 induction k with
 | zero =>
  rw [ln_f66_0]
  have e1 : ige (((0 : Nat) : Int) - 1) 0 = false := rfl
  simp only [n_f66_0, e1, br_false]
  rfl
 | succ k ih =>
  rw [ln_f66_0]
  have e1 : ige (((k + 1 : Nat) : Int) - 1) 0 = true := by simp only [ige, decide_eq_true_eq]; omega
  have e2 : (((k + 1 : Nat) : Int) - 1) = (k : Int) := by omega
  have e3 : isub .i64 (k : Int) 1 = (k : Int) - 1 := isub_in (by omega)
  have hk : k < y4.1.length := by omega
  rw [e2] at e1 ⊢
  simp only [n_f66_0, e1, e3, br_true, cIx_nat, hk, decide_true, Int.toNat_natCast, lgt_get (y := tyRule) hk, ih (by omega)]
  have e4 : ((k : Int) + 1).toNat = k + 1 := by omega
  have e5 : ((k : Int) - 1 + 1).toNat = k := by omega
  simp only [la_f66_0, e4, e5, decL_snoc hk]
  cases hm : matches' y4.1[k] y5 x2 x3 with
  | true => rfl
  | false => rfl
theorem lo_f66_0 : ∀ S l p, g_f66.L 0 (fgt fg_f66_0 S) = some (true, l) → pickA l = some p → loopF (roundF g_f66 fg_f66_0 tb_f66_0) S = some p :=
 lok_of (s := sh_f66_0) ⟨by decide, by decide⟩ (by kernel_rfl) fun x y hok p hp => by
 simp only [pickA_br, pickA_one] at hp
 exact (l_f66_0 x.1 x.2.1 x.2.2.2.2.1 y.1 y.2.1 (by simpa using hok)).trans hp
theorem lk_f66 : tc_f66.lok g_f66 := by
 repeat (first | exact trivial | exact lo_f66_0 | refine ⟨?_, ?_⟩)
theorem s_f66 (y : Policy) (u : Keep) (p d : Int) (h : polLen5 y u p d = true) : r_f66 y u p d = some (.t tI (decF y u p d), []) := by
 have h : lenOk5 y.1 = true := h
 simp only [lenOk5, decide_eq_true_eq] at h
 have e1 : isub .i64 (llen y.1) 1 = (y.1.length : Int) - 1 := isub_in (by unfold llen; omega)
 have e2 : ((y.1.length : Int) - 1 + 1).toNat = y.1.length := by omega
 simp only [r_f66, e1, e2, List.take_length]
 rw [dec_true ⟨by omega, by omega, h⟩, br_true, decF_eq]
 cases decL y.1 u p d <;> rfl
def sp_f66 : Ent := spec (.pr tyPolicy (.pr tyKeep (.pr tI (.pr tI .nil)))) (fun x => (polLen5 x.1 x.2.1 x.2.2.1 x.2.2.2.1)) (fun x => (.t tI (decF x.1 x.2.1 x.2.2.1 x.2.2.2.1)))
theorem ms_f66 : Meets Tryz.prog 66 (strip sp_f66) := by
 obtain ⟨c, hc, hi⟩ := Option.map_eq_some_iff.1 ok_f66
 exact meets_spec (R := runF g_f66 tc_f66 rv_f66 false) (meets_of (by decide) Tryz.func66 hc hi Tryz.ntmps66 rok_f66 gk_f66 lk_f66 mixed) fun x hok => (e_f66 x.1 x.2.1 x.2.2.1 x.2.2.2.1).trans (s_f66 x.1 x.2.1 x.2.2.1 x.2.2.2.1 hok)
def tc_f65 : TC := (.sq (.reg [(oM 4 (.box (.t 0))), (oM 5 (.box (.t 1))), (oP 8 (.mv (cB false)))]) (.sq (.reg [(oM 10 (.ld true 2 (.t 4))), (oM 11 (.ld true 2 (.t 5))), (oV 12 2), (oV 13 3), (oC 14 66 [(.t 10), (.t 11), (.t 12), (.t 13)]), (oV 9 14)]) (.sq (.reg [(oV 15 9), (oP 16 (.bin false .lss (.t 15) (cI 0))), (oV 17 16), (oQ 18 17 false (.fa 0 (.t 4))), (oG 19 17 false (.m (.ld false 1 (.t 18)))), (oQ 20 17 false (.mv (.t 9))), (oQ 21 17 false (.ix 6 (.t 19) (.t 20))), (oQ 22 17 false (.fa 0 (.t 21))), (oG 23 17 false (.m (.ld false 1 (.t 22)))), (oP 24 (.pick (.t 17) (cB true) (.t 23))), (oV 8 24)]) .rt)))
def rv_f65 : List (RV × Option Ty) := [((.t 8), some .bool)]
def g_f65 : G := ⟨TYs, [], 25, EL [(66, sp_f66)], keeps, (fun _ _ => none), IL [], RL []⟩
def r_f65 (p0 : Policy) (p1 : Keep) (p2 : Int) (p3 : Int) : Option (V × List VO) :=
 br ((polLen5 p0 p1 p2 p3))
  (br ((ilt (decF p0 p1 p2 p3) 0))
   (some (.t .bool true, []))
   (br (cIx p0.1 (decF p0 p1 p2 p3))
    (some (.t .bool ((lgt tyRule p0.1 (Int.toNat (decF p0 p1 p2 p3))).1), []))
    (none)))
  (none)
theorem e_f65 (p0 : Policy) (p1 : Keep) (p2 : Int) (p3 : Int) : runF g_f65 tc_f65 rv_f65 false [.t tyPolicy p0, .t tyKeep p1, .t tI p2, .t tI p3] [] = r_f65 p0 p1 p2 p3 := by kernel_rfl
theorem ok_f65 : Option.map (trC Tryz.prog) Tryz.f65.body = some tc_f65.er := by kernel_rfl
theorem rok_f65 : trVs Tryz.prog Tryz.f65.results.toList = some (rv_f65.map Prod.fst) := by kernel_rfl
theorem en_f65 : Entered Tryz.prog 65 := .inr ⟨by decide, _, Tryz.func65, by kernel_rfl, by kernel_rfl⟩
theorem gk_f65 : GOk Tryz.prog g_f65 := gok_of _ (by
 intro p hp
 simp only [List.mem_cons, List.not_mem_nil, or_false] at hp
 rcases hp with rfl
 ·exact ⟨en_f66, ms_f66⟩)
theorem lk_f65 : tc_f65.lok g_f65 := by repeat (first | exact trivial | refine ⟨?_, ?_⟩)
theorem s_f65 (y : Policy) (u : Keep) (p d : Int) (h : polLen5 y u p d = true) : r_f65 y u p d = some (.t .bool (allF y u p d), []) := by
 simp only [r_f65, h, br_true, allF_eq]
 cases h : ilt (decF y u p d) 0 with
 | true => simp [br_true]
 | false => rw [decF_ix h, br_false, br_true, Bool.false_or, lgt]
def sp_f65 : Ent := spec (.pr tyPolicy (.pr tyKeep (.pr tI (.pr tI .nil)))) (fun x => (polLen5 x.1 x.2.1 x.2.2.1 x.2.2.2.1)) (fun x => (.t .bool (allF x.1 x.2.1 x.2.2.1 x.2.2.2.1)))
theorem ms_f65 : Meets Tryz.prog 65 (strip sp_f65) := by
 obtain ⟨c, hc, hi⟩ := Option.map_eq_some_iff.1 ok_f65
 exact meets_spec (R := runF g_f65 tc_f65 rv_f65 false) (meets_of (by decide) Tryz.func65 hc hi Tryz.ntmps65 rok_f65 gk_f65 lk_f65 mixed) fun x hok => (e_f65 x.1 x.2.1 x.2.2.1 x.2.2.2.1).trans (s_f65 x.1 x.2.1 x.2.2.1 x.2.2.2.1 hok)
def chk3 (y : Policy) (u : Keep) (p : Int) : Int := earlyF y u p 0
def tc_f64 : TC := (.sq (.reg [(oM 3 (.box (.t 0))), (oM 4 (.box (.t 1))), (oP 6 (.mv (cI 0)))]) (.sq (.sq (.reg [(oM 8 (.ld true 2 (.t 3))), (oC 9 69 [(.t 8)]), (oV 7 9)]) (.sq (.reg [(oV 10 7), (oP 11 (.bin false .neq (.t 10) (cI 0)))]) (.cd (.t 11) (.sq (.reg [(oV 12 7), (oV 6 12)]) .rt) .sk))) (.sq (.sq (.reg [(oM 13 (.ld true 2 (.t 4))), (oC 14 54 [(.t 13)]), (oP 15 (.nt (.t 14)))]) (.cd (.t 15) (.sq (.reg [(oP 6 (.mv (cI 7)))]) .rt) .sk)) (.sq (.sq (.reg [(oV 16 2), (oP 17 (.bin false .lss (.t 16) (cI 1))), (oV 18 17), (oQ 19 18 false (.mv (.t 2))), (oQ 20 18 false (.bin false .gtr (.t 19) (cI 4))), (oP 21 (.pick (.t 18) (cB true) (.t 20)))]) (.cd (.t 21) (.sq (.reg [(oP 6 (.mv (cI 2)))]) .rt) .sk)) (.sq (.reg [(oP 6 (.mv (cI 0)))]) .rt)))))
def rv_f64 : List (RV × Option Ty) := [((.t 6), some tI)]
def g_f64 : G := ⟨TYs, [], 22, EL [(54, sp_f54), (69, sp_f69)], keeps, (fun _ _ => none), IL [], RL []⟩
def r_f64 (p0 : Policy) (p1 : Keep) (p2 : Int) : Option (V × List VO) :=
 br ((polLen p0))
  (br ((ine (checkF p0) 0))
   (some (.t tI (checkF p0), []))
   (br ((!(validF p1)))
    (some (.t tI 7, []))
    (br ((ilt p2 1))
     (some (.t tI 2, []))
     (br ((igt p2 4))
      (some (.t tI 2, []))
      (some (.t tI 0, []))))))
  (none)
theorem e_f64 (p0 : Policy) (p1 : Keep) (p2 : Int) : runF g_f64 tc_f64 rv_f64 false [.t tyPolicy p0, .t tyKeep p1, .t tI p2] [] = r_f64 p0 p1 p2 := by kernel_rfl
theorem ok_f64 : Option.map (trC Tryz.prog) Tryz.f64.body = some tc_f64.er := by kernel_rfl
theorem rok_f64 : trVs Tryz.prog Tryz.f64.results.toList = some (rv_f64.map Prod.fst) := by kernel_rfl
theorem en_f64 : Entered Tryz.prog 64 := .inr ⟨by decide, _, Tryz.func64, by kernel_rfl, by kernel_rfl⟩
theorem gk_f64 : GOk Tryz.prog g_f64 := gok_of _ (by
 intro p hp
 simp only [List.mem_cons, List.not_mem_nil, or_false] at hp
 rcases hp with rfl | rfl
 ·exact ⟨en_f54, ms_f54⟩
 ·exact ⟨en_f69, ms_f69⟩)
theorem lk_f64 : tc_f64.lok g_f64 := by repeat (first | exact trivial | refine ⟨?_, ?_⟩)
theorem s_f64 (y : Policy) (u : Keep) (p : Int) (h : polLen3 y u p = true) : r_f64 y u p = some (.t tI (chk3 y u p), []) := by
 have h : polLen y = true := h
 simp only [r_f64, h, br_true, checkF, chk3, earlyF]
 cases polOk y with
 | false => rfl
 | true =>
  simp only [if_true, show ine 0 0 = false from rfl, br_false, Bool.true_eq_false, if_false]
  cases validF u with
  | false => rfl
  | true =>
   simp only [Bool.not_true, br_false, Bool.true_eq_false, if_false]
   repeat' (refine br_intro ?_ ?_ <;> intro _)
   all_goals simp only [igt, ilt, decide_eq_true_eq, decide_eq_false_iff_not] at *
   all_goals first
    | rw [if_pos (by omega)]
    | rw [if_neg (by omega)]
def sp_f64 : Ent := spec (.pr tyPolicy (.pr tyKeep (.pr tI .nil))) (fun x => (polLen3 x.1 x.2.1 x.2.2.1)) (fun x => (.t tI (chk3 x.1 x.2.1 x.2.2.1)))
theorem ms_f64 : Meets Tryz.prog 64 (strip sp_f64) := by
 obtain ⟨c, hc, hi⟩ := Option.map_eq_some_iff.1 ok_f64
 exact meets_spec (R := runF g_f64 tc_f64 rv_f64 false) (meets_of (by decide) Tryz.func64 hc hi Tryz.ntmps64 rok_f64 gk_f64 lk_f64 mixed) fun x hok => (e_f64 x.1 x.2.1 x.2.2.1).trans (s_f64 x.1 x.2.1 x.2.2.1 hok)
def low (l : List Int) (n : Int) : Nat := (l.takeWhile fun a => decide (a < n)).length
def putOk (l : List Int) (_n : Int) : Bool := decide (l.length ≤ 500000)
def dr_f108_0 : List DO := [(.mk (oM 33 (.bs 3 1 0 [] [])) []), (.mk (oV 34 0) []), (.mk (oV 35 5) []), (.mk (oP 36 (.slc 1 (.t 34) none (some (.t 35)) none)) [1, 2]), (.mk (oM 37 (.app 3 1 8 (.t 33) (.t 36))) [0, 3]), (.mk (oV 38 1) []), (.mk (oM 39 (.bs 3 1 1 [(.v (.int .i64 0))] [(0, 1, (.t 38))])) [5]), (.mk (oM 40 (.app 3 1 8 (.t 37) (.t 39))) [4, 6, 4]), (.mk (oV 41 0) []), (.mk (oV 42 5) []), (.mk (oP 43 (.slc 1 (.t 41) (some (.t 42)) none none)) [8, 9]), (.mk (oM 44 (.app 3 1 8 (.t 40) (.t 43))) [7, 10, 7]), (.mk (oV 4 44) [11, 11, 0, 1, 2, 3, 4, 5, 6, 7, 8, 9, 10, 11])]
def fg_f108_0 : Fg := ⟨[(0, some (.sl tI)), (1, some tI), (5, some tI)], []⟩
def tb_f108_0 : TC := (.sq (.sq (.reg [(oV 6 5), (oV 7 0), (oP 8 (.len false (.t 7))), (oP 9 (.bin false .lss (.t 6) (.t 8))), (oV 10 9), (oQ 11 10 true (.mv (.t 0))), (oQ 12 10 true (.mv (.t 5))), (oQ 13 10 true (.ix 1 (.t 11) (.t 12))), (oG 14 10 true (.m (.ld false 1 (.t 13)))), (oQ 15 10 true (.mv (.t 1))), (oQ 16 10 true (.bin false .lss (.t 14) (.t 15))), (oP 17 (.pick (.t 10) (.t 16) (cB false)))]) (.cd (.t 17) .sk (.fg ⟨[(0, some (.sl tI)), (1, some tI), (5, some tI)], []⟩ (.ex 0)))) (.bk 1 (.reg [(oV 18 5), (oP 19 (.bin false .add (.t 18) (cI 1))), (oV 5 19)])))
def tc_f108 : TC := (.sq (.reg [(oP 4 (.mv (.c (.v (.slice none 0 0)))))]) (.sq (.reg [(oP 5 (.mv (cI 0)))]) (.sq (.bk 0 (.lp 0 fg_f108_0 tb_f108_0)) (.sq (.sq (.reg [(oV 20 5), (oV 21 0), (oP 22 (.len false (.t 21))), (oP 23 (.bin false .lss (.t 20) (.t 22))), (oV 24 23), (oQ 25 24 true (.mv (.t 0))), (oQ 26 24 true (.mv (.t 5))), (oQ 27 24 true (.ix 1 (.t 25) (.t 26))), (oG 28 24 true (.m (.ld false 1 (.t 27)))), (oQ 29 24 true (.mv (.t 1))), (oQ 30 24 true (.bin false .eql (.t 28) (.t 29))), (oP 31 (.pick (.t 24) (.t 30) (cB false)))]) (.cd (.t 31) (.sq (.reg [(oV 32 0), (oV 4 32)]) .rt) .sk)) (.sq (.dr dr_f108_0 [(0, [33, 5033, 10033, 15033]), (1, []), (2, []), (3, []), (4, [33, 37, 5037, 10037, 15037]), (5, []), (6, []), (7, [33, 37, 40, 5040, 10040, 15040]), (8, []), (9, []), (10, []), (11, [33, 37, 40, 44, 5044, 10044, 15044]), (12, [33, 37, 40, 44])] (.of [1, 2, 3, 5, 6, 8, 9, 10, 0, 4, 7, 11, 12])) .rt)))))
def rv_f108 : List (RV × Option Ty) := [((.t 4), some (.sl tI))]
abbrev sh_f108_0 : Sh := ⟨[(0, .ty (.sl tI)), (1, .ty tI), (5, .ty tI)], []⟩
def st_f108_0 (x0 : (List Int)) (x1 : Int) (x5 : Int) : VS := sh_f108_0.st (x0, x1, x5, ()) ()
abbrev sh_f108_0_e0 : Sh := ⟨[(0, .ty (.sl tI)), (1, .ty tI), (5, .ty tI)], []⟩
def st_f108_0_e0 (x0 : (List Int)) (x1 : Int) (x5 : Int) : VS := sh_f108_0_e0.st (x0, x1, x5, ()) ()
-- loop 0: (x0 : (List Int)) (x1 : Int) (x5 : Int); out: ('exit', 0) (x0 : (List Int)) (x1 : Int) (x5 : Int)
def L_f108_0 : VS → Option (Bool × List (Bool × Exit × VS)) := mkL sh_f108_0 (fun x y => (decide (0 ≤ x.2.2.1 ∧ x.2.2.1 ≤ x.1.length ∧ x.1.length ≤ 500000))) (fun x y => [(true, .exit 0, st_f108_0_e0 (x.1) (x.2.1) (x.2.2.1 + (low (x.1.drop x.2.2.1.toNat) x.2.1 : Nat)))])
def g_f108 : G := ⟨TYs, [33], 45, EL [], keeps, (Ls [L_f108_0]), IL [], RL []⟩
def b_f108_0 (x0 : (List Int)) (x1 : Int) (x5 : Int) : Option (Exit × VS) :=
 br ((ilt x5 (llen x0)))
  (br (cIx x0 x5)
   (br ((ilt (lgt tI x0 (Int.toNat x5)) x1))
    (some (.normal, st_f108_0 x0 x1 (iadd .i64 x5 1)))
    (some (.exit 0, st_f108_0_e0 x0 x1 x5)))
   (none))
  (some (.exit 0, st_f108_0_e0 x0 x1 x5))
noncomputable def lp_f108_0 (x0 : (List Int)) (x1 : Int) (x5 : Int) : Option (Exit × VS) := loopF (roundF g_f108 fg_f108_0 tb_f108_0) (st_f108_0 x0 x1 x5)
noncomputable def n_f108_0 (x0 : (List Int)) (x1 : Int) (x5 : Int) : Option (Exit × VS) :=
 br ((ilt x5 (llen x0)))
  (br (cIx x0 x5)
   (br ((ilt (lgt tI x0 (Int.toNat x5)) x1))
    (lp_f108_0 x0 x1 (iadd .i64 x5 1))
    (some (.exit 0, st_f108_0_e0 x0 x1 x5)))
   (none))
  (some (.exit 0, st_f108_0_e0 x0 x1 x5))
def la_f108_0 (x0 : (List Int)) (x1 : Int) (x5 : Int) : Option (Exit × VS) := some (.exit 0, st_f108_0_e0 (x0) (x1) (x5 + (low (x0.drop x5.toNat) x1 : Nat)))
theorem be_f108_0 (x0 : (List Int)) (x1 : Int) (x5 : Int) : roundF g_f108 fg_f108_0 tb_f108_0 (st_f108_0 x0 x1 x5) = b_f108_0 x0 x1 x5 := by kernel_rfl
theorem ln_f108_0 (x0 : (List Int)) (x1 : Int) (x5 : Int) : lp_f108_0 x0 x1 x5 = n_f108_0 x0 x1 x5 := (loopF_nxt _ _).trans (by
 rw [be_f108_0]
 simp only [b_f108_0, n_f108_0, nxt_br, nxt_n, nxt_r, nxt_e, nxt_0]
 rfl)
def r_f108_1 (p0 : (List Int)) (p1 : Int) : Option (V × List VO) :=
 br (cSl (p0) 0 ((0 : Int) + (low (p0.drop (0 : Int).toNat) p1 : Nat)) ((List.length (p0) : Nat) : Int))
  (br (cSl (p0) ((0 : Int) + (low (p0.drop (0 : Int).toNat) p1 : Nat)) ((List.length (p0) : Nat) : Int) ((List.length (p0) : Nat) : Int))
   (br (cApp ([] : List Int) (lsl (p0) 0 ((0 : Int) + (low (p0.drop (0 : Int).toNat) p1 : Nat))) 8)
    (br (cApp (([] : List Int) ++ (lsl (p0) 0 ((0 : Int) + (low (p0.drop (0 : Int).toNat) p1 : Nat)))) ([(p1)]) 8)
     (br (cApp ((([] : List Int) ++ (lsl (p0) 0 ((0 : Int) + (low (p0.drop (0 : Int).toNat) p1 : Nat)))) ++ ([(p1)])) (lsl (p0) ((0 : Int) + (low (p0.drop (0 : Int).toNat) p1 : Nat)) ((List.length (p0) : Nat) : Int)) 8)
      (some (.t (.sl tI) (((([] : List Int) ++ (lsl (p0) 0 ((0 : Int) + (low (p0.drop (0 : Int).toNat) p1 : Nat)))) ++ ([(p1)])) ++ (lsl (p0) ((0 : Int) + (low (p0.drop (0 : Int).toNat) p1 : Nat)) ((List.length (p0) : Nat) : Int))), []))
      (none))
     (none))
    (none))
   (none))
  (none)
def r_f108 (p0 : (List Int)) (p1 : Int) : Option (V × List VO) :=
 br ((decide (0 ≤ (0 : Int) ∧ (0 : Int) ≤ p0.length ∧ p0.length ≤ 500000)))
  (br ((ilt ((0 : Int) + (low (p0.drop (0 : Int).toNat) p1 : Nat)) (llen (p0))))
   (br (cIx (p0) ((0 : Int) + (low (p0.drop (0 : Int).toNat) p1 : Nat)))
    (br ((ieq (lgt tI (p0) (Int.toNat ((0 : Int) + (low (p0.drop (0 : Int).toNat) p1 : Nat)))) (p1)))
     (some (.t (.sl tI) (p0), []))
     (r_f108_1 p0 p1))
    (none))
   (r_f108_1 p0 p1))
  (none)
theorem e_f108 (p0 : (List Int)) (p1 : Int) : runF g_f108 tc_f108 rv_f108 false [.t (.sl tI) p0, .t tI p1] [] = r_f108 p0 p1 := by kernel_rfl
theorem ok_f108 : Option.map (trC Tryz.prog) Tryz.f108.body = some tc_f108.er := by kernel_rfl
theorem rok_f108 : trVs Tryz.prog Tryz.f108.results.toList = some (rv_f108.map Prod.fst) := by kernel_rfl
theorem en_f108 : Entered Tryz.prog 108 := .inr ⟨by decide, _, Tryz.func108, by kernel_rfl, by kernel_rfl⟩
theorem gk_f108 : GOk Tryz.prog g_f108 := gok_of _ (fun p hp => by cases hp)
theorem l_f108_0 (x0 : (List Int)) (x1 : Int) (x5 : Int) (h : (decide (0 ≤ x5 ∧ x5 ≤ x0.length ∧ x0.length ≤ 500000)) = true) : lp_f108_0 x0 x1 x5 = la_f108_0 x0 x1 x5 := by
 simp only [decide_eq_true_eq] at h
 obtain ⟨h1, h2, h3⟩ := h
 obtain ⟨k, rfl⟩ := Int.eq_ofNat_of_zero_le h1
 refine range_ind x0 (fun k => lp_f108_0 x0 x1 (k : Int) = la_f108_0 x0 x1 (k : Int)) ?_ ?_ k (by omega)
 ·rw [ln_f108_0]
  simp [n_f108_0, la_f108_0, ilt_nat, llen, br_false, low]
 ·intro k hk ih
  rw [ln_f108_0]
  simp only [n_f108_0, ilt_nat, llen, cIx_nat, hk, decide_true, br_true, Int.toNat_natCast, add1 (show k < 4611686018427387904 by omega), ih, lgt_get (y := tI) hk]
  simp only [la_f108_0, Int.toNat_natCast, List.drop_eq_getElem_cons hk, low, List.takeWhile_cons, ilt]
  by_cases hc : x0[k] < x1
  ·simp only [hc, decide_true, br_true, if_true, List.length_cons]
   congr 3
   omega
  ·simp only [hc, decide_false, br_false, Bool.false_eq_true, if_false, List.length_nil]
   rfl
theorem lo_f108_0 : ∀ S l p, g_f108.L 0 (fgt fg_f108_0 S) = some (true, l) → pickA l = some p → loopF (roundF g_f108 fg_f108_0 tb_f108_0) S = some p :=
 lok_of (s := sh_f108_0) ⟨by decide, by decide⟩ (by kernel_rfl) fun x y hok p hp => by
 simp only [pickA_br, pickA_one] at hp
 exact (l_f108_0 x.1 x.2.1 x.2.2.1 (by simpa using hok)).trans hp
theorem lk_f108 : tc_f108.lok g_f108 := by
 repeat (first | exact trivial | exact lo_f108_0 | refine ⟨?_, ?_⟩)
theorem low_le (l : List Int) (n : Int) : low l n ≤ l.length := by
 unfold low
 exact (List.takeWhile_prefix _).length_le
theorem insL_eq (n : Int) : ∀ l : List Int, insL l n = if l[low l n]? = some n then l else l.take (low l n) ++ [n] ++ l.drop (low l n)
 | [] => by simp [insL, low]
 | a :: l => by
  have ih := insL_eq n l
  unfold insL
  by_cases h : a < n
  ·have e : low (a :: l) n = low l n + 1 := by simp [low, h]
   rw [if_pos h, e, ih, List.getElem?_cons_succ]
   split <;> simp
  ·have e : low (a :: l) n = 0 := by simp [low, h]
   rw [if_neg h, e]
   by_cases h2 : a = n
   ·simp [h2]
   ·simp [h2]
theorem insL_len (n : Int) (l : List Int) : (insL l n).length ≤ l.length + 1 := by
 rw [insL_eq]
 split <;> simp
 omega
theorem s_f108 (l : List Int) (n : Int) (h : putOk l n = true) : r_f108 l n = some (.t (.sl tI) (insL l n), []) := by
 simp only [putOk, decide_eq_true_eq] at h
 have hl := low_le l n
 have e1 : r_f108_1 l n = some (.t (.sl tI) (l.take (low l n) ++ [n] ++ l.drop (low l n)), []) := by
  simp only [r_f108_1, Int.toNat_zero, List.drop_zero, Int.zero_add]
  have c1 : cSl l 0 (low l n : Nat) ((l.length : Nat) : Int) = true := by simp only [cSl, decide_eq_true_eq]; omega
  have c2 : cSl l (low l n : Nat) ((l.length : Nat) : Int) ((l.length : Nat) : Int) = true := by simp only [cSl, decide_eq_true_eq]; omega
  have v1 : lsl l 0 (low l n : Nat) = l.take (low l n) := by simp [lsl]
  have v2 : lsl l (low l n : Nat) ((l.length : Nat) : Int) = l.drop (low l n) := by
   simp only [lsl, Int.toNat_natCast]
   rw [List.take_of_length_le (by simp)]
  rw [c1, c2, v1, v2]
  simp only [br_true]
  rw [cApp_ok (by simp; omega) (by omega), br_true, cApp_ok (by simp; omega) (by omega), br_true, cApp_ok (by simp; omega) (by omega), br_true]
  rfl
 simp only [r_f108, r_f108_1] at e1 ⊢
 rw [e1]
 simp only [Int.toNat_zero, List.drop_zero, Int.zero_add]
 rw [dec_true ⟨Int.le_refl 0, by omega, h⟩, br_true, insL_eq]
 by_cases hk : low l n < l.length
 ·simp only [llen, ilt_nat, cIx_nat, hk, decide_true, br_true, Int.toNat_natCast, lgt_get (y := tI) hk, List.getElem?_eq_getElem hk, Option.some.injEq, ieq_dec]
  by_cases hq : l[low l n] = n
  ·simp only [hq, decide_true, br_true, if_true]
  ·simp only [hq, decide_false, br_false, if_false]
 ·have hn : l[low l n]? = none := List.getElem?_eq_none (by omega)
  simp only [llen, ilt_nat, hk, decide_false, br_false, hn, reduceCtorEq, if_false]
def sp_f108 : Ent := spec (.pr (.sl tI) (.pr tI .nil)) (fun x => (putOk x.1 x.2.1)) (fun x => (.t (.sl tI) (insL x.1 x.2.1)))
theorem ms_f108 : Meets Tryz.prog 108 (strip sp_f108) := by
 obtain ⟨c, hc, hi⟩ := Option.map_eq_some_iff.1 ok_f108
 exact meets_spec (R := runF g_f108 tc_f108 rv_f108 false) (meets_of (by decide) Tryz.func108 hc hi Tryz.ntmps108 rok_f108 gk_f108 lk_f108 mixed) fun x hok => (e_f108 x.1 x.2.1).trans (s_f108 x.1 x.2.1 hok)
def cutsZ (l : List Int) (rs : List Rule) : List Int := rs.foldl (fun l r => insL (insL l r.2.2.2.2.1) r.2.2.2.2.2.1) l
def dr_f90_0 : List DO := [(.mk (oV 13 3) []), (.mk (oP 14 (.fa 0 (.t 1))) []), (.mk (oL 15 14) [1]), (.mk (oV 16 4) []), (.mk (oP 17 (.ix 6 (.t 15) (.t 16))) [2, 3]), (.mk (oP 18 (.fa 4 (.t 17))) [4]), (.mk (oL 19 18) [5]), (.mk (oC 20 108 [(.t 13), (.t 19)]) [0, 6]), (.mk (oP 21 (.fa 0 (.t 1))) []), (.mk (oL 22 21) [8]), (.mk (oV 23 4) []), (.mk (oP 24 (.ix 6 (.t 22) (.t 23))) [9, 10]), (.mk (oP 25 (.fa 5 (.t 24))) [11]), (.mk (oL 26 25) [12]), (.mk (oC 27 108 [(.t 20), (.t 26)]) [7, 13, 7]), (.mk (oV 3 27) [14, 14, 0, 1, 2, 3, 4, 5, 6, 7, 8, 9, 10, 11, 12, 13, 14])]
def fg_f90_0 : Fg := ⟨[(1, none), (3, some (.sl tI)), (4, some tI)], [(1, some tyPolicy)]⟩
def tb_f90_0 : TC := (.sq (.sq (.reg [(oV 6 4), (oP 7 (.fa 0 (.t 1))), (oL 8 7), (oP 9 (.len false (.t 8))), (oP 10 (.bin false .lss (.t 6) (.t 9)))]) (.cd (.t 10) .sk (.fg ⟨[(3, some (.sl tI))], []⟩ (.ex 0)))) (.sq (.bk 1 (.dr dr_f90_0 [(0, []), (1, [1]), (2, [1]), (3, []), (4, []), (5, []), (6, []), (7, []), (8, [1]), (9, [1]), (10, []), (11, []), (12, []), (13, []), (14, []), (15, [])] (.of [0, 1, 2, 3, 4, 5, 6, 7, 8, 9, 10, 11, 12, 13, 14, 15]))) (.reg [(oV 11 4), (oP 12 (.bin false .add (.t 11) (cI 1))), (oV 4 12)])))
def tc_f90 : TC := (.sq (.reg [(oM 1 (.box (.t 0))), (oP 2 (.mv (.c (.v (.slice none 0 0)))))]) (.sq (.reg [(oM 5 (.bs 3 1 2 [(.v (.int .i64 0)), (.v (.int .i64 0))] [(0, 1, (cI 0)), (1, 1, (cI 40001))])), (oV 3 5)]) (.sq (.sq (.reg [(oP 4 (.mv (cI 0)))]) (.bk 0 (.lp 0 fg_f90_0 tb_f90_0))) (.sq (.reg [(oV 28 3), (oV 2 28)]) .rt))))
def rv_f90 : List (RV × Option Ty) := [((.t 2), some (.sl tI))]
abbrev sh_f90_0 : Sh := ⟨[(1, .ptr 1 0), (3, .ty (.sl tI)), (4, .ty tI)], [(1, .box tyPolicy)]⟩
def st_f90_0 (x3 : (List Int)) (x4 : Int) (y1 : Policy) : VS := sh_f90_0.st ((), x3, x4, ()) (y1, ())
abbrev sh_f90_0_e0 : Sh := ⟨[(3, .ty (.sl tI))], []⟩
def st_f90_0_e0 (x3 : (List Int)) : VS := sh_f90_0_e0.st (x3, ()) ()
-- loop 0: (x3 : (List Int)) (x4 : Int) (y1 : Policy); out: ('exit', 0) (x3 : (List Int))
def L_f90_0 : VS → Option (Bool × List (Bool × Exit × VS)) := mkL sh_f90_0 (fun x y => (decide (0 ≤ x.2.2.1 ∧ x.2.2.1 ≤ y.1.1.length ∧ y.1.1.length ≤ 100000 ∧ (x.2.1.length : Int) ≤ 2 + 2 * x.2.2.1))) (fun x y => [(true, .exit 0, st_f90_0_e0 (cutsZ x.2.1 (y.1.1.drop x.2.2.1.toNat)))])
def g_f90 : G := ⟨TYs, [], 29, EL [(108, sp_f108)], keeps, (Ls [L_f90_0]), IL [], RL []⟩
def b_f90_0 (x3 : (List Int)) (x4 : Int) (y1 : Policy) : Option (Exit × VS) :=
 br ((ilt x4 (llen y1.1)))
  (br (cIx y1.1 x4)
   (br ((putOk x3 ((((((lgt tyRule y1.1 (Int.toNat x4)).2).2).2).2).1)))
    (br (cIx y1.1 x4)
     (br ((putOk (insL x3 ((((((lgt tyRule y1.1 (Int.toNat x4)).2).2).2).2).1)) (((((((lgt tyRule y1.1 (Int.toNat x4)).2).2).2).2).2).1)))
      (some (.normal, st_f90_0 (insL (insL x3 ((((((lgt tyRule y1.1 (Int.toNat x4)).2).2).2).2).1)) (((((((lgt tyRule y1.1 (Int.toNat x4)).2).2).2).2).2).1)) (iadd .i64 x4 1) y1))
      (none))
     (none))
    (none))
   (none))
  (some (.exit 0, st_f90_0_e0 x3))
noncomputable def lp_f90_0 (x3 : (List Int)) (x4 : Int) (y1 : Policy) : Option (Exit × VS) := loopF (roundF g_f90 fg_f90_0 tb_f90_0) (st_f90_0 x3 x4 y1)
noncomputable def n_f90_0 (x3 : (List Int)) (x4 : Int) (y1 : Policy) : Option (Exit × VS) :=
 br ((ilt x4 (llen y1.1)))
  (br (cIx y1.1 x4)
   (br ((putOk x3 ((((((lgt tyRule y1.1 (Int.toNat x4)).2).2).2).2).1)))
    (br (cIx y1.1 x4)
     (br ((putOk (insL x3 ((((((lgt tyRule y1.1 (Int.toNat x4)).2).2).2).2).1)) (((((((lgt tyRule y1.1 (Int.toNat x4)).2).2).2).2).2).1)))
      (lp_f90_0 (insL (insL x3 ((((((lgt tyRule y1.1 (Int.toNat x4)).2).2).2).2).1)) (((((((lgt tyRule y1.1 (Int.toNat x4)).2).2).2).2).2).1)) (iadd .i64 x4 1) y1)
      (none))
     (none))
    (none))
   (none))
  (some (.exit 0, st_f90_0_e0 x3))
def la_f90_0 (x3 : (List Int)) (x4 : Int) (y1 : Policy) : Option (Exit × VS) := some (.exit 0, st_f90_0_e0 (cutsZ x3 (y1.1.drop x4.toNat)))
theorem be_f90_0 (x3 : (List Int)) (x4 : Int) (y1 : Policy) : roundF g_f90 fg_f90_0 tb_f90_0 (st_f90_0 x3 x4 y1) = b_f90_0 x3 x4 y1 := by kernel_rfl
theorem ln_f90_0 (x3 : (List Int)) (x4 : Int) (y1 : Policy) : lp_f90_0 x3 x4 y1 = n_f90_0 x3 x4 y1 := (loopF_nxt _ _).trans (by
 rw [be_f90_0]
 simp only [b_f90_0, n_f90_0, nxt_br, nxt_n, nxt_r, nxt_e, nxt_0]
 rfl)
def r_f90 (p0 : Policy) : Option (V × List VO) :=
 br ((decide (0 ≤ (0 : Int) ∧ (0 : Int) ≤ p0.1.length ∧ p0.1.length ≤ 100000 ∧ (([0, 40001]).length : Int) ≤ 2 + 2 * (0 : Int))))
  (some (.t (.sl tI) (cutsZ ([0, 40001]) (p0.1.drop (0 : Int).toNat)), []))
  (none)
theorem e_f90 (p0 : Policy) : runF g_f90 tc_f90 rv_f90 false [.t tyPolicy p0] [] = r_f90 p0 := by kernel_rfl
theorem ok_f90 : Option.map (trC Tryz.prog) Tryz.f90.body = some tc_f90.er := by kernel_rfl
theorem rok_f90 : trVs Tryz.prog Tryz.f90.results.toList = some (rv_f90.map Prod.fst) := by kernel_rfl
theorem en_f90 : Entered Tryz.prog 90 := .inr ⟨by decide, _, Tryz.func90, by kernel_rfl, by kernel_rfl⟩
theorem gk_f90 : GOk Tryz.prog g_f90 := gok_of _ (by
 intro p hp
 simp only [List.mem_cons, List.not_mem_nil, or_false] at hp
 rcases hp with rfl
 ·exact ⟨en_f108, ms_f108⟩)
theorem l_f90_0 (x3 : (List Int)) (x4 : Int) (y1 : Policy) (h : (decide (0 ≤ x4 ∧ x4 ≤ y1.1.length ∧ y1.1.length ≤ 100000 ∧ (x3.length : Int) ≤ 2 + 2 * x4)) = true) : lp_f90_0 x3 x4 y1 = la_f90_0 x3 x4 y1 := by
 simp only [decide_eq_true_eq] at h
 obtain ⟨h1, h2, h3, h4⟩ := h
 obtain ⟨k, rfl⟩ := Int.eq_ofNat_of_zero_le h1
 revert x3
 refine range_ind y1.1 (fun k => ∀ x3 : List Int, (x3.length : Int) ≤ 2 + 2 * (k : Int) → lp_f90_0 x3 (k : Int) y1 = la_f90_0 x3 (k : Int) y1) ?_ ?_ k (by omega)
 ·intro x3 _
  rw [ln_f90_0]
  simp [n_f90_0, la_f90_0, ilt_nat, llen, br_false, cutsZ]
 ·intro k hk ih x3 hy
  rw [ln_f90_0]
  have l1 := insL_len y1.1[k].2.2.2.2.1 x3
  have l2 := insL_len y1.1[k].2.2.2.2.2.1 (insL x3 y1.1[k].2.2.2.2.1)
  simp only [n_f90_0, ilt_nat, llen, cIx_nat, hk, decide_true, br_true, Int.toNat_natCast, add1 (show k < 4611686018427387904 by omega), lgt_get (y := tyRule) hk]
  rw [show putOk x3 y1.1[k].2.2.2.2.1 = true by simp only [putOk, decide_eq_true_eq]; omega, br_true, show putOk (insL x3 y1.1[k].2.2.2.2.1) y1.1[k].2.2.2.2.2.1 = true by simp only [putOk, decide_eq_true_eq]; omega, br_true, ih _ (by omega)]
  simp only [la_f90_0, Int.toNat_natCast, List.drop_eq_getElem_cons hk, cutsZ, List.foldl_cons]
theorem lo_f90_0 : ∀ S l p, g_f90.L 0 (fgt fg_f90_0 S) = some (true, l) → pickA l = some p → loopF (roundF g_f90 fg_f90_0 tb_f90_0) S = some p :=
 lok_of (s := sh_f90_0) ⟨by decide, by decide⟩ (by kernel_rfl) fun x y hok p hp => by
 simp only [pickA_br, pickA_one] at hp
 exact (l_f90_0 x.2.1 x.2.2.1 y.1 (by simpa using hok)).trans hp
theorem lk_f90 : tc_f90.lok g_f90 := by
 repeat (first | exact trivial | exact lo_f90_0 | refine ⟨?_, ?_⟩)
theorem s_f90 (y : Policy) (h : polLen y = true) : r_f90 y = some (.t (.sl tI) (daysF y), []) := by
 simp only [polLen, lenOk5, Bool.and_eq_true, decide_eq_true_eq] at h
 simp only [r_f90, Int.toNat_zero, List.drop_zero]
 rw [dec_true ⟨Int.le_refl 0, by omega, h.1, by decide⟩, br_true, daysF, cuts_eq]
 rfl
def sp_f90 : Ent := spec (.pr tyPolicy .nil) (fun x => (polLen x.1)) (fun x => (.t (.sl tI) (daysF x.1)))
theorem ms_f90 : Meets Tryz.prog 90 (strip sp_f90) := by
 obtain ⟨c, hc, hi⟩ := Option.map_eq_some_iff.1 ok_f90
 exact meets_spec (R := runF g_f90 tc_f90 rv_f90 false) (meets_of (by decide) Tryz.func90 hc hi Tryz.ntmps90 rok_f90 gk_f90 lk_f90 mixed) fun x hok => (e_f90 x.1).trans (s_f90 x.1 hok)
end Go.Proofs.YtfehjdaielifiaaGreat.K
