/-
 verdict: allowed, early, Allowed, days.
-/
import Derived.Test.YtfehjdaielifiaaGreatV7
import Derived.Test.YtfehjdaielifiaaGreatP18
import Derived.Test.YtfehjdaielifiaaGreatB4
set_option linter.unusedSimpArgs false
set_option linter.unusedVariables false
namespace Go.Proofs.YtfehjdaielifiaaGreat.K
open Go.RowKit
def tc_f110 : TC := (.sq (.reg [(oM 4 (.box (.t 0))), (oM 5 (.box (.t 1))), (oP 8 (.mv (cB false)))]) (.sq (.reg [(oM 10 (.ld true 2 (.t 4))), (oM 11 (.ld true 2 (.t 5))), (oV 12 2), (oV 13 3), (oC 14 114 [(.t 10), (.t 11), (.t 12), (.t 13)]), (oV 9 14)]) (.sq (.reg [(oV 15 9), (oP 16 (.bin false .lss (.t 15) (cI 0))), (oV 17 16), (oQ 18 17 false (.fa 0 (.t 4))), (oG 19 17 false (.m (.ld false 1 (.t 18)))), (oQ 20 17 false (.mv (.t 9))), (oQ 21 17 false (.ix 6 (.t 19) (.t 20))), (oQ 22 17 false (.fa 0 (.t 21))), (oG 23 17 false (.m (.ld false 1 (.t 22)))), (oP 24 (.pick (.t 17) (cB true) (.t 23))), (oV 8 24)]) .rt)))
def rv_f110 : List (RV × Option Ty) := [((.t 8), some .bool)]
def g_f110 : G := ⟨TYs, [], 25, EL [(114, sp_f114)], keeps, (fun _ _ => none), IL [], RL []⟩
def r_f110 (p0 : Policy) (p1 : Keep) (p2 : Int) (p3 : Int) : Option (V × List VO) :=
 br ((ilt (decF p0 p1 p2 p3) 0))
  (some (.t .bool true, []))
  (br (cIx p0.1 (decF p0 p1 p2 p3))
   (some (.t .bool ((lgt tyRule p0.1 (Int.toNat (decF p0 p1 p2 p3))).1), []))
   (none))
theorem e_f110 (p0 : Policy) (p1 : Keep) (p2 : Int) (p3 : Int) : runF g_f110 tc_f110 rv_f110 false [.t tyPolicy p0, .t tyKeep p1, .t tI p2, .t tI p3] [] = r_f110 p0 p1 p2 p3 := by kernel_rfl
theorem ok_f110 : Option.map (trC Tryz.prog) Tryz.f110.body = some tc_f110.er := by kernel_rfl
theorem rok_f110 : trVs Tryz.prog Tryz.f110.results.toList = some (rv_f110.map Prod.fst) := by kernel_rfl
theorem en_f110 : Entered Tryz.prog 110 := .inr ⟨by decide, _, Tryz.func110, by kernel_rfl, by kernel_rfl⟩
theorem gk_f110 : GOk Tryz.prog g_f110 := gok_of _ (by
 intro p hp
 simp only [List.mem_cons, List.not_mem_nil, or_false] at hp
 rcases hp with rfl
 ·exact ⟨en_f114, ms_f114⟩)
theorem lk_f110 : tc_f110.lok g_f110 := by repeat (first | exact trivial | refine ⟨?_, ?_⟩)
theorem allF_eq (y : Policy) (u : Keep) (p d : Int) : allF y u p d = (ilt (decF y u p d) 0 || (y.1.getD (decF y u p d).toNat tyRule.zero).1) := by
 unfold allF allL
 have h := decF_eq (y := y) (u := u) (p := p) (d := d)
 cases hq : decL y.1 u p d with
 | none =>
  rw [hq] at h
  simp only at h
  rw [h]
  rfl
 | some k =>
  rw [hq] at h
  simp only at h
  rw [h]
  obtain ⟨h1, _⟩ := lastI_some.1 hq
  have e1 : ilt (k : Int) 0 = false := by simp only [ilt, decide_eq_false_iff_not]; omega
  simp only [e1, Bool.false_or, Int.toNat_natCast, List.getElem?_eq_getElem h1, Option.map_some, Option.getD_some, List.getD_eq_getElem?_getD]
theorem decF_ix {y : Policy} {u : Keep} {p d : Int} (h : ilt (decF y u p d) 0 = false) : cIx y.1 (decF y u p d) = true := by
 have h2 := decF_lt (y := y) (u := u) (p := p) (d := d)
 simp only [ilt, decide_eq_false_iff_not] at h
 simp only [cIx, decide_eq_true_eq]
 omega
theorem s_f110 (y : Policy) (u : Keep) (p d : Int) : r_f110 y u p d = some (.t .bool (allF y u p d), []) := by
 simp only [r_f110, allF_eq]
 cases h : ilt (decF y u p d) 0 with
 | true => simp [br_true]
 | false =>
  rw [decF_ix h, br_false, br_true, Bool.false_or, lgt]
def sp_f110 : Ent := spec (.pr tyPolicy (.pr tyKeep (.pr tI (.pr tI .nil)))) (fun x => true) (fun x => (.t .bool (allF x.1 x.2.1 x.2.2.1 x.2.2.2.1)))
theorem ms_f110 : Meets Tryz.prog 110 (strip sp_f110) := by
 obtain ⟨c, hc, hi⟩ := Option.map_eq_some_iff.1 ok_f110
 exact meets_spec (R := runF g_f110 tc_f110 rv_f110 false) (meets_of (by decide) Tryz.func110 hc hi Tryz.ntmps110 rok_f110 gk_f110 lk_f110 mixed) fun x _ => (e_f110 x.1 x.2.1 x.2.2.1 x.2.2.2.1).trans (s_f110 x.1 x.2.1 x.2.2.1 x.2.2.2.1)
def earlyF (y : Policy) (u : Keep) (p d : Int) : Int := if polOk y = false then 25 else if validF u = false then 7 else if p < 1 ∨ 4 < p ∨ d < 0 ∨ 40000 < d then 2 else 0
def polLen4 (y : Policy) (_u : Keep) (_p _d : Int) : Bool := polLen y
def polLen3 (y : Policy) (_u : Keep) (_p : Int) : Bool := polLen y
def tc_f93 : TC := (.sq (.reg [(oM 4 (.box (.t 0))), (oM 5 (.box (.t 1))), (oP 8 (.mv (cI 0)))]) (.sq (.sq (.reg [(oM 10 (.ld true 2 (.t 4))), (oC 11 67 [(.t 10)]), (oV 9 11)]) (.sq (.reg [(oV 12 9), (oP 13 (.bin false .neq (.t 12) (cI 0)))]) (.cd (.t 13) (.sq (.reg [(oV 14 9), (oV 8 14)]) .rt) .sk))) (.sq (.bk 0 (.sq (.reg [(oM 16 (.ld true 2 (.t 5))), (oC 17 52 [(.t 16)]), (oP 18 (.nt (.t 17))), (oV 15 18)]) (.cd (.t 15) (.sq (.reg [(oP 8 (.mv (cI 7)))]) .rt) (.sq (.reg [(oV 20 2), (oP 21 (.bin false .lss (.t 20) (cI 1))), (oV 22 21), (oQ 23 22 false (.mv (.t 2))), (oQ 24 22 false (.bin false .gtr (.t 23) (cI 4))), (oP 25 (.pick (.t 22) (cB true) (.t 24))), (oV 26 25), (oQ 27 26 false (.mv (.t 3))), (oQ 28 26 false (.bin false .lss (.t 27) (cI 0))), (oP 29 (.pick (.t 26) (cB true) (.t 28))), (oV 30 29), (oQ 31 30 false (.mv (.t 3))), (oQ 32 30 false (.bin false .gtr (.t 31) (cI 40000))), (oP 33 (.pick (.t 30) (cB true) (.t 32))), (oV 19 33)]) (.cd (.t 19) (.sq (.reg [(oP 8 (.mv (cI 2)))]) .rt) .sk))))) (.sq (.reg [(oP 8 (.mv (cI 0)))]) .rt))))
def rv_f93 : List (RV × Option Ty) := [((.t 8), some tI)]
def g_f93 : G := ⟨TYs, [], 34, EL [(52, sp_f52), (67, sp_f67)], keeps, (fun _ _ => none), IL [], RL []⟩
def r_f93 (p0 : Policy) (p1 : Keep) (p2 : Int) (p3 : Int) : Option (V × List VO) :=
 br ((polLen p0))
  (br ((ine (checkF p0) 0))
   (some (.t tI (checkF p0), []))
   (br ((!(validF p1)))
    (some (.t tI 7, []))
    (br ((ilt p2 1))
     (some (.t tI 2, []))
     (br ((igt p2 4))
      (some (.t tI 2, []))
      (br ((ilt p3 0))
       (some (.t tI 2, []))
       (br ((igt p3 40000))
        (some (.t tI 2, []))
        (some (.t tI 0, []))))))))
  (none)
theorem e_f93 (p0 : Policy) (p1 : Keep) (p2 : Int) (p3 : Int) : runF g_f93 tc_f93 rv_f93 false [.t tyPolicy p0, .t tyKeep p1, .t tI p2, .t tI p3] [] = r_f93 p0 p1 p2 p3 := by kernel_rfl
theorem ok_f93 : Option.map (trC Tryz.prog) Tryz.f93.body = some tc_f93.er := by kernel_rfl
theorem rok_f93 : trVs Tryz.prog Tryz.f93.results.toList = some (rv_f93.map Prod.fst) := by kernel_rfl
theorem en_f93 : Entered Tryz.prog 93 := .inr ⟨by decide, _, Tryz.func93, by kernel_rfl, by kernel_rfl⟩
theorem gk_f93 : GOk Tryz.prog g_f93 := gok_of _ (by
 intro p hp
 simp only [List.mem_cons, List.not_mem_nil, or_false] at hp
 rcases hp with rfl | rfl
 ·exact ⟨en_f52, ms_f52⟩
 ·exact ⟨en_f67, ms_f67⟩)
theorem lk_f93 : tc_f93.lok g_f93 := by repeat (first | exact trivial | refine ⟨?_, ?_⟩)
theorem s_f93 (y : Policy) (u : Keep) (p d : Int) (h : polLen4 y u p d = true) : r_f93 y u p d = some (.t tI (earlyF y u p d), []) := by
 have h : polLen y = true := h
 simp only [r_f93, h, br_true, checkF, earlyF]
 cases polOk y with
 | false => rfl
 | true =>
  simp only [if_true, show ine 0 0 = false from rfl, br_false, Bool.true_eq_false, if_false]
  cases validF u with
  | false => rfl
  | true =>
   simp only [Bool.not_true, br_false, Bool.true_eq_false, if_false]
   repeat' (refine br_intro ?_ ?_ <;> intro _)
   all_goals simp only [igt, ilt, decide_eq_true_eq, decide_eq_false_iff_not] at *
   all_goals first
    | rw [if_pos (by omega)]
    | rw [if_neg (by omega)]
def sp_f93 : Ent := spec (.pr tyPolicy (.pr tyKeep (.pr tI (.pr tI .nil)))) (fun x => (polLen4 x.1 x.2.1 x.2.2.1 x.2.2.2.1)) (fun x => (.t tI (earlyF x.1 x.2.1 x.2.2.1 x.2.2.2.1)))
theorem ms_f93 : Meets Tryz.prog 93 (strip sp_f93) := by
 obtain ⟨c, hc, hi⟩ := Option.map_eq_some_iff.1 ok_f93
 exact meets_spec (R := runF g_f93 tc_f93 rv_f93 false) (meets_of (by decide) Tryz.func93 hc hi Tryz.ntmps93 rok_f93 gk_f93 lk_f93 mixed) fun x hok => (e_f93 x.1 x.2.1 x.2.2.1 x.2.2.2.1).trans (s_f93 x.1 x.2.1 x.2.2.1 x.2.2.2.1 hok)
def daysF (y : Policy) : List Int := cutsP y.1
def fg_f109_0 : Fg := ⟨[(3, none), (8, some (.sl tyRule)), (9, some tI), (10, some tI)], [(3, none), (6, none), (20, none), (24, none)]⟩
def tb_f109_0 : TC := (.sq (.reg [(oP 11 (.bin false .lss (.t 10) (.t 9)))]) (.sq (.cd (.t 11) .sk (.fg ⟨[(3, none)], [(3, none), (6, none), (20, none), (24, none)]⟩ (.ex 0))) (.sq (.bk 1 (.sq (.reg [(oP 12 (.ix 6 (.t 8) (.t 10))), (oM 13 (.ld true 6 (.t 12))), (oM 5 (.new [(.v (.bool false)), (.v (.int .i64 0)), (.v (.int .i64 0)), (.v (.int .i64 0)), (.v (.int .i64 0)), (.v (.int .i64 0))])), (.mk none none (.m (.st 6 (.t 5) (.t 13))))]) (.reg [(oV 14 3), (oP 15 (.fa 4 (.t 5))), (oL 16 15), (oP 17 (.fa 5 (.t 5))), (oL 18 17), (oM 19 (.bs 3 1 2 [(.v (.int .i64 0)), (.v (.int .i64 0))] [(0, 1, (.t 16)), (1, 1, (.t 18))])), (oM 20 (.app 3 1 8 (.t 14) (.t 19))), (oV 3 20)]))) (.reg [(oP 21 (.bin false .add (.t 10) (cI 1))), (oV 10 21)]))))
def tc_f109 : TC := (.sq (.reg [(oM 1 (.box (.t 0))), (oP 2 (.mv (.c (.v (.slice none 0 0)))))]) (.sq (.reg [(oM 6 (.bs 3 1 1 [(.v (.int .i64 0))] [(0, 1, (cI 0))])), (oV 3 6)]) (.sq (.sq (.reg [(oP 7 (.fa 0 (.t 1))), (oL 8 7), (oP 9 (.len false (.t 8))), (oP 10 (.mv (cI 0)))]) (.bk 0 (.nw 3 3 (.lp 0 fg_f109_0 tb_f109_0)))) (.sq (.reg [(oV 22 3), (oM 23 (.bs 3 1 1 [(.v (.int .i64 0))] [(0, 1, (cI 40001))])), (oM 24 (.app 3 1 8 (.t 22) (.t 23))), (oV 3 24)]) (.sq (.reg [(oV 25 3), (oC 26 112 [(.t 25)])]) (.sq (.reg [(oV 27 3), (oC 28 113 [(.t 27)]), (oV 2 28)]) .rt))))))
def rv_f109 : List (RV × Option Ty) := [((.t 2), some (.sl tI))]
abbrev sh_f109_0 : Sh := ⟨[(3, .ms 6), (8, .ty (.sl tyRule)), (9, .ty tI), (10, .ty tI)], [(3, .no), (6, .arr 3 tI), (20, .no), (24, .no)]⟩
def st_f109_0 (x8 : (List Rule)) (x9 : Int) (x10 : Int) (y6 : (List Int)) : VS := sh_f109_0.st ((), x8, x9, x10, ()) ((), y6, (), (), ())
abbrev sh_f109_0_e0 : Sh := ⟨[(3, .ms 6)], [(3, .no), (6, .arr 3 tI), (20, .no), (24, .no)]⟩
def st_f109_0_e0 (y6 : (List Int)) : VS := sh_f109_0_e0.st ((), ()) ((), y6, (), (), ())
-- loop 0: (x8 : (List Rule)) (x9 : Int) (x10 : Int) (y6 : (List Int)); out: ('exit', 0) (y6 : (List Int))
def L_f109_0 : VS → Option (Bool × List (Bool × Exit × VS)) := mkL sh_f109_0 (fun x y => (rngOk x.2.1 x.2.2.1 x.2.2.2.1 && decide (y.2.1.length ≤ 1 + 2 * x.2.2.2.1))) (fun x y => [(true, .exit 0, st_f109_0_e0 (y.2.1 ++ ends (x.2.1.drop x.2.2.2.1.toNat)))])
def g_f109 : G := ⟨TYs, [6], 29, EL [(112, sp_f112), (113, sp_f113)], keeps, (Ls [L_f109_0]), IL [], RL []⟩
def b_f109_0 (x8 : (List Rule)) (x9 : Int) (x10 : Int) (y6 : (List Int)) : Option (Exit × VS) :=
 br ((ilt x10 x9))
  (br (cIx x8 x10)
   (br (cApp y6 ([(((((lgt tyRule x8 (Int.toNat x10)).2).2).2).2).1, ((((((lgt tyRule x8 (Int.toNat x10)).2).2).2).2).2).1]) 8)
    (some (.normal, st_f109_0 x8 x9 (iadd .i64 x10 1) (y6 ++ ([(((((lgt tyRule x8 (Int.toNat x10)).2).2).2).2).1, ((((((lgt tyRule x8 (Int.toNat x10)).2).2).2).2).2).1]))))
    (none))
   (none))
  (some (.exit 0, st_f109_0_e0 y6))
noncomputable def lp_f109_0 (x8 : (List Rule)) (x9 : Int) (x10 : Int) (y6 : (List Int)) : Option (Exit × VS) := loopF (roundF g_f109 fg_f109_0 tb_f109_0) (st_f109_0 x8 x9 x10 y6)
noncomputable def n_f109_0 (x8 : (List Rule)) (x9 : Int) (x10 : Int) (y6 : (List Int)) : Option (Exit × VS) :=
 br ((ilt x10 x9))
  (br (cIx x8 x10)
   (br (cApp y6 ([(((((lgt tyRule x8 (Int.toNat x10)).2).2).2).2).1, ((((((lgt tyRule x8 (Int.toNat x10)).2).2).2).2).2).1]) 8)
    (lp_f109_0 x8 x9 (iadd .i64 x10 1) (y6 ++ ([(((((lgt tyRule x8 (Int.toNat x10)).2).2).2).2).1, ((((((lgt tyRule x8 (Int.toNat x10)).2).2).2).2).2).1])))
    (none))
   (none))
  (some (.exit 0, st_f109_0_e0 y6))
def la_f109_0 (x8 : (List Rule)) (x9 : Int) (x10 : Int) (y6 : (List Int)) : Option (Exit × VS) := some (.exit 0, st_f109_0_e0 (y6 ++ ends (x8.drop x10.toNat)))
theorem be_f109_0 (x8 : (List Rule)) (x9 : Int) (x10 : Int) (y6 : (List Int)) : roundF g_f109 fg_f109_0 tb_f109_0 (st_f109_0 x8 x9 x10 y6) = b_f109_0 x8 x9 x10 y6 := by kernel_rfl
theorem ln_f109_0 (x8 : (List Rule)) (x9 : Int) (x10 : Int) (y6 : (List Int)) : lp_f109_0 x8 x9 x10 y6 = n_f109_0 x8 x9 x10 y6 := (loopF_nxt _ _).trans (by
 rw [be_f109_0]
 simp only [b_f109_0, n_f109_0, nxt_br, nxt_n, nxt_r, nxt_e, nxt_0]
 rfl)
def r_f109 (p0 : Policy) : Option (V × List VO) :=
 br ((rngOk p0.1 (llen p0.1) (0 : Int) && decide (([0]).length ≤ 1 + 2 * (0 : Int))))
  (br (cApp (([0]) ++ ends (p0.1.drop (0 : Int).toNat)) ([40001]) 8)
   (br ((lenOk ((([0]) ++ ends (p0.1.drop (0 : Int).toNat)) ++ ([40001]))))
    (br ((lenOk (sortI ((([0]) ++ ends (p0.1.drop (0 : Int).toNat)) ++ ([40001])))))
     (some (.t (.sl tI) (Lib.compact (sortI ((([0]) ++ ends (p0.1.drop (0 : Int).toNat)) ++ ([40001])))), []))
     (none))
    (none))
   (none))
  (none)
theorem e_f109 (p0 : Policy) : runF g_f109 tc_f109 rv_f109 false [.t tyPolicy p0] [] = r_f109 p0 := by kernel_rfl
theorem ok_f109 : Option.map (trC Tryz.prog) Tryz.f109.body = some tc_f109.er := by kernel_rfl
theorem rok_f109 : trVs Tryz.prog Tryz.f109.results.toList = some (rv_f109.map Prod.fst) := by kernel_rfl
theorem en_f109 : Entered Tryz.prog 109 := .inr ⟨by decide, _, Tryz.func109, by kernel_rfl, by kernel_rfl⟩
theorem gk_f109 : GOk Tryz.prog g_f109 := gok_of _ (by
 intro p hp
 simp only [List.mem_cons, List.not_mem_nil, or_false] at hp
 rcases hp with rfl | rfl
 ·exact ⟨en_f112, ms_f112⟩
 ·exact ⟨en_f113, ms_f113⟩)
theorem l_f109_0 (x8 : (List Rule)) (x9 : Int) (x10 : Int) (y6 : (List Int)) (h : (rngOk x8 x9 x10 && decide (y6.length ≤ 1 + 2 * x10)) = true) : lp_f109_0 x8 x9 x10 y6 = la_f109_0 x8 x9 x10 y6 := by
 simp only [Bool.and_eq_true, decide_eq_true_eq] at h
 obtain ⟨h0, h4⟩ := h
 obtain ⟨rfl, h3, k, rfl, hk⟩ := rng_k h0
 clear h0
 revert y6
 refine range_ind x8 (fun k => ∀ y6 : List Int, (y6.length : Int) ≤ 1 + 2 * (k : Int) → lp_f109_0 x8 (x8.length : Int) (k : Int) y6 = la_f109_0 x8 (x8.length : Int) (k : Int) y6) ?_ ?_ k hk
 ·intro y6 _
  rw [ln_f109_0]
  simp [n_f109_0, la_f109_0, ilt_nat, br_false, ends]
 ·intro k hk ih y6 hy
  rw [ln_f109_0]
  simp only [n_f109_0, ilt_nat, cIx_nat, hk, decide_true, br_true, Int.toNat_natCast, add1 (show k < 4611686018427387904 by omega), lgt_get (y := tyRule) hk]
  rw [cApp_ok (by simp; omega) (by omega), br_true, ih _ (by simp; omega)]
  simp only [la_f109_0, Int.toNat_natCast, List.drop_eq_getElem_cons hk, ends, List.flatMap_cons, List.append_assoc]
theorem lo_f109_0 : ∀ S l p, g_f109.L 0 (fgt fg_f109_0 S) = some (true, l) → pickA l = some p → loopF (roundF g_f109 fg_f109_0 tb_f109_0) S = some p :=
 lok_of (s := sh_f109_0) ⟨by decide, by decide⟩ (by kernel_rfl) fun x y hok p hp => by
 simp only [pickA_br, pickA_one] at hp
 exact (l_f109_0 x.2.1 x.2.2.1 x.2.2.2.1 y.2.1 (by simpa using hok)).trans hp
theorem lk_f109 : tc_f109.lok g_f109 := by
 repeat (first | exact trivial | exact lo_f109_0 | refine ⟨?_, ?_⟩)
theorem ends_length (l : List Rule) : (ends l).length = 2 * l.length := by
 induction l with
 | nil => rfl
 | cons a l ih => simp only [ends, List.flatMap_cons, List.length_append, List.length_cons, List.length_nil] at ih ⊢; omega
theorem s_f109 (y : Policy) (h : polLen y = true) : r_f109 y = some (.t (.sl tI) (daysF y), []) := by
 simp only [polLen, lenOk5, Bool.and_eq_true, decide_eq_true_eq] at h
 have e1 : rngOk y.1 (llen y.1) 0 = true := rng_0 h.1
 simp only [r_f109, e1, Bool.true_and]
 have hl := ends_length y.1
 have e2 : decide ((([0] : List Int).length : Int) ≤ 1 + 2 * 0) = true := by decide
 simp only [e2, br_true, Int.toNat_zero, List.drop_zero]
 rw [cApp_ok (by simp; omega) (by omega), br_true]
 rw [show lenOk (([0] ++ ends y.1) ++ [40001]) = true by simp [lenOk]; omega]
 simp only [br_true]
 rw [show lenOk (sortI (([0] ++ ends y.1) ++ [40001])) = true by simp [lenOk, sortI]; omega]
 rfl
def sp_f109 : Ent := spec (.pr tyPolicy .nil) (fun x => (polLen x.1)) (fun x => (.t (.sl tI) (daysF x.1)))
theorem ms_f109 : Meets Tryz.prog 109 (strip sp_f109) := by
 obtain ⟨c, hc, hi⟩ := Option.map_eq_some_iff.1 ok_f109
 exact meets_spec (R := runF g_f109 tc_f109 rv_f109 false) (meets_of (by decide) Tryz.func109 hc hi Tryz.ntmps109 rok_f109 gk_f109 lk_f109 mixed) fun x hok => (e_f109 x.1).trans (s_f109 x.1 hok)
end Go.Proofs.YtfehjdaielifiaaGreat.K
