/-
 verdict: spans, Spans, Falls.
-/
import Derived.Test.YtfehjdaielifiaaGreatV4
set_option linter.unusedSimpArgs false
set_option linter.unusedVariables false
namespace Go.Proofs.YtfehjdaielifiaaGreat.K
open Go.RowKit
def spansL (y : Policy) (u : Keep) (p : Int) (l : List Int) (out : List Keep) : List Keep := spansZ (allF y u p) l out
def dr_f94_0 : List DO := [(.mk (oV 21 8) []), (.mk (oV 22 9) []), (.mk (oP 23 (.ix 1 (.t 21) (.t 22))) [0, 1]), (.mk (oL 24 23) [2]), (.mk (oV 25 8) []), (.mk (oV 26 9) []), (.mk (oP 27 (.bin false .add (.t 26) (cI 1))) [5]), (.mk (oP 28 (.ix 1 (.t 25) (.t 27))) [4, 6]), (.mk (oL 29 28) [7]), (.mk (oV 10 24) [3, 0, 1, 2, 3]), (.mk (oV 11 29) [8, 9, 0, 1, 2, 3, 4, 5, 6, 7, 8, 9])]
def fg_f94_0 : Fg := ⟨[(2, some tI), (3, none), (4, none), (7, none), (8, some (.sl tI)), (17, some tI), (18, some tI)], [(3, some tyPolicy), (4, some tyKeep), (7, none), (61, none)]⟩
def tb_f94_0 : TC := (.sq (.reg [(oP 19 (.bin false .lss (.t 18) (.t 17)))]) (.sq (.cd (.t 19) .sk (.fg ⟨[(7, none)], [(7, none), (61, none)]⟩ (.ex 0))) (.sq (.bk 1 (.sq (.reg [(oV 20 18), (oV 9 20)]) (.sq (.dr dr_f94_0 [(0, []), (1, []), (2, []), (3, []), (4, []), (5, []), (6, []), (7, []), (8, []), (9, []), (10, [])] (.of [0, 1, 2, 3, 4, 5, 6, 7, 8, 9, 10])) (.sq (.sq (.reg [(oM 30 (.ld true 2 (.t 3))), (oM 31 (.ld true 2 (.t 4))), (oV 32 2), (oV 33 10), (oC 34 110 [(.t 30), (.t 31), (.t 32), (.t 33)]), (oP 35 (.nt (.t 34)))]) (.cd (.t 35) (.fg ⟨[(2, some tI), (3, none), (4, none), (7, none), (8, some (.sl tI)), (17, some tI), (18, some tI)], [(3, some tyPolicy), (4, some tyKeep), (7, none), (61, none)]⟩ (.ex 1)) .sk)) (.sq (.reg [(oV 36 7), (oP 37 (.len false (.t 36))), (oV 12 37)]) (.sq (.reg [(oV 38 12), (oP 39 (.bin false .gtr (.t 38) (cI 0))), (oV 40 39), (oQ 41 40 true (.mv (.t 7))), (oQ 42 40 true (.mv (.t 12))), (oQ 43 40 true (.bin false .sub (.t 42) (cI 1))), (oQ 44 40 true (.ix 2 (.t 41) (.t 43))), (oQ 45 40 true (.fa 1 (.t 44))), (oG 46 40 true (.m (.ld false 1 (.t 45)))), (oQ 47 40 true (.mv (.t 10))), (oQ 48 40 true (.bin false .eql (.t 46) (.t 47))), (oP 49 (.pick (.t 40) (.t 48) (cB false)))]) (.cd (.t 49) (.reg [(oV 50 7), (oV 51 12), (oP 52 (.bin false .sub (.t 51) (cI 1))), (oV 53 11), (oP 54 (.ix 2 (.t 50) (.t 52))), (oP 55 (.fa 1 (.t 54))), (.mk none none (.m (.st 1 (.t 55) (.t 53))))]) (.reg [(oV 56 7), (oV 57 10), (oV 58 11), (oP 59 (.bd [(.v (.int .i64 0)), (.v (.int .i64 0))] [(0, 1, (.t 57)), (1, 1, (.t 58))])), (oM 60 (.bs 109 2 1 [(.v (.int .i64 0)), (.v (.int .i64 0))] [(0, 2, (.t 59))])), (oM 61 (.app 109 2 16 (.t 56) (.t 60))), (oV 7 61)])))))))) (.reg [(oP 62 (.bin false .add (.t 18) (cI 1))), (oV 18 62)]))))
def tc_f94 : TC := (.sq (.reg [(oM 3 (.box (.t 0))), (oM 4 (.box (.t 1))), (oP 6 (.mv (.c (.v (.slice none 0 0)))))]) (.sq (.reg [(oP 7 (.mv (.c (.v (.slice none 0 0)))))]) (.sq (.reg [(oM 13 (.ld true 2 (.t 3))), (oC 14 109 [(.t 13)]), (oV 8 14)]) (.sq (.sq (.reg [(oV 15 8), (oP 16 (.len false (.t 15))), (oP 17 (.bin false .sub (.t 16) (cI 1))), (oP 18 (.mv (cI 0)))]) (.bk 0 (.nw 7 109 (.lp 0 fg_f94_0 tb_f94_0)))) (.sq (.reg [(oV 63 7), (oV 6 63)]) .rt)))))
def rv_f94 : List (RV × Option Ty) := [((.t 6), some (.sl tyKeep))]
abbrev sh_f94_0 : Sh := ⟨[(2, .ty tI), (3, .ptr 3 0), (4, .ptr 4 0), (7, .ms 7), (8, .ty (.sl tI)), (17, .ty tI), (18, .ty tI)], [(3, .box tyPolicy), (4, .box tyKeep), (7, .arr 109 tyKeep), (61, .no)]⟩
def st_f94_0 (x2 : Int) (x8 : (List Int)) (x17 : Int) (x18 : Int) (y3 : Policy) (y4 : Keep) (y7 : (List Keep)) : VS := sh_f94_0.st (x2, (), (), (), x8, x17, x18, ()) (y3, y4, y7, (), ())
abbrev sh_f94_0_e0 : Sh := ⟨[(7, .ms 7)], [(7, .arr 109 tyKeep), (61, .no)]⟩
def st_f94_0_e0 (y7 : (List Keep)) : VS := sh_f94_0_e0.st ((), ()) (y7, (), ())
-- loop 0: (x2 : Int) (x8 : (List Int)) (x17 : Int) (x18 : Int) (y3 : Policy) (y4 : Keep) (y7 : (List Keep)); out: ('exit', 0) (y7 : (List Keep))
def L_f94_0 : VS → Option (Bool × List (Bool × Exit × VS)) := mkL sh_f94_0 (fun x y => (decide (x.2.2.2.2.2.1 = (x.2.2.2.2.1.length : Int) - 1 ∧ 0 ≤ x.2.2.2.2.2.2.1 ∧ x.2.2.2.2.2.2.1 ≤ x.2.2.2.2.2.1 ∧ x.2.2.2.2.1.length ≤ 500000 ∧ (y.2.2.1.length : Int) ≤ x.2.2.2.2.2.2.1))) (fun x y => [(true, .exit 0, st_f94_0_e0 (spansL y.1 y.2.1 x.1 (x.2.2.2.2.1.drop x.2.2.2.2.2.2.1.toNat) y.2.2.1))])
def g_f94 : G := ⟨TYs, [], 64, EL [(109, sp_f109), (110, sp_f110)], keeps, (Ls [L_f94_0]), IL [], RL []⟩
def b_f94_0_1 (x2 : Int) (x8 : (List Int)) (x17 : Int) (x18 : Int) (y3 : Policy) (y4 : Keep) (y7 : (List Keep)) : Option (Exit × VS) :=
 br (cApp y7 ([((lgt tI x8 (Int.toNat x18)), ((lgt tI x8 (Int.toNat (iadd .i64 x18 1))), ()))]) 16)
  (some (.normal, st_f94_0 x2 x8 x17 (iadd .i64 x18 1) y3 y4 (y7 ++ ([((lgt tI x8 (Int.toNat x18)), ((lgt tI x8 (Int.toNat (iadd .i64 x18 1))), ()))]))))
  (none)
def b_f94_0 (x2 : Int) (x8 : (List Int)) (x17 : Int) (x18 : Int) (y3 : Policy) (y4 : Keep) (y7 : (List Keep)) : Option (Exit × VS) :=
 br ((ilt x18 x17))
  (br (cIx x8 x18)
   (br (cIx x8 (iadd .i64 x18 1))
    (br ((!(allF y3 y4 x2 (lgt tI x8 (Int.toNat x18)))))
     (some (.normal, st_f94_0 x2 x8 x17 (iadd .i64 x18 1) y3 y4 y7))
     (br ((igt (llen y7) 0))
      (br (cIx y7 (isub .i64 (llen y7) 1))
       (br (cLd y7 (Int.toNat (isub .i64 (llen y7) 1)))
        (br ((ieq (((lgt tyKeep y7 (Int.toNat (isub .i64 (llen y7) 1))).2).1) (lgt tI x8 (Int.toNat x18))))
         (br (cIx y7 (isub .i64 (llen y7) 1))
          (br (cLd y7 (Int.toNat (isub .i64 (llen y7) 1)))
           (some (.normal, st_f94_0 x2 x8 x17 (iadd .i64 x18 1) y3 y4 (List.set y7 (Int.toNat (isub .i64 (llen y7) 1)) ((lgt tyKeep y7 (Int.toNat (isub .i64 (llen y7) 1))).1, ((lgt tI x8 (Int.toNat (iadd .i64 x18 1))), ((lgt tyKeep y7 (Int.toNat (isub .i64 (llen y7) 1))).2).2)))))
           (none))
          (none))
         (b_f94_0_1 x2 x8 x17 x18 y3 y4 y7))
        (none))
       (none))
      (b_f94_0_1 x2 x8 x17 x18 y3 y4 y7)))
    (none))
   (none))
  (some (.exit 0, st_f94_0_e0 y7))
noncomputable def lp_f94_0 (x2 : Int) (x8 : (List Int)) (x17 : Int) (x18 : Int) (y3 : Policy) (y4 : Keep) (y7 : (List Keep)) : Option (Exit × VS) := loopF (roundF g_f94 fg_f94_0 tb_f94_0) (st_f94_0 x2 x8 x17 x18 y3 y4 y7)
noncomputable def n_f94_0_1 (x2 : Int) (x8 : (List Int)) (x17 : Int) (x18 : Int) (y3 : Policy) (y4 : Keep) (y7 : (List Keep)) : Option (Exit × VS) :=
 br (cApp y7 ([((lgt tI x8 (Int.toNat x18)), ((lgt tI x8 (Int.toNat (iadd .i64 x18 1))), ()))]) 16)
  (lp_f94_0 x2 x8 x17 (iadd .i64 x18 1) y3 y4 (y7 ++ ([((lgt tI x8 (Int.toNat x18)), ((lgt tI x8 (Int.toNat (iadd .i64 x18 1))), ()))])))
  (none)
noncomputable def n_f94_0 (x2 : Int) (x8 : (List Int)) (x17 : Int) (x18 : Int) (y3 : Policy) (y4 : Keep) (y7 : (List Keep)) : Option (Exit × VS) :=
 br ((ilt x18 x17))
  (br (cIx x8 x18)
   (br (cIx x8 (iadd .i64 x18 1))
    (br ((!(allF y3 y4 x2 (lgt tI x8 (Int.toNat x18)))))
     (lp_f94_0 x2 x8 x17 (iadd .i64 x18 1) y3 y4 y7)
     (br ((igt (llen y7) 0))
      (br (cIx y7 (isub .i64 (llen y7) 1))
       (br (cLd y7 (Int.toNat (isub .i64 (llen y7) 1)))
        (br ((ieq (((lgt tyKeep y7 (Int.toNat (isub .i64 (llen y7) 1))).2).1) (lgt tI x8 (Int.toNat x18))))
         (br (cIx y7 (isub .i64 (llen y7) 1))
          (br (cLd y7 (Int.toNat (isub .i64 (llen y7) 1)))
           (lp_f94_0 x2 x8 x17 (iadd .i64 x18 1) y3 y4 (List.set y7 (Int.toNat (isub .i64 (llen y7) 1)) ((lgt tyKeep y7 (Int.toNat (isub .i64 (llen y7) 1))).1, ((lgt tI x8 (Int.toNat (iadd .i64 x18 1))), ((lgt tyKeep y7 (Int.toNat (isub .i64 (llen y7) 1))).2).2))))
           (none))
          (none))
         (n_f94_0_1 x2 x8 x17 x18 y3 y4 y7))
        (none))
       (none))
      (n_f94_0_1 x2 x8 x17 x18 y3 y4 y7)))
    (none))
   (none))
  (some (.exit 0, st_f94_0_e0 y7))
def la_f94_0 (x2 : Int) (x8 : (List Int)) (x17 : Int) (x18 : Int) (y3 : Policy) (y4 : Keep) (y7 : (List Keep)) : Option (Exit × VS) := some (.exit 0, st_f94_0_e0 (spansL y3 y4 x2 (x8.drop x18.toNat) y7))
theorem be_f94_0 (x2 : Int) (x8 : (List Int)) (x17 : Int) (x18 : Int) (y3 : Policy) (y4 : Keep) (y7 : (List Keep)) : roundF g_f94 fg_f94_0 tb_f94_0 (st_f94_0 x2 x8 x17 x18 y3 y4 y7) = b_f94_0 x2 x8 x17 x18 y3 y4 y7 := by kernel_rfl
theorem ln_f94_0 (x2 : Int) (x8 : (List Int)) (x17 : Int) (x18 : Int) (y3 : Policy) (y4 : Keep) (y7 : (List Keep)) : lp_f94_0 x2 x8 x17 x18 y3 y4 y7 = n_f94_0 x2 x8 x17 x18 y3 y4 y7 := (loopF_nxt _ _).trans (by
 rw [be_f94_0]
 simp only [b_f94_0, b_f94_0_1, n_f94_0, n_f94_0_1, nxt_br, nxt_n, nxt_r, nxt_e, nxt_0]
 rfl)
def r_f94 (p0 : Policy) (p1 : Keep) (p2 : Int) : Option (V × List VO) :=
 br ((polLen p0))
  (br ((decide ((isub .i64 (llen (daysF p0)) 1) = ((daysF p0).length : Int) - 1 ∧ 0 ≤ (0 : Int) ∧ (0 : Int) ≤ (isub .i64 (llen (daysF p0)) 1) ∧ (daysF p0).length ≤ 500000 ∧ (([] : List Keep).length : Int) ≤ (0 : Int))))
   (some (.t (.sl tyKeep) (spansL p0 p1 p2 ((daysF p0).drop (0 : Int).toNat) ([] : List Keep)), []))
   (none))
  (none)
theorem e_f94 (p0 : Policy) (p1 : Keep) (p2 : Int) : runF g_f94 tc_f94 rv_f94 false [.t tyPolicy p0, .t tyKeep p1, .t tI p2] [] = r_f94 p0 p1 p2 := by kernel_rfl
theorem ok_f94 : Option.map (trC Tryz.prog) Tryz.f94.body = some tc_f94.er := by kernel_rfl
theorem rok_f94 : trVs Tryz.prog Tryz.f94.results.toList = some (rv_f94.map Prod.fst) := by kernel_rfl
theorem en_f94 : Entered Tryz.prog 94 := .inr ⟨by decide, _, Tryz.func94, by kernel_rfl, by kernel_rfl⟩
theorem gk_f94 : GOk Tryz.prog g_f94 := gok_of _ (by
 intro p hp
 simp only [List.mem_cons, List.not_mem_nil, or_false] at hp
 rcases hp with rfl | rfl
 ·exact ⟨en_f109, ms_f109⟩
 ·exact ⟨en_f110, ms_f110⟩)
theorem spanPut_app (l : List Keep) (s : Keep) (a b : Int) : spanPut (l ++ [s]) a b = if s.2.1 = a then l ++ [(s.1, b, ())] else (l ++ [s]) ++ [(a, b, ())] := by
 unfold spanPut
 rw [List.getLast?_concat, List.dropLast_concat]
theorem spanPut_len (l : List Keep) (a b : Int) : (spanPut l a b).length ≤ l.length + 1 := by
 rcases List.eq_nil_or_concat l with rfl | ⟨l, s, rfl⟩
 ·simp [spanPut]
 ·rw [List.concat_eq_append, spanPut_app]
  split <;> simp
theorem span_put {f : List Keep → Option (Exit × VS)} (y : List Keep) (a b : Int) (hl : y.length ≤ 500000) :
  (br (igt (llen y) 0)
   (br (cIx y (isub .i64 (llen y) 1))
    (br (cLd y (Int.toNat (isub .i64 (llen y) 1)))
     (br (ieq (((lgt tyKeep y (Int.toNat (isub .i64 (llen y) 1))).2).1) a)
      (br (cIx y (isub .i64 (llen y) 1))
       (br (cLd y (Int.toNat (isub .i64 (llen y) 1)))
        (f (List.set y (Int.toNat (isub .i64 (llen y) 1)) ((lgt tyKeep y (Int.toNat (isub .i64 (llen y) 1))).1, (b, ((lgt tyKeep y (Int.toNat (isub .i64 (llen y) 1))).2).2))))
        none) none)
      (br (cApp y [(a, (b, ()))] 16) (f (y ++ [(a, (b, ()))])) none)) none) none)
   (br (cApp y [(a, (b, ()))] 16) (f (y ++ [(a, (b, ()))])) none)) = f (spanPut y a b) := by
 have e0 : cApp y [(a, (b, ()))] 16 = true := cApp_ok (by simp; omega) (by omega)
 rw [e0]
 simp only [br_true]
 rcases List.eq_nil_or_concat y with rfl | ⟨l, s, rfl⟩
 ·rfl
 ·rw [List.concat_eq_append] at *
  have e1 : isub .i64 (llen (l ++ [s])) 1 = (l.length : Int) := by
   have : llen (l ++ [s]) = (l.length : Int) + 1 := by simp [llen]
   rw [this, isub_in (by rw [List.length_append, List.length_singleton] at hl; omega)]
   omega
  have h2 : l.length < (l ++ [s]).length := by simp
  have e2 : igt (llen (l ++ [s])) 0 = true := by simp only [igt, llen, List.length_append, List.length_singleton, decide_eq_true_eq]; omega
  have e3 : cLd (l ++ [s]) l.length = true := by simp [cLd]
  have e4 : lgt tyKeep (l ++ [s]) l.length = s := by rw [lgt_get (y := tyKeep) h2]; simp
  rw [e1, e2]
  simp only [br_true, cIx_nat, h2, decide_true, Int.toNat_natCast, e3, e4, spanPut_app, ieq_dec]
  by_cases hs : s.2.1 = a
  ·simp only [hs, decide_true, br_true, if_true]
   congr 1
   obtain ⟨s1, s2, s3⟩ := s
   simp
  ·simp [hs, br_false]
theorem l_f94_0 (x2 : Int) (x8 : (List Int)) (x17 : Int) (x18 : Int) (y3 : Policy) (y4 : Keep) (y7 : (List Keep)) (h : (decide (x17 = (x8.length : Int) - 1 ∧ 0 ≤ x18 ∧ x18 ≤ x17 ∧ x8.length ≤ 500000 ∧ (y7.length : Int) ≤ x18)) = true) : lp_f94_0 x2 x8 x17 x18 y3 y4 y7 = la_f94_0 x2 x8 x17 x18 y3 y4 y7 := by
 simp only [decide_eq_true_eq] at h
 obtain ⟨rfl, h1, h2, h3, h4⟩ := h
 obtain ⟨k, rfl⟩ := Int.eq_ofNat_of_zero_le h1
 revert y7
 refine up_ind (x8.length - 1) (fun k => ∀ y7 : List Keep, (y7.length : Int) ≤ (k : Int) → lp_f94_0 x2 x8 ((x8.length : Int) - 1) (k : Int) y3 y4 y7 = la_f94_0 x2 x8 ((x8.length : Int) - 1) (k : Int) y3 y4 y7) ?_ ?_ k (by omega)
 ·intro y7 _
  rw [ln_f94_0]
  have e1 : ilt ((x8.length - 1 : Nat) : Int) ((x8.length : Int) - 1) = false := by simp only [ilt, decide_eq_false_iff_not]; omega
  have e2 : x8.drop (x8.length - 1) = [x8[x8.length - 1]'(by omega)] := by
   rw [List.drop_eq_getElem_cons (by omega)]
   congr 1
   exact List.drop_eq_nil_of_le (by omega)
  simp only [n_f94_0, e1, br_false, la_f94_0, Int.toNat_natCast, e2, spansL, spansZ]
 ·intro k hk ih y7 hy
  rw [ln_f94_0]
  have e1 : ilt (k : Int) ((x8.length : Int) - 1) = true := by simp only [ilt, decide_eq_true_eq]; omega
  have hk1 : k < x8.length := by omega
  have hk2 : k + 1 < x8.length := by omega
  have ea : iadd .i64 (k : Int) 1 = ((k + 1 : Nat) : Int) := add1 (by omega)
  simp only [n_f94_0, n_f94_0_1, e1, ea, br_true, cIx_nat, hk1, hk2, decide_true, Int.toNat_natCast, lgt_get (y := tI) hk1, lgt_get (y := tI) hk2]
  rw [span_put (f := fun z => lp_f94_0 x2 x8 ((x8.length : Int) - 1) ((k + 1 : Nat) : Int) y3 y4 z) y7 _ _ (by omega)]
  have el : la_f94_0 x2 x8 ((x8.length : Int) - 1) (k : Int) y3 y4 y7 = la_f94_0 x2 x8 ((x8.length : Int) - 1) ((k + 1 : Nat) : Int) y3 y4 (if allF y3 y4 x2 x8[k] then spanPut y7 x8[k] x8[k + 1] else y7) := by
   simp only [la_f94_0, spansL, Int.toNat_natCast]
   rw [List.drop_eq_getElem_cons hk1, List.drop_eq_getElem_cons hk2]
   rfl
  rw [el]
  have hp := spanPut_len y7 x8[k] x8[k + 1]
  cases hc : allF y3 y4 x2 x8[k] with
  | true =>
   simp only [Bool.not_true, br_false, if_true]
   exact ih _ (by omega)
  | false =>
   simp only [Bool.not_false, br_true, Bool.false_eq_true, if_false]
   exact ih _ (by omega)
theorem lo_f94_0 : ∀ S l p, g_f94.L 0 (fgt fg_f94_0 S) = some (true, l) → pickA l = some p → loopF (roundF g_f94 fg_f94_0 tb_f94_0) S = some p :=
 lok_of (s := sh_f94_0) ⟨by decide, by decide⟩ (by kernel_rfl) fun x y hok p hp => by
 simp only [pickA_br, pickA_one] at hp
 exact (l_f94_0 x.1 x.2.2.2.2.1 x.2.2.2.2.2.1 x.2.2.2.2.2.2.1 y.1 y.2.1 y.2.2.1 (by simpa using hok)).trans hp
theorem lk_f94 : tc_f94.lok g_f94 := by
 repeat (first | exact trivial | exact lo_f94_0 | refine ⟨?_, ?_⟩)
theorem compact_le (l : List Int) : (Lib.compact l).length ≤ l.length := by
 unfold Lib.compact Lib.compactUpTo
 rw [List.length_map]
 exact Nat.le_trans (List.length_filter_le _ _) (by simp)
theorem cuts_len (rs : List Rule) : 2 ≤ (cutsP rs).length ∧ (cutsP rs).length ≤ 2 * rs.length + 2 := by
 constructor
 ·have h1 : (0 : Int) ∈ cutsP rs := mem_cutsP.2 (.inl rfl)
  have h2 : (40001 : Int) ∈ cutsP rs := mem_cutsP.2 (.inr (.inl rfl))
  match hq : cutsP rs with
  | [] => rw [hq] at h1; cases h1
  | [a] =>
   rw [hq] at h1 h2
   rw [List.mem_singleton] at h1 h2
   omega
  | _ :: _ :: _ => simp
 ·unfold cutsP
  refine Nat.le_trans (compact_le _) ?_
  have := ends_length rs
  unfold sortI
  rw [List.length_mergeSort]
  simp
  omega
theorem s_f94 (y : Policy) (u : Keep) (p : Int) (h : polLen3 y u p = true) : r_f94 y u p = some (.t (.sl tyKeep) (spansF y u p), []) := by
 have h : polLen y = true := h
 have h' := h
 simp only [polLen, lenOk5, Bool.and_eq_true, decide_eq_true_eq] at h'
 have hl : 2 ≤ (daysF y).length ∧ (daysF y).length ≤ 2 * y.1.length + 2 := cuts_len y.1
 have e1 : isub .i64 (llen (daysF y)) 1 = ((daysF y).length : Int) - 1 := isub_in (by unfold llen; omega)
 simp only [r_f94, h, br_true, e1, Int.toNat_zero, List.drop_zero]
 rw [dec_true (by simp; omega), br_true]
 rfl
def sp_f94 : Ent := spec (.pr tyPolicy (.pr tyKeep (.pr tI .nil))) (fun x => (polLen3 x.1 x.2.1 x.2.2.1)) (fun x => (.t (.sl tyKeep) (spansF x.1 x.2.1 x.2.2.1)))
theorem ms_f94 : Meets Tryz.prog 94 (strip sp_f94) := by
 obtain ⟨c, hc, hi⟩ := Option.map_eq_some_iff.1 ok_f94
 exact meets_spec (R := runF g_f94 tc_f94 rv_f94 false) (meets_of (by decide) Tryz.func94 hc hi Tryz.ntmps94 rok_f94 gk_f94 lk_f94 mixed) fun x hok => (e_f94 x.1 x.2.1 x.2.2.1).trans (s_f94 x.1 x.2.1 x.2.2.1 hok)
def SpansF (y : Policy) (u : Keep) (p : Int) : List Keep × Int := if earlyF y u p 0 = 0 then (spansF y u p, 0) else ([], earlyF y u p 0)
def tc_f81 : TC := (.sq (.reg [(oM 3 (.box (.t 0))), (oM 4 (.box (.t 1))), (oP 6 (.mv (.c (.v (.slice none 0 0))))), (oP 7 (.mv (cI 0)))]) (.sq (.sq (.reg [(oM 9 (.ld true 2 (.t 3))), (oM 10 (.ld true 2 (.t 4))), (oV 11 2), (oC 12 93 [(.t 9), (.t 10), (.t 11), (cI 0)]), (oV 8 12)]) (.sq (.reg [(oV 13 8), (oP 14 (.bin false .neq (.t 13) (cI 0)))]) (.cd (.t 14) (.sq (.reg [(oV 15 8), (oP 6 (.mv (.c (.v (.slice none 0 0))))), (oV 7 15)]) .rt) .sk))) (.sq (.reg [(oM 16 (.ld true 2 (.t 3))), (oM 17 (.ld true 2 (.t 4))), (oV 18 2), (oC 19 94 [(.t 16), (.t 17), (.t 18)]), (oV 6 19), (oP 7 (.mv (cI 0)))]) .rt)))
def rv_f81 : List (RV × Option Ty) := [((.t 6), some (.sl tyKeep)), ((.t 7), some tI)]
def g_f81 : G := ⟨TYs, [], 20, EL [(93, sp_f93), (94, sp_f94)], keeps, (fun _ _ => none), IL [], RL []⟩
def r_f81 (p0 : Policy) (p1 : Keep) (p2 : Int) : Option (V × List VO) :=
 br ((polLen4 p0 p1 p2 0))
  (br ((ine (earlyF p0 p1 p2 0) 0))
   (some (.tu [(.t (.sl tyKeep) ([] : List Keep)), (.t tI (earlyF p0 p1 p2 0))], []))
   (br ((polLen3 p0 p1 p2))
    (some (.tu [(.t (.sl tyKeep) (spansF p0 p1 p2)), (.t tI 0)], []))
    (none)))
  (none)
theorem e_f81 (p0 : Policy) (p1 : Keep) (p2 : Int) : runF g_f81 tc_f81 rv_f81 false [.t tyPolicy p0, .t tyKeep p1, .t tI p2] [] = r_f81 p0 p1 p2 := by kernel_rfl
theorem ok_f81 : Option.map (trC Tryz.prog) Tryz.f81.body = some tc_f81.er := by kernel_rfl
theorem rok_f81 : trVs Tryz.prog Tryz.f81.results.toList = some (rv_f81.map Prod.fst) := by kernel_rfl
theorem en_f81 : Entered Tryz.prog 81 := .inr ⟨by decide, _, Tryz.func81, by kernel_rfl, by kernel_rfl⟩
theorem gk_f81 : GOk Tryz.prog g_f81 := gok_of _ (by
 intro p hp
 simp only [List.mem_cons, List.not_mem_nil, or_false] at hp
 rcases hp with rfl | rfl
 ·exact ⟨en_f93, ms_f93⟩
 ·exact ⟨en_f94, ms_f94⟩)
theorem lk_f81 : tc_f81.lok g_f81 := by repeat (first | exact trivial | refine ⟨?_, ?_⟩)
theorem s_f81 (y : Policy) (u : Keep) (p : Int) (h : polLen3 y u p = true) : r_f81 y u p = some (.tu [.t (.sl tyKeep) (SpansF y u p).1, .t tI (SpansF y u p).2], []) := by
 have h4 : polLen4 y u p 0 = true := h
 simp only [r_f81, h, h4, br_true, SpansF, ine_dec]
 by_cases h0 : earlyF y u p 0 = 0 <;> simp [h0, br_true, br_false]
def sp_f81 : Ent := spec (.pr tyPolicy (.pr tyKeep (.pr tI .nil))) (fun x => (polLen3 x.1 x.2.1 x.2.2.1)) (fun x => (.tu [(.t (.sl tyKeep) ((SpansF x.1 x.2.1 x.2.2.1).1)), (.t tI ((SpansF x.1 x.2.1 x.2.2.1).2))]))
theorem ms_f81 : Meets Tryz.prog 81 (strip sp_f81) := by
 obtain ⟨c, hc, hi⟩ := Option.map_eq_some_iff.1 ok_f81
 exact meets_spec (R := runF g_f81 tc_f81 rv_f81 false) (meets_of (by decide) Tryz.func81 hc hi Tryz.ntmps81 rok_f81 gk_f81 lk_f81 mixed) fun x hok => (e_f81 x.1 x.2.1 x.2.2.1).trans (s_f81 x.1 x.2.1 x.2.2.1 hok)
def fallL (l : List Keep) : Int × Bool := match l.getLast? with
 | none => (0, true)
 | some s => if s.2.1 = 40001 then (0, false) else (s.2.1, true)
def FallsF (y : Policy) (u : Keep) (p : Int) : Int × Bool × Int := if earlyF y u p 0 = 0 then ((fallL (spansF y u p)).1, (fallL (spansF y u p)).2, 0) else (0, false, earlyF y u p 0)
def tc_f75 : TC := (.sq (.reg [(oM 3 (.box (.t 0))), (oM 4 (.box (.t 1))), (oP 6 (.mv (cI 0))), (oP 7 (.mv (cB false))), (oP 8 (.mv (cI 0)))]) (.sq (.sq (.reg [(oM 12 (.ld true 2 (.t 3))), (oM 13 (.ld true 2 (.t 4))), (oV 14 2), (oC 15 93 [(.t 12), (.t 13), (.t 14), (cI 0)]), (oV 9 15)]) (.sq (.reg [(oV 16 9), (oP 17 (.bin false .neq (.t 16) (cI 0)))]) (.cd (.t 17) (.sq (.reg [(oV 18 9), (oP 6 (.mv (cI 0))), (oP 7 (.mv (cB false))), (oV 8 18)]) .rt) .sk))) (.sq (.reg [(oM 19 (.ld true 2 (.t 3))), (oM 20 (.ld true 2 (.t 4))), (oV 21 2), (oC 22 94 [(.t 19), (.t 20), (.t 21)]), (oV 10 22)]) (.sq (.reg [(oV 23 10), (oP 24 (.len false (.t 23))), (oV 11 24)]) (.bk 0 (.sq (.reg [(oV 32 11), (oP 33 (.bin false .eql (.t 32) (cI 0))), (oV 31 33)]) (.cd (.t 31) (.sq (.reg [(oP 6 (.mv (cI 0))), (oP 7 (.mv (cB true))), (oP 8 (.mv (cI 0)))]) .rt) (.sq (.reg [(oV 35 10), (oV 36 11), (oP 37 (.bin false .sub (.t 36) (cI 1))), (oP 38 (.ix 2 (.t 35) (.t 37))), (oP 39 (.fa 1 (.t 38))), (oL 40 39), (oP 41 (.bin false .eql (.t 40) (cI 40001))), (oV 34 41)]) (.cd (.t 34) (.sq (.reg [(oP 6 (.mv (cI 0))), (oP 7 (.mv (cB false))), (oP 8 (.mv (cI 0)))]) .rt) (.sq (.reg [(oV 25 10), (oV 26 11), (oP 27 (.bin false .sub (.t 26) (cI 1))), (oP 28 (.ix 2 (.t 25) (.t 27))), (oP 29 (.fa 1 (.t 28))), (oL 30 29), (oV 6 30), (oP 7 (.mv (cB true))), (oP 8 (.mv (cI 0)))]) .rt))))))))))
def rv_f75 : List (RV × Option Ty) := [((.t 6), some tI), ((.t 7), some .bool), ((.t 8), some tI)]
def g_f75 : G := ⟨TYs, [], 42, EL [(93, sp_f93), (94, sp_f94)], keeps, (fun _ _ => none), IL [], RL []⟩
def r_f75 (p0 : Policy) (p1 : Keep) (p2 : Int) : Option (V × List VO) :=
 br ((polLen4 p0 p1 p2 0))
  (br ((ine (earlyF p0 p1 p2 0) 0))
   (some (.tu [(.t tI 0), (.t .bool false), (.t tI (earlyF p0 p1 p2 0))], []))
   (br ((polLen3 p0 p1 p2))
    (br ((ieq (llen (spansF p0 p1 p2)) 0))
     (some (.tu [(.t tI 0), (.t .bool true), (.t tI 0)], []))
     (br (cIx (spansF p0 p1 p2) (isub .i64 (llen (spansF p0 p1 p2)) 1))
      (br ((ieq (((lgt tyKeep (spansF p0 p1 p2) (Int.toNat (isub .i64 (llen (spansF p0 p1 p2)) 1))).2).1) 40001))
       (some (.tu [(.t tI 0), (.t .bool false), (.t tI 0)], []))
       (br (cIx (spansF p0 p1 p2) (isub .i64 (llen (spansF p0 p1 p2)) 1))
        (some (.tu [(.t tI (((lgt tyKeep (spansF p0 p1 p2) (Int.toNat (isub .i64 (llen (spansF p0 p1 p2)) 1))).2).1)), (.t .bool true), (.t tI 0)], []))
        (none)))
      (none)))
    (none)))
  (none)
theorem e_f75 (p0 : Policy) (p1 : Keep) (p2 : Int) : runF g_f75 tc_f75 rv_f75 false [.t tyPolicy p0, .t tyKeep p1, .t tI p2] [] = r_f75 p0 p1 p2 := by kernel_rfl
theorem ok_f75 : Option.map (trC Tryz.prog) Tryz.f75.body = some tc_f75.er := by kernel_rfl
theorem rok_f75 : trVs Tryz.prog Tryz.f75.results.toList = some (rv_f75.map Prod.fst) := by kernel_rfl
theorem en_f75 : Entered Tryz.prog 75 := .inr ⟨by decide, _, Tryz.func75, by kernel_rfl, by kernel_rfl⟩
theorem gk_f75 : GOk Tryz.prog g_f75 := gok_of _ (by
 intro p hp
 simp only [List.mem_cons, List.not_mem_nil, or_false] at hp
 rcases hp with rfl | rfl
 ·exact ⟨en_f93, ms_f93⟩
 ·exact ⟨en_f94, ms_f94⟩)
theorem lk_f75 : tc_f75.lok g_f75 := by repeat (first | exact trivial | refine ⟨?_, ?_⟩)
theorem spansZ_len {f : Int → Bool} : ∀ (l : List Int) (out : List Keep), (spansZ f l out).length ≤ out.length + l.length
 | [], out => by simp [spansZ]
 | [a], out => by simp [spansZ]
 | a :: b :: r, out => by
  have h := spansZ_len (f := f) (b :: r) (if f a then spanPut out a b else out)
  have h2 := spanPut_len out a b
  simp only [spansZ, List.length_cons] at h ⊢
  split at h <;> simp_all <;> omega
theorem spans_len (y : Policy) (u : Keep) (p : Int) : (spansF y u p).length ≤ 2 * y.1.length + 2 := by
 have := spansZ_len (f := allF y u p) (cutsP y.1) []
 have := cuts_len y.1
 unfold spansF
 simp at *
 omega
theorem s_f75 (y : Policy) (u : Keep) (p : Int) (h : polLen3 y u p = true) : r_f75 y u p = some (.tu [.t tI (FallsF y u p).1, .t .bool (FallsF y u p).2.1, .t tI (FallsF y u p).2.2], []) := by
 have h4 : polLen4 y u p 0 = true := h
 have h5 : polLen y = true := h
 simp only [polLen, lenOk5, Bool.and_eq_true, decide_eq_true_eq] at h5
 have hl := spans_len y u p
 simp only [r_f75, h, h4, br_true, FallsF, ine_dec, fallL]
 by_cases h0 : earlyF y u p 0 = 0
 ·simp only [h0, ne_eq, not_true_eq_false, decide_false, br_false, if_true]
  generalize spansF y u p = z at *
  rcases List.eq_nil_or_concat z with rfl | ⟨l, s, rfl⟩
  ·rfl
  ·rw [List.concat_eq_append] at *
   have e1 : isub .i64 (llen (l ++ [s])) 1 = (l.length : Int) := by
    have : llen (l ++ [s]) = (l.length : Int) + 1 := by simp [llen]
    rw [this, isub_in (by rw [List.length_append, List.length_singleton] at hl; omega)]
    omega
   have h2 : l.length < (l ++ [s]).length := by simp
   have e2 : ieq (llen (l ++ [s])) 0 = false := by simp only [ieq_dec, llen, List.length_append, List.length_singleton, decide_eq_false_iff_not]; omega
   have e4 : lgt tyKeep (l ++ [s]) l.length = s := by rw [lgt_get (y := tyKeep) h2]; simp
   rw [e1, e2, List.getLast?_concat]
   simp only [br_false, cIx_nat, h2, decide_true, br_true, Int.toNat_natCast, e4, ieq_dec]
   by_cases hs : s.2.1 = 40001 <;> simp [hs, br_true, br_false]
 ·simp [h0, br_true]
def sp_f75 : Ent := spec (.pr tyPolicy (.pr tyKeep (.pr tI .nil))) (fun x => (polLen3 x.1 x.2.1 x.2.2.1)) (fun x => (.tu [(.t tI ((FallsF x.1 x.2.1 x.2.2.1).1)), (.t .bool (((FallsF x.1 x.2.1 x.2.2.1).2).1)), (.t tI (((FallsF x.1 x.2.1 x.2.2.1).2).2))]))
theorem ms_f75 : Meets Tryz.prog 75 (strip sp_f75) := by
 obtain ⟨c, hc, hi⟩ := Option.map_eq_some_iff.1 ok_f75
 exact meets_spec (R := runF g_f75 tc_f75 rv_f75 false) (meets_of (by decide) Tryz.func75 hc hi Tryz.ntmps75 rok_f75 gk_f75 lk_f75 mixed) fun x hok => (e_f75 x.1 x.2.1 x.2.2.1).trans (s_f75 x.1 x.2.1 x.2.2.1 hok)
end Go.Proofs.YtfehjdaielifiaaGreat.K
