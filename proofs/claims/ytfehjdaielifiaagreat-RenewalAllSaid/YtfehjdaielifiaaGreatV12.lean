/-
 The answer of verdict: Spans, Falls; lists.
-/
import Derived.Test.YtfehjdaielifiaaGreatV11
import Derived.Test.YtfehjdaielifiaaGreatP19
set_option linter.unusedSimpArgs false
set_option linter.unusedVariables false
namespace Go.Proofs.YtfehjdaielifiaaGreat.K
open Go.RowKit
def dr_f68_0 : List DO := [(.mk (oM 29 (.ld true 2 (.t 3))) []), (.mk (oM 30 (.ld true 2 (.t 4))) []), (.mk (oV 31 2) []), (.mk (oV 32 9) []), (.mk (oV 33 11) []), (.mk (oP 34 (.ix 1 (.t 32) (.t 33))) [3, 4]), (.mk (oL 35 34) [5]), (.mk (oC 36 65 [(.t 29), (.t 30), (.t 31), (.t 35)]) [0, 1, 2, 6]), (.mk (oP 37 (.nt (.t 36))) [7])]
def dr_f68_1 : List DO := [(.mk (oV 40 12) []), (.mk (oP 41 (.bin false .gtr (.t 40) (cI 0))) [0]), (.mk (oV 42 41) [1]), (.mk (oQ 43 42 true (.mv (.t 10))) [2]), (.mk (oQ 44 42 true (.mv (.t 12))) [2]), (.mk (oQ 45 42 true (.bin false .sub (.t 44) (cI 1))) [4, 2]), (.mk (oQ 46 42 true (.ix 2 (.t 43) (.t 45))) [3, 5, 2]), (.mk (oQ 47 42 true (.fa 1 (.t 46))) [6, 2]), (.mk (oG 48 42 true (.m (.ld false 1 (.t 47)))) [7, 2]), (.mk (oQ 49 42 true (.mv (.t 9))) [2]), (.mk (oQ 50 42 true (.mv (.t 11))) [2]), (.mk (oQ 51 42 true (.ix 1 (.t 49) (.t 50))) [9, 10, 2]), (.mk (oG 52 42 true (.m (.ld false 1 (.t 51)))) [11, 2]), (.mk (oQ 53 42 true (.bin false .eql (.t 48) (.t 52))) [8, 12, 2]), (.mk (oP 54 (.pick (.t 42) (.t 53) (cB false))) [2, 13])]
def dr_f68_2 : List DO := [(.mk (oV 65 10) []), (.mk (oV 66 9) []), (.mk (oV 67 11) []), (.mk (oP 68 (.ix 1 (.t 66) (.t 67))) [1, 2]), (.mk (oL 69 68) [3]), (.mk (oV 70 9) []), (.mk (oV 71 11) []), (.mk (oP 72 (.bin false .add (.t 71) (cI 1))) [6]), (.mk (oP 73 (.ix 1 (.t 70) (.t 72))) [5, 7]), (.mk (oL 74 73) [8]), (.mk (oP 75 (.bd [(.v (.int .i64 0)), (.v (.int .i64 0))] [(0, 1, (.t 69)), (1, 1, (.t 74))])) [4, 9]), (.mk (oM 76 (.bs 109 2 1 [(.v (.int .i64 0)), (.v (.int .i64 0))] [(0, 2, (.t 75))])) [10]), (.mk (oM 77 (.app 109 2 16 (.t 65) (.t 76))) [0, 11]), (.mk (oV 10 77) [12, 12, 0, 1, 2, 3, 4, 5, 6, 7, 8, 9, 10, 11, 12])]
def fg_f68_0 : Fg := ⟨[(2, some tI), (3, none), (4, none), (9, some (.sl tI)), (10, none), (11, some tI)], [(3, some tyPolicy), (4, some tyKeep), (10, none), (77, none)]⟩
def tb_f68_0 : TC := (.sq (.sq (.reg [(oV 22 11), (oP 23 (.bin false .add (.t 22) (cI 1))), (oV 24 9), (oP 25 (.len false (.t 24))), (oP 26 (.bin false .lss (.t 23) (.t 25)))]) (.cd (.t 26) .sk (.fg ⟨[(10, none)], [(10, none), (77, none)]⟩ (.ex 0)))) (.sq (.bk 1 (.sq (.sq (.dr dr_f68_0 [(0, [3]), (1, [4]), (2, []), (3, []), (4, []), (5, []), (6, []), (7, []), (8, [])] (.of [0, 1, 2, 3, 4, 5, 6, 7, 8])) (.cd (.t 37) (.fg ⟨[(2, some tI), (3, none), (4, none), (9, some (.sl tI)), (10, none), (11, some tI)], [(3, some tyPolicy), (4, some tyKeep), (10, none), (77, none)]⟩ (.ex 1)) .sk)) (.sq (.reg [(oV 38 10), (oP 39 (.len false (.t 38))), (oV 12 39)]) (.sq (.dr dr_f68_1 [(0, []), (1, []), (2, []), (3, [10, 77]), (4, []), (5, []), (6, [10, 77]), (7, [10, 77]), (8, [10, 77]), (9, []), (10, []), (11, []), (12, []), (13, []), (14, [])] (.of [0, 1, 2, 3, 4, 5, 6, 7, 8, 9, 10, 11, 12, 13, 14])) (.cd (.t 54) (.reg [(oV 55 10), (oV 56 12), (oP 57 (.bin false .sub (.t 56) (cI 1))), (oV 58 9), (oV 59 11), (oP 60 (.bin false .add (.t 59) (cI 1))), (oP 61 (.ix 1 (.t 58) (.t 60))), (oL 62 61), (oP 63 (.ix 2 (.t 55) (.t 57))), (oP 64 (.fa 1 (.t 63))), (.mk none none (.m (.st 1 (.t 64) (.t 62))))]) (.dr dr_f68_2 [(0, [10, 77]), (1, []), (2, []), (3, []), (4, []), (5, []), (6, []), (7, []), (8, []), (9, []), (10, []), (11, []), (12, [10, 77, 5077, 10077, 15077]), (13, [10, 77])] (.of [0, 1, 2, 3, 4, 5, 6, 7, 8, 9, 10, 11, 12, 13]))))))) (.reg [(oV 27 11), (oP 28 (.bin false .add (.t 27) (cI 1))), (oV 11 28)])))
def tc_f68 : TC := (.sq (.reg [(oM 3 (.box (.t 0))), (oM 4 (.box (.t 1))), (oP 6 (.mv (.c (.v (.slice none 0 0))))), (oP 7 (.mv (cI 0)))]) (.sq (.sq (.reg [(oM 13 (.ld true 2 (.t 3))), (oM 14 (.ld true 2 (.t 4))), (oV 15 2), (oC 16 64 [(.t 13), (.t 14), (.t 15)]), (oV 8 16)]) (.sq (.reg [(oV 17 8), (oP 18 (.bin false .neq (.t 17) (cI 0)))]) (.cd (.t 18) (.sq (.reg [(oV 19 8), (oP 6 (.mv (.c (.v (.slice none 0 0))))), (oV 7 19)]) .rt) .sk))) (.sq (.reg [(oM 20 (.ld true 2 (.t 3))), (oC 21 90 [(.t 20)]), (oV 9 21)]) (.sq (.reg [(oP 10 (.mv (.c (.v (.slice none 0 0)))))]) (.sq (.sq (.reg [(oP 11 (.mv (cI 0)))]) (.bk 0 (.nw 10 109 (.lp 0 fg_f68_0 tb_f68_0)))) (.sq (.reg [(oV 78 10), (oV 6 78), (oP 7 (.mv (cI 0)))]) .rt))))))
def rv_f68 : List (RV × Option Ty) := [((.t 6), some (.sl tyKeep)), ((.t 7), some tI)]
abbrev sh_f68_0 : Sh := ⟨[(2, .ty tI), (3, .ptr 3 0), (4, .ptr 4 0), (9, .ty (.sl tI)), (10, .ms 10), (11, .ty tI)], [(3, .box tyPolicy), (4, .box tyKeep), (10, .arr 109 tyKeep), (77, .no)]⟩
def st_f68_0 (x2 : Int) (x9 : (List Int)) (x11 : Int) (y3 : Policy) (y4 : Keep) (y10 : (List Keep)) : VS := sh_f68_0.st (x2, (), (), x9, (), x11, ()) (y3, y4, y10, (), ())
abbrev sh_f68_0_e0 : Sh := ⟨[(10, .ms 10)], [(10, .arr 109 tyKeep), (77, .no)]⟩
def st_f68_0_e0 (y10 : (List Keep)) : VS := sh_f68_0_e0.st ((), ()) (y10, (), ())
-- loop 0: (x2 : Int) (x9 : (List Int)) (x11 : Int) (y3 : Policy) (y4 : Keep) (y10 : (List Keep)); out: ('exit', 0) (y10 : (List Keep))
def L_f68_0 : VS → Option (Bool × List (Bool × Exit × VS)) := mkL sh_f68_0 (fun x y => (decide (0 ≤ x.2.2.2.2.2.1 ∧ x.2.2.2.2.2.1 + 1 ≤ x.2.2.2.1.length ∧ x.2.2.2.1.length ≤ 500000 ∧ y.1.1.length ≤ 100000 ∧ (y.2.2.1.length : Int) ≤ x.2.2.2.2.2.1))) (fun x y => [(true, .exit 0, st_f68_0_e0 (spansL y.1 y.2.1 x.1 (x.2.2.2.1.drop x.2.2.2.2.2.1.toNat) y.2.2.1))])
def g_f68 : G := ⟨TYs, [], 79, EL [(64, sp_f64), (65, sp_f65), (90, sp_f90)], keeps, (Ls [L_f68_0]), IL [], RL []⟩
def b_f68_0_1 (x2 : Int) (x9 : (List Int)) (x11 : Int) (y3 : Policy) (y4 : Keep) (y10 : (List Keep)) : Option (Exit × VS) :=
 br (cIx x9 x11)
  (br (cIx x9 (iadd .i64 x11 1))
   (br (cApp y10 ([((lgt tI x9 (Int.toNat x11)), ((lgt tI x9 (Int.toNat (iadd .i64 x11 1))), ()))]) 16)
    (some (.normal, st_f68_0 x2 x9 (iadd .i64 x11 1) y3 y4 (y10 ++ ([((lgt tI x9 (Int.toNat x11)), ((lgt tI x9 (Int.toNat (iadd .i64 x11 1))), ()))]))))
    (none))
   (none))
  (none)
def b_f68_0 (x2 : Int) (x9 : (List Int)) (x11 : Int) (y3 : Policy) (y4 : Keep) (y10 : (List Keep)) : Option (Exit × VS) :=
 br ((ilt (iadd .i64 x11 1) (llen x9)))
  (br (cIx x9 x11)
   (br ((polLen5 y3 y4 x2 (lgt tI x9 (Int.toNat x11))))
    (br ((!(allF y3 y4 x2 (lgt tI x9 (Int.toNat x11)))))
     (some (.normal, st_f68_0 x2 x9 (iadd .i64 x11 1) y3 y4 y10))
     (br ((igt (llen y10) 0))
      (br (cIx y10 (isub .i64 (llen y10) 1))
       (br (cLd y10 (Int.toNat (isub .i64 (llen y10) 1)))
        (br (cIx x9 x11)
         (br ((ieq (((lgt tyKeep y10 (Int.toNat (isub .i64 (llen y10) 1))).2).1) (lgt tI x9 (Int.toNat x11))))
          (br (cIx x9 (iadd .i64 x11 1))
           (br (cIx y10 (isub .i64 (llen y10) 1))
            (br (cLd y10 (Int.toNat (isub .i64 (llen y10) 1)))
             (some (.normal, st_f68_0 x2 x9 (iadd .i64 x11 1) y3 y4 (List.set y10 (Int.toNat (isub .i64 (llen y10) 1)) ((lgt tyKeep y10 (Int.toNat (isub .i64 (llen y10) 1))).1, ((lgt tI x9 (Int.toNat (iadd .i64 x11 1))), ((lgt tyKeep y10 (Int.toNat (isub .i64 (llen y10) 1))).2).2)))))
             (none))
            (none))
           (none))
          (b_f68_0_1 x2 x9 x11 y3 y4 y10))
         (none))
        (none))
       (none))
      (b_f68_0_1 x2 x9 x11 y3 y4 y10)))
    (none))
   (none))
  (some (.exit 0, st_f68_0_e0 y10))
noncomputable def lp_f68_0 (x2 : Int) (x9 : (List Int)) (x11 : Int) (y3 : Policy) (y4 : Keep) (y10 : (List Keep)) : Option (Exit × VS) := loopF (roundF g_f68 fg_f68_0 tb_f68_0) (st_f68_0 x2 x9 x11 y3 y4 y10)
noncomputable def n_f68_0_1 (x2 : Int) (x9 : (List Int)) (x11 : Int) (y3 : Policy) (y4 : Keep) (y10 : (List Keep)) : Option (Exit × VS) :=
 br (cIx x9 x11)
  (br (cIx x9 (iadd .i64 x11 1))
   (br (cApp y10 ([((lgt tI x9 (Int.toNat x11)), ((lgt tI x9 (Int.toNat (iadd .i64 x11 1))), ()))]) 16)
    (lp_f68_0 x2 x9 (iadd .i64 x11 1) y3 y4 (y10 ++ ([((lgt tI x9 (Int.toNat x11)), ((lgt tI x9 (Int.toNat (iadd .i64 x11 1))), ()))])))
    (none))
   (none))
  (none)
noncomputable def n_f68_0 (x2 : Int) (x9 : (List Int)) (x11 : Int) (y3 : Policy) (y4 : Keep) (y10 : (List Keep)) : Option (Exit × VS) :=
 br ((ilt (iadd .i64 x11 1) (llen x9)))
  (br (cIx x9 x11)
   (br ((polLen5 y3 y4 x2 (lgt tI x9 (Int.toNat x11))))
    (br ((!(allF y3 y4 x2 (lgt tI x9 (Int.toNat x11)))))
     (lp_f68_0 x2 x9 (iadd .i64 x11 1) y3 y4 y10)
     (br ((igt (llen y10) 0))
      (br (cIx y10 (isub .i64 (llen y10) 1))
       (br (cLd y10 (Int.toNat (isub .i64 (llen y10) 1)))
        (br (cIx x9 x11)
         (br ((ieq (((lgt tyKeep y10 (Int.toNat (isub .i64 (llen y10) 1))).2).1) (lgt tI x9 (Int.toNat x11))))
          (br (cIx x9 (iadd .i64 x11 1))
           (br (cIx y10 (isub .i64 (llen y10) 1))
            (br (cLd y10 (Int.toNat (isub .i64 (llen y10) 1)))
             (lp_f68_0 x2 x9 (iadd .i64 x11 1) y3 y4 (List.set y10 (Int.toNat (isub .i64 (llen y10) 1)) ((lgt tyKeep y10 (Int.toNat (isub .i64 (llen y10) 1))).1, ((lgt tI x9 (Int.toNat (iadd .i64 x11 1))), ((lgt tyKeep y10 (Int.toNat (isub .i64 (llen y10) 1))).2).2))))
             (none))
            (none))
           (none))
          (n_f68_0_1 x2 x9 x11 y3 y4 y10))
         (none))
        (none))
       (none))
      (n_f68_0_1 x2 x9 x11 y3 y4 y10)))
    (none))
   (none))
  (some (.exit 0, st_f68_0_e0 y10))
def la_f68_0 (x2 : Int) (x9 : (List Int)) (x11 : Int) (y3 : Policy) (y4 : Keep) (y10 : (List Keep)) : Option (Exit × VS) := some (.exit 0, st_f68_0_e0 (spansL y3 y4 x2 (x9.drop x11.toNat) y10))
theorem be_f68_0 (x2 : Int) (x9 : (List Int)) (x11 : Int) (y3 : Policy) (y4 : Keep) (y10 : (List Keep)) : roundF g_f68 fg_f68_0 tb_f68_0 (st_f68_0 x2 x9 x11 y3 y4 y10) = b_f68_0 x2 x9 x11 y3 y4 y10 := by kernel_rfl
theorem ln_f68_0 (x2 : Int) (x9 : (List Int)) (x11 : Int) (y3 : Policy) (y4 : Keep) (y10 : (List Keep)) : lp_f68_0 x2 x9 x11 y3 y4 y10 = n_f68_0 x2 x9 x11 y3 y4 y10 := (loopF_nxt _ _).trans (by
 rw [be_f68_0]
 simp only [b_f68_0, b_f68_0_1, n_f68_0, n_f68_0_1, nxt_br, nxt_n, nxt_r, nxt_e, nxt_0]
 rfl)
def r_f68 (p0 : Policy) (p1 : Keep) (p2 : Int) : Option (V × List VO) :=
 br ((polLen3 p0 p1 p2))
  (br ((ine (chk3 p0 p1 p2) 0))
   (some (.tu [(.t (.sl tyKeep) ([] : List Keep)), (.t tI (chk3 p0 p1 p2))], []))
   (br ((polLen p0))
    (br ((decide (0 ≤ (0 : Int) ∧ (0 : Int) + 1 ≤ (daysF p0).length ∧ (daysF p0).length ≤ 500000 ∧ p0.1.length ≤ 100000 ∧ (([] : List Keep).length : Int) ≤ (0 : Int))))
     (some (.tu [(.t (.sl tyKeep) (spansL p0 p1 p2 ((daysF p0).drop (0 : Int).toNat) ([] : List Keep))), (.t tI 0)], []))
     (none))
    (none)))
  (none)
theorem e_f68 (p0 : Policy) (p1 : Keep) (p2 : Int) : runF g_f68 tc_f68 rv_f68 false [.t tyPolicy p0, .t tyKeep p1, .t tI p2] [] = r_f68 p0 p1 p2 := by kernel_rfl
theorem ok_f68 : Option.map (trC Tryz.prog) Tryz.f68.body = some tc_f68.er := by kernel_rfl
theorem rok_f68 : trVs Tryz.prog Tryz.f68.results.toList = some (rv_f68.map Prod.fst) := by kernel_rfl
theorem en_f68 : Entered Tryz.prog 68 := .inr ⟨by decide, _, Tryz.func68, by kernel_rfl, by kernel_rfl⟩
theorem gk_f68 : GOk Tryz.prog g_f68 := gok_of _ (by
 intro p hp
 simp only [List.mem_cons, List.not_mem_nil, or_false] at hp
 rcases hp with rfl | rfl | rfl
 ·exact ⟨en_f64, ms_f64⟩
 ·exact ⟨en_f65, ms_f65⟩
 ·exact ⟨en_f90, ms_f90⟩)
theorem l_f68_0 (x2 : Int) (x9 : (List Int)) (x11 : Int) (y3 : Policy) (y4 : Keep) (y10 : (List Keep)) (h : (decide (0 ≤ x11 ∧ x11 + 1 ≤ x9.length ∧ x9.length ≤ 500000 ∧ y3.1.length ≤ 100000 ∧ (y10.length : Int) ≤ x11)) = true) : lp_f68_0 x2 x9 x11 y3 y4 y10 = la_f68_0 x2 x9 x11 y3 y4 y10 := by
 simp only [decide_eq_true_eq] at h
 obtain ⟨h1, h2, h3, h5, h4⟩ := h
 obtain ⟨k, rfl⟩ := Int.eq_ofNat_of_zero_le h1
 revert y10
 refine up_ind (x9.length - 1) (fun k => ∀ y10 : List Keep, (y10.length : Int) ≤ (k : Int) → lp_f68_0 x2 x9 (k : Int) y3 y4 y10 = la_f68_0 x2 x9 (k : Int) y3 y4 y10) ?_ ?_ k (by omega)
 ·intro y7 _
  rw [ln_f68_0]
  have e0 : iadd .i64 ((x9.length - 1 : Nat) : Int) 1 = ((x9.length - 1 + 1 : Nat) : Int) := add1 (by omega)
  have e1 : ilt (iadd .i64 ((x9.length - 1 : Nat) : Int) 1) (llen x9) = false := by rw [e0]; simp only [ilt, llen, decide_eq_false_iff_not]; omega
  have e2 : x9.drop (x9.length - 1) = [x9[x9.length - 1]'(by omega)] := by
   rw [List.drop_eq_getElem_cons (by omega)]
   congr 1
   exact List.drop_eq_nil_of_le (by omega)
  simp only [n_f68_0, e1, br_false, la_f68_0, Int.toNat_natCast, e2, spansL, spansZ]
 ·intro k hk ih y7 hy
  rw [ln_f68_0]
  have hk1 : k < x9.length := by omega
  have hk2 : k + 1 < x9.length := by omega
  have ea : iadd .i64 (k : Int) 1 = ((k + 1 : Nat) : Int) := add1 (by omega)
  have ep : ∀ d, polLen5 y3 y4 x2 d = true := fun d => by simp only [polLen5, lenOk5, decide_eq_true_eq]; exact h5
  simp only [n_f68_0, n_f68_0_1, ea, llen, ilt_nat, br_true, cIx_nat, hk1, hk2, decide_true, Int.toNat_natCast, lgt_get (y := tI) hk1, lgt_get (y := tI) hk2, ep]
  have hs := span_put (f := fun z => lp_f68_0 x2 x9 ((k + 1 : Nat) : Int) y3 y4 z) y7 x9[k] x9[k + 1] (by omega)
  simp only [llen] at hs
  rw [hs]
  have el : la_f68_0 x2 x9 (k : Int) y3 y4 y7 = la_f68_0 x2 x9 ((k + 1 : Nat) : Int) y3 y4 (if allF y3 y4 x2 x9[k] then spanPut y7 x9[k] x9[k + 1] else y7) := by
   simp only [la_f68_0, spansL, Int.toNat_natCast]
   rw [List.drop_eq_getElem_cons hk1, List.drop_eq_getElem_cons hk2]
   rfl
  rw [el]
  have hp := spanPut_len y7 x9[k] x9[k + 1]
  cases hc : allF y3 y4 x2 x9[k] with
  | true =>
   simp only [Bool.not_true, br_false, if_true]
   exact ih _ (by omega)
  | false =>
   simp only [Bool.not_false, br_true, Bool.false_eq_true, if_false]
   exact ih _ (by omega)
theorem lo_f68_0 : ∀ S l p, g_f68.L 0 (fgt fg_f68_0 S) = some (true, l) → pickA l = some p → loopF (roundF g_f68 fg_f68_0 tb_f68_0) S = some p :=
 lok_of (s := sh_f68_0) ⟨by decide, by decide⟩ (by kernel_rfl) fun x y hok p hp => by
 simp only [pickA_br, pickA_one] at hp
 exact (l_f68_0 x.1 x.2.2.2.1 x.2.2.2.2.2.1 y.1 y.2.1 y.2.2.1 (by simpa using hok)).trans hp
theorem lk_f68 : tc_f68.lok g_f68 := by
 repeat (first | exact trivial | exact lo_f68_0 | refine ⟨?_, ?_⟩)
theorem s_f68 (y : Policy) (u : Keep) (p : Int) (h : polLen3 y u p = true) : r_f68 y u p = some (.tu [.t (.sl tyKeep) (SpansF y u p).1, .t tI (SpansF y u p).2], []) := by
 have h' : polLen y = true := h
 have h2 := h'
 simp only [polLen, lenOk5, Bool.and_eq_true, decide_eq_true_eq] at h2
 have hl : 2 ≤ (daysF y).length ∧ (daysF y).length ≤ 2 * y.1.length + 2 := cuts_len y.1
 simp only [r_f68, h, h', br_true, SpansF, ine_dec, chk3, Int.toNat_zero, List.drop_zero]
 by_cases h0 : earlyF y u p 0 = 0
 ·simp only [h0, ne_eq, not_true_eq_false, decide_false, br_false, if_true]
  rw [dec_true ⟨Int.le_refl 0, by omega, by omega, h2.1, by simp⟩, br_true]
  rfl
 ·simp [h0, br_true]
def sp_f68 : Ent := spec (.pr tyPolicy (.pr tyKeep (.pr tI .nil))) (fun x => (polLen3 x.1 x.2.1 x.2.2.1)) (fun x => (.tu [(.t (.sl tyKeep) ((SpansF x.1 x.2.1 x.2.2.1).1)), (.t tI ((SpansF x.1 x.2.1 x.2.2.1).2))]))
theorem ms_f68 : Meets Tryz.prog 68 (strip sp_f68) := by
 obtain ⟨c, hc, hi⟩ := Option.map_eq_some_iff.1 ok_f68
 exact meets_spec (R := runF g_f68 tc_f68 rv_f68 false) (meets_of (by decide) Tryz.func68 hc hi Tryz.ntmps68 rok_f68 gk_f68 lk_f68 mixed) fun x hok => (e_f68 x.1 x.2.1 x.2.2.1).trans (s_f68 x.1 x.2.1 x.2.2.1 hok)
def tc_f39 : TC := (.sq (.reg [(oM 3 (.box (.t 0))), (oM 4 (.box (.t 1))), (oP 6 (.mv (cI 0))), (oP 7 (.mv (cB false))), (oP 8 (.mv (cI 0)))]) (.sq (.reg [(oM 13 (.ld true 2 (.t 3))), (oM 14 (.ld true 2 (.t 4))), (oV 15 2), (oC 16 68 [(.t 13), (.t 14), (.t 15)]), (oV 12 16), (oP 17 (.ext 0 (.t 12))), (oP 18 (.ext 1 (.t 12))), (oV 9 17), (oV 10 18)]) (.sq (.sq (.reg [(oV 19 10), (oP 20 (.bin false .neq (.t 19) (cI 0)))]) (.cd (.t 20) (.sq (.reg [(oV 21 10), (oP 6 (.mv (cI 0))), (oP 7 (.mv (cB false))), (oV 8 21)]) .rt) .sk)) (.sq (.sq (.reg [(oV 22 9), (oP 23 (.len false (.t 22))), (oP 24 (.bin false .eql (.t 23) (cI 0)))]) (.cd (.t 24) (.sq (.reg [(oP 6 (.mv (cI 0))), (oP 7 (.mv (cB true))), (oP 8 (.mv (cI 0)))]) .rt) .sk)) (.sq (.sq (.reg [(oV 25 9), (oV 26 9), (oP 27 (.len false (.t 26))), (oP 28 (.bin false .sub (.t 27) (cI 1))), (oP 29 (.ix 2 (.t 25) (.t 28))), (oP 30 (.fa 1 (.t 29))), (oL 31 30), (oV 11 31)]) (.sq (.reg [(oV 32 11), (oP 33 (.bin false .leq (.t 32) (cI 40000)))]) (.cd (.t 33) (.sq (.reg [(oV 34 11), (oV 6 34), (oP 7 (.mv (cB true))), (oP 8 (.mv (cI 0)))]) .rt) .sk))) (.sq (.reg [(oP 6 (.mv (cI 0))), (oP 7 (.mv (cB false))), (oP 8 (.mv (cI 0)))]) .rt))))))
def rv_f39 : List (RV × Option Ty) := [((.t 6), some tI), ((.t 7), some .bool), ((.t 8), some tI)]
def g_f39 : G := ⟨TYs, [], 35, EL [(68, sp_f68)], keeps, (fun _ _ => none), IL [], RL []⟩
def r_f39 (p0 : Policy) (p1 : Keep) (p2 : Int) : Option (V × List VO) :=
 br ((polLen3 p0 p1 p2))
  (br ((ine ((SpansF p0 p1 p2).2) 0))
   (some (.tu [(.t tI 0), (.t .bool false), (.t tI ((SpansF p0 p1 p2).2))], []))
   (br ((ieq (llen ((SpansF p0 p1 p2).1)) 0))
    (some (.tu [(.t tI 0), (.t .bool true), (.t tI 0)], []))
    (br (cIx ((SpansF p0 p1 p2).1) (isub .i64 (llen ((SpansF p0 p1 p2).1)) 1))
     (br ((ile (((lgt tyKeep ((SpansF p0 p1 p2).1) (Int.toNat (isub .i64 (llen ((SpansF p0 p1 p2).1)) 1))).2).1) 40000))
      (some (.tu [(.t tI (((lgt tyKeep ((SpansF p0 p1 p2).1) (Int.toNat (isub .i64 (llen ((SpansF p0 p1 p2).1)) 1))).2).1)), (.t .bool true), (.t tI 0)], []))
      (some (.tu [(.t tI 0), (.t .bool false), (.t tI 0)], [])))
     (none))))
  (none)
theorem e_f39 (p0 : Policy) (p1 : Keep) (p2 : Int) : runF g_f39 tc_f39 rv_f39 false [.t tyPolicy p0, .t tyKeep p1, .t tI p2] [] = r_f39 p0 p1 p2 := by kernel_rfl
theorem ok_f39 : Option.map (trC Tryz.prog) Tryz.f39.body = some tc_f39.er := by kernel_rfl
theorem rok_f39 : trVs Tryz.prog Tryz.f39.results.toList = some (rv_f39.map Prod.fst) := by kernel_rfl
theorem en_f39 : Entered Tryz.prog 39 := .inr ⟨by decide, _, Tryz.func39, by kernel_rfl, by kernel_rfl⟩
theorem gk_f39 : GOk Tryz.prog g_f39 := gok_of _ (by
 intro p hp
 simp only [List.mem_cons, List.not_mem_nil, or_false] at hp
 rcases hp with rfl
 ·exact ⟨en_f68, ms_f68⟩)
theorem lk_f39 : tc_f39.lok g_f39 := by repeat (first | exact trivial | refine ⟨?_, ?_⟩)
theorem early_pol {y : Policy} {u : Keep} {p d : Int} (h : earlyF y u p d = 0) : polOk y = true ∧ validF u = true ∧ 1 ≤ p ∧ p ≤ 4 ∧ 0 ≤ d ∧ d ≤ 40000 := by
 unfold earlyF at h
 split at h
 ·cases h
 ·split at h
  ·cases h
  ·split at h
   ·cases h
   ·rename_i h1 h2 h3
    refine ⟨by simpa using h1, by simpa using h2, ?_⟩
    omega
theorem s_f39 (y : Policy) (u : Keep) (p : Int) (h : polLen3 y u p = true) : r_f39 y u p = some (.tu [.t tI (FallsF y u p).1, .t .bool (FallsF y u p).2.1, .t tI (FallsF y u p).2.2], []) := by
 have h5 : polLen y = true := h
 simp only [polLen, lenOk5, Bool.and_eq_true, decide_eq_true_eq] at h5
 have hl := spans_len y u p
 simp only [r_f39, h, br_true, FallsF, SpansF, ine_dec]
 by_cases h0 : earlyF y u p 0 = 0
 ·simp only [h0, ne_eq, not_true_eq_false, decide_false, br_false, if_true]
  rcases fall_cases (u := u) (p := p) (early_pol h0).1 with ⟨e, ef⟩ | ⟨l, s, e, g1, g2, g3, _, ef⟩
  ·rw [ef, e]
   rfl
  ·rw [ef]
   rw [e] at hl ⊢
   have e1 : isub .i64 (llen (l ++ [s])) 1 = (l.length : Int) := by
    have : llen (l ++ [s]) = (l.length : Int) + 1 := by simp [llen]
    rw [this, isub_in (by rw [List.length_append, List.length_singleton] at hl; omega)]
    omega
   have h2 : l.length < (l ++ [s]).length := by simp
   have e2 : ieq (llen (l ++ [s])) 0 = false := by simp only [ieq_dec, llen, List.length_append, List.length_singleton, decide_eq_false_iff_not]; omega
   have e4 : lgt tyKeep (l ++ [s]) l.length = s := by rw [lgt_get (y := tyKeep) h2]; simp
   rw [e1, e2]
   simp only [br_false, cIx_nat, h2, decide_true, br_true, Int.toNat_natCast, e4, ile]
   by_cases hs : s.2.1 ≤ 40000 <;> simp [hs, br_true, br_false]
 ·simp [h0, br_true]
def sp_f39 : Ent := spec (.pr tyPolicy (.pr tyKeep (.pr tI .nil))) (fun x => (polLen3 x.1 x.2.1 x.2.2.1)) (fun x => (.tu [(.t tI ((FallsF x.1 x.2.1 x.2.2.1).1)), (.t .bool (((FallsF x.1 x.2.1 x.2.2.1).2).1)), (.t tI (((FallsF x.1 x.2.1 x.2.2.1).2).2))]))
theorem ms_f39 : Meets Tryz.prog 39 (strip sp_f39) := by
 obtain ⟨c, hc, hi⟩ := Option.map_eq_some_iff.1 ok_f39
 exact meets_spec (R := runF g_f39 tc_f39 rv_f39 false) (meets_of (by decide) Tryz.func39 hc hi Tryz.ntmps39 rok_f39 gk_f39 lk_f39 mixed) fun x hok => (e_f39 x.1 x.2.1 x.2.2.1).trans (s_f39 x.1 x.2.1 x.2.2.1 hok)
end Go.Proofs.YtfehjdaielifiaaGreat.K
