/-
  executable: sections by name; the answer's sections, sameness and algorithms.
-/
import Derived.Test.YtdbaaejiolibfaaH0
set_option linter.unusedSimpArgs false
set_option linter.unusedVariables false
namespace Go.Proofs.Ytdbaaejiolibfaa.K
open Go.RowKit Go.Shelf
noncomputable section
def dr_f14_0 : List DO := [(.mk (oP 30 (.fa 0 (.t 2))) []), (.mk (oL 31 30) [0]), (.mk (oV 32 5) []), (.mk (oP 33 (.ix 2 (.t 31) (.t 32))) [1, 2]), (.mk (oP 34 (.fa 0 (.t 33))) [3]), (.mk (oL 35 34) [4]), (.mk (oP 36 (.fa 0 (.t 3))) []), (.mk (oL 37 36) [6]), (.mk (oV 38 5) []), (.mk (oP 39 (.ix 2 (.t 37) (.t 38))) [7, 8]), (.mk (oP 40 (.fa 0 (.t 39))) [9]), (.mk (oL 41 40) [10]), (.mk (oP 42 (.bin false .neq (.t 35) (.t 41))) [5, 11]), (.mk (oV 43 42) [12]), (.mk (oQ 44 43 false (.fa 0 (.t 2))) [13]), (.mk (oG 45 43 false (.m (.ld false 1 (.t 44)))) [14, 13]), (.mk (oQ 46 43 false (.mv (.t 5))) [13]), (.mk (oQ 47 43 false (.ix 2 (.t 45) (.t 46))) [15, 16, 13]), (.mk (oQ 48 43 false (.fa 1 (.t 47))) [17, 13]), (.mk (oG 49 43 false (.m (.ld false 1 (.t 48)))) [18, 13]), (.mk (oG 50 43 false (.call 2440368 [(.t 49)])) [19, 13]), (.mk (oQ 51 43 false (.fa 0 (.t 3))) [13]), (.mk (oG 52 43 false (.m (.ld false 1 (.t 51)))) [21, 13]), (.mk (oQ 53 43 false (.mv (.t 5))) [13]), (.mk (oQ 54 43 false (.ix 2 (.t 52) (.t 53))) [22, 23, 13]), (.mk (oQ 55 43 false (.fa 1 (.t 54))) [24, 13]), (.mk (oG 56 43 false (.m (.ld false 1 (.t 55)))) [25, 13]), (.mk (oG 57 43 false (.call 2440368 [(.t 56)])) [26, 13]), (.mk (oQ 58 43 false (.bin false .neq (.t 50) (.t 57))) [20, 27, 13]), (.mk (oP 59 (.pick (.t 43) (cB true) (.t 58))) [13, 28])]
def dr_f14_1 : List DO := [(.mk (oP 67 (.fa 1 (.t 2))) []), (.mk (oL 68 67) [0]), (.mk (oV 69 6) []), (.mk (oP 70 (.ix 2 (.t 68) (.t 69))) [1, 2]), (.mk (oM 71 (.ld true 2 (.t 70))) [3]), (.mk (oP 72 (.fa 1 (.t 3))) []), (.mk (oL 73 72) [5]), (.mk (oV 74 6) []), (.mk (oP 75 (.ix 2 (.t 73) (.t 74))) [6, 7]), (.mk (oM 76 (.ld true 2 (.t 75))) [8]), (.mk (oP 77 (.eqs true [2, 0] (.t 71) (.t 76))) [4, 9])]
def fg_f14_0 : Fg := ⟨[(2, none), (3, none), (5, some tI)], [(2, some tyImage), (3, some tyImage)]⟩
def tb_f14_0 : TC := (.sq (.sq (.reg [(oV 23 5), (oP 24 (.fa 0 (.t 2))), (oL 25 24), (oP 26 (.len false (.t 25))), (oP 27 (.bin false .lss (.t 23) (.t 26)))]) (.cd (.t 27) .sk (.fg ⟨[(2, none), (3, none)], [(2, some tyImage), (3, some tyImage)]⟩ (.ex 0)))) (.sq (.bk 1 (.sq (.dr dr_f14_0 [(0, [2]), (1, [2]), (2, []), (3, []), (4, []), (5, []), (6, [3]), (7, [3]), (8, []), (9, []), (10, []), (11, []), (12, []), (13, []), (14, [2]), (15, [2]), (16, []), (17, []), (18, []), (19, []), (20, []), (21, [3]), (22, [3]), (23, []), (24, []), (25, []), (26, []), (27, []), (28, []), (29, [])] (.of [0, 1, 2, 3, 4, 5, 6, 7, 8, 9, 10, 11, 12, 13, 14, 15, 16, 17, 18, 19, 20, 21, 22, 23, 24, 25, 26, 27, 28, 29])) (.cd (.t 59) (.sq (.reg [(oP 4 (.mv (cB false)))]) (.fg ⟨[(4, some .bool)], []⟩ .rt)) .sk))) (.reg [(oV 28 5), (oP 29 (.bin false .add (.t 28) (cI 1))), (oV 5 29)])))
def fg_f14_1 : Fg := ⟨[(2, none), (3, none), (6, some tI)], [(2, some tyImage), (3, some tyImage)]⟩
def tb_f14_1 : TC := (.sq (.sq (.reg [(oV 60 6), (oP 61 (.fa 1 (.t 2))), (oL 62 61), (oP 63 (.len false (.t 62))), (oP 64 (.bin false .lss (.t 60) (.t 63)))]) (.cd (.t 64) .sk (.fg ⟨[], []⟩ (.ex 2)))) (.sq (.bk 3 (.sq (.dr dr_f14_1 [(0, [2]), (1, [2]), (2, []), (3, []), (4, []), (5, [3]), (6, [3]), (7, []), (8, []), (9, []), (10, [])] (.of [0, 1, 2, 3, 4, 5, 6, 7, 8, 9, 10])) (.cd (.t 77) (.sq (.reg [(oP 4 (.mv (cB false)))]) (.fg ⟨[(4, some .bool)], []⟩ .rt)) .sk))) (.reg [(oV 65 6), (oP 66 (.bin false .add (.t 65) (cI 1))), (oV 6 66)])))
/-- cipherplan/cipherplanref10.Same -/
def tc_f14 : TC := (.sq (.reg [(oM 2 (.box (.t 0))), (oM 3 (.box (.t 1))), (oP 4 (.mv (cB false)))]) (.sq (.sq (.reg [(oP 7 (.fa 0 (.t 2))), (oL 8 7), (oP 9 (.len false (.t 8))), (oP 10 (.fa 0 (.t 3))), (oL 11 10), (oP 12 (.len false (.t 11))), (oP 13 (.bin false .neq (.t 9) (.t 12))), (oV 14 13), (oQ 15 14 false (.fa 1 (.t 2))), (oG 16 14 false (.m (.ld false 1 (.t 15)))), (oQ 17 14 false (.len false (.t 16))), (oQ 18 14 false (.fa 1 (.t 3))), (oG 19 14 false (.m (.ld false 1 (.t 18)))), (oQ 20 14 false (.len false (.t 19))), (oQ 21 14 false (.bin false .neq (.t 17) (.t 20))), (oP 22 (.pick (.t 14) (cB true) (.t 21)))]) (.cd (.t 22) (.sq (.reg [(oP 4 (.mv (cB false)))]) .rt) .sk)) (.sq (.sq (.reg [(oP 5 (.mv (cI 0)))]) (.bk 0 (.lp 0 fg_f14_0 tb_f14_0))) (.sq (.sq (.reg [(oP 6 (.mv (cI 0)))]) (.bk 2 (.lp 1 fg_f14_1 tb_f14_1))) (.sq (.reg [(oP 4 (.mv (cB true)))]) .rt)))))
def rv_f14 : List (RV × Option Ty) := [((.t 4), some .bool)]
abbrev sh_f14_0 : Sh := ⟨[(2, .ptr 2 0), (3, .ptr 3 0), (5, .ty tI)], [(2, .box tyImage), (3, .box tyImage)]⟩
def st_f14_0 (x5 : Int) (y2 : Image) (y3 : Image) : VS := sh_f14_0.st ((), (), x5, ()) (y2, y3, ())
abbrev sh_f14_0_ret : Sh := ⟨[(4, .ty .bool)], []⟩
def st_f14_0_ret (x4 : Bool) : VS := sh_f14_0_ret.st (x4, ()) ()
abbrev sh_f14_0_e0 : Sh := ⟨[(2, .ptr 2 0), (3, .ptr 3 0)], [(2, .box tyImage), (3, .box tyImage)]⟩
def st_f14_0_e0 (y2 : Image) (y3 : Image) : VS := sh_f14_0_e0.st ((), (), ()) (y2, y3, ())
-- loop 0: (x5 : Int) (y2 : Image) (y3 : Image); out: ('ret',) (x4 : Bool); ('exit', 0) (y2 : Image) (y3 : Image)
abbrev sh_f14_1 : Sh := ⟨[(2, .ptr 2 0), (3, .ptr 3 0), (6, .ty tI)], [(2, .box tyImage), (3, .box tyImage)]⟩
def st_f14_1 (x6 : Int) (y2 : Image) (y3 : Image) : VS := sh_f14_1.st ((), (), x6, ()) (y2, y3, ())
abbrev sh_f14_1_ret : Sh := ⟨[(4, .ty .bool)], []⟩
def st_f14_1_ret (x4 : Bool) : VS := sh_f14_1_ret.st (x4, ()) ()
abbrev sh_f14_1_e2 : Sh := ⟨[], []⟩
def st_f14_1_e2  : VS := sh_f14_1_e2.st () ()
-- loop 1: (x6 : Int) (y2 : Image) (y3 : Image); out: ('ret',) (x4 : Bool); ('exit', 2) 
def L_f14_0 : VS → Option (Bool × List (Bool × Exit × VS)) := mkL sh_f14_0 (fun x y => (decide (0 ≤ x.2.2.1 ∧ x.2.2.1 ≤ y.1.1.length ∧ y.1.1.length = y.2.1.1.length ∧ y.1.1.length ≤ 100000))) (fun x y => [((!zipA eqSec (y.1.1.drop x.2.2.1.toNat) (y.2.1.1.drop x.2.2.1.toNat)), .ret, st_f14_0_ret (false)), (true, .exit 0, st_f14_0_e0 (y.1) (y.2.1))])
def L_f14_1 : VS → Option (Bool × List (Bool × Exit × VS)) := mkL sh_f14_1 (fun x y => (decide (0 ≤ x.2.2.1 ∧ x.2.2.1 ≤ y.1.2.1.length ∧ y.1.2.1.length = y.2.1.2.1.length ∧ y.1.2.1.length ≤ 100000))) (fun x y => [((!zipA eqSym (y.1.2.1.drop x.2.2.1.toNat) (y.2.1.2.1.drop x.2.2.1.toNat)), .ret, st_f14_1_ret (false)), (true, .exit 2, st_f14_1_e2)])
def g_f14 : G := ⟨TYs, [], 78, EL [(2440368, sp_op_convert_23_9)], keeps, (Ls [L_f14_0, L_f14_1]), IL [], RL []⟩
def b_f14_0 (x5 : Int) (y2 : Image) (y3 : Image) : Option (Exit × VS) :=
  br ((ilt x5 (llen y2.1)))
    (br (cIx y2.1 x5)
      (br (cIx y3.1 x5)
        (br ((sne ((lgt tySection y2.1 (Int.toNat x5)).1) ((lgt tySection y3.1 (Int.toNat x5)).1)))
          (some (.ret, st_f14_0_ret false))
          (br (cIx y2.1 x5)
            (br (cIx y3.1 x5)
              (br ((sne (strOf (((lgt tySection y2.1 (Int.toNat x5)).2).1)) (strOf (((lgt tySection y3.1 (Int.toNat x5)).2).1))))
                (some (.ret, st_f14_0_ret false))
                (some (.normal, st_f14_0 (iadd .i64 x5 1) y2 y3)))
              (none))
            (none)))
        (none))
      (none))
    (some (.exit 0, st_f14_0_e0 y2 y3))
noncomputable def lp_f14_0 (x5 : Int) (y2 : Image) (y3 : Image) : Option (Exit × VS) := loopF (roundF g_f14 fg_f14_0 tb_f14_0) (st_f14_0 x5 y2 y3)
noncomputable def n_f14_0 (x5 : Int) (y2 : Image) (y3 : Image) : Option (Exit × VS) :=
  br ((ilt x5 (llen y2.1)))
    (br (cIx y2.1 x5)
      (br (cIx y3.1 x5)
        (br ((sne ((lgt tySection y2.1 (Int.toNat x5)).1) ((lgt tySection y3.1 (Int.toNat x5)).1)))
          (some (.ret, st_f14_0_ret false))
          (br (cIx y2.1 x5)
            (br (cIx y3.1 x5)
              (br ((sne (strOf (((lgt tySection y2.1 (Int.toNat x5)).2).1)) (strOf (((lgt tySection y3.1 (Int.toNat x5)).2).1))))
                (some (.ret, st_f14_0_ret false))
                (lp_f14_0 (iadd .i64 x5 1) y2 y3))
              (none))
            (none)))
        (none))
      (none))
    (some (.exit 0, st_f14_0_e0 y2 y3))
def la_f14_0 (x5 : Int) (y2 : Image) (y3 : Image) : Option (Exit × VS) := br (!zipA eqSec (y2.1.drop x5.toNat) (y3.1.drop x5.toNat)) (some (.ret, st_f14_0_ret (false))) <| some (.exit 0, st_f14_0_e0 (y2) (y3))
theorem be_f14_0 (x5 : Int) (y2 : Image) (y3 : Image) : roundF g_f14 fg_f14_0 tb_f14_0 (st_f14_0 x5 y2 y3) = b_f14_0 x5 y2 y3 := by kernel_rfl
theorem ln_f14_0 (x5 : Int) (y2 : Image) (y3 : Image) : lp_f14_0 x5 y2 y3 = n_f14_0 x5 y2 y3 := (loopF_nxt _ _).trans (by
  rw [be_f14_0]
  simp only [b_f14_0, n_f14_0, nxt_br, nxt_n, nxt_r, nxt_e, nxt_0]
  rfl)
def b_f14_1 (x6 : Int) (y2 : Image) (y3 : Image) : Option (Exit × VS) :=
  br ((ilt x6 (llen y2.2.1)))
    (br (cIx y2.2.1 x6)
      (br (cIx y3.2.1 x6)
        (br ((!(and (seq ((lgt tySymbol y2.2.1 (Int.toNat x6)).1) ((lgt tySymbol y3.2.1 (Int.toNat x6)).1)) (and (ieq (((lgt tySymbol y2.2.1 (Int.toNat x6)).2).1) (((lgt tySymbol y3.2.1 (Int.toNat x6)).2).1)) true))))
          (some (.ret, st_f14_1_ret false))
          (some (.normal, st_f14_1 (iadd .i64 x6 1) y2 y3)))
        (none))
      (none))
    (some (.exit 2, st_f14_1_e2))
noncomputable def lp_f14_1 (x6 : Int) (y2 : Image) (y3 : Image) : Option (Exit × VS) := loopF (roundF g_f14 fg_f14_1 tb_f14_1) (st_f14_1 x6 y2 y3)
noncomputable def n_f14_1 (x6 : Int) (y2 : Image) (y3 : Image) : Option (Exit × VS) :=
  br ((ilt x6 (llen y2.2.1)))
    (br (cIx y2.2.1 x6)
      (br (cIx y3.2.1 x6)
        (br ((!(and (seq ((lgt tySymbol y2.2.1 (Int.toNat x6)).1) ((lgt tySymbol y3.2.1 (Int.toNat x6)).1)) (and (ieq (((lgt tySymbol y2.2.1 (Int.toNat x6)).2).1) (((lgt tySymbol y3.2.1 (Int.toNat x6)).2).1)) true))))
          (some (.ret, st_f14_1_ret false))
          (lp_f14_1 (iadd .i64 x6 1) y2 y3))
        (none))
      (none))
    (some (.exit 2, st_f14_1_e2))
def la_f14_1 (x6 : Int) (y2 : Image) (y3 : Image) : Option (Exit × VS) := br (!zipA eqSym (y2.2.1.drop x6.toNat) (y3.2.1.drop x6.toNat)) (some (.ret, st_f14_1_ret (false))) <| some (.exit 2, st_f14_1_e2)
theorem be_f14_1 (x6 : Int) (y2 : Image) (y3 : Image) : roundF g_f14 fg_f14_1 tb_f14_1 (st_f14_1 x6 y2 y3) = b_f14_1 x6 y2 y3 := by kernel_rfl
theorem ln_f14_1 (x6 : Int) (y2 : Image) (y3 : Image) : lp_f14_1 x6 y2 y3 = n_f14_1 x6 y2 y3 := (loopF_nxt _ _).trans (by
  rw [be_f14_1]
  simp only [b_f14_1, n_f14_1, nxt_br, nxt_n, nxt_r, nxt_e, nxt_0]
  rfl)
def r_f14 (p0 : Image) (p1 : Image) : Option (V × List VO) :=
  br ((ine (llen p0.1) (llen p1.1)))
    (some (.t .bool false, []))
    (br ((ine (llen p0.2.1) (llen p1.2.1)))
      (some (.t .bool false, []))
      (br ((decide (0 ≤ (0 : Int) ∧ (0 : Int) ≤ p0.1.length ∧ p0.1.length = p1.1.length ∧ p0.1.length ≤ 100000)))
        (br ((!zipA eqSec (p0.1.drop (0 : Int).toNat) (p1.1.drop (0 : Int).toNat)))
          (some (.t .bool (false), []))
          (br ((decide (0 ≤ (0 : Int) ∧ (0 : Int) ≤ (p0).2.1.length ∧ (p0).2.1.length = (p1).2.1.length ∧ (p0).2.1.length ≤ 100000)))
            (br ((!zipA eqSym ((p0).2.1.drop (0 : Int).toNat) ((p1).2.1.drop (0 : Int).toNat)))
              (some (.t .bool (false), []))
              (some (.t .bool true, [])))
            (none)))
        (none)))
theorem e_f14 (p0 : Image) (p1 : Image) : runF g_f14 tc_f14 rv_f14 false [.t tyImage p0, .t tyImage p1] [] = r_f14 p0 p1 := by kernel_rfl
theorem ok_f14 : Option.map (trC Try.prog) Try.f14.body = some tc_f14.er := by kernel_rfl
theorem rok_f14 : trVs Try.prog Try.f14.results.toList = some (rv_f14.map Prod.fst) := by kernel_rfl
theorem en_f14 : Entered Try.prog 14 := .inr ⟨by decide, _, Try.func14, by kernel_rfl, by kernel_rfl⟩
theorem gk_f14 : GOk Try.prog g_f14 := gok_of _ (by
  intro p hp
  simp only [List.mem_cons, List.not_mem_nil, or_false] at hp
  rcases hp with rfl
  · exact ⟨en_op_convert_23_9, ms_op_convert_23_9⟩)
theorem l_f14_0 (x5 : Int) (y2 : Image) (y3 : Image) (h : (decide (0 ≤ x5 ∧ x5 ≤ y2.1.length ∧ y2.1.length = y3.1.length ∧ y2.1.length ≤ 100000)) = true) : lp_f14_0 x5 y2 y3 = la_f14_0 x5 y2 y3 := by
  simp only [decide_eq_true_eq] at h
  obtain ⟨h1, h2, h3, h4⟩ := h
  obtain ⟨k, rfl⟩ := Int.eq_ofNat_of_zero_le h1
  refine range_ind y2.1 (fun k => lp_f14_0 (k : Int) y2 y3 = la_f14_0 (k : Int) y2 y3) ?_ ?_ k (by omega)
  · rw [ln_f14_0]
    have e2 : y3.1.drop y2.1.length = [] := List.drop_eq_nil_of_le (by omega)
    simp [n_f14_0, la_f14_0, ilt_llen, br_false, e2, zipA]
  · intro k hk ih
    have hk1 : k < y3.1.length := by omega
    rw [ln_f14_0]
    simp only [n_f14_0, ilt_llen, cIx_nat, hk, hk1, decide_true, br_true, Int.toNat_natCast, lgt_get (y := tySection) hk, lgt_get (y := tySection) hk1, add1 (show k < 4611686018427387904 by omega), ih, la_f14_0, zipA_drop hk hk1]
    simp only [eqSec, eqB, sne_not]
    cases seq y2.1[k].1 y3.1[k].1 <;> cases seq (strOf y2.1[k].2.1) (strOf y3.1[k].2.1) <;> rfl
theorem l_f14_1 (x6 : Int) (y2 : Image) (y3 : Image) (h : (decide (0 ≤ x6 ∧ x6 ≤ y2.2.1.length ∧ y2.2.1.length = y3.2.1.length ∧ y2.2.1.length ≤ 100000)) = true) : lp_f14_1 x6 y2 y3 = la_f14_1 x6 y2 y3 := by
  simp only [decide_eq_true_eq] at h
  obtain ⟨h1, h2, h3, h4⟩ := h
  obtain ⟨k, rfl⟩ := Int.eq_ofNat_of_zero_le h1
  refine range_ind y2.2.1 (fun k => lp_f14_1 (k : Int) y2 y3 = la_f14_1 (k : Int) y2 y3) ?_ ?_ k (by omega)
  · rw [ln_f14_1]
    have e2 : y3.2.1.drop y2.2.1.length = [] := List.drop_eq_nil_of_le (by omega)
    simp [n_f14_1, la_f14_1, ilt_llen, br_false, e2, zipA]
  · intro k hk ih
    have hk1 : k < y3.2.1.length := by omega
    rw [ln_f14_1]
    simp only [n_f14_1, ilt_llen, cIx_nat, hk, hk1, decide_true, br_true, Int.toNat_natCast, lgt_get (y := tySymbol) hk, lgt_get (y := tySymbol) hk1, add1 (show k < 4611686018427387904 by omega), ih, la_f14_1, zipA_drop hk hk1]
    simp only [eqSym]
    cases seq y2.2.1[k].1 y3.2.1[k].1 <;> cases ieq y2.2.1[k].2.1 y3.2.1[k].2.1 <;> rfl
theorem lo_f14_0 : ∀ S l p, g_f14.L 0 (fgt fg_f14_0 S) = some (true, l) → pickA l = some p → loopF (roundF g_f14 fg_f14_0 tb_f14_0) S = some p :=
  lok_of (s := sh_f14_0) ⟨by decide, by decide⟩ (by kernel_rfl) fun x y hok p hp => by
  simp only [pickA_br, pickA_one] at hp
  exact (l_f14_0 x.2.2.1 y.1 y.2.1 (by simpa using hok)).trans hp
theorem lo_f14_1 : ∀ S l p, g_f14.L 1 (fgt fg_f14_1 S) = some (true, l) → pickA l = some p → loopF (roundF g_f14 fg_f14_1 tb_f14_1) S = some p :=
  lok_of (s := sh_f14_1) ⟨by decide, by decide⟩ (by kernel_rfl) fun x y hok p hp => by
  simp only [pickA_br, pickA_one] at hp
  exact (l_f14_1 x.2.2.1 y.1 y.2.1 (by simpa using hok)).trans hp
theorem lk_f14 : tc_f14.lok g_f14 := by
  repeat (first | exact trivial | exact lo_f14_0 | exact lo_f14_1 | refine ⟨?_, ?_⟩)
theorem s_f14 (a b : Image) (h : sameXOk a b = true) : r_f14 a b = some (.t .bool (sameX a b), []) := by
  have h : imgOk a = true := h
  simp only [imgOk, decide_eq_true_eq] at h
  simp only [r_f14, Int.toNat_zero, List.drop_zero, sameX, eqSecs, eqSyms, eqL]
  by_cases q : a.1.length = b.1.length
  · have e1 : ine (llen a.1) (llen b.1) = false := by simp [ine, llen, q]
    rw [e1, decide_eq_true q]
    by_cases p : a.2.1.length = b.2.1.length
    · have e2 : ine (llen a.2.1) (llen b.2.1) = false := by simp [ine, llen, p]
      rw [e2, decide_eq_true p, decide_eq_true (show (0 : Int) ≤ 0 ∧ (0 : Int) ≤ a.1.length ∧ a.1.length = b.1.length ∧ a.1.length ≤ 100000 by omega), decide_eq_true (show (0 : Int) ≤ 0 ∧ (0 : Int) ≤ a.2.1.length ∧ a.2.1.length = b.2.1.length ∧ a.2.1.length ≤ 100000 by omega)]
      cases zipA eqSec a.1 b.1 <;> cases zipA eqSym a.2.1 b.2.1 <;> rfl
    · have e2 : ine (llen a.2.1) (llen b.2.1) = true := by simp [ine, llen]; omega
      rw [e2, decide_eq_false p]
      cases zipA eqSec a.1 b.1 <;> rfl
  · have e1 : ine (llen a.1) (llen b.1) = true := by simp [ine, llen]; omega
    rw [e1, decide_eq_false q]
    rfl
def sp_f14 : Ent := spec (.pr tyImage (.pr tyImage .nil)) (fun x => (sameXOk x.1 x.2.1)) (fun x => (.t .bool (sameX x.1 x.2.1)))
theorem ms_f14 : Meets Try.prog 14 (strip sp_f14) := by
  obtain ⟨c, hc, hi⟩ := Option.map_eq_some_iff.1 ok_f14
  exact meets_spec (R := runF g_f14 tc_f14 rv_f14 false) (meets_of (by decide) Try.func14 hc hi Try.ntmps14 rok_f14 gk_f14 lk_f14 mixed) fun x hok => (e_f14 x.1 x.2.1).trans (s_f14 x.1 x.2.1 hok)
end
end Go.Proofs.Ytdbaaejiolibfaa.K
