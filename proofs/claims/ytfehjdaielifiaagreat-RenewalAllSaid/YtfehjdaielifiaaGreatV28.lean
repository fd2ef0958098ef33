/-
 The document's answers of 22.
-/
import Derived.Test.YtfehjdaielifiaaGreatV25
import Derived.Test.YtfehjdaielifiaaGreatV12
import Derived.Test.YtfehjdaielifiaaGreatP22
set_option linter.unusedSimpArgs false
set_option linter.unusedVariables false
namespace Go.Proofs.YtfehjdaielifiaaGreat.K
open Go.RowKit
noncomputable section
theorem sgt_get {s : ByteArray} {k : Nat} (h : k < (bytesL s).length) : sgt s (k : Int) = (bytesL s)[k] := by
 have h2 : k < s.data.toList.length := by simpa [bytesL] using h
 have e : (bytesL s)[k] = ((s.data.toList[k].toNat : Nat) : Int) := by simp [bytesL]
 rw [e]
 show (((s.data.toList.getD (Int.toNat (k : Int)) 0).toNat : Nat) : Int) = _
 rw [Int.toNat_natCast, List.getD_eq_getElem?_getD, List.getElem?_eq_getElem h2]
 rfl
def fg_f56_0 : Fg := ⟨[(0, some .str), (3, some tI)], []⟩
def tb_f56_0 : TC := (.sq (.sq (.reg [(oV 12 3), (oV 13 0), (oP 14 (.len true (.t 13))), (oP 15 (.bin false .lss (.t 12) (.t 14)))]) (.cd (.t 15) .sk (.fg ⟨[], []⟩ (.ex 0)))) (.sq (.bk 1 (.sq (.reg [(oV 18 0), (oV 19 3), (oP 20 (.sx (.t 18) (.t 19))), (oP 21 (.bin false .lss (.t 20) (.c (.v (.int .u8 33))))), (oV 22 21), (oQ 23 22 false (.mv (.t 0))), (oQ 24 22 false (.mv (.t 3))), (oQ 25 22 false (.sx (.t 23) (.t 24))), (oQ 26 22 false (.bin false .gtr (.t 25) (.c (.v (.int .u8 126))))), (oP 27 (.pick (.t 22) (cB true) (.t 26)))]) (.cd (.t 27) (.sq (.reg [(oP 2 (.mv (cB false)))]) (.fg ⟨[(2, some .bool)], []⟩ .rt)) .sk))) (.reg [(oV 16 3), (oP 17 (.bin false .add (.t 16) (cI 1))), (oV 3 17)])))
def tc_f56 : TC := (.sq (.reg [(oP 2 (.mv (cB false)))]) (.sq (.sq (.reg [(oV 4 0), (oP 5 (.len true (.t 4))), (oP 6 (.bin false .lss (.t 5) (cI 1))), (oV 7 6), (oQ 8 7 false (.mv (.t 0))), (oQ 9 7 false (.len true (.t 8))), (oQ 10 7 false (.bin false .gtr (.t 9) (cI 32))), (oP 11 (.pick (.t 7) (cB true) (.t 10)))]) (.cd (.t 11) (.sq (.reg [(oP 2 (.mv (cB false)))]) .rt) .sk)) (.sq (.sq (.reg [(oP 3 (.mv (cI 0)))]) (.bk 0 (.lp 0 fg_f56_0 tb_f56_0))) (.sq (.reg [(oP 2 (.mv (cB true)))]) .rt))))
def rv_f56 : List (RV × Option Ty) := [((.t 2), some .bool)]
abbrev sh_f56_0 : Sh := ⟨[(0, .ty .str), (3, .ty tI)], []⟩
def st_f56_0 (x0 : ByteArray) (x3 : Int) : VS := sh_f56_0.st (x0, x3, ()) ()
abbrev sh_f56_0_ret : Sh := ⟨[(2, .ty .bool)], []⟩
def st_f56_0_ret (x2 : Bool) : VS := sh_f56_0_ret.st (x2, ()) ()
abbrev sh_f56_0_e0 : Sh := ⟨[], []⟩
def st_f56_0_e0  : VS := sh_f56_0_e0.st () ()
-- loop 0: (x0 : ByteArray) (x3 : Int); out: ('ret',) (x2 : Bool); ('exit', 0)
def L_f56_0 : VS → Option (Bool × List (Bool × Exit × VS)) := mkL sh_f56_0 (fun x y => (decide (0 ≤ x.2.1 ∧ x.2.1 ≤ x.1.size ∧ x.1.size ≤ 32))) (fun x y => [((!(((bytesL x.1).drop x.2.1.toNat).all charB)), .ret, st_f56_0_ret (false)), (true, .exit 0, st_f56_0_e0)])
def g_f56 : G := ⟨TYs, [], 28, EL [], keeps, (Ls [L_f56_0]), IL [], RL []⟩
def b_f56_0 (x0 : ByteArray) (x3 : Int) : Option (Exit × VS) :=
 br ((ilt x3 (slen x0)))
  (br (cSx x0 x3)
   (br ((ilt (sgt x0 x3) 33))
    (some (.ret, st_f56_0_ret false))
    (br (cSx x0 x3)
     (br ((igt (sgt x0 x3) 126))
      (some (.ret, st_f56_0_ret false))
      (some (.normal, st_f56_0 x0 (iadd .i64 x3 1))))
     (none)))
   (none))
  (some (.exit 0, st_f56_0_e0))
noncomputable def lp_f56_0 (x0 : ByteArray) (x3 : Int) : Option (Exit × VS) := loopF (roundF g_f56 fg_f56_0 tb_f56_0) (st_f56_0 x0 x3)
noncomputable def n_f56_0 (x0 : ByteArray) (x3 : Int) : Option (Exit × VS) :=
 br ((ilt x3 (slen x0)))
  (br (cSx x0 x3)
   (br ((ilt (sgt x0 x3) 33))
    (some (.ret, st_f56_0_ret false))
    (br (cSx x0 x3)
     (br ((igt (sgt x0 x3) 126))
      (some (.ret, st_f56_0_ret false))
      (lp_f56_0 x0 (iadd .i64 x3 1)))
     (none)))
   (none))
  (some (.exit 0, st_f56_0_e0))
def la_f56_0 (x0 : ByteArray) (x3 : Int) : Option (Exit × VS) := br (!(((bytesL x0).drop x3.toNat).all charB)) (some (.ret, st_f56_0_ret (false))) <| some (.exit 0, st_f56_0_e0)
theorem be_f56_0 (x0 : ByteArray) (x3 : Int) : roundF g_f56 fg_f56_0 tb_f56_0 (st_f56_0 x0 x3) = b_f56_0 x0 x3 := by kernel_rfl
theorem ln_f56_0 (x0 : ByteArray) (x3 : Int) : lp_f56_0 x0 x3 = n_f56_0 x0 x3 := (loopF_nxt _ _).trans (by
 rw [be_f56_0]
 simp only [b_f56_0, n_f56_0, nxt_br, nxt_n, nxt_r, nxt_e, nxt_0]
 rfl)
def r_f56 (p0 : ByteArray) : Option (V × List VO) :=
 br ((ilt (slen p0) 1))
  (some (.t .bool false, []))
  (br ((igt (slen p0) 32))
   (some (.t .bool false, []))
   (br ((decide (0 ≤ (0 : Int) ∧ (0 : Int) ≤ p0.size ∧ p0.size ≤ 32)))
    (br ((!(((bytesL p0).drop (0 : Int).toNat).all charB)))
     (some (.t .bool (false), []))
     (some (.t .bool true, [])))
    (none)))
theorem e_f56 (p0 : ByteArray) : runF g_f56 tc_f56 rv_f56 false [.t .str p0] [] = r_f56 p0 := by kernel_rfl
theorem ok_f56 : Option.map (trC Tryz.prog) Tryz.f56.body = some tc_f56.er := by kernel_rfl
theorem rok_f56 : trVs Tryz.prog Tryz.f56.results.toList = some (rv_f56.map Prod.fst) := by kernel_rfl
theorem en_f56 : Entered Tryz.prog 56 := .inr ⟨by decide, _, Tryz.func56, by kernel_rfl, by kernel_rfl⟩
theorem gk_f56 : GOk Tryz.prog g_f56 := gok_of _ (fun p hp => by cases hp)
theorem l_f56_0 (x0 : ByteArray) (x3 : Int) (h : (decide (0 ≤ x3 ∧ x3 ≤ x0.size ∧ x0.size ≤ 32)) = true) : lp_f56_0 x0 x3 = la_f56_0 x0 x3 := by
 simp only [decide_eq_true_eq] at h
 obtain ⟨h1, h2, h3⟩ := h
 obtain ⟨k, rfl⟩ := Int.eq_ofNat_of_zero_le h1
 have hl := bytesL_len x0
 refine range_ind (bytesL x0) (fun k => lp_f56_0 x0 (k : Int) = la_f56_0 x0 (k : Int)) ?_ ?_ k (by omega)
 ·rw [ln_f56_0]
  have e1 : ilt ((bytesL x0).length : Int) (slen x0) = false := by simp only [ilt, slen, decide_eq_false_iff_not]; omega
  simp [n_f56_0, la_f56_0, e1, br_false]
 ·intro k hk ih
  rw [ln_f56_0]
  have e1 : ilt (k : Int) (slen x0) = true := by simp only [ilt, slen, decide_eq_true_eq]; omega
  have e2 : cSx x0 (k : Int) = true := by simp only [decide_eq_true_eq]; omega
  have hg := sgt_get hk
  simp only [n_f56_0, e1, e2, br_true, hg, add1 (show k < 4611686018427387904 by omega), ih]
  simp only [la_f56_0, Int.toNat_natCast, List.drop_eq_getElem_cons hk, List.all_cons, charB]
  by_cases c1 : (bytesL x0)[k] < 33
  ·rw [show ilt (bytesL x0)[k] 33 = true from decide_eq_true c1, br_true, decide_eq_false (show ¬ (32 < (bytesL x0)[k] ∧ (bytesL x0)[k] ≤ 126) by omega)]
   rfl
  ·rw [show ilt (bytesL x0)[k] 33 = false from decide_eq_false c1, br_false]
   by_cases c2 : 126 < (bytesL x0)[k]
   ·rw [show igt (bytesL x0)[k] 126 = true from decide_eq_true c2, br_true, decide_eq_false (show ¬ (32 < (bytesL x0)[k] ∧ (bytesL x0)[k] ≤ 126) by omega)]
    rfl
   ·rw [show igt (bytesL x0)[k] 126 = false from decide_eq_false c2, br_false, decide_eq_true (show 32 < (bytesL x0)[k] ∧ (bytesL x0)[k] ≤ 126 by omega), Bool.true_and]
theorem lo_f56_0 : ∀ S l p, g_f56.L 0 (fgt fg_f56_0 S) = some (true, l) → pickA l = some p → loopF (roundF g_f56 fg_f56_0 tb_f56_0) S = some p :=
 lok_of (s := sh_f56_0) ⟨by decide, by decide⟩ (by kernel_rfl) fun x y hok p hp => by
 simp only [pickA_br, pickA_one] at hp
 exact (l_f56_0 x.1 x.2.1 (by simpa using hok)).trans hp
theorem lk_f56 : tc_f56.lok g_f56 := by
 repeat (first | exact trivial | exact lo_f56_0 | refine ⟨?_, ?_⟩)
theorem s_f56 (s : ByteArray) (h : nameOk s = true) : r_f56 s = some (.t .bool (namedF s), []) := by
 unfold r_f56
 refine br_intro (fun g => ?_) (fun g1 => br_intro (fun g => ?_) (fun g2 => ?_))
 ·have g : (s.size : Int) < 1 := of_decide_eq_true g
  rw [show namedF s = false by unfold namedF; rw [decide_eq_false (show ¬ (1 ≤ s.size ∧ s.size ≤ 32) by omega), Bool.and_false]]
 ·have g : (s.size : Int) > 32 := of_decide_eq_true g
  rw [show namedF s = false by unfold namedF; rw [decide_eq_false (show ¬ (1 ≤ s.size ∧ s.size ≤ 32) by omega), Bool.and_false]]
 ·have g1 : ¬ (s.size : Int) < 1 := of_decide_eq_false g1
  have g2 : ¬ (s.size : Int) > 32 := of_decide_eq_false g2
  have e : namedF s = (bytesL s).all charB := by unfold namedF; rw [decide_eq_true (show 1 ≤ s.size ∧ s.size ≤ 32 by omega), Bool.and_true]
  rw [dec_true ⟨Int.le_refl 0, by omega, by omega⟩, br_true, e, Int.toNat_zero, List.drop_zero]
  cases (bytesL s).all charB <;> rfl
def sp_f56 : Ent := spec (.pr .str .nil) (fun x => (nameOk x.1)) (fun x => (.t .bool (namedF x.1)))
theorem ms_f56 : Meets Tryz.prog 56 (strip sp_f56) := by
 obtain ⟨c, hc, hi⟩ := Option.map_eq_some_iff.1 ok_f56
 exact meets_spec (R := runF g_f56 tc_f56 rv_f56 false) (meets_of (by decide) Tryz.func56 hc hi Tryz.ntmps56 rok_f56 gk_f56 lk_f56 mixed) fun x hok => (e_f56 x.1).trans (s_f56 x.1 hok)
def dr_f26_0 : List DO := [(.mk (oP 4 (.fa 0 (.t 1))) []), (.mk (oL 5 4) [0]), (.mk (oC 6 56 [(.t 5)]) [1]), (.mk (oP 7 (.nt (.t 6))) [2]), (.mk (oV 8 7) [3, 2]), (.mk (oQ 9 8 false (.fa 1 (.t 1))) [4]), (.mk (oG 10 8 false (.m (.ld false 1 (.t 9)))) [5, 4]), (.mk (oQ 11 8 false (.bin false .neq (.t 10) (cI 1))) [6, 4]), (.mk (oQ 12 8 false (.mv (.t 11))) [7, 4, 4]), (.mk (oQ 13 12 true (.fa 1 (.t 1))) [8]), (.mk (oG 14 12 true (.m (.ld false 1 (.t 13)))) [9, 8]), (.mk (oQ 15 12 true (.bin false .neq (.t 14) (cI 2))) [10, 8]), (.mk (oQ 16 8 false (.pick (.t 12) (.t 15) (cB false))) [8, 11, 4]), (.mk (oP 17 (.pick (.t 8) (cB true) (.t 16))) [4, 12]), (.mk (oV 18 17) [13, 8]), (.mk (oQ 19 18 false (.fa 2 (.t 1))) [14]), (.mk (oG 20 18 false (.m (.ld false 1 (.t 19)))) [15, 14]), (.mk (oQ 21 18 false (.bin false .lss (.t 20) (cI 1))) [16, 14]), (.mk (oP 22 (.pick (.t 18) (cB true) (.t 21))) [14, 17]), (.mk (oV 23 22) [18, 14]), (.mk (oQ 24 23 false (.fa 2 (.t 1))) [19]), (.mk (oG 25 23 false (.m (.ld false 1 (.t 24)))) [20, 19]), (.mk (oQ 26 23 false (.bin false .gtr (.t 25) (cI 4))) [21, 19]), (.mk (oP 27 (.pick (.t 23) (cB true) (.t 26))) [19, 22]), (.mk (oV 28 27) [23, 19]), (.mk (oQ 29 28 false (.fa 3 (.t 1))) [24]), (.mk (oG 30 28 false (.m (.ld false 1 (.t 29)))) [25, 24]), (.mk (oQ 31 28 false (.len false (.t 30))) [26, 24]), (.mk (oQ 32 28 false (.bin false .lss (.t 31) (cI 1))) [27, 24]), (.mk (oP 33 (.pick (.t 28) (cB true) (.t 32))) [24, 28]), (.mk (oV 34 33) [29, 24]), (.mk (oQ 35 34 false (.fa 3 (.t 1))) [30]), (.mk (oG 36 34 false (.m (.ld false 1 (.t 35)))) [31, 30]), (.mk (oQ 37 34 false (.len false (.t 36))) [32, 30]), (.mk (oQ 38 34 false (.bin false .gtr (.t 37) (cI 8))) [33, 30]), (.mk (oP 39 (.pick (.t 34) (cB true) (.t 38))) [30, 34]), (.mk (oV 40 39) [35, 30]), (.mk (oQ 41 40 false (.fa 4 (.t 1))) [36]), (.mk (oG 42 40 false (.m (.ld false 1 (.t 41)))) [37, 36]), (.mk (oQ 43 40 false (.bin false .gtr (.t 42) (cI 40000))) [38, 36]), (.mk (oP 44 (.pick (.t 40) (cB true) (.t 43))) [36, 39]), (.mk (oV 45 44) [40, 36]), (.mk (oQ 46 45 false (.fa 4 (.t 1))) [41]), (.mk (oG 47 45 false (.m (.ld false 1 (.t 46)))) [42, 41]), (.mk (oQ 48 45 false (.fa 3 (.t 1))) [41]), (.mk (oG 49 45 false (.m (.ld false 1 (.t 48)))) [44, 41]), (.mk (oQ 50 45 false (.ix 3 (.t 49) (cI 0))) [45, 41]), (.mk (oQ 51 45 false (.fa 2 (.t 50))) [46, 41]), (.mk (oG 52 45 false (.m (.ld false 1 (.t 51)))) [47, 41]), (.mk (oQ 53 45 false (.bin false .lss (.t 47) (.t 52))) [43, 48, 41]), (.mk (oP 54 (.pick (.t 45) (cB true) (.t 53))) [41, 49])]
def dr_f26_1 : List DO := [(.mk (oP 62 (.fa 3 (.t 1))) []), (.mk (oL 63 62) [0]), (.mk (oV 64 3) []), (.mk (oP 65 (.ix 3 (.t 63) (.t 64))) [1, 2]), (.mk (oP 66 (.fa 0 (.t 65))) [3]), (.mk (oM 67 (.ld true 2 (.t 66))) [4]), (.mk (oC 68 54 [(.t 67)]) [5]), (.mk (oP 69 (.nt (.t 68))) [6]), (.mk (oV 70 69) [7, 6]), (.mk (oQ 71 70 false (.fa 3 (.t 1))) [8]), (.mk (oG 72 70 false (.m (.ld false 1 (.t 71)))) [9, 8]), (.mk (oQ 73 70 false (.mv (.t 3))) [8]), (.mk (oQ 74 70 false (.ix 3 (.t 72) (.t 73))) [10, 11, 8]), (.mk (oQ 75 70 false (.fa 2 (.t 74))) [12, 8]), (.mk (oG 76 70 false (.m (.ld false 1 (.t 75)))) [13, 8]), (.mk (oQ 77 70 false (.bin false .lss (.t 76) (cI 0))) [14, 8]), (.mk (oP 78 (.pick (.t 70) (cB true) (.t 77))) [8, 15]), (.mk (oV 79 78) [16, 8]), (.mk (oQ 80 79 false (.fa 3 (.t 1))) [17]), (.mk (oG 81 79 false (.m (.ld false 1 (.t 80)))) [18, 17]), (.mk (oQ 82 79 false (.mv (.t 3))) [17]), (.mk (oQ 83 79 false (.ix 3 (.t 81) (.t 82))) [19, 20, 17]), (.mk (oQ 84 79 false (.fa 2 (.t 83))) [21, 17]), (.mk (oG 85 79 false (.m (.ld false 1 (.t 84)))) [22, 17]), (.mk (oQ 86 79 false (.bin false .gtr (.t 85) (cI 40000))) [23, 17]), (.mk (oP 87 (.pick (.t 79) (cB true) (.t 86))) [17, 24]), (.mk (oV 88 87) [25, 17]), (.mk (oQ 89 88 false (.mv (.t 3))) [26]), (.mk (oQ 90 88 false (.bin false .gtr (.t 89) (cI 0))) [27, 26]), (.mk (oQ 91 88 false (.mv (.t 90))) [28, 26, 26]), (.mk (oQ 92 91 true (.fa 3 (.t 1))) [29]), (.mk (oG 93 91 true (.m (.ld false 1 (.t 92)))) [30, 29]), (.mk (oQ 94 91 true (.mv (.t 3))) [29]), (.mk (oQ 95 91 true (.bin false .sub (.t 94) (cI 1))) [32, 29]), (.mk (oQ 96 91 true (.ix 3 (.t 93) (.t 95))) [31, 33, 29]), (.mk (oQ 97 91 true (.fa 2 (.t 96))) [34, 29]), (.mk (oG 98 91 true (.m (.ld false 1 (.t 97)))) [35, 29]), (.mk (oQ 99 91 true (.fa 3 (.t 1))) [29]), (.mk (oG 100 91 true (.m (.ld false 1 (.t 99)))) [37, 29]), (.mk (oQ 101 91 true (.mv (.t 3))) [29]), (.mk (oQ 102 91 true (.ix 3 (.t 100) (.t 101))) [38, 39, 29]), (.mk (oQ 103 91 true (.fa 2 (.t 102))) [40, 29]), (.mk (oG 104 91 true (.m (.ld false 1 (.t 103)))) [41, 29]), (.mk (oQ 105 91 true (.bin false .geq (.t 98) (.t 104))) [36, 42, 29]), (.mk (oQ 106 88 false (.pick (.t 91) (.t 105) (cB false))) [29, 43, 26]), (.mk (oP 107 (.pick (.t 88) (cB true) (.t 106))) [26, 44])]
def fg_f26_0 : Fg := ⟨[(1, none), (3, some tI)], [(1, some tyItem)]⟩
def tb_f26_0 : TC := (.sq (.sq (.reg [(oV 55 3), (oP 56 (.fa 3 (.t 1))), (oL 57 56), (oP 58 (.len false (.t 57))), (oP 59 (.bin false .lss (.t 55) (.t 58)))]) (.cd (.t 59) .sk (.fg ⟨[], []⟩ (.ex 0)))) (.sq (.bk 1 (.sq (.dr dr_f26_1 [(0, [1]), (1, [1]), (2, []), (3, []), (4, []), (5, []), (6, []), (7, []), (8, []), (9, [1]), (10, [1]), (11, []), (12, []), (13, []), (14, []), (15, []), (16, []), (17, []), (18, [1]), (19, [1]), (20, []), (21, []), (22, []), (23, []), (24, []), (25, []), (26, []), (27, []), (28, []), (29, []), (30, [1]), (31, [1]), (32, []), (33, []), (34, []), (35, []), (36, []), (37, [1]), (38, [1]), (39, []), (40, []), (41, []), (42, []), (43, []), (44, []), (45, [])] (.of [0, 1, 2, 3, 4, 5, 6, 7, 8, 9, 10, 11, 12, 13, 14, 15, 16, 17, 18, 19, 20, 21, 22, 23, 24, 25, 26, 27, 28, 29, 30, 31, 32, 33, 34, 35, 36, 37, 38, 39, 40, 41, 42, 43, 44, 45])) (.cd (.t 107) (.sq (.reg [(oP 2 (.mv (cI 30)))]) (.fg ⟨[(2, some tI)], []⟩ .rt)) .sk))) (.reg [(oV 60 3), (oP 61 (.bin false .add (.t 60) (cI 1))), (oV 3 61)])))
def tc_f26 : TC := (.sq (.reg [(oM 1 (.box (.t 0))), (oP 2 (.mv (cI 0)))]) (.sq (.sq (.dr dr_f26_0 [(0, [1]), (1, [1]), (2, []), (3, []), (4, []), (5, [1]), (6, [1]), (7, []), (8, []), (9, [1]), (10, [1]), (11, []), (12, []), (13, []), (14, []), (15, [1]), (16, [1]), (17, []), (18, []), (19, []), (20, [1]), (21, [1]), (22, []), (23, []), (24, []), (25, [1]), (26, [1]), (27, []), (28, []), (29, []), (30, []), (31, [1]), (32, [1]), (33, []), (34, []), (35, []), (36, []), (37, [1]), (38, [1]), (39, []), (40, []), (41, []), (42, [1]), (43, [1]), (44, [1]), (45, [1]), (46, []), (47, []), (48, []), (49, []), (50, [])] (.of [0, 1, 2, 3, 4, 5, 6, 7, 8, 9, 10, 11, 12, 13, 14, 15, 16, 17, 18, 19, 20, 21, 22, 23, 24, 25, 26, 27, 28, 29, 30, 31, 32, 33, 34, 35, 36, 37, 38, 39, 40, 41, 42, 43, 44, 45, 46, 47, 48, 49, 50])) (.cd (.t 54) (.sq (.reg [(oP 2 (.mv (cI 30)))]) .rt) .sk)) (.sq (.sq (.reg [(oP 3 (.mv (cI 0)))]) (.bk 0 (.lp 0 fg_f26_0 tb_f26_0))) (.sq (.reg [(oP 2 (.mv (cI 0)))]) .rt))))
def rv_f26 : List (RV × Option Ty) := [((.t 2), some tI)]
abbrev sh_f26_0 : Sh := ⟨[(1, .ptr 1 0), (3, .ty tI)], [(1, .box tyItem)]⟩
def st_f26_0 (x3 : Int) (y1 : Item) : VS := sh_f26_0.st ((), x3, ()) (y1, ())
abbrev sh_f26_0_ret : Sh := ⟨[(2, .ty tI)], []⟩
def st_f26_0_ret (x2 : Int) : VS := sh_f26_0_ret.st (x2, ()) ()
abbrev sh_f26_0_e0 : Sh := ⟨[], []⟩
def st_f26_0_e0  : VS := sh_f26_0_e0.st () ()
-- loop 0: (x3 : Int) (y1 : Item); out: ('ret',) (x2 : Int); ('exit', 0)
def L_f26_0 : VS → Option (Bool × List (Bool × Exit × VS)) := mkL sh_f26_0 (fun x y => (decide (0 ≤ x.2.1 ∧ x.2.1 ≤ y.1.2.2.2.1.length ∧ y.1.2.2.2.1.length ≤ 8))) (fun x y => [((!(linksB (pvAt y.1.2.2.2.1 x.2.1.toNat) (y.1.2.2.2.1.drop x.2.1.toNat))), .ret, st_f26_0_ret (30)), (true, .exit 0, st_f26_0_e0)])
def g_f26 : G := ⟨TYs, [], 108, EL [(54, sp_f54), (56, sp_f56)], keeps, (Ls [L_f26_0]), IL [], RL []⟩
def b_f26_0 (x3 : Int) (y1 : Item) : Option (Exit × VS) :=
 br ((ilt x3 (llen y1.2.2.2.1)))
  (br (cIx y1.2.2.2.1 x3)
   (br ((!(validF ((lgt tyLink y1.2.2.2.1 (Int.toNat x3)).1))))
    (some (.ret, st_f26_0_ret 30))
    (br (cIx y1.2.2.2.1 x3)
     (br ((ilt (((lgt tyLink y1.2.2.2.1 (Int.toNat x3)).2).1) 0))
      (some (.ret, st_f26_0_ret 30))
      (br (cIx y1.2.2.2.1 x3)
       (br ((igt (((lgt tyLink y1.2.2.2.1 (Int.toNat x3)).2).1) 40000))
        (some (.ret, st_f26_0_ret 30))
        (br ((igt x3 0))
         (br (cIx y1.2.2.2.1 (isub .i64 x3 1))
          (br (cIx y1.2.2.2.1 x3)
           (br ((ige (((lgt tyLink y1.2.2.2.1 (Int.toNat (isub .i64 x3 1))).2).1) (((lgt tyLink y1.2.2.2.1 (Int.toNat x3)).2).1)))
            (some (.ret, st_f26_0_ret 30))
            (some (.normal, st_f26_0 (iadd .i64 x3 1) y1)))
           (none))
          (none))
         (some (.normal, st_f26_0 (iadd .i64 x3 1) y1))))
       (none)))
     (none)))
   (none))
  (some (.exit 0, st_f26_0_e0))
noncomputable def lp_f26_0 (x3 : Int) (y1 : Item) : Option (Exit × VS) := loopF (roundF g_f26 fg_f26_0 tb_f26_0) (st_f26_0 x3 y1)
noncomputable def n_f26_0 (x3 : Int) (y1 : Item) : Option (Exit × VS) :=
 br ((ilt x3 (llen y1.2.2.2.1)))
  (br (cIx y1.2.2.2.1 x3)
   (br ((!(validF ((lgt tyLink y1.2.2.2.1 (Int.toNat x3)).1))))
    (some (.ret, st_f26_0_ret 30))
    (br (cIx y1.2.2.2.1 x3)
     (br ((ilt (((lgt tyLink y1.2.2.2.1 (Int.toNat x3)).2).1) 0))
      (some (.ret, st_f26_0_ret 30))
      (br (cIx y1.2.2.2.1 x3)
       (br ((igt (((lgt tyLink y1.2.2.2.1 (Int.toNat x3)).2).1) 40000))
        (some (.ret, st_f26_0_ret 30))
        (br ((igt x3 0))
         (br (cIx y1.2.2.2.1 (isub .i64 x3 1))
          (br (cIx y1.2.2.2.1 x3)
           (br ((ige (((lgt tyLink y1.2.2.2.1 (Int.toNat (isub .i64 x3 1))).2).1) (((lgt tyLink y1.2.2.2.1 (Int.toNat x3)).2).1)))
            (some (.ret, st_f26_0_ret 30))
            (lp_f26_0 (iadd .i64 x3 1) y1))
           (none))
          (none))
         (lp_f26_0 (iadd .i64 x3 1) y1)))
       (none)))
     (none)))
   (none))
  (some (.exit 0, st_f26_0_e0))
def la_f26_0 (x3 : Int) (y1 : Item) : Option (Exit × VS) := br (!(linksB (pvAt y1.2.2.2.1 x3.toNat) (y1.2.2.2.1.drop x3.toNat))) (some (.ret, st_f26_0_ret (30))) <| some (.exit 0, st_f26_0_e0)
theorem be_f26_0 (x3 : Int) (y1 : Item) : roundF g_f26 fg_f26_0 tb_f26_0 (st_f26_0 x3 y1) = b_f26_0 x3 y1 := by kernel_rfl
theorem ln_f26_0 (x3 : Int) (y1 : Item) : lp_f26_0 x3 y1 = n_f26_0 x3 y1 := (loopF_nxt _ _).trans (by
 rw [be_f26_0]
 simp only [b_f26_0, n_f26_0, nxt_br, nxt_n, nxt_r, nxt_e, nxt_0]
 rfl)
def r_f26_1 (p0 : Item) : Option (V × List VO) :=
 br ((ilt p0.2.2.1 1))
  (some (.t tI 30, []))
  (br ((igt p0.2.2.1 4))
   (some (.t tI 30, []))
   (br ((ilt (llen p0.2.2.2.1) 1))
    (some (.t tI 30, []))
    (br ((igt (llen p0.2.2.2.1) 8))
     (some (.t tI 30, []))
     (br ((igt p0.2.2.2.2.1 40000))
      (some (.t tI 30, []))
      (br (cIx p0.2.2.2.1 0)
       (br ((ilt p0.2.2.2.2.1 (((lgt tyLink p0.2.2.2.1 (Int.toNat 0)).2).1)))
        (some (.t tI 30, []))
        (br ((decide (0 ≤ (0 : Int) ∧ (0 : Int) ≤ p0.2.2.2.1.length ∧ p0.2.2.2.1.length ≤ 8)))
         (br ((!(linksB (pvAt p0.2.2.2.1 (0 : Int).toNat) (p0.2.2.2.1.drop (0 : Int).toNat))))
          (some (.t tI (30), []))
          (some (.t tI 0, [])))
         (none)))
       (none))))))
def r_f26 (p0 : Item) : Option (V × List VO) :=
 br ((nameOk p0.1))
  (br ((!(namedF p0.1)))
   (some (.t tI 30, []))
   (br ((ine p0.2.1 1))
    (br ((ine p0.2.1 2))
     (some (.t tI 30, []))
     (r_f26_1 p0))
    (r_f26_1 p0)))
  (none)
theorem e_f26 (p0 : Item) : runF g_f26 tc_f26 rv_f26 false [.t tyItem p0] [] = r_f26 p0 := by kernel_rfl
theorem ok_f26 : Option.map (trC Tryz.prog) Tryz.f26.body = some tc_f26.er := by kernel_rfl
theorem rok_f26 : trVs Tryz.prog Tryz.f26.results.toList = some (rv_f26.map Prod.fst) := by kernel_rfl
theorem en_f26 : Entered Tryz.prog 26 := .inr ⟨by decide, _, Tryz.func26, by kernel_rfl, by kernel_rfl⟩
theorem gk_f26 : GOk Tryz.prog g_f26 := gok_of _ (by
 intro p hp
 simp only [List.mem_cons, List.not_mem_nil, or_false] at hp
 rcases hp with rfl | rfl
 ·exact ⟨en_f54, ms_f54⟩
 ·exact ⟨en_f56, ms_f56⟩)
theorem l_f26_0 (x3 : Int) (y1 : Item) (h : (decide (0 ≤ x3 ∧ x3 ≤ y1.2.2.2.1.length ∧ y1.2.2.2.1.length ≤ 8)) = true) : lp_f26_0 x3 y1 = la_f26_0 x3 y1 := by
 simp only [decide_eq_true_eq] at h
 obtain ⟨h1, h2, h3⟩ := h
 obtain ⟨k, rfl⟩ := Int.eq_ofNat_of_zero_le h1
 refine range_ind y1.2.2.2.1 (fun k => lp_f26_0 (k : Int) y1 = la_f26_0 (k : Int) y1) ?_ ?_ k (by omega)
 ·rw [ln_f26_0]
  simp [n_f26_0, la_f26_0, ilt_nat, llen, br_false, linksB]
 ·intro k hk ih
  rw [ln_f26_0]
  have el : la_f26_0 (k : Int) y1 = br (!(validF y1.2.2.2.1[k].1 && decide (0 ≤ y1.2.2.2.1[k].2.1 ∧ y1.2.2.2.1[k].2.1 ≤ 40000) && (match pvAt y1.2.2.2.1 k with | none => true | some d => decide (d < y1.2.2.2.1[k].2.1)))) (some (.ret, st_f26_0_ret 30)) (la_f26_0 ((k + 1 : Nat) : Int) y1) := by
   have e1 : pvAt y1.2.2.2.1 (k + 1) = some y1.2.2.2.1[k].2.1 := by
    unfold pvAt
    rw [if_neg (by omega), Nat.add_sub_cancel, List.getElem?_eq_getElem hk]
    rfl
   simp only [la_f26_0, Int.toNat_natCast, e1]
   rw [List.drop_eq_getElem_cons hk, linksB_cons]
   generalize (validF y1.2.2.2.1[k].1 && decide (0 ≤ y1.2.2.2.1[k].2.1 ∧ y1.2.2.2.1[k].2.1 ≤ 40000) && (match pvAt y1.2.2.2.1 k with | none => true | some d => decide (d < y1.2.2.2.1[k].2.1))) = c
   cases c <;> rfl
  rw [el]
  simp only [n_f26_0, ilt_nat, llen, cIx_nat, hk, decide_true, br_true, Int.toNat_natCast, add1 (show k < 4611686018427387904 by omega), lgt_get (y := tyLink) hk, ih]
  cases validF y1.2.2.2.1[k].1 with
  | false => rfl
  | true =>
   simp only [Bool.not_true, br_false, Bool.true_and]
   by_cases c1 : y1.2.2.2.1[k].2.1 < 0
   ·rw [show ilt y1.2.2.2.1[k].2.1 0 = true from decide_eq_true c1, br_true, decide_eq_false (show ¬ (0 ≤ y1.2.2.2.1[k].2.1 ∧ y1.2.2.2.1[k].2.1 ≤ 40000) by omega)]
    rfl
   ·rw [show ilt y1.2.2.2.1[k].2.1 0 = false from decide_eq_false c1, br_false]
    by_cases c2 : 40000 < y1.2.2.2.1[k].2.1
    ·rw [show igt y1.2.2.2.1[k].2.1 40000 = true from decide_eq_true (by omega), br_true, decide_eq_false (show ¬ (0 ≤ y1.2.2.2.1[k].2.1 ∧ y1.2.2.2.1[k].2.1 ≤ 40000) by omega)]
     rfl
    ·rw [show igt y1.2.2.2.1[k].2.1 40000 = false from decide_eq_false (by omega), br_false, decide_eq_true (show 0 ≤ y1.2.2.2.1[k].2.1 ∧ y1.2.2.2.1[k].2.1 ≤ 40000 by omega)]
     simp only [Bool.true_and]
     by_cases hk0 : k = 0
     ·subst hk0
      rfl
     ·have hk1 : k - 1 < y1.2.2.2.1.length := by omega
      have e1 : isub .i64 (k : Int) 1 = ((k - 1 : Nat) : Int) := by rw [isub_in (by omega)]; omega
      have e2 : igt (k : Int) 0 = true := by simp only [igt, decide_eq_true_eq]; omega
      have e3 : pvAt y1.2.2.2.1 k = some y1.2.2.2.1[k - 1].2.1 := by
       unfold pvAt
       rw [if_neg hk0, List.getElem?_eq_getElem hk1]
       rfl
      rw [e1, e2, e3, br_true]
      simp only [cIx_nat, hk1, decide_true, br_true, Int.toNat_natCast, lgt_get (y := tyLink) hk1]
      by_cases c3 : y1.2.2.2.1[k - 1].2.1 < y1.2.2.2.1[k].2.1
      ·rw [show ige y1.2.2.2.1[k - 1].2.1 y1.2.2.2.1[k].2.1 = false from decide_eq_false (by omega), br_false, decide_eq_true c3]
       rfl
      ·rw [show ige y1.2.2.2.1[k - 1].2.1 y1.2.2.2.1[k].2.1 = true from decide_eq_true (by omega), br_true, decide_eq_false c3]
       rfl
theorem lo_f26_0 : ∀ S l p, g_f26.L 0 (fgt fg_f26_0 S) = some (true, l) → pickA l = some p → loopF (roundF g_f26 fg_f26_0 tb_f26_0) S = some p :=
 lok_of (s := sh_f26_0) ⟨by decide, by decide⟩ (by kernel_rfl) fun x y hok p hp => by
 simp only [pickA_br, pickA_one] at hp
 exact (l_f26_0 x.2.1 y.1 (by simpa using hok)).trans hp
theorem lk_f26 : tc_f26.lok g_f26 := by
 repeat (first | exact trivial | exact lo_f26_0 | refine ⟨?_, ?_⟩)
theorem s_f26 (i : Item) (h : itemLen i = true) : r_f26 i = some (.t tI (checkI i), []) := by
 have h : nameOk i.1 = true := h
 have bad : (itemOk i = true → False) → some (V.t tI 30, ([] : List VO)) = some (V.t tI (checkI i), []) := fun hq => by
  cases hi : itemOk i with
  | false => simp [checkI, hi]
  | true => exact (hq hi).elim
 have tail : namedF i.1 = true → (1 ≤ i.2.1 ∧ i.2.1 ≤ 2) → r_f26_1 i = some (.t tI (checkI i), []) := fun k1 k2 => by
  simp only [r_f26_1]
  refine br_intro (fun g => bad fun hq => ?_) (fun g1 => br_intro (fun g => bad fun hq => ?_) (fun g2 => br_intro (fun g => bad fun hq => ?_) (fun g3 => br_intro (fun g => bad fun hq => ?_) (fun g4 => br_intro (fun g => bad fun hq => ?_) (fun g5 => ?_)))))
  ·have := itemOk_iff.1 hq; simp only [ilt, decide_eq_true_eq] at g; omega
  ·have := itemOk_iff.1 hq; simp only [igt, decide_eq_true_eq] at g; omega
  ·have := itemOk_iff.1 hq; simp only [ilt, llen, decide_eq_true_eq] at g; omega
  ·have := itemOk_iff.1 hq; simp only [igt, llen, decide_eq_true_eq] at g; omega
  ·have := itemOk_iff.1 hq; simp only [igt, decide_eq_true_eq] at g; omega
  ·simp only [ilt, igt, llen, decide_eq_false_iff_not] at g1 g2 g3 g4 g5
   have hl : 0 < i.2.2.2.1.length := by omega
   have e1 : cIx i.2.2.2.1 0 = true := by simp only [cIx, decide_eq_true_eq]; omega
   have e2 : lgt tyLink i.2.2.2.1 (Int.toNat 0) = i.2.2.2.1.headD ((0, (0, ())), (0, ())) := by
    cases hq : i.2.2.2.1 with
    | nil => rw [hq] at hl; simp at hl
    | cons a l => rfl
   rw [e1, br_true, e2]
   refine br_intro (fun g => bad fun hq => ?_) (fun g6 => ?_)
   ·have := itemOk_iff.1 hq; simp only [ilt, decide_eq_true_eq] at g; omega
   ·simp only [ilt, decide_eq_false_iff_not] at g6
    rw [dec_true ⟨Int.le_refl 0, by omega, by omega⟩, br_true]
    have e0 : pvAt i.2.2.2.1 (0 : Int).toNat = none := rfl
    rw [e0, Int.toNat_zero, List.drop_zero]
    refine br_intro (fun g => bad fun hq => ?_) (fun g7 => ?_)
    ·have := itemOk_iff.1 hq
     rw [this.2.2.2.2.1] at g
     cases g
    ·have : itemOk i = true := itemOk_iff.2 ⟨k1, k2, by omega, by omega, by simpa using g7, by omega, by omega⟩
     simp [checkI, this]
 simp only [r_f26]
 rw [h]
 simp only [br_true]
 refine br_intro (fun g => bad fun hq => ?_) (fun g1 => br_intro (fun g2 => br_intro (fun g => bad fun hq => ?_) (fun g3 => ?_)) (fun g2 => ?_))
 ·rw [(itemOk_iff.1 hq).1] at g; cases g
 ·have := itemOk_iff.1 hq
  simp only [ine, bne_iff_ne, ne_eq] at g g2
  omega
 ·simp only [ine, bne_eq_false_iff_eq] at g3
  exact tail (by simpa using g1) (by omega)
 ·simp only [ine, bne_eq_false_iff_eq] at g2
  exact tail (by simpa using g1) (by omega)
def sp_f26 : Ent := spec (.pr tyItem .nil) (fun x => (itemLen x.1)) (fun x => (.t tI (checkI x.1)))
theorem ms_f26 : Meets Tryz.prog 26 (strip sp_f26) := by
 obtain ⟨c, hc, hi⟩ := Option.map_eq_some_iff.1 ok_f26
 exact meets_spec (R := runF g_f26 tc_f26 rv_f26 false) (meets_of (by decide) Tryz.func26 hc hi Tryz.ntmps26 rok_f26 gk_f26 lk_f26 mixed) fun x hok => (e_f26 x.1).trans (s_f26 x.1 hok)
def rcheckF (y : Policy) (i : Item) : Int := if fineB y i then 0 else ofE y i
def tc_f51 : TC := (.sq (.reg [(oM 2 (.box (.t 0))), (oM 3 (.box (.t 1))), (oP 4 (.mv (cI 0)))]) (.sq (.sq (.reg [(oM 6 (.ld true 2 (.t 2))), (oC 7 69 [(.t 6)]), (oV 5 7)]) (.sq (.reg [(oV 8 5), (oP 9 (.bin false .neq (.t 8) (cI 0)))]) (.cd (.t 9) (.sq (.reg [(oV 10 5), (oV 4 10)]) .rt) .sk))) (.sq (.reg [(oM 11 (.ld true 5 (.t 3))), (oC 12 26 [(.t 11)]), (oV 4 12)]) .rt)))
def rv_f51 : List (RV × Option Ty) := [((.t 4), some tI)]
def g_f51 : G := ⟨TYs, [], 13, EL [(26, sp_f26), (69, sp_f69)], keeps, (fun _ _ => none), IL [], RL []⟩
def r_f51 (p0 : Policy) (p1 : Item) : Option (V × List VO) :=
 br ((polLen p0))
  (br ((ine (checkF p0) 0))
   (some (.t tI (checkF p0), []))
   (br ((itemLen p1))
    (some (.t tI (checkI p1), []))
    (none)))
  (none)
theorem e_f51 (p0 : Policy) (p1 : Item) : runF g_f51 tc_f51 rv_f51 false [.t tyPolicy p0, .t tyItem p1] [] = r_f51 p0 p1 := by kernel_rfl
theorem ok_f51 : Option.map (trC Tryz.prog) Tryz.f51.body = some tc_f51.er := by kernel_rfl
theorem rok_f51 : trVs Tryz.prog Tryz.f51.results.toList = some (rv_f51.map Prod.fst) := by kernel_rfl
theorem en_f51 : Entered Tryz.prog 51 := .inr ⟨by decide, _, Tryz.func51, by kernel_rfl, by kernel_rfl⟩
theorem gk_f51 : GOk Tryz.prog g_f51 := gok_of _ (by
 intro p hp
 simp only [List.mem_cons, List.not_mem_nil, or_false] at hp
 rcases hp with rfl | rfl
 ·exact ⟨en_f26, ms_f26⟩
 ·exact ⟨en_f69, ms_f69⟩)
theorem lk_f51 : tc_f51.lok g_f51 := by repeat (first | exact trivial | refine ⟨?_, ?_⟩)
theorem s_f51 (y : Policy) (i : Item) (h : fineLen y i = true) : r_f51 y i = some (.t tI (rcheckF y i), []) := by
 simp only [fineLen, Bool.and_eq_true] at h
 have h2 : itemLen i = true := h.2
 simp only [r_f51, h.1, h2, br_true]
 unfold rcheckF fineB ofE checkF checkI
 generalize polOk y = a
 generalize itemOk i = b
 cases a <;> cases b <;> rfl
def sp_f51 : Ent := spec (.pr tyPolicy (.pr tyItem .nil)) (fun x => (fineLen x.1 x.2.1)) (fun x => (.t tI (rcheckF x.1 x.2.1)))
theorem ms_f51 : Meets Tryz.prog 51 (strip sp_f51) := by
 obtain ⟨c, hc, hi⟩ := Option.map_eq_some_iff.1 ok_f51
 exact meets_spec (R := runF g_f51 tc_f51 rv_f51 false) (meets_of (by decide) Tryz.func51 hc hi Tryz.ntmps51 rok_f51 gk_f51 lk_f51 mixed) fun x hok => (e_f51 x.1 x.2.1).trans (s_f51 x.1 x.2.1 hok)
theorem rcheck_ne {y : Policy} {i : Item} : (fineB y i = true ∧ rcheckF y i = 0) ∨ (fineB y i = false ∧ rcheckF y i = ofE y i ∧ ine (ofE y i) 0 = true) := by
 unfold rcheckF
 cases hf : fineB y i with
 | true => exact .inl ⟨rfl, rfl⟩
 | false => exact .inr ⟨rfl, rfl, ofE_ne y i⟩
def dr_f17_0 : List DO := [(.mk (oM 29 (.ld true 2 (.t 2))) []), (.mk (oP 30 (.fa 3 (.t 3))) []), (.mk (oL 31 30) [1]), (.mk (oV 32 7) []), (.mk (oP 33 (.bin false .sub (.t 32) (cI 1))) [3]), (.mk (oP 34 (.ix 3 (.t 31) (.t 33))) [2, 4]), (.mk (oP 35 (.fa 0 (.t 34))) [5]), (.mk (oM 36 (.ld true 2 (.t 35))) [6]), (.mk (oP 37 (.fa 2 (.t 3))) []), (.mk (oL 38 37) [8]), (.mk (oC 39 39 [(.t 29), (.t 36), (.t 38)]) [0, 7, 9]), (.mk (oV 28 39) [10]), (.mk (oP 40 (.ext 0 (.t 28))) [11]), (.mk (oP 41 (.ext 1 (.t 28))) [11]), (.mk (oP 42 (.ext 2 (.t 28))) [11]), (.mk (oV 8 40) [12, 10, 0, 1, 2, 3, 4, 5, 6, 7, 8, 9, 10, 11, 12]), (.mk (oV 9 41) [13, 15, 0, 1, 2, 3, 4, 5, 6, 7, 8, 9, 10, 11, 12, 13, 15]), (.mk (oV 10 42) [14, 16, 0, 1, 2, 3, 4, 5, 6, 7, 8, 9, 10, 11, 12, 13, 14, 15, 16])]
def fg_f17_0 : Fg := ⟨[(2, none), (3, none), (7, some tI)], [(2, some tyPolicy), (3, some tyItem)]⟩
def tb_f17_0 : TC := (.sq (.sq (.reg [(oV 23 7), (oP 24 (.fa 3 (.t 3))), (oL 25 24), (oP 26 (.len false (.t 25))), (oP 27 (.bin false .lss (.t 23) (.t 26)))]) (.cd (.t 27) .sk (.fg ⟨[(7, some tI)], []⟩ (.ex 0)))) (.bk 1 (.sq (.dr dr_f17_0 [(0, [2]), (1, [3]), (2, [3]), (3, []), (4, []), (5, []), (6, []), (7, []), (8, [3]), (9, [3]), (10, []), (11, []), (12, []), (13, []), (14, []), (15, []), (16, []), (17, [])] (.of [0, 1, 2, 3, 4, 5, 6, 7, 8, 9, 10, 11, 12, 13, 14, 15, 16, 17])) (.sq (.sq (.reg [(oV 43 9), (oV 44 43), (oQ 45 44 true (.fa 3 (.t 3))), (oG 46 44 true (.m (.ld false 1 (.t 45)))), (oQ 47 44 true (.mv (.t 7))), (oQ 48 44 true (.ix 3 (.t 46) (.t 47))), (oQ 49 44 true (.fa 2 (.t 48))), (oG 50 44 true (.m (.ld false 1 (.t 49)))), (oQ 51 44 true (.mv (.t 8))), (oQ 52 44 true (.bin false .geq (.t 50) (.t 51))), (oP 53 (.pick (.t 44) (.t 52) (cB false)))]) (.cd (.t 53) (.fg ⟨[(7, some tI)], []⟩ (.ex 0)) .sk)) (.reg [(oV 54 7), (oP 55 (.bin false .add (.t 54) (cI 1))), (oV 7 55)])))))
def tc_f17 : TC := (.sq (.reg [(oM 2 (.box (.t 0))), (oM 3 (.box (.t 1))), (oP 4 (.mv (cI 0))), (oP 5 (.mv (cI 0)))]) (.sq (.sq (.reg [(oM 11 (.ld true 2 (.t 2))), (oM 12 (.ld true 5 (.t 3))), (oC 13 51 [(.t 11), (.t 12)]), (oV 6 13)]) (.sq (.reg [(oV 14 6), (oP 15 (.bin false .neq (.t 14) (cI 0)))]) (.cd (.t 15) (.sq (.reg [(oV 16 6), (oP 4 (.mv (cI 0))), (oV 5 16)]) .rt) .sk))) (.sq (.sq (.reg [(oP 17 (.fa 1 (.t 3))), (oL 18 17), (oP 19 (.bin false .eql (.t 18) (cI 1)))]) (.cd (.t 19) (.sq (.reg [(oP 20 (.fa 3 (.t 3))), (oL 21 20), (oP 22 (.len false (.t 21))), (oV 4 22), (oP 5 (.mv (cI 0)))]) .rt) .sk)) (.sq (.reg [(oP 7 (.mv (cI 1)))]) (.sq (.bk 0 (.lp 0 fg_f17_0 tb_f17_0)) (.sq (.reg [(oV 56 7), (oV 4 56), (oP 5 (.mv (cI 0)))]) .rt))))))
def rv_f17 : List (RV × Option Ty) := [((.t 4), some tI), ((.t 5), some tI)]
abbrev sh_f17_0 : Sh := ⟨[(2, .ptr 2 0), (3, .ptr 3 0), (7, .ty tI)], [(2, .box tyPolicy), (3, .box tyItem)]⟩
def st_f17_0 (x7 : Int) (y2 : Policy) (y3 : Item) : VS := sh_f17_0.st ((), (), x7, ()) (y2, y3, ())
abbrev sh_f17_0_e0 : Sh := ⟨[(7, .ty tI)], []⟩
def st_f17_0_e0 (x7 : Int) : VS := sh_f17_0_e0.st (x7, ()) ()
-- loop 0: (x7 : Int) (y2 : Policy) (y3 : Item); out: ('exit', 0) (x7 : Int)
def L_f17_0 : VS → Option (Bool × List (Bool × Exit × VS)) := mkL sh_f17_0 (fun x y => (fineB y.1 y.2.1 && decide (1 ≤ x.2.2.1 ∧ x.2.2.1 ≤ y.2.1.2.2.2.1.length))) (fun x y => [(true, .exit 0, st_f17_0_e0 (x.2.2.1 + (cntD ((lksF y.1 y.2.1).drop (x.2.2.1 - 1).toNat) : Int)))])
def g_f17 : G := ⟨TYs, [], 57, EL [(39, sp_f39), (51, sp_f51)], keeps, (Ls [L_f17_0]), IL [], RL []⟩
def b_f17_0 (x7 : Int) (y2 : Policy) (y3 : Item) : Option (Exit × VS) :=
 br ((ilt x7 (llen y3.2.2.2.1)))
  (br (cIx y3.2.2.2.1 (isub .i64 x7 1))
   (br ((polLen3 y2 ((lgt tyLink y3.2.2.2.1 (Int.toNat (isub .i64 x7 1))).1) y3.2.2.1))
    (br (((FallsF y2 ((lgt tyLink y3.2.2.2.1 (Int.toNat (isub .i64 x7 1))).1) y3.2.2.1).2).1)
     (br (cIx y3.2.2.2.1 x7)
      (br ((ige (((lgt tyLink y3.2.2.2.1 (Int.toNat x7)).2).1) ((FallsF y2 ((lgt tyLink y3.2.2.2.1 (Int.toNat (isub .i64 x7 1))).1) y3.2.2.1).1)))
       (some (.exit 0, st_f17_0_e0 x7))
       (some (.normal, st_f17_0 (iadd .i64 x7 1) y2 y3)))
      (none))
     (some (.normal, st_f17_0 (iadd .i64 x7 1) y2 y3)))
    (none))
   (none))
  (some (.exit 0, st_f17_0_e0 x7))
noncomputable def lp_f17_0 (x7 : Int) (y2 : Policy) (y3 : Item) : Option (Exit × VS) := loopF (roundF g_f17 fg_f17_0 tb_f17_0) (st_f17_0 x7 y2 y3)
noncomputable def n_f17_0 (x7 : Int) (y2 : Policy) (y3 : Item) : Option (Exit × VS) :=
 br ((ilt x7 (llen y3.2.2.2.1)))
  (br (cIx y3.2.2.2.1 (isub .i64 x7 1))
   (br ((polLen3 y2 ((lgt tyLink y3.2.2.2.1 (Int.toNat (isub .i64 x7 1))).1) y3.2.2.1))
    (br (((FallsF y2 ((lgt tyLink y3.2.2.2.1 (Int.toNat (isub .i64 x7 1))).1) y3.2.2.1).2).1)
     (br (cIx y3.2.2.2.1 x7)
      (br ((ige (((lgt tyLink y3.2.2.2.1 (Int.toNat x7)).2).1) ((FallsF y2 ((lgt tyLink y3.2.2.2.1 (Int.toNat (isub .i64 x7 1))).1) y3.2.2.1).1)))
       (some (.exit 0, st_f17_0_e0 x7))
       (lp_f17_0 (iadd .i64 x7 1) y2 y3))
      (none))
     (lp_f17_0 (iadd .i64 x7 1) y2 y3))
    (none))
   (none))
  (some (.exit 0, st_f17_0_e0 x7))
def la_f17_0 (x7 : Int) (y2 : Policy) (y3 : Item) : Option (Exit × VS) := some (.exit 0, st_f17_0_e0 (x7 + (cntD ((lksF y2 y3).drop (x7 - 1).toNat) : Int)))
theorem be_f17_0 (x7 : Int) (y2 : Policy) (y3 : Item) : roundF g_f17 fg_f17_0 tb_f17_0 (st_f17_0 x7 y2 y3) = b_f17_0 x7 y2 y3 := by kernel_rfl
theorem ln_f17_0 (x7 : Int) (y2 : Policy) (y3 : Item) : lp_f17_0 x7 y2 y3 = n_f17_0 x7 y2 y3 := (loopF_nxt _ _).trans (by
 rw [be_f17_0]
 simp only [b_f17_0, n_f17_0, nxt_br, nxt_n, nxt_r, nxt_e, nxt_0]
 rfl)
def r_f17 (p0 : Policy) (p1 : Item) : Option (V × List VO) :=
 br ((fineLen p0 p1))
  (br ((ine (rcheckF p0 p1) 0))
   (some (.tu [(.t tI 0), (.t tI (rcheckF p0 p1))], []))
   (br ((ieq p1.2.1 1))
    (some (.tu [(.t tI (llen p1.2.2.2.1)), (.t tI 0)], []))
    (br ((fineB p0 p1 && decide (1 ≤ (1 : Int) ∧ (1 : Int) ≤ p1.2.2.2.1.length)))
     (some (.tu [(.t tI ((1 : Int) + (cntD ((lksF p0 p1).drop ((1 : Int) - 1).toNat) : Int))), (.t tI 0)], []))
     (none))))
  (none)
theorem e_f17 (p0 : Policy) (p1 : Item) : runF g_f17 tc_f17 rv_f17 false [.t tyPolicy p0, .t tyItem p1] [] = r_f17 p0 p1 := by kernel_rfl
theorem ok_f17 : Option.map (trC Tryz.prog) Tryz.f17.body = some tc_f17.er := by kernel_rfl
theorem rok_f17 : trVs Tryz.prog Tryz.f17.results.toList = some (rv_f17.map Prod.fst) := by kernel_rfl
theorem en_f17 : Entered Tryz.prog 17 := .inr ⟨by decide, _, Tryz.func17, by kernel_rfl, by kernel_rfl⟩
theorem gk_f17 : GOk Tryz.prog g_f17 := gok_of _ (by
 intro p hp
 simp only [List.mem_cons, List.not_mem_nil, or_false] at hp
 rcases hp with rfl | rfl
 ·exact ⟨en_f39, ms_f39⟩
 ·exact ⟨en_f51, ms_f51⟩)
theorem l_f17_0 (x7 : Int) (y2 : Policy) (y3 : Item) (h : (fineB y2 y3 && decide (1 ≤ x7 ∧ x7 ≤ y3.2.2.2.1.length)) = true) : lp_f17_0 x7 y2 y3 = la_f17_0 x7 y2 y3 := by
 simp only [Bool.and_eq_true, decide_eq_true_eq] at h
 obtain ⟨hf, h1, h2⟩ := h
 have hf2 := hf
 simp only [fineB, Bool.and_eq_true] at hf2
 have hi := itemOk_iff.1 hf2.2
 have hpl : ∀ u q, polLen3 y2 u q = true := fun u q => (pol_len hf2.1).1
 obtain ⟨k, hk⟩ : ∃ k : Nat, x7 = ((k + 1 : Nat) : Int) := ⟨(x7 - 1).toNat, by omega⟩
 subst hk
 obtain ⟨m, hm⟩ : ∃ m, m = y3.2.2.2.1.length - (k + 1) := ⟨_, rfl⟩
 have hlk : (lksF y2 y3).length = y3.2.2.2.1.length := by simp [lksF]
 induction m generalizing k with
 | zero =>
  rw [ln_f17_0]
  have e1 : ilt ((k + 1 : Nat) : Int) (llen y3.2.2.2.1) = false := by simp only [ilt, llen, decide_eq_false_iff_not]; omega
  have hk0 : k < (lksF y2 y3).length := by omega
  have e7 : (lksF y2 y3).drop (k + 1) = [] := List.drop_eq_nil_of_le (by omega)
  have e2 : (((k + 1 : Nat) : Int) - 1).toNat = k := by omega
  simp only [n_f17_0, e1, br_false, la_f17_0, e2, List.drop_eq_getElem_cons hk0, e7, cntD, cntL]
  simp
 | succ m ih =>
  rw [ln_f17_0]
  have hk1 : k + 1 < y3.2.2.2.1.length := by omega
  have hk0 : k < y3.2.2.2.1.length := by omega
  have e1 : ilt ((k + 1 : Nat) : Int) (llen y3.2.2.2.1) = true := by simp only [ilt, llen, decide_eq_true_eq]; omega
  have e3 : isub .i64 ((k + 1 : Nat) : Int) 1 = (k : Int) := by rw [isub_in (by omega)]; omega
  have hv := linksB_all hi.2.2.2.2.1 y3.2.2.2.1[k] (List.getElem_mem hk0)
  have ef := falls_fine (u := y3.2.2.2.1[k].1) (p := y3.2.2.1) hf2.1 hv.1 hi.2.2.1.1 hi.2.2.1.2
  have ih := ih (k + 1) (by omega) (by omega) (by omega)
  have e2 : (((k + 1 : Nat) : Int) - 1).toNat = k := by omega
  have e5 : (((k + 1 + 1 : Nat) : Int) - 1).toNat = k + 1 := by omega
  have hd0 : k < (lksF y2 y3).length := by omega
  have hd1 : k + 1 < (lksF y2 y3).length := by omega
  have g0 : (lksF y2 y3)[k] = lkF y2 y3.2.2.1 y3.2.2.2.1[k] := by simp [lksF]
  have g1 : (lksF y2 y3)[k + 1] = lkF y2 y3.2.2.1 y3.2.2.2.1[k + 1] := by simp [lksF]
  have el : la_f17_0 ((k + 1 : Nat) : Int) y2 y3 = br (cnd (lkF y2 y3.2.2.1 y3.2.2.2.1[k]) (lkF y2 y3.2.2.1 y3.2.2.2.1[k + 1])) (la_f17_0 ((k + 1 + 1 : Nat) : Int) y2 y3) (some (.exit 0, st_f17_0_e0 ((k + 1 : Nat) : Int))) := by
   simp only [la_f17_0, e2, e5, List.drop_eq_getElem_cons hd0, List.drop_eq_getElem_cons hd1, cntD, g0, g1]
   have e9 : ∀ (a b : LinkX) (r : List LinkX), cntL a (b :: r) = if cnd a b then cntL b r + 1 else 0 := fun _ _ _ => rfl
   rw [e9]
   cases hcn : cnd (lkF y2 y3.2.2.1 y3.2.2.2.1[k]) (lkF y2 y3.2.2.1 y3.2.2.2.1[k + 1]) with
   | true =>
    rw [if_pos rfl, br_true]
    congr 3
    omega
   | false =>
    rw [if_neg (by simp), br_false]
    simp
  rw [el]
  simp only [n_f17_0, e1, e3, br_true, cIx_nat, hk1, hk0, decide_true, Int.toNat_natCast, lgt_get (y := tyLink) hk1, lgt_get (y := tyLink) hk0, hpl, ef, add1 (show k + 1 < 4611686018427387904 by omega), ih]
  simp only [cnd, lkF]
  by_cases c1 : (fallL (spansF y2 y3.2.2.2.1[k].1 y3.2.2.1)).2 = true
  ·rw [c1, br_true]
   by_cases c2 : y3.2.2.2.1[k + 1].2.1 < (fallL (spansF y2 y3.2.2.2.1[k].1 y3.2.2.1)).1
   ·rw [show ige y3.2.2.2.1[k + 1].2.1 (fallL (spansF y2 y3.2.2.2.1[k].1 y3.2.2.1)).1 = false from decide_eq_false (by omega), br_false, show ilt y3.2.2.2.1[k + 1].2.1 (fallL (spansF y2 y3.2.2.2.1[k].1 y3.2.2.1)).1 = true from decide_eq_true c2]
    rfl
   ·rw [show ige y3.2.2.2.1[k + 1].2.1 (fallL (spansF y2 y3.2.2.2.1[k].1 y3.2.2.1)).1 = true from decide_eq_true (by omega), br_true, show ilt y3.2.2.2.1[k + 1].2.1 (fallL (spansF y2 y3.2.2.2.1[k].1 y3.2.2.1)).1 = false from decide_eq_false c2]
    rfl
  ·rw [show (fallL (spansF y2 y3.2.2.2.1[k].1 y3.2.2.1)).2 = false by simpa using c1]
   rfl
theorem lo_f17_0 : ∀ S l p, g_f17.L 0 (fgt fg_f17_0 S) = some (true, l) → pickA l = some p → loopF (roundF g_f17 fg_f17_0 tb_f17_0) S = some p :=
 lok_of (s := sh_f17_0) ⟨by decide, by decide⟩ (by kernel_rfl) fun x y hok p hp => by
 simp only [pickA_br, pickA_one] at hp
 exact (l_f17_0 x.2.2.1 y.1 y.2.1 (by simpa using hok)).trans hp
theorem lk_f17 : tc_f17.lok g_f17 := by
 repeat (first | exact trivial | exact lo_f17_0 | refine ⟨?_, ?_⟩)
theorem s_f17 (y : Policy) (i : Item) (h : fineLen y i = true) : r_f17 y i = some (.tu [.t tI (LinksF y i).1, .t tI (LinksF y i).2], []) := by
 simp only [r_f17, h, br_true]
 rcases rcheck_ne (y := y) (i := i) with ⟨q1, q2⟩ | ⟨q1, q2, q3⟩
 ·rw [q2, q1, show ine 0 0 = false from rfl, br_false, Bool.true_and]
  have hf2 := q1
  simp only [fineB, Bool.and_eq_true] at hf2
  have hi := itemOk_iff.1 hf2.2
  rw [dec_true ⟨Int.le_refl 1, by omega⟩, br_true]
  unfold LinksF
  rw [q1, if_pos rfl]
  have e0 : (1 - 1 : Int).toNat = 0 := rfl
  rw [e0, List.drop_zero]
  cases hk : ieq i.2.1 1 with
  | true =>
   simp only [br_true, if_true, scCount, lksF, List.length_map]
  | false => rfl
 ·rw [q2, q3, br_true]
  unfold LinksF
  rw [q1, if_neg (by simp)]
def sp_f17 : Ent := spec (.pr tyPolicy (.pr tyItem .nil)) (fun x => (fineLen x.1 x.2.1)) (fun x => (.tu [(.t tI ((LinksF x.1 x.2.1).1)), (.t tI ((LinksF x.1 x.2.1).2))]))
theorem ms_f17 : Meets Tryz.prog 17 (strip sp_f17) := by
 obtain ⟨c, hc, hi⟩ := Option.map_eq_some_iff.1 ok_f17
 exact meets_spec (R := runF g_f17 tc_f17 rv_f17 false) (meets_of (by decide) Tryz.func17 hc hi Tryz.ntmps17 rok_f17 gk_f17 lk_f17 mixed) fun x hok => (e_f17 x.1 x.2.1).trans (s_f17 x.1 x.2.1 hok)
end
end Go.Proofs.YtfehjdaielifiaaGreat.K
