/-
  The law that all functions for executables do as the answer's.
-/
import Derived.Test.YthdichlainehpaaG13
import Derived.Test.YthdichlainehpaaKRU
set_option linter.unusedSimpArgs false
set_option linter.unusedVariables false
namespace Go.Proofs.Ythdichlainehpaa.K
open Go.RowKit Go.Shelf
open OX (madeV madeN goodX good_parts made_good made_ok)
noncomputable section
abbrev sp_f46 : Ent := OX.sp_f46
theorem en_f46 : Entered Try.prog 46 := OX.en_f46
theorem ms_f46 : Meets Try.prog 46 (strip sp_f46) := OX.ms_f46
theorem good_chk {x : Image} (h : goodX x = true) : chkOk x = true ∧ (∀ n, secFOk x n = true) ∧ algOk x = true ∧ algROk x = true ∧ ∀ y, sameXOk x y = true := by
  obtain ⟨⟨h1, h2⟩, h3, h4⟩ := good_parts.1 h
  have b1 := flat_bound secB 8000003 x.1 fun z hz => by
    have := h3 z hz
    rw [secB_len]
    omega
  have b2 := flat_bound symB 8000003 x.2.1 fun z hz => by
    have := h4 z hz
    rw [symB_len]
    omega
  have c1 : x.1.length * 8000003 ≤ 100 * 8000003 := Nat.mul_le_mul_right _ h1
  have c2 : x.2.1.length * 8000003 ≤ 100 * 8000003 := Nat.mul_le_mul_right _ h2
  refine ⟨?_, fun n => ?_, ?_, ?_, fun y => ?_⟩
  · simp only [chkOk, wrOk, imgOk, Bool.and_eq_true, decide_eq_true_eq]
    omega
  · simp only [secFOk, secsSm, Bool.and_eq_true, decide_eq_true_eq, List.all_eq_true]
    exact ⟨by omega, fun z hz => (h3 z hz).2⟩
  · simp only [algOk, Bool.and_eq_true, decide_eq_true_eq, List.all_eq_true]
    exact ⟨by omega, fun z hz => by have := h4 z hz; omega⟩
  · simp only [algROk, symsSm, Bool.and_eq_true, decide_eq_true_eq, List.all_eq_true]
    exact ⟨by omega, fun z hz => by have := h4 z hz; omega⟩
  · simp only [sameXOk, imgOk, decide_eq_true_eq]
    omega
def lawMadeG (_ : List Int) (_ : Image) (_ : ByteArray) : Bool := true
def lawMadeOk (_ : List Int) (x : Image) (_ : ByteArray) : Bool := x.1.all (fun z => decide (z.1.size ≤ 4000000 ∧ z.2.1.length ≤ 4000000)) && x.2.1.all fun z => decide (z.1.size ≤ 4000000)
def dr_f7_0 : List DO := [(.mk (oM 77 (.ld true 2 (.t 8))) []), (.mk (oC 78 49 [(.t 77)]) [0]), (.mk (oM 79 (.ld true 2 (.t 8))) []), (.mk (oC 80 50 [(.t 79)]) [2, 1]), (.mk (oP 81 (.bin false .neq (.t 78) (.t 80))) [1, 3]), (.mk (oV 82 81) [4, 3]), (.mk (oQ 83 82 false (.mv (.t 13))) [5]), (.mk (oQ 84 82 false (.mv (.t 15))) [5]), (.mk (oQ 85 82 false (.bin false .neq (.t 83) (.t 84))) [6, 7, 5]), (.mk (oP 86 (.pick (.t 82) (cB true) (.t 85))) [5, 8]), (.mk (oV 87 86) [9, 5]), (.mk (oQ 88 87 false (.mv (.t 12))) [10]), (.mk (oG 89 87 false (.call 2440624 [(.t 88)])) [11, 10]), (.mk (oQ 90 87 false (.mv (.t 14))) [10]), (.mk (oG 91 87 false (.call 2440624 [(.t 90)])) [13, 10]), (.mk (oQ 92 87 false (.bin false .neq (.t 89) (.t 91))) [12, 14, 10]), (.mk (oP 93 (.pick (.t 87) (cB true) (.t 92))) [10, 15]), (.mk (oV 94 93) [16, 10]), (.mk (oQ 95 94 false (.mv (.t 17))) [17]), (.mk (oQ 96 94 false (.mv (.t 19))) [17]), (.mk (oQ 97 94 false (.bin true .neq (.t 95) (.t 96))) [18, 19, 17]), (.mk (oP 98 (.pick (.t 94) (cB true) (.t 97))) [17, 20]), (.mk (oV 99 98) [21, 17]), (.mk (oQ 100 99 false (.mv (.t 16))) [22]), (.mk (oG 101 99 false (.call 2440624 [(.t 100)])) [23, 22]), (.mk (oQ 102 99 false (.mv (.t 18))) [22]), (.mk (oG 103 99 false (.call 2440624 [(.t 102)])) [25, 22]), (.mk (oQ 104 99 false (.bin false .neq (.t 101) (.t 103))) [24, 26, 22]), (.mk (oP 105 (.pick (.t 99) (cB true) (.t 104))) [22, 27]), (.mk (oV 106 105) [28, 22]), (.mk (oG 107 106 false (.m (.ld true 2 (.t 8)))) [29]), (.mk (oG 108 106 false (.call 43 [(.t 107)])) [30, 29, 29]), (.mk (oG 109 106 false (.m (.ld true 2 (.t 8)))) [29]), (.mk (oG 110 106 false (.call 51 [(.t 109)])) [32, 31, 29]), (.mk (oG 111 106 false (.call 45 [(.t 108), (.t 110)])) [31, 33, 33, 29]), (.mk (oQ 112 106 false (.nt (.t 111))) [34, 29]), (.mk (oP 113 (.pick (.t 106) (cB true) (.t 112))) [29, 35]), (.mk (oV 114 113) [36, 34]), (.mk (oG 115 114 false (.m (.ld true 2 (.t 8)))) [37]), (.mk (oG 116 114 false (.m (.ld true 2 (.t 9)))) [37]), (.mk (oG 117 114 false (.call 42 [(.t 115), (.t 116)])) [38, 39, 37, 37]), (.mk (oG 118 114 false (.m (.ld true 2 (.t 8)))) [37]), (.mk (oG 119 114 false (.m (.ld true 2 (.t 9)))) [37]), (.mk (oG 120 114 false (.call 40 [(.t 118), (.t 119)])) [41, 42, 40, 37]), (.mk (oQ 121 114 false (.bin true .neq (.t 117) (.t 120))) [40, 43, 37]), (.mk (oP 122 (.pick (.t 114) (cB true) (.t 121))) [37, 44])]
def fg_f7_0 : Fg := ⟨[(4, none), (8, none), (9, none), (10, some .str), (11, some tI)], [(4, some tyImage), (8, some tyImage), (9, some tyImage)]⟩
def tb_f7_0 : TC := (.sq (.sq (.reg [(oV 51 11), (oP 52 (.bin false .lss (.t 51) (cI 2)))]) (.cd (.t 52) .sk (.fg ⟨[], []⟩ (.ex 0)))) (.sq (.bk 1 (.sq (.reg [(oM 56 (.ld true 2 (.t 8))), (oC 57 41 [(.t 56)]), (oV 55 57), (oP 58 (.ext 0 (.t 55))), (oP 59 (.ext 1 (.t 55))), (oV 12 58), (oV 13 59)]) (.sq (.reg [(oM 61 (.ld true 2 (.t 8))), (oC 62 34 [(.t 61)]), (oV 60 62), (oP 63 (.ext 0 (.t 60))), (oP 64 (.ext 1 (.t 60))), (oV 14 63), (oV 15 64)]) (.sq (.reg [(oM 66 (.ld true 2 (.t 8))), (oV 67 10), (oC 68 47 [(.t 66), (.t 67)]), (oV 65 68), (oP 69 (.ext 0 (.t 65))), (oP 70 (.ext 1 (.t 65))), (oV 16 69), (oV 17 70)]) (.sq (.reg [(oM 72 (.ld true 2 (.t 8))), (oV 73 10), (oC 74 48 [(.t 72), (.t 73)]), (oV 71 74), (oP 75 (.ext 0 (.t 71))), (oP 76 (.ext 1 (.t 71))), (oV 18 75), (oV 19 76)]) (.sq (.sq (.dr dr_f7_0 [(0, [8]), (1, []), (2, [8]), (3, []), (4, []), (5, []), (6, []), (7, []), (8, []), (9, []), (10, []), (11, []), (12, []), (13, []), (14, []), (15, []), (16, []), (17, []), (18, []), (19, []), (20, []), (21, []), (22, []), (23, []), (24, []), (25, []), (26, []), (27, []), (28, []), (29, []), (30, [8]), (31, []), (32, [8]), (33, []), (34, []), (35, []), (36, []), (37, []), (38, [8]), (39, [9]), (40, []), (41, [8]), (42, [9]), (43, []), (44, []), (45, [])] (.of [0, 1, 2, 3, 4, 5, 6, 7, 8, 9, 10, 11, 12, 13, 14, 15, 16, 17, 18, 19, 20, 21, 22, 23, 24, 25, 26, 27, 28, 29, 30, 31, 32, 33, 34, 35, 36, 37, 38, 39, 40, 41, 42, 43, 44, 45])) (.cd (.t 122) (.sq (.reg [(oP 6 (.mv (cB false)))]) (.fg ⟨[(6, some .bool)], []⟩ .rt)) .sk)) (.reg [(oM 123 (.ld true 2 (.t 4))), (.mk none none (.m (.st 2 (.t 8) (.t 123))))]))))))) (.reg [(oV 53 11), (oP 54 (.bin false .add (.t 53) (cI 1))), (oV 11 54)])))
/-- cipherplan/cipherplanlaw10.ExecutableMade -/
def tc_f7 : TC := (.sq (.reg [(oM 4 (.box (.t 1))), (oP 6 (.mv (cB false)))]) (.sq (.sq (.reg [(oV 20 0), (oC 21 8 [(.t 20)]), (oP 22 (.nt (.t 21))), (oV 23 22), (oQ 24 23 false (.fa 0 (.t 4))), (oG 25 23 false (.m (.ld false 1 (.t 24)))), (oQ 26 23 false (.len false (.t 25))), (oQ 27 23 false (.bin false .gtr (.t 26) (cI 30))), (oP 28 (.pick (.t 23) (cB true) (.t 27))), (oV 29 28), (oQ 30 29 false (.fa 1 (.t 4))), (oG 31 29 false (.m (.ld false 1 (.t 30)))), (oQ 32 29 false (.len false (.t 31))), (oQ 33 29 false (.bin false .gtr (.t 32) (cI 100))), (oP 34 (.pick (.t 29) (cB true) (.t 33))), (oV 35 34), (oQ 36 35 false (.mv (.t 2))), (oQ 37 35 false (.len true (.t 36))), (oQ 38 35 false (.bin false .gtr (.t 37) (cI 100))), (oP 39 (.pick (.t 35) (cB true) (.t 38)))]) (.cd (.t 39) (.sq (.reg [(oC 40 33 []), (oV 6 40)]) .rt) .sk)) (.sq (.reg [(oV 41 0), (oC 42 10 [(.t 41)]), (oV 7 42)]) (.sq (.reg [(oV 43 7), (oC 44 46 [(.t 43)]), (oV 45 7), (oC 46 46 [(.t 45)]), (oM 8 (.new [(.v (.slice none 0 0)), (.v (.slice none 0 0))])), (oM 9 (.new [(.v (.slice none 0 0)), (.v (.slice none 0 0))])), (.mk none none (.m (.st 2 (.t 8) (.t 44)))), (.mk none none (.m (.st 2 (.t 9) (.t 46))))]) (.sq (.reg [(oV 47 7), (oV 48 2), (oM 49 (.bs 9 1 3 [(.v (.string (ByteArray.mk #[]))), (.v (.string (ByteArray.mk #[]))), (.v (.string (ByteArray.mk #[])))] [(0, 1, (.c (.v (.string (ByteArray.mk #[46, 116, 101, 120, 116]))))), (1, 1, (.c (.v (.string (ByteArray.mk #[113]))))), (2, 1, (.t 48))])), (oC 50 44 [(.t 47), (.t 49)]), (oV 10 50)]) (.sq (.sq (.reg [(oP 11 (.mv (cI 0)))]) (.bk 0 (.lp 0 fg_f7_0 tb_f7_0))) (.sq (.reg [(oC 124 33 []), (oV 6 124)]) .rt)))))))
def rv_f7 : List (RV × Option Ty) := [((.t 6), some .bool)]
abbrev sh_f7_0 : Sh := ⟨[(4, .ptr 4 0), (8, .ptr 8 0), (9, .ptr 9 0), (10, .ty .str), (11, .ty tI)], [(4, .box tyImage), (8, .box tyImage), (9, .box tyImage)]⟩
def st_f7_0 (x10 : ByteArray) (x11 : Int) (y4 : Image) (y8 : Image) (y9 : Image) : VS := sh_f7_0.st ((), (), (), x10, x11, ()) (y4, y8, y9, ())
abbrev sh_f7_0_ret : Sh := ⟨[(6, .ty .bool)], []⟩
def st_f7_0_ret (x6 : Bool) : VS := sh_f7_0_ret.st (x6, ()) ()
abbrev sh_f7_0_e0 : Sh := ⟨[], []⟩
def st_f7_0_e0  : VS := sh_f7_0_e0.st () ()
-- loop 0: (x10 : ByteArray) (x11 : Int) (y4 : Image) (y8 : Image) (y9 : Image); out: ('ret',) (x6 : Bool); ('exit', 0) 
def L_f7_0 : VS → Option (Bool × List (Bool × Exit × VS)) := mkL sh_f7_0 (fun x y => (goodX y.1 && goodX y.2.1 && goodX y.2.2.1 && decide (0 ≤ x.2.2.2.2.1 ∧ x.2.2.2.2.1 ≤ 2))) (fun x y => [(true, .exit 0, st_f7_0_e0)])
def g_f7 : G := ⟨TYs, [], 125, EL [(8, sp_f8), (10, sp_f10), (33, sp_f33), (34, sp_f34), (40, sp_f40), (41, sp_f41), (42, sp_f42), (43, sp_f43), (44, sp_f44), (45, sp_f45), (46, sp_f46), (47, sp_f47), (48, sp_f48), (49, sp_f49), (50, sp_f50), (51, sp_f51), (2440624, sp_op_convert_39_9)], keeps, (Ls [L_f7_0]), IL [], RL []⟩
def b_f7_0 (x10 : ByteArray) (x11 : Int) (y4 : Image) (y8 : Image) (y9 : Image) : Option (Exit × VS) :=
  br ((ilt x11 2))
    (br ((chkOk y8))
      (br ((chkOk y8))
        (br ((secFOk y8 x10))
          (br ((secFOk y8 x10))
            (br ((chkOk y8))
              (br ((chkOk y8))
                (br ((ine (checkX y8) (checkX y8)))
                  (some (.ret, st_f7_0_ret false))
                  (br ((ine ((encX y8).2) ((encX y8).2)))
                    (some (.ret, st_f7_0_ret false))
                    (br ((sne (strOf ((encX y8).1)) (strOf ((encX y8).1))))
                      (some (.ret, st_f7_0_ret false))
                      (br ((bneq ((secFnd y8 x10).2) ((secFnd y8 x10).2)))
                        (some (.ret, st_f7_0_ret false))
                        (br ((sne (strOf ((secFnd y8 x10).1)) (strOf ((secFnd y8 x10).1))))
                          (some (.ret, st_f7_0_ret false))
                          (br ((algOk y8))
                            (br ((algROk y8))
                              (br ((sameIOk (algX y8) (algRX y8)))
                                (br ((!(sameI (algX y8) (algRX y8))))
                                  (some (.ret, st_f7_0_ret false))
                                  (br ((sameXOk y8 y9))
                                    (br ((sameXOk y8 y9))
                                      (br ((bneq (sameX y8 y9) (sameX y8 y9)))
                                        (some (.ret, st_f7_0_ret false))
                                        (some (.normal, st_f7_0 x10 (iadd .i64 x11 1) y4 y4 y9)))
                                      (none))
                                    (none)))
                                (none))
                              (none))
                            (none)))))))
                (none))
              (none))
            (none))
          (none))
        (none))
      (none))
    (some (.exit 0, st_f7_0_e0))
noncomputable def lp_f7_0 (x10 : ByteArray) (x11 : Int) (y4 : Image) (y8 : Image) (y9 : Image) : Option (Exit × VS) := loopF (roundF g_f7 fg_f7_0 tb_f7_0) (st_f7_0 x10 x11 y4 y8 y9)
noncomputable def n_f7_0 (x10 : ByteArray) (x11 : Int) (y4 : Image) (y8 : Image) (y9 : Image) : Option (Exit × VS) :=
  br ((ilt x11 2))
    (br ((chkOk y8))
      (br ((chkOk y8))
        (br ((secFOk y8 x10))
          (br ((secFOk y8 x10))
            (br ((chkOk y8))
              (br ((chkOk y8))
                (br ((ine (checkX y8) (checkX y8)))
                  (some (.ret, st_f7_0_ret false))
                  (br ((ine ((encX y8).2) ((encX y8).2)))
                    (some (.ret, st_f7_0_ret false))
                    (br ((sne (strOf ((encX y8).1)) (strOf ((encX y8).1))))
                      (some (.ret, st_f7_0_ret false))
                      (br ((bneq ((secFnd y8 x10).2) ((secFnd y8 x10).2)))
                        (some (.ret, st_f7_0_ret false))
                        (br ((sne (strOf ((secFnd y8 x10).1)) (strOf ((secFnd y8 x10).1))))
                          (some (.ret, st_f7_0_ret false))
                          (br ((algOk y8))
                            (br ((algROk y8))
                              (br ((sameIOk (algX y8) (algRX y8)))
                                (br ((!(sameI (algX y8) (algRX y8))))
                                  (some (.ret, st_f7_0_ret false))
                                  (br ((sameXOk y8 y9))
                                    (br ((sameXOk y8 y9))
                                      (br ((bneq (sameX y8 y9) (sameX y8 y9)))
                                        (some (.ret, st_f7_0_ret false))
                                        (lp_f7_0 x10 (iadd .i64 x11 1) y4 y4 y9))
                                      (none))
                                    (none)))
                                (none))
                              (none))
                            (none)))))))
                (none))
              (none))
            (none))
          (none))
        (none))
      (none))
    (some (.exit 0, st_f7_0_e0))
def la_f7_0 (x10 : ByteArray) (x11 : Int) (y4 : Image) (y8 : Image) (y9 : Image) : Option (Exit × VS) := some (.exit 0, st_f7_0_e0)
theorem be_f7_0 (x10 : ByteArray) (x11 : Int) (y4 : Image) (y8 : Image) (y9 : Image) : roundF g_f7 fg_f7_0 tb_f7_0 (st_f7_0 x10 x11 y4 y8 y9) = b_f7_0 x10 x11 y4 y8 y9 := by kernel_rfl
theorem ln_f7_0 (x10 : ByteArray) (x11 : Int) (y4 : Image) (y8 : Image) (y9 : Image) : lp_f7_0 x10 x11 y4 y8 y9 = n_f7_0 x10 x11 y4 y8 y9 := (loopF_nxt _ _).trans (by
  rw [be_f7_0]
  simp only [b_f7_0, n_f7_0, nxt_br, nxt_n, nxt_r, nxt_e, nxt_0]
  rfl)
def r_f7 (p0 : (List Int)) (p1 : Image) (p2 : ByteArray) : Option (V × List VO) :=
  br ((!(light p0)))
    (some (.t .bool awakeL, []))
    (br ((igt (llen p1.1) 30))
      (some (.t .bool awakeL, []))
      (br ((igt (llen p1.2.1) 100))
        (some (.t .bool awakeL, []))
        (br ((igt (slen p2) 100))
          (some (.t .bool awakeL, []))
          (br ((dOk (roll p0)))
            (br ((dOk (madeN (roll p0))))
              (br ((wdGOk (madeN (madeN (roll p0))) ([(ByteArray.mk #[46, 116, 101, 120, 116]), (ByteArray.mk #[113]), p2])))
                (br ((goodX p1 && goodX (madeV (roll p0)) && goodX (madeV (madeN (roll p0))) && decide (0 ≤ (0 : Int) ∧ (0 : Int) ≤ 2)))
                  (some (.t .bool awakeL, []))
                  (none))
                (none))
              (none))
            (none)))))
theorem e_f7 (p0 : (List Int)) (p1 : Image) (p2 : ByteArray) : runF g_f7 tc_f7 rv_f7 false [.t (.sl tI) p0, .t tyImage p1, .t .str p2] [] = r_f7 p0 p1 p2 := by kernel_rfl
theorem ok_f7 : Option.map (trC Try.prog) Try.f7.body = some tc_f7.er := by kernel_rfl
theorem rok_f7 : trVs Try.prog Try.f7.results.toList = some (rv_f7.map Prod.fst) := by kernel_rfl
theorem en_f7 : Entered Try.prog 7 := .inr ⟨by decide, _, Try.func7, by kernel_rfl, by kernel_rfl⟩
theorem gk_f7 : GOk Try.prog g_f7 := gok_of _ (by
  intro p hp
  simp only [List.mem_cons, List.not_mem_nil, or_false] at hp
  rcases hp with rfl | rfl | rfl | rfl | rfl | rfl | rfl | rfl | rfl | rfl | rfl | rfl | rfl | rfl | rfl | rfl | rfl
  · exact ⟨en_f8, ms_f8⟩
  · exact ⟨en_f10, ms_f10⟩
  · exact ⟨en_f33, ms_f33⟩
  · exact ⟨en_f34, ms_f34⟩
  · exact ⟨en_f40, ms_f40⟩
  · exact ⟨en_f41, ms_f41⟩
  · exact ⟨en_f42, ms_f42⟩
  · exact ⟨en_f43, ms_f43⟩
  · exact ⟨en_f44, ms_f44⟩
  · exact ⟨en_f45, ms_f45⟩
  · exact ⟨en_f46, ms_f46⟩
  · exact ⟨en_f47, ms_f47⟩
  · exact ⟨en_f48, ms_f48⟩
  · exact ⟨en_f49, ms_f49⟩
  · exact ⟨en_f50, ms_f50⟩
  · exact ⟨en_f51, ms_f51⟩
  · exact ⟨en_op_convert_39_9, ms_op_convert_39_9⟩)
theorem l_f7_0 (x10 : ByteArray) (x11 : Int) (y4 : Image) (y8 : Image) (y9 : Image) (h : (goodX y4 && goodX y8 && goodX y9 && decide (0 ≤ x11 ∧ x11 ≤ 2)) = true) : lp_f7_0 x10 x11 y4 y8 y9 = la_f7_0 x10 x11 y4 y8 y9 := by
  simp only [Bool.and_eq_true, decide_eq_true_eq] at h
  obtain ⟨⟨⟨h1, h2⟩, h3⟩, h4, h5⟩ := h
  obtain ⟨k, rfl⟩ := Int.eq_ofNat_of_zero_le h4
  revert y8
  refine up_ind 2 (fun k => ∀ y8 : Image, goodX y8 = true → lp_f7_0 x10 (k : Int) y4 y8 y9 = la_f7_0 x10 (k : Int) y4 y8 y9) ?_ ?_ k (by omega)
  · intro y8 _
    rw [ln_f7_0]
    rfl
  · intro k hk ih y8 h2
    obtain ⟨g1, g2, g3, g4, g5⟩ := good_chk h2
    have e1 : ilt (k : Int) 2 = true := by simp only [ilt, decide_eq_true_eq]; omega
    have n1 : ∀ a : Int, ine a a = false := fun a => by simp [ine]
    have n2 : ∀ a : ByteArray, sne a a = false := fun a => by rw [sne_not, seq_self]; rfl
    have n3 : ∀ a : Bool, bneq a a = false := fun a => by cases a <;> rfl
    have la := algX_len y8
    obtain ⟨⟨q1, q2⟩, _, _⟩ := good_parts.1 h2
    have n4 : sameI (algX y8) (algRX y8) = true := by rw [alg_same]; simp [sameI]
    have n5 : sameIOk (algX y8) (algRX y8) = true := decide_eq_true (by omega)
    rw [ln_f7_0]
    simp only [n_f7_0, e1, g1, g2, g3, g4, g5, n1, n2, n3, n4, n5, br_true, br_false, Bool.not_true, add1 (show k < 4611686018427387904 by omega)]
    rw [ih y4 h1]
    rfl
theorem lo_f7_0 : ∀ S l p, g_f7.L 0 (fgt fg_f7_0 S) = some (true, l) → pickA l = some p → loopF (roundF g_f7 fg_f7_0 tb_f7_0) S = some p :=
  lok_of (s := sh_f7_0) ⟨by decide, by decide⟩ (by kernel_rfl) fun x y hok p hp => by
  simp only [pickA_br, pickA_one] at hp
  exact (l_f7_0 x.2.2.2.1 x.2.2.2.2.1 y.1 y.2.1 y.2.2.1 (by simpa using hok)).trans hp
theorem lk_f7 : tc_f7.lok g_f7 := by
  repeat (first | exact trivial | exact lo_f7_0 | refine ⟨?_, ?_⟩)
theorem s_f7 (p0 : List Int) (p1 : Image) (p2 : ByteArray) (h : lawMadeOk p0 p1 p2 = true) : r_f7 p0 p1 p2 = some (.t .bool (lawMadeG p0 p1 p2), []) := by
  simp only [r_f7]
  refine br_intro (fun _ => rfl) (fun k1 => br_intro (fun _ => rfl) (fun k2 => br_intro (fun _ => rfl) (fun k3 => br_intro (fun _ => rfl) (fun _ => ?_))))
  have k1 : light p0 = true := by simpa using k1
  simp only [igt, llen, decide_eq_false_iff_not] at k2 k3
  have hd := dOk_roll k1
  have hm := made_ok hd
  have hmm := made_ok hm
  have hg : goodX p1 = true := by
    simp only [lawMadeOk, Bool.and_eq_true] at h
    simp only [goodX, Bool.and_eq_true, decide_eq_true_eq]
    exact ⟨⟨⟨by omega, by omega⟩, h.1⟩, h.2⟩
  have hw : wdGOk (madeN (madeN (roll p0))) [(ByteArray.mk #[46, 116, 101, 120, 116]), (ByteArray.mk #[113]), p2] = true := by simp only [wdGOk, hmm, Bool.true_and]; rfl
  rw [hd, br_true, hm, br_true, hw, br_true, hg, made_good, made_good]
  rfl
def sp_f7 : Ent := spec (.pr (.sl tI) (.pr tyImage (.pr .str .nil))) (fun x => (lawMadeOk x.1 x.2.1 x.2.2.1)) (fun x => (.t .bool (lawMadeG x.1 x.2.1 x.2.2.1)))
theorem ms_f7 : Meets Try.prog 7 (strip sp_f7) := by
  obtain ⟨c, hc, hi⟩ := Option.map_eq_some_iff.1 ok_f7
  exact meets_spec (R := runF g_f7 tc_f7 rv_f7 false) (meets_of (by decide) Try.func7 hc hi Try.ntmps7 rok_f7 gk_f7 lk_f7 mixed) fun x hok => (e_f7 x.1 x.2.1 x.2.2.1).trans (s_f7 x.1 x.2.1 x.2.2.1 hok)
theorem bulk_bytes (l : List Int) : l.length ≤ bulkL (.int .u8) l := bulkL_len (z := .int .u8) (fun _ => Nat.le_refl _) l
theorem okw_ExecutableMade (z0 : List Int) (z1 : Image) (z2 : ByteArray) (w0 : Ty.wf (.sl (.int .i64)) z0) (w1 : Ty.wf tyImage z1) (w2 : Ty.wf .str z2) (u0 : Ty.bulk (.sl (.int .i64)) z0 ≤ 1048576) (u1 : Ty.bulk tyImage z1 ≤ 1048576) (u2 : Ty.bulk .str z2 ≤ 1048576) : lawMadeOk z0 z1 z2 = true := by
  have u1 : (bulkL tySection z1.1 + 1) + ((bulkL tySymbol z1.2.1 + 1) + 0) ≤ 1048576 := u1
  simp only [lawMadeOk, Bool.and_eq_true, List.all_eq_true, decide_eq_true_eq]
  refine ⟨fun z hz => ?_, fun z hz => ?_⟩
  · have h := bulkL_mem (z := tySection) hz
    have h2 : tySection.bulk z = (z.1.size + 1) + ((bulkL (.int .u8) z.2.1 + 1) + 0) := rfl
    have h3 := bulk_bytes z.2.1
    omega
  · have h := bulkL_mem (z := tySymbol) hz
    have h2 : tySymbol.bulk z = (z.1.size + 1) + (1 + 0) := rfl
    omega
end
theorem walkExecutableMade (z0 : (List Int)) (z1 : Image) (z2 : ByteArray) (W : World) (v0 : Value) (v1 : Value) (v2 : Value) (c0 : C noX W (fun _ => .no) (V.t (.sl tI) z0).d v0) (c1 : C noX W (fun _ => .no) (V.t tyImage z1).d v1) (c2 : C noX W (fun _ => .no) (V.t .str z2).d v2) (w0 : Ty.wf (.sl tI) z0) (w1 : Ty.wf tyImage z1) (w2 : Ty.wf .str z2) (u0 : Ty.bulk (.sl tI) z0 ≤ 1048576) (u1 : Ty.bulk tyImage z1 ≤ 1048576) (u2 : Ty.bulk .str z2 ≤ 1048576) :
    Calls Try.prog 7 #[v0, v1, v2] W fun r w' => r = .returned (.bool true) ∧ Below W.heap.size W w' :=
  calls_true (by decide) ms_f7 (args := [.t (.sl tI) z0, .t tyImage z1, .t .str z2]) (strip_spec (x := (z0, z1, z2, ())) rfl (okw_ExecutableMade z0 z1 z2 w0 w1 w2 u0 u1 u2)) (by simp only [V.ds, Cs]; exact ⟨_, _, rfl, c0, _, _, rfl, c1, _, _, rfl, c2, rfl⟩)
end Go.Proofs.Ythdichlainehpaa.K
