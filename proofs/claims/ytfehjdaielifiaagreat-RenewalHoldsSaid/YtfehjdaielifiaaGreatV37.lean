/-
  The law that an item holds behind the links that are scheduled.
-/
import Derived.Test.YtfehjdaielifiaaGreatV36
import Derived.Test.YtfehjdaielifiaaGreatV35
import Derived.Test.YtfehjdaielifiaaGreatP28
import Derived.Test.YtfehjdaielifiaaGreatM3G
import Derived.Test.YtfehjdaielifiaaGreatKD
set_option linter.unusedSimpArgs false
set_option linter.unusedVariables false
namespace Go.Proofs.YtfehjdaielifiaaGreat.K
open Go.RowKit
noncomputable section
def lawHolds (_ : List Int) : Bool := true
def linkOkB (y : Policy) (p : Int) (x : Link) : Bool := validF x.1 && decide (0 ≤ x.2.1 ∧ x.2.1 ≤ 40000) && allF y x.1 p x.2.1
def dr_f4_0 : List DO := [(.mk (oM 33 (.ld true 2 (.t 4))) []), (.mk (oM 34 (.ld true 5 (.t 5))) []), (.mk (oV 35 3) []), (.mk (oC 36 34 [(.t 35)]) [2]), (.mk (oC 37 33 [(.t 33), (.t 34), (.t 36), (cI 0)]) [0, 1, 3, 3]), (.mk (oV 32 37) [4]), (.mk (oP 38 (.ext 0 (.t 32))) [5]), (.mk (oP 39 (.ext 1 (.t 32))) [5]), (.mk (oV 6 38) [6, 4, 0, 1, 2, 3, 4, 5, 6]), (.mk (oV 7 39) [7, 8, 0, 1, 2, 3, 4, 5, 6, 7, 8])]
def fg_f4_0 : Fg := ⟨[(4, none), (5, none), (120, some (.sl tyLink)), (121, some tI), (122, some tI)], [(4, some tyPolicy), (5, some tyItem), (29, none), (5029, none), (10029, none), (15029, none)]⟩
def tb_f4_0 : TC := (.sq (.reg [(oP 123 (.bin false .lss (.t 122) (.t 121)))]) (.sq (.cd (.t 123) .sk (.fg ⟨[], []⟩ (.ex 0))) (.sq (.bk 1 (.sq (.reg [(oP 124 (.ix 3 (.t 120) (.t 122))), (oM 125 (.ld true 3 (.t 124))), (oM 18 (.new [(.v (.int .i64 0)), (.v (.int .i64 0)), (.v (.int .i64 0))])), (.mk none none (.m (.st 3 (.t 18) (.t 125))))]) (.sq (.reg [(oM 127 (.ld true 2 (.t 4))), (oP 128 (.fa 0 (.t 18))), (oM 129 (.ld true 2 (.t 128))), (oP 130 (.fa 2 (.t 5))), (oL 131 130), (oP 132 (.fa 2 (.t 18))), (oL 133 132), (oC 134 37 [(.t 127), (.t 129), (.t 131), (.t 133)]), (oV 126 134), (oP 135 (.ext 0 (.t 126))), (oP 136 (.ext 1 (.t 126))), (oP 137 (.ext 2 (.t 126))), (oV 19 135), (oV 20 136), (oV 21 137)]) (.sq (.reg [(oV 138 19), (oP 139 (.nt (.t 138))), (oV 140 139), (oQ 141 140 false (.mv (.t 21))), (oQ 142 140 false (.bin false .neq (.t 141) (cI 0))), (oP 143 (.pick (.t 140) (cB true) (.t 142)))]) (.cd (.t 143) (.sq (.reg [(oP 2 (.mv (cB false)))]) (.fg ⟨[(2, some .bool)], []⟩ .rt)) .sk))))) (.reg [(oP 144 (.bin false .add (.t 122) (cI 1))), (oV 122 144)]))))
/-- cipherplan/cipherplanlaw35.RenewalHolds -/
def tc_f4 : TC := (.sq (.reg [(oP 2 (.mv (cB false)))]) (.sq (.sq (.reg [(oV 22 0), (oC 23 9 [(.t 22)]), (oP 24 (.nt (.t 23)))]) (.cd (.t 24) (.sq (.reg [(oC 25 30 []), (oV 2 25)]) .rt) .sk)) (.sq (.reg [(oV 26 0), (oC 27 11 [(.t 26)]), (oV 3 27)]) (.sq (.reg [(oV 28 3), (oC 29 31 [(.t 28)]), (oM 4 (.new [(.v (.slice none 0 0)), (.v (.slice none 0 0))])), (.mk none none (.m (.st 2 (.t 4) (.t 29))))]) (.sq (.reg [(oV 30 3), (oC 31 32 [(.t 30), (.c (.v (.string (ByteArray.mk #[100, 101, 101, 100]))))]), (oM 5 (.new [(.v (.string (ByteArray.mk #[]))), (.v (.int .i64 0)), (.v (.int .i64 0)), (.v (.slice none 0 0)), (.v (.int .i64 0))])), (.mk none none (.m (.st 5 (.t 5) (.t 31))))]) (.sq (.dr dr_f4_0 [(0, [4, 29, 5029, 10029, 15029]), (1, [5]), (2, [27, 5027, 10027, 15027]), (3, [27, 36, 5027, 5036, 10027, 10036, 15027, 15036]), (4, [4, 29, 36, 37, 5029, 5036, 5037, 10029, 10036, 10037, 15029, 15036, 15037]), (5, []), (6, []), (7, []), (8, []), (9, [])] (.of [0, 1, 2, 3, 4, 5, 6, 7, 8, 9])) (.sq (.reg [(oM 41 (.ld true 2 (.t 4))), (oM 42 (.ld true 5 (.t 5))), (oC 43 35 [(.t 41), (.t 42)]), (oV 40 43), (oP 44 (.ext 0 (.t 40))), (oP 45 (.ext 1 (.t 40))), (oV 8 44), (oV 9 45)]) (.sq (.sq (.reg [(oV 46 7), (oP 47 (.bin false .neq (.t 46) (cI 0))), (oV 48 47), (oQ 49 48 false (.mv (.t 9))), (oQ 50 48 false (.bin false .neq (.t 49) (cI 0))), (oP 51 (.pick (.t 48) (cB true) (.t 50)))]) (.cd (.t 51) (.sq (.reg [(oV 52 9), (oP 53 (.bin false .eql (.t 52) (cI 0))), (oV 54 53), (oQ 55 54 true (.mv (.t 8))), (oQ 56 54 true (.nt (.t 55))), (oP 57 (.pick (.t 54) (.t 56) (cB false))), (oV 58 57), (oQ 59 58 true (.mv (.t 6))), (oQ 60 58 true (.len false (.t 59))), (oQ 61 58 true (.bin false .eql (.t 60) (cI 0))), (oP 62 (.pick (.t 58) (.t 61) (cB false))), (oV 63 62), (oQ 64 63 true (.mv (.t 7))), (oQ 65 63 true (.bin false .eql (.t 64) (cI 51))), (oQ 66 63 true (.mv (.t 65))), (oQ 67 66 false (.mv (.t 7))), (oQ 68 66 false (.bin false .eql (.t 67) (cI 3))), (oQ 69 63 true (.pick (.t 66) (cB true) (.t 68))), (oP 70 (.pick (.t 63) (.t 69) (cB false))), (oV 71 70), (oG 72 71 true (.call 30 [])), (oP 73 (.pick (.t 71) (.t 72) (cB false))), (oV 2 73)]) .rt) .sk)) (.sq (.reg [(oM 74 (.ld true 5 (.t 5))), (oV 75 6), (oC 76 36 [(.t 74), (.t 75)]), (oM 10 (.new [(.v (.string (ByteArray.mk #[]))), (.v (.int .i64 0)), (.v (.int .i64 0)), (.v (.slice none 0 0)), (.v (.int .i64 0))])), (.mk none none (.m (.st 5 (.t 10) (.t 76))))]) (.sq (.reg [(oM 78 (.ld true 2 (.t 4))), (oM 79 (.ld true 5 (.t 10))), (oC 80 35 [(.t 78), (.t 79)]), (oV 77 80), (oP 81 (.ext 0 (.t 77))), (oP 82 (.ext 1 (.t 77))), (oV 11 81), (oV 12 82)]) (.sq (.reg [(oM 84 (.ld true 2 (.t 4))), (oM 85 (.ld true 5 (.t 10))), (oC 86 17 [(.t 84), (.t 85)]), (oV 83 86), (oP 87 (.ext 0 (.t 83))), (oP 88 (.ext 1 (.t 83))), (oV 13 87), (oV 14 88)]) (.sq (.reg [(oM 90 (.ld true 2 (.t 4))), (oM 91 (.ld true 5 (.t 5))), (oC 92 17 [(.t 90), (.t 91)]), (oV 89 92), (oP 93 (.ext 0 (.t 89))), (oP 94 (.ext 1 (.t 89))), (oV 15 93), (oV 16 94)]) (.sq (.sq (.reg [(oV 95 12), (oP 96 (.bin false .neq (.t 95) (cI 0))), (oV 97 96), (oQ 98 97 false (.mv (.t 11))), (oQ 99 97 false (.nt (.t 98))), (oP 100 (.pick (.t 97) (cB true) (.t 99))), (oV 101 100), (oQ 102 101 false (.mv (.t 8))), (oQ 103 101 false (.mv (.t 6))), (oQ 104 101 false (.len false (.t 103))), (oQ 105 101 false (.bin false .eql (.t 104) (cI 0))), (oQ 106 101 false (.bin true .neq (.t 102) (.t 105))), (oP 107 (.pick (.t 101) (cB true) (.t 106))), (oV 108 107), (oQ 109 108 false (.mv (.t 14))), (oQ 110 108 false (.bin false .neq (.t 109) (cI 0))), (oP 111 (.pick (.t 108) (cB true) (.t 110))), (oV 112 111), (oQ 113 112 false (.mv (.t 13))), (oQ 114 112 false (.mv (.t 15))), (oQ 115 112 false (.mv (.t 6))), (oQ 116 112 false (.len false (.t 115))), (oQ 117 112 false (.bin false .add (.t 114) (.t 116))), (oQ 118 112 false (.bin false .neq (.t 113) (.t 117))), (oP 119 (.pick (.t 112) (cB true) (.t 118)))]) (.cd (.t 119) (.sq (.reg [(oP 2 (.mv (cB false)))]) .rt) .sk)) (.sq (.sq (.reg [(oV 120 6), (oP 121 (.len false (.t 120))), (oP 122 (.mv (cI 0)))]) (.bk 0 (.lp 0 fg_f4_0 tb_f4_0))) (.sq (.reg [(oC 145 30 []), (oV 2 145)]) .rt)))))))))))))))
def rv_f4 : List (RV × Option Ty) := [((.t 2), some .bool)]
abbrev sh_f4_0 : Sh := ⟨[(4, .ptr 4 0), (5, .ptr 5 0), (120, .ty (.sl tyLink)), (121, .ty tI), (122, .ty tI)], [(4, .box tyPolicy), (5, .box tyItem), (29, .no), (5029, .no), (10029, .no), (15029, .no)]⟩
def st_f4_0 (x120 : (List Link)) (x121 : Int) (x122 : Int) (y4 : Policy) (y5 : Item) : VS := sh_f4_0.st ((), (), x120, x121, x122, ()) (y4, y5, (), (), (), (), ())
abbrev sh_f4_0_ret : Sh := ⟨[(2, .ty .bool)], []⟩
def st_f4_0_ret (x2 : Bool) : VS := sh_f4_0_ret.st (x2, ()) ()
abbrev sh_f4_0_e0 : Sh := ⟨[], []⟩
def st_f4_0_e0  : VS := sh_f4_0_e0.st () ()
-- loop 0: (x120 : (List Link)) (x121 : Int) (x122 : Int) (y4 : Policy) (y5 : Item); out: ('ret',) (x2 : Bool); ('exit', 0) 
def L_f4_0 : VS → Option (Bool × List (Bool × Exit × VS)) := mkL sh_f4_0 (fun x y => (polOk y.1 && x.2.2.1.all (linkOkB y.1 y.2.1.2.2.1) && decide (1 ≤ y.2.1.2.2.1 ∧ y.2.1.2.2.1 ≤ 4) && rngOk x.2.2.1 x.2.2.2.1 x.2.2.2.2.1)) (fun x y => [(true, .exit 0, st_f4_0_e0)])
def g_f4 : G := ⟨TYs, [], 146, EL [(9, sp_f9), (11, sp_f11), (17, sp_f17), (30, sp_f30), (31, sp_f31), (32, sp_f32), (33, sp_f33), (34, sp_f34), (35, sp_f35), (36, sp_f36), (37, sp_f37)], keeps, (Ls [L_f4_0]), IL [], RL []⟩
def b_f4_0 (x120 : (List Link)) (x121 : Int) (x122 : Int) (y4 : Policy) (y5 : Item) : Option (Exit × VS) :=
  br ((ilt x122 x121))
    (br (cIx x120 x122)
      (br ((polLen4 y4 ((lgt tyLink x120 (Int.toNat x122)).1) y5.2.2.1 (((lgt tyLink x120 (Int.toNat x122)).2).1)))
        (br ((!((AllowedF y4 ((lgt tyLink x120 (Int.toNat x122)).1) y5.2.2.1 (((lgt tyLink x120 (Int.toNat x122)).2).1)).1)))
          (some (.ret, st_f4_0_ret false))
          (br ((ine (((AllowedF y4 ((lgt tyLink x120 (Int.toNat x122)).1) y5.2.2.1 (((lgt tyLink x120 (Int.toNat x122)).2).1)).2).2) 0))
            (some (.ret, st_f4_0_ret false))
            (some (.normal, st_f4_0 x120 x121 (iadd .i64 x122 1) y4 y5))))
        (none))
      (none))
    (some (.exit 0, st_f4_0_e0))
noncomputable def lp_f4_0 (x120 : (List Link)) (x121 : Int) (x122 : Int) (y4 : Policy) (y5 : Item) : Option (Exit × VS) := loopF (roundF g_f4 fg_f4_0 tb_f4_0) (st_f4_0 x120 x121 x122 y4 y5)
noncomputable def n_f4_0 (x120 : (List Link)) (x121 : Int) (x122 : Int) (y4 : Policy) (y5 : Item) : Option (Exit × VS) :=
  br ((ilt x122 x121))
    (br (cIx x120 x122)
      (br ((polLen4 y4 ((lgt tyLink x120 (Int.toNat x122)).1) y5.2.2.1 (((lgt tyLink x120 (Int.toNat x122)).2).1)))
        (br ((!((AllowedF y4 ((lgt tyLink x120 (Int.toNat x122)).1) y5.2.2.1 (((lgt tyLink x120 (Int.toNat x122)).2).1)).1)))
          (some (.ret, st_f4_0_ret false))
          (br ((ine (((AllowedF y4 ((lgt tyLink x120 (Int.toNat x122)).1) y5.2.2.1 (((lgt tyLink x120 (Int.toNat x122)).2).1)).2).2) 0))
            (some (.ret, st_f4_0_ret false))
            (lp_f4_0 x120 x121 (iadd .i64 x122 1) y4 y5)))
        (none))
      (none))
    (some (.exit 0, st_f4_0_e0))
def la_f4_0 (x120 : (List Link)) (x121 : Int) (x122 : Int) (y4 : Policy) (y5 : Item) : Option (Exit × VS) := some (.exit 0, st_f4_0_e0)
theorem be_f4_0 (x120 : (List Link)) (x121 : Int) (x122 : Int) (y4 : Policy) (y5 : Item) : roundF g_f4 fg_f4_0 tb_f4_0 (st_f4_0 x120 x121 x122 y4 y5) = b_f4_0 x120 x121 x122 y4 y5 := by kernel_rfl
theorem ln_f4_0 (x120 : (List Link)) (x121 : Int) (x122 : Int) (y4 : Policy) (y5 : Item) : lp_f4_0 x120 x121 x122 y4 y5 = n_f4_0 x120 x121 x122 y4 y5 := (loopF_nxt _ _).trans (by
  rw [be_f4_0]
  simp only [b_f4_0, n_f4_0, nxt_br, nxt_n, nxt_r, nxt_e, nxt_0]
  rfl)
def r_f4_1 (p0 : (List Int)) : Option (V × List VO) :=
  br ((ieq ((HoldsF ((polsV (roll p0)).1, (((polsV (roll p0)).2).1, ())) (itemV (polsN (roll p0)) (ByteArray.mk #[100, 101, 101, 100]))).2) 0))
    (br ((!((HoldsF ((polsV (roll p0)).1, (((polsV (roll p0)).2).1, ())) (itemV (polsN (roll p0)) (ByteArray.mk #[100, 101, 101, 100]))).1)))
      (br ((ieq (llen ((schF ((polsV (roll p0)).1, (((polsV (roll p0)).2).1, ())) (itemV (polsN (roll p0)) (ByteArray.mk #[100, 101, 101, 100])) (usesV (itemN (polsN (roll p0)) (ByteArray.mk #[100, 101, 101, 100]))) 0).1)) 0))
        (br ((ieq ((schF ((polsV (roll p0)).1, (((polsV (roll p0)).2).1, ())) (itemV (polsN (roll p0)) (ByteArray.mk #[100, 101, 101, 100])) (usesV (itemN (polsN (roll p0)) (ByteArray.mk #[100, 101, 101, 100]))) 0).2) 51))
          (some (.t .bool awakeT35, []))
          (br ((ieq ((schF ((polsV (roll p0)).1, (((polsV (roll p0)).2).1, ())) (itemV (polsN (roll p0)) (ByteArray.mk #[100, 101, 101, 100])) (usesV (itemN (polsN (roll p0)) (ByteArray.mk #[100, 101, 101, 100]))) 0).2) 3))
            (some (.t .bool awakeT35, []))
            (some (.t .bool false, []))))
        (some (.t .bool false, [])))
      (some (.t .bool false, [])))
    (some (.t .bool false, []))
def r_f4 (p0 : (List Int)) : Option (V × List VO) :=
  br ((!(light p0)))
    (some (.t .bool awakeT35, []))
    (br ((dOk (roll p0)))
      (br ((dOkS (polsN (roll p0)) (ByteArray.mk #[100, 101, 101, 100])))
        (br ((dOk (itemN (polsN (roll p0)) (ByteArray.mk #[100, 101, 101, 100]))))
          (br ((schOk ((polsV (roll p0)).1, (((polsV (roll p0)).2).1, ())) (itemV (polsN (roll p0)) (ByteArray.mk #[100, 101, 101, 100])) (usesV (itemN (polsN (roll p0)) (ByteArray.mk #[100, 101, 101, 100]))) 0))
            (br ((fineLen ((polsV (roll p0)).1, (((polsV (roll p0)).2).1, ())) (itemV (polsN (roll p0)) (ByteArray.mk #[100, 101, 101, 100]))))
              (br ((ine ((schF ((polsV (roll p0)).1, (((polsV (roll p0)).2).1, ())) (itemV (polsN (roll p0)) (ByteArray.mk #[100, 101, 101, 100])) (usesV (itemN (polsN (roll p0)) (ByteArray.mk #[100, 101, 101, 100]))) 0).2) 0))
                (r_f4_1 p0)
                (br ((ine ((HoldsF ((polsV (roll p0)).1, (((polsV (roll p0)).2).1, ())) (itemV (polsN (roll p0)) (ByteArray.mk #[100, 101, 101, 100]))).2) 0))
                  (r_f4_1 p0)
                  (br ((applyOk (itemV (polsN (roll p0)) (ByteArray.mk #[100, 101, 101, 100])) ((schF ((polsV (roll p0)).1, (((polsV (roll p0)).2).1, ())) (itemV (polsN (roll p0)) (ByteArray.mk #[100, 101, 101, 100])) (usesV (itemN (polsN (roll p0)) (ByteArray.mk #[100, 101, 101, 100]))) 0).1)))
                    (br ((fineLen ((polsV (roll p0)).1, (((polsV (roll p0)).2).1, ())) (applyF (itemV (polsN (roll p0)) (ByteArray.mk #[100, 101, 101, 100])) ((schF ((polsV (roll p0)).1, (((polsV (roll p0)).2).1, ())) (itemV (polsN (roll p0)) (ByteArray.mk #[100, 101, 101, 100])) (usesV (itemN (polsN (roll p0)) (ByteArray.mk #[100, 101, 101, 100]))) 0).1))))
                      (br ((fineLen ((polsV (roll p0)).1, (((polsV (roll p0)).2).1, ())) (applyF (itemV (polsN (roll p0)) (ByteArray.mk #[100, 101, 101, 100])) ((schF ((polsV (roll p0)).1, (((polsV (roll p0)).2).1, ())) (itemV (polsN (roll p0)) (ByteArray.mk #[100, 101, 101, 100])) (usesV (itemN (polsN (roll p0)) (ByteArray.mk #[100, 101, 101, 100]))) 0).1))))
                        (br ((fineLen ((polsV (roll p0)).1, (((polsV (roll p0)).2).1, ())) (itemV (polsN (roll p0)) (ByteArray.mk #[100, 101, 101, 100]))))
                          (br ((ine ((HoldsF ((polsV (roll p0)).1, (((polsV (roll p0)).2).1, ())) (applyF (itemV (polsN (roll p0)) (ByteArray.mk #[100, 101, 101, 100])) ((schF ((polsV (roll p0)).1, (((polsV (roll p0)).2).1, ())) (itemV (polsN (roll p0)) (ByteArray.mk #[100, 101, 101, 100])) (usesV (itemN (polsN (roll p0)) (ByteArray.mk #[100, 101, 101, 100]))) 0).1))).2) 0))
                            (some (.t .bool false, []))
                            (br ((!((HoldsF ((polsV (roll p0)).1, (((polsV (roll p0)).2).1, ())) (applyF (itemV (polsN (roll p0)) (ByteArray.mk #[100, 101, 101, 100])) ((schF ((polsV (roll p0)).1, (((polsV (roll p0)).2).1, ())) (itemV (polsN (roll p0)) (ByteArray.mk #[100, 101, 101, 100])) (usesV (itemN (polsN (roll p0)) (ByteArray.mk #[100, 101, 101, 100]))) 0).1))).1)))
                              (some (.t .bool false, []))
                              (br ((bneq ((HoldsF ((polsV (roll p0)).1, (((polsV (roll p0)).2).1, ())) (itemV (polsN (roll p0)) (ByteArray.mk #[100, 101, 101, 100]))).1) (ieq (llen ((schF ((polsV (roll p0)).1, (((polsV (roll p0)).2).1, ())) (itemV (polsN (roll p0)) (ByteArray.mk #[100, 101, 101, 100])) (usesV (itemN (polsN (roll p0)) (ByteArray.mk #[100, 101, 101, 100]))) 0).1)) 0)))
                                (some (.t .bool false, []))
                                (br ((ine ((LinksF ((polsV (roll p0)).1, (((polsV (roll p0)).2).1, ())) (applyF (itemV (polsN (roll p0)) (ByteArray.mk #[100, 101, 101, 100])) ((schF ((polsV (roll p0)).1, (((polsV (roll p0)).2).1, ())) (itemV (polsN (roll p0)) (ByteArray.mk #[100, 101, 101, 100])) (usesV (itemN (polsN (roll p0)) (ByteArray.mk #[100, 101, 101, 100]))) 0).1))).2) 0))
                                  (some (.t .bool false, []))
                                  (br ((ine ((LinksF ((polsV (roll p0)).1, (((polsV (roll p0)).2).1, ())) (applyF (itemV (polsN (roll p0)) (ByteArray.mk #[100, 101, 101, 100])) ((schF ((polsV (roll p0)).1, (((polsV (roll p0)).2).1, ())) (itemV (polsN (roll p0)) (ByteArray.mk #[100, 101, 101, 100])) (usesV (itemN (polsN (roll p0)) (ByteArray.mk #[100, 101, 101, 100]))) 0).1))).1) (iadd .i64 ((LinksF ((polsV (roll p0)).1, (((polsV (roll p0)).2).1, ())) (itemV (polsN (roll p0)) (ByteArray.mk #[100, 101, 101, 100]))).1) (llen ((schF ((polsV (roll p0)).1, (((polsV (roll p0)).2).1, ())) (itemV (polsN (roll p0)) (ByteArray.mk #[100, 101, 101, 100])) (usesV (itemN (polsN (roll p0)) (ByteArray.mk #[100, 101, 101, 100]))) 0).1)))))
                                    (some (.t .bool false, []))
                                    (br ((polOk ((polsV (roll p0)).1, (((polsV (roll p0)).2).1, ())) && ((schF ((polsV (roll p0)).1, (((polsV (roll p0)).2).1, ())) (itemV (polsN (roll p0)) (ByteArray.mk #[100, 101, 101, 100])) (usesV (itemN (polsN (roll p0)) (ByteArray.mk #[100, 101, 101, 100]))) 0).1).all (linkOkB ((polsV (roll p0)).1, (((polsV (roll p0)).2).1, ())) (itemV (polsN (roll p0)) (ByteArray.mk #[100, 101, 101, 100])).2.2.1) && decide (1 ≤ (itemV (polsN (roll p0)) (ByteArray.mk #[100, 101, 101, 100])).2.2.1 ∧ (itemV (polsN (roll p0)) (ByteArray.mk #[100, 101, 101, 100])).2.2.1 ≤ 4) && rngOk ((schF ((polsV (roll p0)).1, (((polsV (roll p0)).2).1, ())) (itemV (polsN (roll p0)) (ByteArray.mk #[100, 101, 101, 100])) (usesV (itemN (polsN (roll p0)) (ByteArray.mk #[100, 101, 101, 100]))) 0).1) (llen ((schF ((polsV (roll p0)).1, (((polsV (roll p0)).2).1, ())) (itemV (polsN (roll p0)) (ByteArray.mk #[100, 101, 101, 100])) (usesV (itemN (polsN (roll p0)) (ByteArray.mk #[100, 101, 101, 100]))) 0).1)) (0 : Int)))
                                      (some (.t .bool awakeT35, []))
                                      (none)))))))
                          (none))
                        (none))
                      (none))
                    (none))))
              (none))
            (none))
          (none))
        (none))
      (none))
theorem e_f4 (p0 : (List Int)) : runF g_f4 tc_f4 rv_f4 false [.t (.sl tI) p0] [] = r_f4 p0 := by kernel_rfl
theorem ok_f4 : Option.map (trC Tryz.prog) Tryz.f4.body = some tc_f4.er := by kernel_rfl
theorem rok_f4 : trVs Tryz.prog Tryz.f4.results.toList = some (rv_f4.map Prod.fst) := by kernel_rfl
theorem gk_f4 : GOk Tryz.prog g_f4 := gok_of _ (by
  intro p hp
  simp only [List.mem_cons, List.not_mem_nil, or_false] at hp
  rcases hp with rfl | rfl | rfl | rfl | rfl | rfl | rfl | rfl | rfl | rfl | rfl
  · exact ⟨en_f9, ms_f9⟩
  · exact ⟨en_f11, ms_f11⟩
  · exact ⟨en_f17, ms_f17⟩
  · exact ⟨en_f30, ms_f30⟩
  · exact ⟨en_f31, ms_f31⟩
  · exact ⟨en_f32, ms_f32⟩
  · exact ⟨en_f33, ms_f33⟩
  · exact ⟨en_f34, ms_f34⟩
  · exact ⟨en_f35, ms_f35⟩
  · exact ⟨en_f36, ms_f36⟩
  · exact ⟨en_f37, ms_f37⟩)
theorem allowed_h {y : Policy} {u : Keep} {p d : Int} (hp : polOk y = true) (hv : validF u = true) (hq : 1 ≤ p ∧ p ≤ 4) (hd : 0 ≤ d ∧ d ≤ 40000) : AllowedF y u p d = (allF y u p d, decF y u p d, 0) := by
  unfold AllowedF
  rw [if_pos]
  unfold earlyF
  rw [hp, hv]
  simp only [Bool.true_eq_false, if_false]
  rw [if_neg (by omega)]
theorem l_f4_0 (x120 : (List Link)) (x121 : Int) (x122 : Int) (y4 : Policy) (y5 : Item) (h : (polOk y4 && x120.all (linkOkB y4 y5.2.2.1) && decide (1 ≤ y5.2.2.1 ∧ y5.2.2.1 ≤ 4) && rngOk x120 x121 x122) = true) : lp_f4_0 x120 x121 x122 y4 y5 = la_f4_0 x120 x121 x122 y4 y5 := by
  simp only [Bool.and_eq_true, decide_eq_true_eq] at h
  obtain ⟨⟨⟨hp, ha⟩, hq⟩, hr⟩ := h
  obtain ⟨rfl, h3, k, rfl, hk⟩ := rng_k hr
  clear hr
  have hpl4 : ∀ u q d, polLen4 y4 u q d = true := fun u q d => (pol_len hp).1
  refine range_ind x120 (fun k => lp_f4_0 x120 (x120.length : Int) (k : Int) y4 y5 = la_f4_0 x120 (x120.length : Int) (k : Int) y4 y5) ?_ ?_ k hk
  · rw [ln_f4_0]
    simp [n_f4_0, la_f4_0, ilt_nat, br_false]
  · intro k hk ih
    rw [ln_f4_0]
    have hx := List.all_eq_true.1 ha x120[k] (List.getElem_mem hk)
    simp only [linkOkB, Bool.and_eq_true, decide_eq_true_eq] at hx
    have hal := allowed_h (u := x120[k].1) (p := y5.2.2.1) (d := x120[k].2.1) hp hx.1.1 hq hx.1.2
    simp only [n_f4_0, ilt_nat, cIx_nat, hk, decide_true, br_true, Int.toNat_natCast, lgt_get (y := tyLink) hk, hpl4, hal, hx.2, add1 (show k < 4611686018427387904 by omega), ih, Bool.not_true, br_false, show ine 0 0 = false from rfl]
    rfl
theorem lo_f4_0 : ∀ S l p, g_f4.L 0 (fgt fg_f4_0 S) = some (true, l) → pickA l = some p → loopF (roundF g_f4 fg_f4_0 tb_f4_0) S = some p :=
  lok_of (s := sh_f4_0) ⟨by decide, by decide⟩ (by kernel_rfl) fun x y hok p hp => by
  simp only [pickA_br, pickA_one] at hp
  exact (l_f4_0 x.2.2.1 x.2.2.2.1 x.2.2.2.2.1 y.1 y.2.1 (by simpa using hok)).trans hp
theorem lk_f4 : tc_f4.lok g_f4 := by
  repeat (first | exact trivial | exact lo_f4_0 | refine ⟨?_, ?_⟩)
theorem s_f4 (p0 : List Int) : r_f4 p0 = some (.t .bool (lawHolds p0), []) := by
  simp only [r_f4, r_f4_1]
  refine br_intro (fun _ => rfl) (fun g1 => ?_)
  have hd := not_light g1
  obtain ⟨hp, hl1, hl2, hN⟩ := pols_ok hd
  have hE : dOk (itemN (polsN (roll p0)) (ByteArray.mk #[100, 101, 101, 100])) = true := dOk_item hN
  rw [hd, br_true, show dOkS (polsN (roll p0)) (ByteArray.mk #[100, 101, 101, 100]) = true from hN, br_true, hE, br_true]
  have hy : ((polsV (roll p0)).1, ((polsV (roll p0)).2.1, ())) = polsV (roll p0) := rfl
  simp only [hy]
  generalize polsV (roll p0) = Y at hp hl1 hl2 ⊢
  have hu := uses_valid (itemN (polsN (roll p0)) (ByteArray.mk #[100, 101, 101, 100]))
  have hul := uses_len (itemN (polsN (roll p0)) (ByteArray.mk #[100, 101, 101, 100]))
  generalize usesV (itemN (polsN (roll p0)) (ByteArray.mk #[100, 101, 101, 100])) = US at hu hul ⊢
  have h3 : (itemV (polsN (roll p0)) (ByteArray.mk #[100, 101, 101, 100])).2.2.2.1.length ≤ 3 := (itLk_len _).2
  have hi : itemOk (itemV (polsN (roll p0)) (ByteArray.mk #[100, 101, 101, 100])) = true := item_ok _ named_deed
  generalize itemV (polsN (roll p0)) (ByteArray.mk #[100, 101, 101, 100]) = I at h3 hi ⊢
  have f1 : fineB Y I = true := by unfold fineB; rw [hp, hi]; rfl
  have hI := itemOk_iff.1 hi
  have l1 := len_of f1
  have l5 : lenOk5 US = true := decide_eq_true (by omega)
  have c1 : schOk Y I US 0 = true := by unfold schOk; rw [l1, l5]; rfl
  have eH := holds_fine f1
  have eL := links_fine f1
  rw [c1, br_true, l1, br_true]
  rcases sch_cases f1 hu with ⟨k1, k2⟩ | ⟨k1, k2, k3⟩
  · obtain ⟨s1, s2, s3, s4, s5⟩ := k2
    have hl8 : (applyF I (schF Y I US 0).1).2.2.2.1.length ≤ 8 := by
      simp only [fineB, Bool.and_eq_true] at s1
      exact (itemOk_iff.1 s1.2).2.2.2.1.2
    have hlen : (applyF I (schF Y I US 0).1).2.2.2.1.length = I.2.2.2.1.length + (schF Y I US 0).1.length := by
      show (I.2.2.2.1 ++ (schF Y I US 0).1).length = _
      rw [List.length_append]
    have l2 := len_of s1
    have eH2 := holds_fine s1
    have eL2 := links_fine s1
    rw [show (applyF I (schF Y I US 0).1).2.2.2.2.1 = I.2.2.2.2.1 from rfl, s2] at eH2
    rw [show (applyF I (schF Y I US 0).1).2.1 = I.2.1 from rfl] at eL2
    have hall : (schF Y I US 0).1.all (linkOkB Y I.2.2.1) = true := List.all_eq_true.2 fun x hx => by
      obtain ⟨q1, q2, q3, q4⟩ := s5 x hx
      unfold linkOkB
      rw [q1, q4, decide_eq_true (show 0 ≤ x.2.1 ∧ x.2.1 ≤ 40000 from ⟨q2, q3⟩)]
      rfl
    rw [k1]
    generalize (schF Y I US 0).1 = l at s3 s4 hlen hl8 l2 eH2 eL2 hall ⊢
    have c2 : applyOk I l = true := by
      unfold applyOk lenOk5
      rw [Bool.and_eq_true]
      exact ⟨decide_eq_true (by omega), decide_eq_true (by omega)⟩
    have c3 : (polOk Y && l.all (linkOkB Y I.2.2.1) && decide (1 ≤ I.2.2.1 ∧ I.2.2.1 ≤ 4) && rngOk l (llen l) 0) = true := by
      rw [hp, hall, decide_eq_true hI.2.2.1, rng_0 (by omega)]
      rfl
    have cb : bneq (!(ilt (reachF Y I) I.2.2.2.2.1)) (ieq (llen l) 0) = false := by
      have e0 : ieq (llen l) 0 = !(ilt (reachF Y I) I.2.2.2.2.1) := by
        cases hq : ilt (reachF Y I) I.2.2.2.2.1 with
        | false =>
          rw [s3.2 hq]
          rfl
        | true =>
          have : l ≠ [] := fun h => by rw [s3.1 h] at hq; cases hq
          have := List.length_pos_iff.2 this
          simp only [ieq_dec, llen, Bool.not_true, decide_eq_false_iff_not]
          omega
      rw [e0]
      cases ilt (reachF Y I) I.2.2.2.2.1 <;> rfl
    have hsg : I.2.1 ≠ 1 → 1 ≤ sgCount (lksF Y I) ∧ sgCount (lksF Y I) ≤ 8 := fun _ => by
      have hlk : (lksF Y I).length = I.2.2.2.1.length := by simp [lksF]
      have := sgCount_le (l := lksF Y I) (fun h => by rw [h] at hlk; simp at hlk; omega)
      omega
    have cn : ine (LinksF Y (applyF I l)).1 (iadd .i64 (LinksF Y I).1 (llen l)) = false := by
      rw [eL, eL2]
      by_cases hl : l = []
      · subst hl
        rw [apply_nil]
        have e3 : ∀ n : Int, 0 ≤ n → n ≤ 8 → iadd .i64 n (llen ([] : List Link)) = n := fun n a b => by
          unfold llen
          rw [iadd_in (by simp; omega)]
          simp
        cases hk : ieq I.2.1 1 with
        | true =>
          rw [if_pos rfl]
          show ine (I.2.2.2.1.length : Int) (iadd .i64 (I.2.2.2.1.length : Int) (llen ([] : List Link))) = false
          rw [e3 _ (by omega) (by omega)]
          simp [ine]
        | false =>
          rw [if_neg (by simp)]
          have := hsg (fun h => by rw [h] at hk; cases hk)
          show ine (sgCount (lksF Y I)) (iadd .i64 (sgCount (lksF Y I)) (llen ([] : List Link))) = false
          rw [e3 _ (by omega) (by omega)]
          simp [ine]
      · obtain ⟨q1, q2, q3⟩ := s4 hl
        rw [q1, if_neg (by simp), if_neg (by simp), q2, q3]
        show ine ((I.2.2.2.1.length : Int) + (l.length : Int)) (iadd .i64 (I.2.2.2.1.length : Int) (llen l)) = false
        unfold llen
        rw [iadd_in (by omega)]
        simp [ine]
    have e20 : (LinksF Y (applyF I l)).2 = 0 := by rw [eL2]
    rw [show ine 0 0 = false from rfl, br_false, eH]
    simp only [c2, l2, eH2, cb, cn, e20, c3, br_true, show ine 0 0 = false from rfl, br_false, Bool.not_false, Bool.not_true]
    rfl
  · rw [k1, show ine (schF Y I US 0).2 0 = true by rcases k2 with h | h <;> rw [h] <;> rfl, br_true, eH, k3]
    rcases k2 with h | h <;> rw [h] <;> rfl
def sp_f4 : Ent := spec (.pr (.sl tI) .nil) (fun x => true) (fun x => (.t .bool (lawHolds x.1)))
theorem ms_f4 : Meets Tryz.prog 4 (strip sp_f4) := by
  obtain ⟨c, hc, hi⟩ := Option.map_eq_some_iff.1 ok_f4
  exact meets_spec (R := runF g_f4 tc_f4 rv_f4 false) (meets_of (by decide) Tryz.func4 hc hi Tryz.ntmps4 rok_f4 gk_f4 lk_f4 mixed) fun x _ => (e_f4 x.1).trans (s_f4 x.1)
end
theorem walkRenewalHolds (z0 : (List Int)) (W : World) (v0 : Value) (c0 : C noX W (fun _ => .no) (V.t (.sl tI) z0).d v0) (w0 : Ty.wf (.sl tI) z0) :
    Calls Tryz.prog 4 #[v0] W fun r w' => r = .returned (.bool true) ∧ Below W.heap.size W w' :=
  calls_true (by decide) ms_f4 (args := [.t (.sl tI) z0]) (strip_spec (x := (z0, ())) rfl (rfl)) (by simp only [V.ds, Cs]; exact ⟨_, _, rfl, c0, rfl⟩)
end Go.Proofs.YtfehjdaielifiaaGreat.K
