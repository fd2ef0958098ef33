/-
  The law on how far an item reaches.
-/
import Derived.Test.YtfehjdaielifiaaGreatV36
import Derived.Test.YtfehjdaielifiaaGreatV35
import Derived.Test.YtfehjdaielifiaaGreatP27
import Derived.Test.YtfehjdaielifiaaGreatM3G
import Derived.Test.YtfehjdaielifiaaGreatKZ
import Derived.Test.YtfehjdaielifiaaGreatKD
set_option linter.unusedSimpArgs false
set_option linter.unusedVariables false
namespace Go.Proofs.YtfehjdaielifiaaGreat.K
open Go.RowKit
noncomputable section
def spl_f40 : Ent := lendE2 sp_f40
theorem msl_f40 : Meets Tryz.prog 40 (strip spl_f40) := meets_lend2 ms_f40
def spl_f35 : Ent := lendE2 sp_f35
theorem msl_f35 : Meets Tryz.prog 35 (strip spl_f35) := meets_lend2 ms_f35
def spl_f21 : Ent := lendE2 sp_f21
theorem msl_f21 : Meets Tryz.prog 21 (strip spl_f21) := meets_lend2 ms_f21
def d8R (_ : List Int) (d : Int) : Bool := decide (0 ≤ d ∧ d ≤ 255)
def lawReach (_ : List Int) (_ : Int) : Bool := true
def dr_f7_0 : List DO := [(.mk (oM 93 (.ld true 5 (.t 7))) []), (.mk (oP 94 (.bd [(.v (.int .i64 0)), (.v (.int .i64 0))] [(0, 1, (cI 18))])) []), (.mk (oV 95 15) []), (.mk (oP 96 (.bin false .add (.t 95) (cI 1))) [2]), (.mk (oV 97 1) []), (.mk (oP 98 (.cv .i64 (.t 97))) [4]), (.mk (oV 99 12) []), (.mk (oV 100 15) []), (.mk (oP 101 (.bin false .sub (.t 99) (.t 100))) [6, 7]), (.mk (oC 102 41 [(.t 98), (.t 101)]) [5, 8]), (.mk (oP 103 (.bin false .add (.t 96) (.t 102))) [3, 9]), (.mk (oP 104 (.bd [(.v (.int .i64 0)), (.v (.int .i64 0)), (.v (.int .i64 0))] [(0, 2, (.t 94)), (2, 1, (.t 103))])) [1, 10]), (.mk (oM 105 (.bs 62 3 1 [(.v (.int .i64 0)), (.v (.int .i64 0)), (.v (.int .i64 0))] [(0, 3, (.t 104))])) [11]), (.mk (oC 106 36 [(.t 93), (.t 105)]) [0, 12, 9]), (.mk (oM 16 (.new [(.v (.string (ByteArray.mk #[]))), (.v (.int .i64 0)), (.v (.int .i64 0)), (.v (.slice none 0 0)), (.v (.int .i64 0))])) []), (.mk (.mk none none (.m (.st 5 (.t 16) (.t 106)))) [14, 13, 13, 0, 1, 2, 3, 4, 5, 6, 7, 8, 9, 10, 11, 12, 13, 14])]
/-- cipherplan/cipherplanlaw35.RenewalReach -/
def tc_f7 : TC := (.sq (.reg [(oP 4 (.mv (cB false)))]) (.sq (.sq (.reg [(oV 19 0), (oC 20 9 [(.t 19)]), (oP 21 (.nt (.t 20)))]) (.cd (.t 21) (.sq (.reg [(oC 22 30 []), (oV 4 22)]) .rt) .sk)) (.sq (.reg [(oV 23 0), (oC 24 11 [(.t 23)]), (oV 5 24)]) (.sq (.reg [(oV 25 5), (oC 26 31 [(.t 25)]), (oM 6 (.new [(.v (.slice none 0 0)), (.v (.slice none 0 0))])), (.mk none none (.m (.st 2 (.t 6) (.t 26))))]) (.sq (.reg [(oV 27 5), (oC 28 32 [(.t 27), (.c (.v (.string (ByteArray.mk #[100, 101, 101, 100]))))]), (oM 7 (.new [(.v (.string (ByteArray.mk #[]))), (.v (.int .i64 0)), (.v (.int .i64 0)), (.v (.slice none 0 0)), (.v (.int .i64 0))])), (.mk none none (.m (.st 5 (.t 7) (.t 28))))]) (.sq (.reg [(oM 30 (.ld true 2 (.t 6))), (oM 31 (.ld true 5 (.t 7))), (oC 32 40 [(.t 30), (.t 31)]), (oV 29 32), (oP 33 (.ext 0 (.t 29))), (oP 34 (.ext 1 (.t 29))), (oV 8 33), (oV 9 34)]) (.sq (.reg [(oM 36 (.ld true 2 (.t 6))), (oM 37 (.ld true 5 (.t 7))), (oC 38 35 [(.t 36), (.t 37)]), (oV 35 38), (oP 39 (.ext 0 (.t 35))), (oP 40 (.ext 1 (.t 35))), (oV 10 39), (oV 11 40)]) (.sq (.sq (.reg [(oV 41 9), (oP 42 (.bin false .neq (.t 41) (cI 0))), (oV 43 42), (oQ 44 43 false (.mv (.t 11))), (oQ 45 43 false (.bin false .neq (.t 44) (cI 0))), (oP 46 (.pick (.t 43) (cB true) (.t 45))), (oV 47 46), (oQ 48 47 false (.mv (.t 10))), (oQ 49 47 false (.mv (.t 8))), (oQ 50 47 false (.fa 4 (.t 7))), (oG 51 47 false (.m (.ld false 1 (.t 50)))), (oQ 52 47 false (.bin false .geq (.t 49) (.t 51))), (oQ 53 47 false (.bin true .neq (.t 48) (.t 52))), (oP 54 (.pick (.t 47) (cB true) (.t 53))), (oV 55 54), (oQ 56 55 false (.mv (.t 8))), (oQ 57 55 false (.fa 3 (.t 7))), (oG 58 55 false (.m (.ld false 1 (.t 57)))), (oQ 59 55 false (.ix 3 (.t 58) (cI 0))), (oQ 60 55 false (.fa 2 (.t 59))), (oG 61 55 false (.m (.ld false 1 (.t 60)))), (oQ 62 55 false (.bin false .sub (.t 61) (cI 1))), (oQ 63 55 false (.bin false .lss (.t 56) (.t 62))), (oP 64 (.pick (.t 55) (cB true) (.t 63))), (oV 65 64), (oQ 66 65 false (.mv (.t 8))), (oQ 67 65 false (.bin false .gtr (.t 66) (cI 40000))), (oP 68 (.pick (.t 65) (cB true) (.t 67)))]) (.cd (.t 68) (.sq (.reg [(oP 4 (.mv (cB false)))]) .rt) .sk)) (.sq (.reg [(oM 70 (.ld true 2 (.t 6))), (oM 71 (.ld true 5 (.t 7))), (oC 72 21 [(.t 70), (.t 71)]), (oV 69 72), (oP 73 (.ext 0 (.t 69))), (oP 74 (.ext 1 (.t 69))), (oP 75 (.ext 2 (.t 69))), (oV 12 73), (oV 13 74), (oV 14 75)]) (.sq (.reg [(oP 76 (.fa 3 (.t 7))), (oL 77 76), (oP 78 (.fa 3 (.t 7))), (oL 79 78), (oP 80 (.len false (.t 79))), (oP 81 (.bin false .sub (.t 80) (cI 1))), (oP 82 (.ix 3 (.t 77) (.t 81))), (oP 83 (.fa 2 (.t 82))), (oL 84 83), (oV 15 84)]) (.sq (.sq (.reg [(oV 85 13), (oP 86 (.nt (.t 85))), (oV 87 86), (oQ 88 87 false (.mv (.t 12))), (oQ 89 87 false (.mv (.t 15))), (oQ 90 87 false (.bin false .leq (.t 88) (.t 89))), (oP 91 (.pick (.t 87) (cB true) (.t 90)))]) (.cd (.t 91) (.sq (.reg [(oC 92 30 []), (oV 4 92)]) .rt) .sk)) (.sq (.dr dr_f7_0 [(0, [7]), (1, []), (2, []), (3, []), (4, []), (5, []), (6, []), (7, []), (8, []), (9, []), (10, []), (11, []), (12, []), (13, []), (14, [16, 5016, 10016, 15016]), (15, [16])] (.of [0, 1, 2, 3, 4, 5, 6, 7, 8, 9, 10, 11, 12, 13, 14, 15])) (.sq (.reg [(oP 107 (.fa 0 (.t 6))), (oL 108 107), (oP 109 (.bd [(.v (.bool false)), (.v (.int .i64 0)), (.v (.int .i64 0)), (.v (.int .i64 0)), (.v (.int .i64 0)), (.v (.int .i64 0))] [(0, 1, (cB true)), (1, 1, (cI 18)), (5, 1, (cI 40001))])), (oM 110 (.bs 38 6 1 [(.v (.bool false)), (.v (.int .i64 0)), (.v (.int .i64 0)), (.v (.int .i64 0)), (.v (.int .i64 0)), (.v (.int .i64 0))] [(0, 6, (.t 109))])), (oM 111 (.app 38 6 48 (.t 108) (.t 110))), (oP 112 (.fa 0 (.t 6))), (.mk none none (.m (.st 1 (.t 112) (.t 111))))]) (.sq (.reg [(oM 114 (.ld true 2 (.t 6))), (oM 115 (.ld true 5 (.t 16))), (oC 116 40 [(.t 114), (.t 115)]), (oV 113 116), (oP 117 (.ext 0 (.t 113))), (oP 118 (.ext 1 (.t 113))), (oV 17 117), (oV 18 118)]) (.sq (.reg [(oV 119 18), (oP 120 (.bin false .eql (.t 119) (cI 0))), (oV 121 120), (oQ 122 121 true (.fa 1 (.t 7))), (oG 123 121 true (.m (.ld false 1 (.t 122)))), (oQ 124 121 true (.bin false .neq (.t 123) (cI 2))), (oQ 125 121 true (.mv (.t 124))), (oQ 126 125 false (.mv (.t 17))), (oQ 127 125 false (.bin false .eql (.t 126) (cI 40000))), (oQ 128 121 true (.pick (.t 125) (cB true) (.t 127))), (oP 129 (.pick (.t 121) (.t 128) (cB false))), (oV 130 129), (oQ 131 130 true (.fa 1 (.t 7))), (oG 132 130 true (.m (.ld false 1 (.t 131)))), (oQ 133 130 true (.bin false .neq (.t 132) (cI 1))), (oQ 134 130 true (.mv (.t 133))), (oQ 135 134 false (.mv (.t 17))), (oQ 136 134 false (.bin false .leq (.t 135) (cI 40000))), (oQ 137 130 true (.pick (.t 134) (cB true) (.t 136))), (oP 138 (.pick (.t 130) (.t 137) (cB false))), (oV 139 138), (oG 140 139 true (.call 30 [])), (oP 141 (.pick (.t 139) (.t 140) (cB false))), (oV 4 141)]) .rt)))))))))))))))
def rv_f7 : List (RV × Option Ty) := [((.t 4), some .bool)]
def g_f7 : G := ⟨TYs, [], 142, EL [(9, sp_f9), (11, sp_f11), (21, spl_f21), (30, sp_f30), (31, sp_f31), (32, sp_f32), (35, spl_f35), (36, sp_f36), (40, spl_f40), (41, sp_f41)], (21 :: 35 :: 40 :: keeps), (fun _ _ => none), IL [], RL []⟩
def r_f7_1 (p0 : (List Int)) (p1 : Int) : Option (V × List VO) :=
  br ((ine (((itemV (polsN (roll p0)) (ByteArray.mk #[100, 101, 101, 100])).2).1) 1))
    (some (.t .bool awakeT35, []))
    (br ((ile ((ReachF ((((polsV (roll p0)).1) ++ ([(true, (18, (0, (0, (0, (40001, ()))))))])), (((polsV (roll p0)).2).1, ())) (applyF (itemV (polsN (roll p0)) (ByteArray.mk #[100, 101, 101, 100])) ([((18, (0, ())), ((iadd .i64 (iadd .i64 (((lgt tyLink (((((itemV (polsN (roll p0)) (ByteArray.mk #[100, 101, 101, 100])).2).2).2).1) (Int.toNat (isub .i64 (llen (((((itemV (polsN (roll p0)) (ByteArray.mk #[100, 101, 101, 100])).2).2).2).1)) 1))).2).1) 1) (dmod (icv .i64 p1) (isub .i64 ((LatestF ((polsV (roll p0)).1, (((polsV (roll p0)).2).1, ())) (itemV (polsN (roll p0)) (ByteArray.mk #[100, 101, 101, 100]))).1) (((lgt tyLink (((((itemV (polsN (roll p0)) (ByteArray.mk #[100, 101, 101, 100])).2).2).2).1) (Int.toNat (isub .i64 (llen (((((itemV (polsN (roll p0)) (ByteArray.mk #[100, 101, 101, 100])).2).2).2).1)) 1))).2).1)))), ()))]))).1) 40000))
      (some (.t .bool awakeT35, []))
      (some (.t .bool false, [])))
def r_f7 (p0 : (List Int)) (p1 : Int) : Option (V × List VO) :=
  br ((!(light p0)))
    (some (.t .bool awakeT35, []))
    (br ((dOk (roll p0)))
      (br ((dOkS (polsN (roll p0)) (ByteArray.mk #[100, 101, 101, 100])))
        (br ((fineLen ((polsV (roll p0)).1, (((polsV (roll p0)).2).1, ())) (itemV (polsN (roll p0)) (ByteArray.mk #[100, 101, 101, 100]))))
          (br ((fineLen ((polsV (roll p0)).1, (((polsV (roll p0)).2).1, ())) (itemV (polsN (roll p0)) (ByteArray.mk #[100, 101, 101, 100]))))
            (br ((ine ((ReachF ((polsV (roll p0)).1, (((polsV (roll p0)).2).1, ())) (itemV (polsN (roll p0)) (ByteArray.mk #[100, 101, 101, 100]))).2) 0))
              (some (.t .bool false, []))
              (br ((ine ((HoldsF ((polsV (roll p0)).1, (((polsV (roll p0)).2).1, ())) (itemV (polsN (roll p0)) (ByteArray.mk #[100, 101, 101, 100]))).2) 0))
                (some (.t .bool false, []))
                (br ((bneq ((HoldsF ((polsV (roll p0)).1, (((polsV (roll p0)).2).1, ())) (itemV (polsN (roll p0)) (ByteArray.mk #[100, 101, 101, 100]))).1) (ige ((ReachF ((polsV (roll p0)).1, (((polsV (roll p0)).2).1, ())) (itemV (polsN (roll p0)) (ByteArray.mk #[100, 101, 101, 100]))).1) ((((((itemV (polsN (roll p0)) (ByteArray.mk #[100, 101, 101, 100])).2).2).2).2).1))))
                  (some (.t .bool false, []))
                  (br (cIx (((((itemV (polsN (roll p0)) (ByteArray.mk #[100, 101, 101, 100])).2).2).2).1) 0)
                    (br ((ilt ((ReachF ((polsV (roll p0)).1, (((polsV (roll p0)).2).1, ())) (itemV (polsN (roll p0)) (ByteArray.mk #[100, 101, 101, 100]))).1) (isub .i64 (((lgt tyLink (((((itemV (polsN (roll p0)) (ByteArray.mk #[100, 101, 101, 100])).2).2).2).1) (Int.toNat 0)).2).1) 1)))
                      (some (.t .bool false, []))
                      (br ((igt ((ReachF ((polsV (roll p0)).1, (((polsV (roll p0)).2).1, ())) (itemV (polsN (roll p0)) (ByteArray.mk #[100, 101, 101, 100]))).1) 40000))
                        (some (.t .bool false, []))
                        (br ((fineLen ((polsV (roll p0)).1, (((polsV (roll p0)).2).1, ())) (itemV (polsN (roll p0)) (ByteArray.mk #[100, 101, 101, 100]))))
                          (br (cIx (((((itemV (polsN (roll p0)) (ByteArray.mk #[100, 101, 101, 100])).2).2).2).1) (isub .i64 (llen (((((itemV (polsN (roll p0)) (ByteArray.mk #[100, 101, 101, 100])).2).2).2).1)) 1))
                            (br ((!(((LatestF ((polsV (roll p0)).1, (((polsV (roll p0)).2).1, ())) (itemV (polsN (roll p0)) (ByteArray.mk #[100, 101, 101, 100]))).2).1)))
                              (some (.t .bool awakeT35, []))
                              (br ((ile ((LatestF ((polsV (roll p0)).1, (((polsV (roll p0)).2).1, ())) (itemV (polsN (roll p0)) (ByteArray.mk #[100, 101, 101, 100]))).1) (((lgt tyLink (((((itemV (polsN (roll p0)) (ByteArray.mk #[100, 101, 101, 100])).2).2).2).1) (Int.toNat (isub .i64 (llen (((((itemV (polsN (roll p0)) (ByteArray.mk #[100, 101, 101, 100])).2).2).2).1)) 1))).2).1)))
                                (some (.t .bool awakeT35, []))
                                (br ((dmodOk (icv .i64 p1) (isub .i64 ((LatestF ((polsV (roll p0)).1, (((polsV (roll p0)).2).1, ())) (itemV (polsN (roll p0)) (ByteArray.mk #[100, 101, 101, 100]))).1) (((lgt tyLink (((((itemV (polsN (roll p0)) (ByteArray.mk #[100, 101, 101, 100])).2).2).2).1) (Int.toNat (isub .i64 (llen (((((itemV (polsN (roll p0)) (ByteArray.mk #[100, 101, 101, 100])).2).2).2).1)) 1))).2).1))))
                                  (br ((applyOk (itemV (polsN (roll p0)) (ByteArray.mk #[100, 101, 101, 100])) ([((18, (0, ())), ((iadd .i64 (iadd .i64 (((lgt tyLink (((((itemV (polsN (roll p0)) (ByteArray.mk #[100, 101, 101, 100])).2).2).2).1) (Int.toNat (isub .i64 (llen (((((itemV (polsN (roll p0)) (ByteArray.mk #[100, 101, 101, 100])).2).2).2).1)) 1))).2).1) 1) (dmod (icv .i64 p1) (isub .i64 ((LatestF ((polsV (roll p0)).1, (((polsV (roll p0)).2).1, ())) (itemV (polsN (roll p0)) (ByteArray.mk #[100, 101, 101, 100]))).1) (((lgt tyLink (((((itemV (polsN (roll p0)) (ByteArray.mk #[100, 101, 101, 100])).2).2).2).1) (Int.toNat (isub .i64 (llen (((((itemV (polsN (roll p0)) (ByteArray.mk #[100, 101, 101, 100])).2).2).2).1)) 1))).2).1)))), ()))])))
                                    (br (cApp ((polsV (roll p0)).1) ([(true, (18, (0, (0, (0, (40001, ()))))))]) 48)
                                      (br ((fineLen ((((polsV (roll p0)).1) ++ ([(true, (18, (0, (0, (0, (40001, ()))))))])), (((polsV (roll p0)).2).1, ())) (applyF (itemV (polsN (roll p0)) (ByteArray.mk #[100, 101, 101, 100])) ([((18, (0, ())), ((iadd .i64 (iadd .i64 (((lgt tyLink (((((itemV (polsN (roll p0)) (ByteArray.mk #[100, 101, 101, 100])).2).2).2).1) (Int.toNat (isub .i64 (llen (((((itemV (polsN (roll p0)) (ByteArray.mk #[100, 101, 101, 100])).2).2).2).1)) 1))).2).1) 1) (dmod (icv .i64 p1) (isub .i64 ((LatestF ((polsV (roll p0)).1, (((polsV (roll p0)).2).1, ())) (itemV (polsN (roll p0)) (ByteArray.mk #[100, 101, 101, 100]))).1) (((lgt tyLink (((((itemV (polsN (roll p0)) (ByteArray.mk #[100, 101, 101, 100])).2).2).2).1) (Int.toNat (isub .i64 (llen (((((itemV (polsN (roll p0)) (ByteArray.mk #[100, 101, 101, 100])).2).2).2).1)) 1))).2).1)))), ()))]))))
                                        (br ((ieq ((ReachF ((((polsV (roll p0)).1) ++ ([(true, (18, (0, (0, (0, (40001, ()))))))])), (((polsV (roll p0)).2).1, ())) (applyF (itemV (polsN (roll p0)) (ByteArray.mk #[100, 101, 101, 100])) ([((18, (0, ())), ((iadd .i64 (iadd .i64 (((lgt tyLink (((((itemV (polsN (roll p0)) (ByteArray.mk #[100, 101, 101, 100])).2).2).2).1) (Int.toNat (isub .i64 (llen (((((itemV (polsN (roll p0)) (ByteArray.mk #[100, 101, 101, 100])).2).2).2).1)) 1))).2).1) 1) (dmod (icv .i64 p1) (isub .i64 ((LatestF ((polsV (roll p0)).1, (((polsV (roll p0)).2).1, ())) (itemV (polsN (roll p0)) (ByteArray.mk #[100, 101, 101, 100]))).1) (((lgt tyLink (((((itemV (polsN (roll p0)) (ByteArray.mk #[100, 101, 101, 100])).2).2).2).1) (Int.toNat (isub .i64 (llen (((((itemV (polsN (roll p0)) (ByteArray.mk #[100, 101, 101, 100])).2).2).2).1)) 1))).2).1)))), ()))]))).2) 0))
                                          (br ((ine (((itemV (polsN (roll p0)) (ByteArray.mk #[100, 101, 101, 100])).2).1) 2))
                                            (r_f7_1 p0 p1)
                                            (br ((ieq ((ReachF ((((polsV (roll p0)).1) ++ ([(true, (18, (0, (0, (0, (40001, ()))))))])), (((polsV (roll p0)).2).1, ())) (applyF (itemV (polsN (roll p0)) (ByteArray.mk #[100, 101, 101, 100])) ([((18, (0, ())), ((iadd .i64 (iadd .i64 (((lgt tyLink (((((itemV (polsN (roll p0)) (ByteArray.mk #[100, 101, 101, 100])).2).2).2).1) (Int.toNat (isub .i64 (llen (((((itemV (polsN (roll p0)) (ByteArray.mk #[100, 101, 101, 100])).2).2).2).1)) 1))).2).1) 1) (dmod (icv .i64 p1) (isub .i64 ((LatestF ((polsV (roll p0)).1, (((polsV (roll p0)).2).1, ())) (itemV (polsN (roll p0)) (ByteArray.mk #[100, 101, 101, 100]))).1) (((lgt tyLink (((((itemV (polsN (roll p0)) (ByteArray.mk #[100, 101, 101, 100])).2).2).2).1) (Int.toNat (isub .i64 (llen (((((itemV (polsN (roll p0)) (ByteArray.mk #[100, 101, 101, 100])).2).2).2).1)) 1))).2).1)))), ()))]))).1) 40000))
                                              (r_f7_1 p0 p1)
                                              (some (.t .bool false, []))))
                                          (some (.t .bool false, [])))
                                        (none))
                                      (none))
                                    (none))
                                  (none))))
                            (none))
                          (none))))
                    (none)))))
            (none))
          (none))
        (none))
      (none))
theorem e_f7 (p0 : (List Int)) (p1 : Int) : runF g_f7 tc_f7 rv_f7 false [.t (.sl tI) p0, .t (.int .u8) p1] [] = r_f7 p0 p1 := by kernel_rfl
theorem ok_f7 : Option.map (trC Tryz.prog) Tryz.f7.body = some tc_f7.er := by kernel_rfl
theorem rok_f7 : trVs Tryz.prog Tryz.f7.results.toList = some (rv_f7.map Prod.fst) := by kernel_rfl
theorem gk_f7 : GOk Tryz.prog g_f7 := gok_of _ (by
  intro p hp
  simp only [List.mem_cons, List.not_mem_nil, or_false] at hp
  rcases hp with rfl | rfl | rfl | rfl | rfl | rfl | rfl | rfl | rfl | rfl
  · exact ⟨en_f9, ms_f9⟩
  · exact ⟨en_f11, ms_f11⟩
  · exact ⟨en_f21, msl_f21⟩
  · exact ⟨en_f30, ms_f30⟩
  · exact ⟨en_f31, ms_f31⟩
  · exact ⟨en_f32, ms_f32⟩
  · exact ⟨en_f35, msl_f35⟩
  · exact ⟨en_f36, ms_f36⟩
  · exact ⟨en_f40, msl_f40⟩
  · exact ⟨en_f41, ms_f41⟩)
theorem lk_f7 : tc_f7.lok g_f7 := by repeat (first | exact trivial | refine ⟨?_, ?_⟩)
def chaR : Rule := (true, (18, (0, (0, (0, (40001, ()))))))
theorem s_f7 (p0 : List Int) (p1 : Int) (h : d8R p0 p1 = true) : r_f7 p0 p1 = some (.t .bool (lawReach p0 p1), []) := by
  simp only [d8R, decide_eq_true_eq] at h
  simp only [r_f7, r_f7_1]
  refine br_intro (fun _ => rfl) (fun g1 => ?_)
  have hd := not_light g1
  obtain ⟨hp, hl1, hl2, hN⟩ := pols_ok hd
  rw [hd, br_true, show dOkS (polsN (roll p0)) (ByteArray.mk #[100, 101, 101, 100]) = true from hN, br_true]
  have hy : ((polsV (roll p0)).1, ((polsV (roll p0)).2.1, ())) = polsV (roll p0) := rfl
  simp only [hy, show (true, (18, (0, (0, (0, (40001, ())))))) = chaR from rfl]
  generalize polsV (roll p0) = Y at hp hl1 hl2 ⊢
  have h3 : (itemV (polsN (roll p0)) (ByteArray.mk #[100, 101, 101, 100])).2.2.2.1.length ≤ 3 := (itLk_len _).2
  have hi : itemOk (itemV (polsN (roll p0)) (ByteArray.mk #[100, 101, 101, 100])) = true := item_ok _ named_deed
  generalize itemV (polsN (roll p0)) (ByteArray.mk #[100, 101, 101, 100]) = I at h3 hi ⊢
  have f1 : fineB Y I = true := by unfold fineB; rw [hp, hi]; rfl
  have hI := itemOk_iff.1 hi
  have l1 := len_of f1
  obtain ⟨_, _, c0, e7, e8⟩ := fine_lens f1
  have eD : (lgt tyLink I.2.2.2.1 (I.2.2.2.1.length - 1)).2.1 = lastDay I := rfl
  have eR : ReachF Y I = (reachF Y I, 0) := by unfold ReachF; rw [f1]; rfl
  have eH : HoldsF Y I = (ige (reachF Y I) I.2.2.2.2.1, 0) := by unfold HoldsF; rw [f1]; rfl
  have z1 : ∀ a : Bool, bneq a a = false := fun a => by cases a <;> rfl
  have z2 : ine 0 0 = false := rfl
  obtain ⟨D, hD⟩ : ∃ D : Int, D = (lgt tyLink I.2.2.2.1 (Int.toNat 0)).2.1 := ⟨_, rfl⟩
  obtain ⟨r1, r2, r3, r4⟩ := reach_in f1 hD
  rw [← hD]
  have e9 : isub .i64 D 1 = D - 1 := isub_in (by omega)
  have c1 : ilt (reachF Y I) (D - 1) = false := decide_eq_false (by omega)
  have c2 : igt (reachF Y I) 40000 = false := decide_eq_false (by omega)
  simp only [e7, l1, eR, eH, br_true, z2, br_false, z1, c0, e9, c1, c2, e8]
  have e7b : (((I.2.2.2.1.length - 1 : Nat) : Int)).toNat = I.2.2.2.1.length - 1 := Int.toNat_natCast _
  rw [e7b, eD]
  cases ho : (LatestF Y I).2.1 with
  | false => rfl
  | true =>
    obtain ⟨l, x, e, hx, hk, hc, eL, hlt, hle, hl0, _⟩ := latest_law f1 ho
    have e1 : (LatestF Y I).1 = lastI2 Y I := by rw [eL]
    have e5 : icv .i64 p1 = p1 := Go.IntWalk.i64_in _ (by omega)
    have e6 : isub .i64 (lastI2 Y I) (lastDay I) = lastI2 Y I - lastDay I := isub_in (by omega)
    have hm : 0 ≤ dmod p1 (lastI2 Y I - lastDay I) ∧ dmod p1 (lastI2 Y I - lastDay I) < lastI2 Y I - lastDay I := by
      unfold dmod
      rw [if_neg (by omega)]
      exact ⟨Int.emod_nonneg _ (by omega), Int.emod_lt_of_pos _ (by omega)⟩
    have c3 : dmodOk p1 (lastI2 Y I - lastDay I) = true := decide_eq_true (by omega)
    rw [e1, show ile (lastI2 Y I) (lastDay I) = false from decide_eq_false (by omega), e5, e6, c3]
    generalize dmod p1 (lastI2 Y I - lastDay I) = m at hm
    have e10 : iadd .i64 (iadd .i64 (lastDay I) 1) m = lastDay I + 1 + m := by rw [iadd_in (a := lastDay I) (b := 1) (by omega), iadd_in (by omega)]
    rw [e10]
    have hday : lastDay I < lastDay I + 1 + m ∧ lastDay I + 1 + m ≤ lastI2 Y I := by omega
    generalize lastDay I + 1 + m = day at hday
    have hz : polOk (Y.1 ++ [chaR], (Y.2.1, ())) = true := by
      simp only [polOk, Bool.and_eq_true, decide_eq_true_eq] at hp ⊢
      refine ⟨⟨?_, hp.1.2⟩, by simp; omega, hp.2.2⟩
      rw [List.all_append, hp.1.1]
      rfl
    have hmore := all_allow (y := Y) (r := chaR) rfl (ks := Y.2.1) I.2.2.1
    obtain ⟨f2, o2, le2⟩ := latest_mono f1 hz hmore ho
    rw [e1] at le2
    have hv : validF (18, (0, ())) = true := by kernel_rfl
    have hal : ∀ d : Int, 0 ≤ d → d ≤ 40000 → allF (Y.1 ++ [chaR], (Y.2.1, ())) (18, (0, ())) I.2.2.1 d = true := fun d h0 h1 => by
      rw [all_app]
      have : matches' chaR (18, (0, ())) I.2.2.1 d = true := by
        unfold matches' concerns within' chaR
        simp only [Item.Name, Item.Kind, Item.Purpose, Item.Links, Item.Until, Policy.Rules, Policy.Keeps, Rule.Allow, Rule.Alg, Rule.Below, Rule.Purpose, Rule.From, Rule.To, Keep.Alg, Keep.Bits, Link.Use, Link.Day, Dice.L, Dice.At, LinkX.day, LinkX.fall, LinkX.falls, Row.name, Row.kind, Row.way, Row.sizes, Row.strengths]
        simp
        omega
      rw [if_pos this]
      rfl
    obtain ⟨n1, n2, n3, n4⟩ := next_law (u := (18, (0, ()))) (d := day) f2 o2 hv (by omega) hday.1 (by omega) (hal day (by omega) (by omega))
    have hfl : flU (Y.1 ++ [chaR], (Y.2.1, ())) I.2.2.1 (18, (0, ())) = 40001 := by
      unfold flU fallR
      rw [no_fall hz (hal 40000 (by omega) (by omega))]
      rfl
    have ea : applyF I [((18, (0, ())), (day, ()))] = moreL I (18, (0, ())) day := rfl
    have l2 : fineLen (Y.1 ++ [chaR], (Y.2.1, ())) (applyF I [((18, (0, ())), (day, ()))]) = true := by rw [ea]; exact len_of n1
    have eR2 : ReachF (Y.1 ++ [chaR], (Y.2.1, ())) (applyF I [((18, (0, ())), (day, ()))]) = (40000, 0) := by
      rw [ea]
      unfold ReachF
      rw [n1, n3, hfl]
      rfl
    have c4 : applyOk I [((18, (0, ())), (day, ()))] = true := by
      unfold applyOk lenOk5
      rw [Bool.and_eq_true]
      exact ⟨decide_eq_true (by omega), decide_eq_true (by simp)⟩
    have c5 : cApp Y.1 [chaR] 48 = true := cApp_ok (by simp; omega) (by omega)
    have hk2 : I.2.1 = 2 := by
      simp only [ieq_dec, decide_eq_false_iff_not] at hk
      omega
    rw [c4, c5, l2, eR2, hk2]
    rfl
def sp_f7 : Ent := spec (.pr (.sl tI) (.pr (.int .u8) .nil)) (fun x => (d8R x.1 x.2.1)) (fun x => (.t .bool (lawReach x.1 x.2.1)))
theorem ms_f7 : Meets Tryz.prog 7 (strip sp_f7) := by
  obtain ⟨c, hc, hi⟩ := Option.map_eq_some_iff.1 ok_f7
  exact meets_spec (R := runF g_f7 tc_f7 rv_f7 false) (meets_of (by decide) Tryz.func7 hc hi Tryz.ntmps7 rok_f7 gk_f7 lk_f7 mixed) fun x hok => (e_f7 x.1 x.2.1).trans (s_f7 x.1 x.2.1 hok)
theorem okw_RenewalReach (z0 : List Int) (z1 : Int) (w0 : Ty.wf (.sl (.int .i64)) z0) (w1 : Ty.wf (.int .u8) z1) : d8R z0 z1 = true := decide_eq_true (wf_u8 w1)
end
theorem walkRenewalReach (z0 : (List Int)) (z1 : Int) (W : World) (v0 : Value) (v1 : Value) (c0 : C noX W (fun _ => .no) (V.t (.sl tI) z0).d v0) (c1 : C noX W (fun _ => .no) (V.t (.int .u8) z1).d v1) (w0 : Ty.wf (.sl tI) z0) (w1 : Ty.wf (.int .u8) z1) :
    Calls Tryz.prog 7 #[v0, v1] W fun r w' => r = .returned (.bool true) ∧ Below W.heap.size W w' :=
  calls_true (by decide) ms_f7 (args := [.t (.sl tI) z0, .t (.int .u8) z1]) (strip_spec (x := (z0, z1, ())) rfl (okw_RenewalReach z0 z1 w0 w1)) (by simp only [V.ds, Cs]; exact ⟨_, _, rfl, c0, _, _, rfl, c1, rfl⟩)
end Go.Proofs.YtfehjdaielifiaaGreat.K
