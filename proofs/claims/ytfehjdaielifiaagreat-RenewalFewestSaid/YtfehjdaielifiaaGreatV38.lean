/-
  The law that no fewer links would do.
-/
import Derived.Test.YtfehjdaielifiaaGreatV36
import Derived.Test.YtfehjdaielifiaaGreatV35
import Derived.Test.YtfehjdaielifiaaGreatP28
import Derived.Test.YtfehjdaielifiaaGreatM3G
import Derived.Test.YtfehjdaielifiaaGreatKD
set_option linter.unusedSimpArgs false
set_option linter.unusedVariables false
namespace Go.Proofs.YtfehjdaielifiaaGreat.K
open Go.RowKit
noncomputable section
def b88f (_ : List Int) (a b : Int) : Bool := decide (0 ≤ a ∧ a ≤ 255 ∧ 0 ≤ b ∧ b ≤ 255)
def lawFewest (_ : List Int) (_ _ : Int) : Bool := true
def dr_f5_0 : List DO := [(.mk (oV 48 10) []), (.mk (oV 49 1) []), (.mk (oP 50 (.cv .i64 (.t 49))) [1]), (.mk (oV 51 10) []), (.mk (oP 52 (.len false (.t 51))) [3]), (.mk (oP 53 (.bin false .rem (.t 50) (.t 52))) [2, 4]), (.mk (oP 54 (.ix 2 (.t 48) (.t 53))) [0, 5]), (.mk (oM 55 (.ld true 2 (.t 54))) [6]), (.mk (oP 56 (.fa 3 (.t 9))) []), (.mk (oL 57 56) [8]), (.mk (oP 58 (.fa 3 (.t 9))) []), (.mk (oL 59 58) [10]), (.mk (oP 60 (.len false (.t 59))) [11]), (.mk (oP 61 (.bin false .sub (.t 60) (cI 1))) [12]), (.mk (oP 62 (.ix 3 (.t 57) (.t 61))) [9, 13]), (.mk (oP 63 (.fa 2 (.t 62))) [14]), (.mk (oL 64 63) [15]), (.mk (oP 65 (.bin false .add (.t 64) (cI 1))) [16]), (.mk (oV 66 2) []), (.mk (oP 67 (.cv .i64 (.t 66))) [18]), (.mk (oP 68 (.bin false .add (.t 65) (.t 67))) [17, 19]), (.mk (oP 69 (.bd [(.v (.int .i64 0)), (.v (.int .i64 0)), (.v (.int .i64 0))] [(0, 2, (.t 55)), (2, 1, (.t 68))])) [7, 20]), (.mk (oM 13 (.new [(.v (.int .i64 0)), (.v (.int .i64 0)), (.v (.int .i64 0))])) []), (.mk (.mk none none (.m (.st 3 (.t 13) (.t 69)))) [22, 21, 0, 1, 2, 3, 4, 5, 6, 7, 8, 9, 10, 11, 12, 13, 14, 15, 16, 17, 18, 19, 20, 21, 22])]
/-- cipherplan/cipherplanlaw35.RenewalFewest -/
def tc_f5 : TC := (.sq (.reg [(oP 6 (.mv (cB false)))]) (.sq (.sq (.reg [(oV 21 0), (oC 22 9 [(.t 21)]), (oP 23 (.nt (.t 22)))]) (.cd (.t 23) (.sq (.reg [(oC 24 30 []), (oV 6 24)]) .rt) .sk)) (.sq (.reg [(oV 25 0), (oC 26 11 [(.t 25)]), (oV 7 26)]) (.sq (.reg [(oV 27 7), (oC 28 31 [(.t 27)]), (oM 8 (.new [(.v (.slice none 0 0)), (.v (.slice none 0 0))])), (.mk none none (.m (.st 2 (.t 8) (.t 28))))]) (.sq (.reg [(oV 29 7), (oC 30 32 [(.t 29), (.c (.v (.string (ByteArray.mk #[100, 101, 101, 100]))))]), (oM 9 (.new [(.v (.string (ByteArray.mk #[]))), (.v (.int .i64 0)), (.v (.int .i64 0)), (.v (.slice none 0 0)), (.v (.int .i64 0))])), (.mk none none (.m (.st 5 (.t 9) (.t 30))))]) (.sq (.reg [(oV 31 7), (oC 32 34 [(.t 31)]), (oV 10 32)]) (.sq (.reg [(oM 34 (.ld true 2 (.t 8))), (oM 35 (.ld true 5 (.t 9))), (oV 36 10), (oC 37 33 [(.t 34), (.t 35), (.t 36), (cI 0)]), (oV 33 37), (oP 38 (.ext 0 (.t 33))), (oP 39 (.ext 1 (.t 33))), (oV 11 38), (oV 12 39)]) (.sq (.sq (.reg [(oV 40 12), (oP 41 (.bin false .neq (.t 40) (cI 0))), (oV 42 41), (oQ 43 42 false (.mv (.t 11))), (oQ 44 42 false (.len false (.t 43))), (oQ 45 42 false (.bin false .eql (.t 44) (cI 0))), (oP 46 (.pick (.t 42) (cB true) (.t 45)))]) (.cd (.t 46) (.sq (.reg [(oC 47 30 []), (oV 6 47)]) .rt) .sk)) (.sq (.dr dr_f5_0 [(0, [32, 5032, 10032, 15032]), (1, []), (2, []), (3, [32, 5032, 10032, 15032]), (4, [32, 5032, 10032, 15032]), (5, []), (6, [32, 5032, 10032, 15032]), (7, [32, 5032, 10032, 15032]), (8, [9]), (9, [9]), (10, [9]), (11, [9]), (12, []), (13, []), (14, []), (15, []), (16, []), (17, []), (18, []), (19, []), (20, []), (21, []), (22, [13, 5013, 10013, 15013]), (23, [13])] (.of [0, 1, 2, 3, 4, 5, 6, 7, 8, 9, 10, 11, 12, 13, 14, 15, 16, 17, 18, 19, 20, 21, 22, 23])) (.sq (.reg [(oM 71 (.ld true 2 (.t 8))), (oM 72 (.ld true 5 (.t 9))), (oP 73 (.fa 0 (.t 13))), (oM 74 (.ld true 2 (.t 73))), (oP 75 (.fa 2 (.t 13))), (oL 76 75), (oC 77 24 [(.t 71), (.t 72), (.t 74), (.t 76)]), (oV 70 77), (oP 78 (.ext 0 (.t 70))), (oP 79 (.ext 1 (.t 70))), (oM 14 (.new [(.v (.string (ByteArray.mk #[]))), (.v (.int .i64 0)), (.v (.int .i64 0)), (.v (.slice none 0 0)), (.v (.int .i64 0))])), (.mk none none (.m (.st 5 (.t 14) (.t 78)))), (oV 15 79)]) (.sq (.sq (.reg [(oM 81 (.ld true 2 (.t 8))), (oP 82 (.fa 0 (.t 13))), (oM 83 (.ld true 2 (.t 82))), (oP 84 (.fa 2 (.t 9))), (oL 85 84), (oP 86 (.fa 2 (.t 13))), (oL 87 86), (oC 88 37 [(.t 81), (.t 83), (.t 85), (.t 87)]), (oV 80 88), (oP 89 (.ext 0 (.t 80))), (oP 90 (.ext 1 (.t 80))), (oP 91 (.ext 2 (.t 80))), (oV 16 89), (oV 17 90), (oV 18 91)]) (.sq (.reg [(oV 92 15), (oP 93 (.bin false .neq (.t 92) (cI 0))), (oV 94 93), (oQ 95 94 false (.mv (.t 16))), (oQ 96 94 false (.nt (.t 95))), (oP 97 (.pick (.t 94) (cB true) (.t 96)))]) (.cd (.t 97) (.sq (.reg [(oC 98 30 []), (oV 6 98)]) .rt) .sk))) (.sq (.reg [(oM 100 (.ld true 2 (.t 8))), (oM 101 (.ld true 5 (.t 14))), (oC 102 35 [(.t 100), (.t 101)]), (oV 99 102), (oP 103 (.ext 0 (.t 99))), (oP 104 (.ext 1 (.t 99))), (oV 19 103), (oV 20 104)]) (.sq (.reg [(oV 105 20), (oP 106 (.bin false .eql (.t 105) (cI 0))), (oV 107 106), (oQ 108 107 true (.mv (.t 19))), (oQ 109 107 true (.nt (.t 108))), (oQ 110 107 true (.mv (.t 109))), (oQ 111 110 false (.mv (.t 11))), (oQ 112 110 false (.len false (.t 111))), (oQ 113 110 false (.bin false .eql (.t 112) (cI 1))), (oQ 114 107 true (.pick (.t 110) (cB true) (.t 113))), (oP 115 (.pick (.t 107) (.t 114) (cB false))), (oV 116 115), (oG 117 116 true (.call 30 [])), (oP 118 (.pick (.t 116) (.t 117) (cB false))), (oV 6 118)]) .rt)))))))))))))
def rv_f5 : List (RV × Option Ty) := [((.t 6), some .bool)]
def g_f5 : G := ⟨TYs, [], 119, EL [(9, sp_f9), (11, sp_f11), (24, sp_f24), (30, sp_f30), (31, sp_f31), (32, sp_f32), (33, sp_f33), (34, sp_f34), (35, sp_f35), (37, sp_f37)], keeps, (fun _ _ => none), IL [], RL []⟩
def r_f5 (p0 : (List Int)) (p1 : Int) (p2 : Int) : Option (V × List VO) :=
  br ((!(light p0)))
    (some (.t .bool awakeT35, []))
    (br ((dOk (roll p0)))
      (br ((dOkS (polsN (roll p0)) (ByteArray.mk #[100, 101, 101, 100])))
        (br ((dOk (itemN (polsN (roll p0)) (ByteArray.mk #[100, 101, 101, 100]))))
          (br ((schOk ((polsV (roll p0)).1, (((polsV (roll p0)).2).1, ())) (itemV (polsN (roll p0)) (ByteArray.mk #[100, 101, 101, 100])) (usesV (itemN (polsN (roll p0)) (ByteArray.mk #[100, 101, 101, 100]))) 0))
            (br ((ine ((schF ((polsV (roll p0)).1, (((polsV (roll p0)).2).1, ())) (itemV (polsN (roll p0)) (ByteArray.mk #[100, 101, 101, 100])) (usesV (itemN (polsN (roll p0)) (ByteArray.mk #[100, 101, 101, 100]))) 0).2) 0))
              (some (.t .bool awakeT35, []))
              (br ((ieq (llen ((schF ((polsV (roll p0)).1, (((polsV (roll p0)).2).1, ())) (itemV (polsN (roll p0)) (ByteArray.mk #[100, 101, 101, 100])) (usesV (itemN (polsN (roll p0)) (ByteArray.mk #[100, 101, 101, 100]))) 0).1)) 0))
                (some (.t .bool awakeT35, []))
                (br (cNz (llen (usesV (itemN (polsN (roll p0)) (ByteArray.mk #[100, 101, 101, 100])))))
                  (br (cIx (usesV (itemN (polsN (roll p0)) (ByteArray.mk #[100, 101, 101, 100]))) (irem (icv .i64 p1) (llen (usesV (itemN (polsN (roll p0)) (ByteArray.mk #[100, 101, 101, 100]))))))
                    (br (cIx (((((itemV (polsN (roll p0)) (ByteArray.mk #[100, 101, 101, 100])).2).2).2).1) (isub .i64 (llen (((((itemV (polsN (roll p0)) (ByteArray.mk #[100, 101, 101, 100])).2).2).2).1)) 1))
                      (br ((renLen ((polsV (roll p0)).1, (((polsV (roll p0)).2).1, ())) (itemV (polsN (roll p0)) (ByteArray.mk #[100, 101, 101, 100])) ((lgt tyKeep (usesV (itemN (polsN (roll p0)) (ByteArray.mk #[100, 101, 101, 100]))) (Int.toNat (irem (icv .i64 p1) (llen (usesV (itemN (polsN (roll p0)) (ByteArray.mk #[100, 101, 101, 100]))))))).1, (((lgt tyKeep (usesV (itemN (polsN (roll p0)) (ByteArray.mk #[100, 101, 101, 100]))) (Int.toNat (irem (icv .i64 p1) (llen (usesV (itemN (polsN (roll p0)) (ByteArray.mk #[100, 101, 101, 100]))))))).2).1, ())) (iadd .i64 (iadd .i64 (((lgt tyLink (((((itemV (polsN (roll p0)) (ByteArray.mk #[100, 101, 101, 100])).2).2).2).1) (Int.toNat (isub .i64 (llen (((((itemV (polsN (roll p0)) (ByteArray.mk #[100, 101, 101, 100])).2).2).2).1)) 1))).2).1) 1) (icv .i64 p2))))
                        (br ((polLen4 ((polsV (roll p0)).1, (((polsV (roll p0)).2).1, ())) ((lgt tyKeep (usesV (itemN (polsN (roll p0)) (ByteArray.mk #[100, 101, 101, 100]))) (Int.toNat (irem (icv .i64 p1) (llen (usesV (itemN (polsN (roll p0)) (ByteArray.mk #[100, 101, 101, 100]))))))).1, (((lgt tyKeep (usesV (itemN (polsN (roll p0)) (ByteArray.mk #[100, 101, 101, 100]))) (Int.toNat (irem (icv .i64 p1) (llen (usesV (itemN (polsN (roll p0)) (ByteArray.mk #[100, 101, 101, 100]))))))).2).1, ())) ((((itemV (polsN (roll p0)) (ByteArray.mk #[100, 101, 101, 100])).2).2).1) (iadd .i64 (iadd .i64 (((lgt tyLink (((((itemV (polsN (roll p0)) (ByteArray.mk #[100, 101, 101, 100])).2).2).2).1) (Int.toNat (isub .i64 (llen (((((itemV (polsN (roll p0)) (ByteArray.mk #[100, 101, 101, 100])).2).2).2).1)) 1))).2).1) 1) (icv .i64 p2))))
                          (br ((ine ((RenewF ((polsV (roll p0)).1, (((polsV (roll p0)).2).1, ())) (itemV (polsN (roll p0)) (ByteArray.mk #[100, 101, 101, 100])) ((lgt tyKeep (usesV (itemN (polsN (roll p0)) (ByteArray.mk #[100, 101, 101, 100]))) (Int.toNat (irem (icv .i64 p1) (llen (usesV (itemN (polsN (roll p0)) (ByteArray.mk #[100, 101, 101, 100]))))))).1, (((lgt tyKeep (usesV (itemN (polsN (roll p0)) (ByteArray.mk #[100, 101, 101, 100]))) (Int.toNat (irem (icv .i64 p1) (llen (usesV (itemN (polsN (roll p0)) (ByteArray.mk #[100, 101, 101, 100]))))))).2).1, ())) (iadd .i64 (iadd .i64 (((lgt tyLink (((((itemV (polsN (roll p0)) (ByteArray.mk #[100, 101, 101, 100])).2).2).2).1) (Int.toNat (isub .i64 (llen (((((itemV (polsN (roll p0)) (ByteArray.mk #[100, 101, 101, 100])).2).2).2).1)) 1))).2).1) 1) (icv .i64 p2))).2) 0))
                            (some (.t .bool awakeT35, []))
                            (br ((!((AllowedF ((polsV (roll p0)).1, (((polsV (roll p0)).2).1, ())) ((lgt tyKeep (usesV (itemN (polsN (roll p0)) (ByteArray.mk #[100, 101, 101, 100]))) (Int.toNat (irem (icv .i64 p1) (llen (usesV (itemN (polsN (roll p0)) (ByteArray.mk #[100, 101, 101, 100]))))))).1, (((lgt tyKeep (usesV (itemN (polsN (roll p0)) (ByteArray.mk #[100, 101, 101, 100]))) (Int.toNat (irem (icv .i64 p1) (llen (usesV (itemN (polsN (roll p0)) (ByteArray.mk #[100, 101, 101, 100]))))))).2).1, ())) ((((itemV (polsN (roll p0)) (ByteArray.mk #[100, 101, 101, 100])).2).2).1) (iadd .i64 (iadd .i64 (((lgt tyLink (((((itemV (polsN (roll p0)) (ByteArray.mk #[100, 101, 101, 100])).2).2).2).1) (Int.toNat (isub .i64 (llen (((((itemV (polsN (roll p0)) (ByteArray.mk #[100, 101, 101, 100])).2).2).2).1)) 1))).2).1) 1) (icv .i64 p2))).1)))
                              (some (.t .bool awakeT35, []))
                              (br ((fineLen ((polsV (roll p0)).1, (((polsV (roll p0)).2).1, ())) ((RenewF ((polsV (roll p0)).1, (((polsV (roll p0)).2).1, ())) (itemV (polsN (roll p0)) (ByteArray.mk #[100, 101, 101, 100])) ((lgt tyKeep (usesV (itemN (polsN (roll p0)) (ByteArray.mk #[100, 101, 101, 100]))) (Int.toNat (irem (icv .i64 p1) (llen (usesV (itemN (polsN (roll p0)) (ByteArray.mk #[100, 101, 101, 100]))))))).1, (((lgt tyKeep (usesV (itemN (polsN (roll p0)) (ByteArray.mk #[100, 101, 101, 100]))) (Int.toNat (irem (icv .i64 p1) (llen (usesV (itemN (polsN (roll p0)) (ByteArray.mk #[100, 101, 101, 100]))))))).2).1, ())) (iadd .i64 (iadd .i64 (((lgt tyLink (((((itemV (polsN (roll p0)) (ByteArray.mk #[100, 101, 101, 100])).2).2).2).1) (Int.toNat (isub .i64 (llen (((((itemV (polsN (roll p0)) (ByteArray.mk #[100, 101, 101, 100])).2).2).2).1)) 1))).2).1) 1) (icv .i64 p2))).1)))
                                (br ((ieq ((HoldsF ((polsV (roll p0)).1, (((polsV (roll p0)).2).1, ())) ((RenewF ((polsV (roll p0)).1, (((polsV (roll p0)).2).1, ())) (itemV (polsN (roll p0)) (ByteArray.mk #[100, 101, 101, 100])) ((lgt tyKeep (usesV (itemN (polsN (roll p0)) (ByteArray.mk #[100, 101, 101, 100]))) (Int.toNat (irem (icv .i64 p1) (llen (usesV (itemN (polsN (roll p0)) (ByteArray.mk #[100, 101, 101, 100]))))))).1, (((lgt tyKeep (usesV (itemN (polsN (roll p0)) (ByteArray.mk #[100, 101, 101, 100]))) (Int.toNat (irem (icv .i64 p1) (llen (usesV (itemN (polsN (roll p0)) (ByteArray.mk #[100, 101, 101, 100]))))))).2).1, ())) (iadd .i64 (iadd .i64 (((lgt tyLink (((((itemV (polsN (roll p0)) (ByteArray.mk #[100, 101, 101, 100])).2).2).2).1) (Int.toNat (isub .i64 (llen (((((itemV (polsN (roll p0)) (ByteArray.mk #[100, 101, 101, 100])).2).2).2).1)) 1))).2).1) 1) (icv .i64 p2))).1)).2) 0))
                                  (br ((!((HoldsF ((polsV (roll p0)).1, (((polsV (roll p0)).2).1, ())) ((RenewF ((polsV (roll p0)).1, (((polsV (roll p0)).2).1, ())) (itemV (polsN (roll p0)) (ByteArray.mk #[100, 101, 101, 100])) ((lgt tyKeep (usesV (itemN (polsN (roll p0)) (ByteArray.mk #[100, 101, 101, 100]))) (Int.toNat (irem (icv .i64 p1) (llen (usesV (itemN (polsN (roll p0)) (ByteArray.mk #[100, 101, 101, 100]))))))).1, (((lgt tyKeep (usesV (itemN (polsN (roll p0)) (ByteArray.mk #[100, 101, 101, 100]))) (Int.toNat (irem (icv .i64 p1) (llen (usesV (itemN (polsN (roll p0)) (ByteArray.mk #[100, 101, 101, 100]))))))).2).1, ())) (iadd .i64 (iadd .i64 (((lgt tyLink (((((itemV (polsN (roll p0)) (ByteArray.mk #[100, 101, 101, 100])).2).2).2).1) (Int.toNat (isub .i64 (llen (((((itemV (polsN (roll p0)) (ByteArray.mk #[100, 101, 101, 100])).2).2).2).1)) 1))).2).1) 1) (icv .i64 p2))).1)).1)))
                                    (some (.t .bool awakeT35, []))
                                    (br ((ieq (llen ((schF ((polsV (roll p0)).1, (((polsV (roll p0)).2).1, ())) (itemV (polsN (roll p0)) (ByteArray.mk #[100, 101, 101, 100])) (usesV (itemN (polsN (roll p0)) (ByteArray.mk #[100, 101, 101, 100]))) 0).1)) 1))
                                      (some (.t .bool awakeT35, []))
                                      (some (.t .bool false, []))))
                                  (some (.t .bool false, [])))
                                (none))))
                          (none))
                        (none))
                      (none))
                    (none))
                  (none))))
            (none))
          (none))
        (none))
      (none))
theorem e_f5 (p0 : (List Int)) (p1 : Int) (p2 : Int) : runF g_f5 tc_f5 rv_f5 false [.t (.sl tI) p0, .t (.int .u8) p1, .t (.int .u8) p2] [] = r_f5 p0 p1 p2 := by kernel_rfl
theorem ok_f5 : Option.map (trC Tryz.prog) Tryz.f5.body = some tc_f5.er := by kernel_rfl
theorem rok_f5 : trVs Tryz.prog Tryz.f5.results.toList = some (rv_f5.map Prod.fst) := by kernel_rfl
theorem gk_f5 : GOk Tryz.prog g_f5 := gok_of _ (by
  intro p hp
  simp only [List.mem_cons, List.not_mem_nil, or_false] at hp
  rcases hp with rfl | rfl | rfl | rfl | rfl | rfl | rfl | rfl | rfl | rfl
  · exact ⟨en_f9, ms_f9⟩
  · exact ⟨en_f11, ms_f11⟩
  · exact ⟨en_f24, ms_f24⟩
  · exact ⟨en_f30, ms_f30⟩
  · exact ⟨en_f31, ms_f31⟩
  · exact ⟨en_f32, ms_f32⟩
  · exact ⟨en_f33, ms_f33⟩
  · exact ⟨en_f34, ms_f34⟩
  · exact ⟨en_f35, ms_f35⟩
  · exact ⟨en_f37, ms_f37⟩)
theorem lk_f5 : tc_f5.lok g_f5 := by repeat (first | exact trivial | refine ⟨?_, ?_⟩)
theorem allowed_w {y : Policy} {u : Keep} {p d : Int} (hp : polOk y = true) (hv : validF u = true) (hq : 1 ≤ p ∧ p ≤ 4) (hd : 0 ≤ d ∧ d ≤ 40000) : AllowedF y u p d = (allF y u p d, decF y u p d, 0) := by
  unfold AllowedF
  rw [if_pos]
  unfold earlyF
  rw [hp, hv]
  simp only [Bool.true_eq_false, if_false]
  rw [if_neg (by omega)]
theorem flU_in {y : Policy} {p : Int} {u : Keep} (hp : polOk y = true) : 0 ≤ flU y p u ∧ flU y p u ≤ 40001 := by
  have e : flU y p u = if (fallL (spansF y u p)).2 then (fallL (spansF y u p)).1 else 40001 := rfl
  rw [e]
  cases hq : (fallL (spansF y u p)).2 with
  | false =>
    rw [if_neg (by simp)]
    omega
  | true =>
    have := fallI hp (f := (fallL (spansF y u p)).1) (Prod.ext rfl hq)
    rw [if_pos rfl]
    omega
/-- one link that serves: then one is scheduled -/
theorem few_law {y : Policy} {us : List Keep} {i : Item} {u : Keep} {d : Int} (hf : fineB y i = true) (hu : us.all validF = true) (h1 : (schF y i us 0).2 = 0) (h2 : (schF y i us 0).1 ≠ []) (hm : u ∈ us) (hd : lastDay i < d) (h4 : d ≤ 40000) (h8 : i.2.2.2.1.length < 8) (ha : allF y u i.2.2.1 d = true) (hh : ilt (reachF y (moreL i u d)) i.2.2.2.2.1 = false) : (schF y i us 0).1.length = 1 := by
  have hf2 := hf
  simp only [fineB, Bool.and_eq_true] at hf2
  obtain ⟨c1, c2, c3, c4, c5⟩ := sch_first hf hu h1 h2
  have hv := List.all_eq_true.1 hu u hm
  obtain ⟨_, r2⟩ := ren_ok (u := u) (day := d) hf hv hd h4 h8
  obtain ⟨l, x, e, hx, hk, hc, eL, hlt, hle, hl0, _⟩ := latest_law hf c2
  by_cases hin : d ≤ (LatestF y i).1
  · obtain ⟨_, _, n3, _⟩ := next_law hf c2 hv h8 hd hin ha
    obtain ⟨v, dv, g1, g2, g3, g4, g5, g6, g7, g8, g9, g10⟩ := nx_law hf hu (Int.le_refl 0) c2 c3
    obtain ⟨_, _, m3, _⟩ := next_law hf c2 g2 h8 g6 g8 g10
    have hmx : imx 0 (lastDay i + 1) = lastDay i + 1 := by rw [imx_max]; omega
    have hok : okU y i.2.2.1 (imx 0 (lastDay i + 1)) (LatestF y i).1 u = true := by
      rw [hmx]
      have hb : (LatestF y i).1 ≤ 40000 := by rw [eL]; exact hle
      exact (first_min (spans_ws hf2.1) (by omega) hin ((spans_in hf2.1 (by omega) h4).2 ha)).1
    obtain ⟨w, w1, w2, w3, w4⟩ := best_some c3
    have ew : w = v := by
      have h5 : (nxB y us 0 i).1 = (w, (dyU y i.2.2.1 (imx 0 (lastDay i + 1)) (LatestF y i).1 w, ())) := w3
      rw [g4] at h5
      exact (congrArg Prod.fst h5).symm
    subst ew
    have hcmp := w4 u hm hok
    have hfu := flU_in (p := i.2.2.1) (u := u) hf2.1
    have hfw := flU_in (p := i.2.2.1) (u := w) hf2.1
    have ea : applyF i [(nxB y us 0 i).1] = moreL i w dv := by rw [g4]; rfl
    rw [n3, isub_in (by omega)] at hh
    have hh := of_decide_eq_false hh
    have := c5 (by
      rw [ea, m3, isub_in (by omega)]
      exact decide_eq_false (by omega))
    rw [this]
    rfl
  · rw [late_law hf c2 r2 (by omega) h4, c1] at hh
    cases hh
theorem s_f5 (p0 : List Int) (p1 p2 : Int) (h : b88f p0 p1 p2 = true) : r_f5 p0 p1 p2 = some (.t .bool (lawFewest p0 p1 p2), []) := by
  simp only [b88f, decide_eq_true_eq] at h
  simp only [r_f5]
  refine br_intro (fun _ => rfl) (fun g1 => ?_)
  have hd := not_light g1
  obtain ⟨hp, hl1, hl2, hN⟩ := pols_ok hd
  have hE : dOk (itemN (polsN (roll p0)) (ByteArray.mk #[100, 101, 101, 100])) = true := dOk_item hN
  rw [hd, br_true, show dOkS (polsN (roll p0)) (ByteArray.mk #[100, 101, 101, 100]) = true from hN, br_true, hE, br_true]
  have hy : ((polsV (roll p0)).1, ((polsV (roll p0)).2.1, ())) = polsV (roll p0) := rfl
  simp only [hy]
  generalize polsV (roll p0) = Y at hp hl1 hl2 ⊢
  have hu := uses_valid (itemN (polsN (roll p0)) (ByteArray.mk #[100, 101, 101, 100]))
  have hul := uses_len (itemN (polsN (roll p0)) (ByteArray.mk #[100, 101, 101, 100]))
  generalize usesV (itemN (polsN (roll p0)) (ByteArray.mk #[100, 101, 101, 100])) = US at hu hul ⊢
  have h3 : (itemV (polsN (roll p0)) (ByteArray.mk #[100, 101, 101, 100])).2.2.2.1.length ≤ 3 := (itLk_len _).2
  have hi : itemOk (itemV (polsN (roll p0)) (ByteArray.mk #[100, 101, 101, 100])) = true := item_ok _ named_deed
  generalize itemV (polsN (roll p0)) (ByteArray.mk #[100, 101, 101, 100]) = I at h3 hi ⊢
  have f1 : fineB Y I = true := by unfold fineB; rw [hp, hi]; rfl
  have hI := itemOk_iff.1 hi
  have l1 := len_of f1
  have l5 : lenOk5 US = true := decide_eq_true (by omega)
  have c1 : schOk Y I US 0 = true := by unfold schOk; rw [l1, l5]; rfl
  rw [c1, br_true]
  refine br_intro (fun _ => rfl) (fun g2 => br_intro (fun _ => rfl) (fun g3 => ?_))
  have k1 : (schF Y I US 0).2 = 0 := by simpa [ine] using g2
  have k2 : (schF Y I US 0).1 ≠ [] := fun e => by rw [e] at g3; cases g3
  obtain ⟨t1, t2, t3, _, _⟩ := sch_first f1 hu k1 k2
  obtain ⟨v, _, g1', _⟩ := nx_law f1 hu (Int.le_refl 0) t2 t3
  have hpos : 0 < US.length := List.length_pos_of_mem g1'
  have e1 : icv .i64 p1 = p1 := Go.IntWalk.i64_in _ (by omega)
  have e2 : icv .i64 p2 = p2 := Go.IntWalk.i64_in _ (by omega)
  have e3 : irem p1 (llen US) = p1 % (US.length : Int) := by unfold irem llen; rw [Int.tmod_eq_emod_of_nonneg (by omega)]
  obtain ⟨k, hk⟩ : ∃ k : Nat, p1 % (US.length : Int) = (k : Int) := ⟨(p1 % (US.length : Int)).toNat, by have := Int.emod_nonneg p1 (show (US.length : Int) ≠ 0 by omega); omega⟩
  have hkl : k < US.length := by
    have := Int.emod_lt_of_pos p1 (show (0 : Int) < (US.length : Int) by omega)
    omega
  obtain ⟨_, _, c0, e7, e8⟩ := fine_lens f1
  have eD : (lgt tyLink I.2.2.2.1 (I.2.2.2.1.length - 1)).2.1 = lastDay I := rfl
  have hlast : 0 ≤ lastDay I ∧ lastDay I ≤ 40000 := by
    obtain ⟨l, x, e, hx⟩ := last_mem (i := I) hI.2.2.2.1.1
    rw [hx]
    exact (linksB_all hI.2.2.2.2.1 x (by rw [e]; simp)).2
  have e9 : iadd .i64 (iadd .i64 (lastDay I) 1) p2 = lastDay I + 1 + p2 := by rw [iadd_in (a := lastDay I) (b := 1) (by omega), iadd_in (by omega)]
  have hm : US[k] ∈ US := List.getElem_mem hkl
  have hvk := List.all_eq_true.1 hu _ hm
  have e10 : cNz (llen US) = true := decide_eq_true (by unfold llen; omega)
  have e11 : cIx US (k : Int) = true := by rw [cIx_nat]; exact decide_eq_true hkl
  rw [e10, br_true, e1, e2, e3, hk, e7]
  simp only [Int.toNat_natCast, lgt_get (y := tyKeep) hkl, eD, e9, e11, e8, br_true]
  have rl : ∀ u d, renLen Y I u d = true := fun u d => l1
  have pl4 : ∀ u p d, polLen4 Y u p d = true := fun u p d => (pol_len hp).1
  have eu : (US[k].1, (US[k].2.1, ())) = US[k] := rfl
  simp only [rl, pl4, br_true, eu]
  have hday : lastDay I < lastDay I + 1 + p2 := by omega
  generalize lastDay I + 1 + p2 = day at hday ⊢
  refine br_intro (fun _ => rfl) (fun g4 => br_intro (fun _ => rfl) (fun g5 => ?_))
  have h4 : day ≤ 40000 := Classical.byContradiction fun hn => by
    have e : renE Y I US[k] day = 13 := by
      unfold renE
      rw [if_neg (by rw [f1]; simp), if_neg (by rw [hvk]; simp), if_pos (.inr (by omega))]
    unfold RenewF at g4
    rw [if_neg (by rw [e]; omega)] at g4
    rw [show ((noItem, renE Y I US[k] day) : Item × Int).2 = 13 from e] at g4
    cases g4
  obtain ⟨r1, r2⟩ := ren_ok (u := US[k]) (day := day) f1 hvk hday h4 (by omega)
  have hal := allowed_w (u := US[k]) (p := I.2.2.1) (d := day) hp hvk hI.2.2.1 ⟨by omega, h4⟩
  rw [hal] at g5
  have g5 : allF Y US[k] I.2.2.1 day = true := by simpa using g5
  rw [r1]
  have l2 := len_of r2
  have eH := holds_fine r2
  rw [show (moreL I US[k] day).2.2.2.2.1 = I.2.2.2.2.1 from rfl] at eH
  show br (fineLen Y (moreL I US[k] day)) (br (ieq (HoldsF Y (moreL I US[k] day)).2 0) (br (!(HoldsF Y (moreL I US[k] day)).1) _ (br (ieq (llen (schF Y I US 0).1) 1) _ _)) _) none = _
  rw [l2, eH, br_true]
  show br (ieq 0 0) (br (!(!(ilt (reachF Y (moreL I US[k] day)) I.2.2.2.2.1))) _ (br (ieq (llen (schF Y I US 0).1) 1) _ _)) _ = _
  rw [show ieq 0 0 = true from rfl, br_true]
  refine br_intro (fun _ => rfl) (fun g6 => ?_)
  have hl := few_law f1 hu k1 k2 hm hday h4 (by omega) g5 (by simpa using g6)
  rw [show ieq (llen (schF Y I US 0).1) 1 = true by simp only [ieq_dec, llen, decide_eq_true_eq]; omega]
  rfl
def sp_f5 : Ent := spec (.pr (.sl tI) (.pr (.int .u8) (.pr (.int .u8) .nil))) (fun x => (b88f x.1 x.2.1 x.2.2.1)) (fun x => (.t .bool (lawFewest x.1 x.2.1 x.2.2.1)))
theorem ms_f5 : Meets Tryz.prog 5 (strip sp_f5) := by
  obtain ⟨c, hc, hi⟩ := Option.map_eq_some_iff.1 ok_f5
  exact meets_spec (R := runF g_f5 tc_f5 rv_f5 false) (meets_of (by decide) Tryz.func5 hc hi Tryz.ntmps5 rok_f5 gk_f5 lk_f5 mixed) fun x hok => (e_f5 x.1 x.2.1 x.2.2.1).trans (s_f5 x.1 x.2.1 x.2.2.1 hok)
theorem okw_RenewalFewest (z0 : List Int) (z1 z2 : Int) (w0 : Ty.wf (.sl (.int .i64)) z0) (w1 : Ty.wf (.int .u8) z1) (w2 : Ty.wf (.int .u8) z2) : b88f z0 z1 z2 = true := by
  have h1 := wf_u8 w1
  have h2 := wf_u8 w2
  exact decide_eq_true (by omega)
end
theorem walkRenewalFewest (z0 : (List Int)) (z1 : Int) (z2 : Int) (W : World) (v0 : Value) (v1 : Value) (v2 : Value) (c0 : C noX W (fun _ => .no) (V.t (.sl tI) z0).d v0) (c1 : C noX W (fun _ => .no) (V.t (.int .u8) z1).d v1) (c2 : C noX W (fun _ => .no) (V.t (.int .u8) z2).d v2) (w0 : Ty.wf (.sl tI) z0) (w1 : Ty.wf (.int .u8) z1) (w2 : Ty.wf (.int .u8) z2) :
    Calls Tryz.prog 5 #[v0, v1, v2] W fun r w' => r = .returned (.bool true) ∧ Below W.heap.size W w' :=
  calls_true (by decide) ms_f5 (args := [.t (.sl tI) z0, .t (.int .u8) z1, .t (.int .u8) z2]) (strip_spec (x := (z0, z1, z2, ())) rfl (okw_RenewalFewest z0 z1 z2 w0 w1 w2)) (by simp only [V.ds, Cs]; exact ⟨_, _, rfl, c0, _, _, rfl, c1, _, _, rfl, c2, rfl⟩)
end Go.Proofs.YtfehjdaielifiaaGreat.K
