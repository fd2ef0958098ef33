import Derived.Test.YtkngeegkjhipeaaGreatN31
set_option linter.unusedSimpArgs false
set_option linter.unusedVariables false
namespace Go.Proofs.YtkngeegkjhipeaaGreat.K
open Go.RowKit
noncomputable section
attribute [local irreducible] epV epN prZ
theorem Qww (s : Qad) (o : List Int) : ∀ n v, (verC s o v n).length ≤ 16 * n
 | 0, _ => Nat.le_refl _
 | n + 1, v => by
  have h1 := QIc s o (v : Int) 1
  have h2 := Qww s o n (v + 1)
  have : verC s o v (n + 1) = rowC s o (v : Int) 1 ++ verC s o (v + 1) n := by
   unfold verC
   rw [List.range'_succ, List.flatMap_cons]
  rw [this, List.length_append]
  omega
theorem QRR (c s : Qad) : (Qbl c s).length ≤ 100000 := by
 unfold Qbl
 cases hr : QbW c s with
 | false => exact Nat.zero_le _
 | true =>
  obtain ⟨hv, hw⟩ := Bool.and_eq_true_iff.1 hr
  have v1 := QcG hv
  have v2 := QcG hw
  have := Qww s (Qak c) (hiC c s + 1 - loC c s).toNat (loC c s).toNat
  have b1 : 1 ≤ loC c s := by simp only [loC, imx]; omega
  have b2 : hiC c s ≤ 4 := by simp only [hiC, imn]; omega
  show (verC s (Qak c) (loC c s).toNat (hiC c s + 1 - loC c s).toNat).length ≤ 100000
  omega
theorem QxB (a : Int) : ine a a = false := by simp [ine]
theorem QxC (a : Int) : ieq a a = true := by simp [ieq]
-- loop 0: (x21 : Int) (y9 : Qad); out: ('ret',) (x6 : Bool); ('exit', 1)
theorem Qzc (l : List Keep) : sameO l l = true := beq_self_eq_true l
theorem prC_sm {d : Dice} (h : dOk d = true) : endSm (prC d) = true := by
 have hi := QFK (d := d) (nm := sApp) (by decide) h
 have hz : (epV d sApp).1.size ≤ 1000 := by rw [QqM]; decide
 exact Bool.and_eq_true_iff.2 ⟨decide_eq_true ⟨hz, Nat.le_trans (Qb0 (nm := sApp) h) (show 10 ≤ 1000 by decide), Nat.le_trans hi.2 (show 3 ≤ 1000 by decide), Nat.le_trans (QOa d) (show 4 ≤ 1000 by decide), Nat.le_trans (QN9 d) (show 4 ≤ 1000 by decide)⟩, hi.1⟩
theorem prS_sm {d : Dice} (h : dOk d = true) : endSm (prS d) = true := by
 have k1 := Qyp (nm := sApp) h
 have hi := QFK (d := pD1 d) (nm := sWeb) (by decide) k1
 have hz : (epV (pD1 d) sWeb).1.size ≤ 1000 := by rw [QqM]; decide
 have l1 := Qb0 (nm := sApp) h
 have l2 := Qb0 (nm := sWeb) k1
 have hp : (pSz d).1.length ≤ 20 := bif_p (Nat.le_trans (Qp8 _ _ _) (Nat.add_le_add l2 l1)) (Nat.le_trans l2 (show 10 ≤ 20 by decide))
 exact Bool.and_eq_true_iff.2 ⟨decide_eq_true ⟨hz, Nat.le_trans hp (show 20 ≤ 1000 by decide), Nat.le_trans hi.2 (show 3 ≤ 1000 by decide), Nat.le_trans (QNP (pD1 d) sWeb) (show 4 ≤ 1000 by decide), Nat.le_trans (QNu (pD1 d) sWeb) (show 4 ≤ 1000 by decide)⟩, hi.1⟩
theorem QL0 {e : Qad} (h : endSm e = true) : Qa2 e = true ∧ (Qak e).length ≤ 1000 ∧ (eIds e).length ≤ 1000 := by
 simp only [endSm, Bool.and_eq_true, decide_eq_true_eq] at h
 exact ⟨QFM h.1.1 h.1.2.1 h.1.2.2.1 h.1.2.2.2.1 h.1.2.2.2.2 h.2, h.1.2.1, h.1.2.2.1⟩
theorem prVC {d : Dice} (h : dOk d = true) : endSm (prV d).1 = true := prC_sm h
theorem prVS {d : Dice} (h : dOk d = true) : endSm (prV d).2 = true := prS_sm h
attribute [local irreducible] prV prN oddV oddN Qbl withF suiV suiN
end
end Go.Proofs.YtkngeegkjhipeaaGreat.K
