import Derived.Test.YtkngeegkjhipeaaGreatN31
set_option linter.unusedSimpArgs false
set_option linter.unusedVariables false
namespace Go.Proofs.YtkngeegkjhipeaaGreat.K
open Go.RowKit
noncomputable section
attribute [local irreducible] epV epN prZ
theorem QIG (a : Int) : ine a a = false := by simp [ine]
theorem QIK (a : Int) : ieq a a = true := by simp [ieq]
-- loop 0: (x21 : Int) (y9 : Qad); out: ('ret',) (x6 : Bool); ('exit', 1)
theorem prC_sm {d : Dice} (h : dOk d = true) : endSm (prC d) = true := by
 have hi := QE3 (d := d) (nm := sApp) (by decide) h
 have hz : (epV d sApp).1.size ≤ 1000 := by rw [Qqu]; decide
 exact Bool.and_eq_true_iff.2 ⟨decide_eq_true ⟨hz, Nat.le_trans (QbY (nm := sApp) h) (show 10 ≤ 1000 by decide), Nat.le_trans hi.2 (show 3 ≤ 1000 by decide), Nat.le_trans (QNn d) (show 4 ≤ 1000 by decide), Nat.le_trans (QNm d) (show 4 ≤ 1000 by decide)⟩, hi.1⟩
theorem prS_sm {d : Dice} (h : dOk d = true) : endSm (prS d) = true := by
 have k1 := QxM (nm := sApp) h
 have hi := QE3 (d := pD1 d) (nm := sWeb) (by decide) k1
 have hz : (epV (pD1 d) sWeb).1.size ≤ 1000 := by rw [Qqu]; decide
 have l1 := QbY (nm := sApp) h
 have l2 := QbY (nm := sWeb) k1
 have hp : (pSz d).1.length ≤ 20 := bif_p (Nat.le_trans (QpO _ _ _) (Nat.add_le_add l2 l1)) (Nat.le_trans l2 (show 10 ≤ 20 by decide))
 exact Bool.and_eq_true_iff.2 ⟨decide_eq_true ⟨hz, Nat.le_trans hp (show 20 ≤ 1000 by decide), Nat.le_trans hi.2 (show 3 ≤ 1000 by decide), Nat.le_trans (QM2 (pD1 d) sWeb) (show 4 ≤ 1000 by decide), Nat.le_trans (QMJ (pD1 d) sWeb) (show 4 ≤ 1000 by decide)⟩, hi.1⟩
theorem QLk {e : Qad} (h : endSm e = true) : Qbw e = true ∧ (Qao e).length ≤ 1000 ∧ (eIds e).length ≤ 1000 := by
 simp only [endSm, Bool.and_eq_true, decide_eq_true_eq] at h
 exact ⟨QE5 h.1.1 h.1.2.1 h.1.2.2.1 h.1.2.2.2.1 h.1.2.2.2.2 h.2, h.1.2.1, h.1.2.2.1⟩
theorem prVC {d : Dice} (h : dOk d = true) : endSm (prV d).1 = true := prC_sm h
theorem prVS {d : Dice} (h : dOk d = true) : endSm (prV d).2 = true := prS_sm h
attribute [local irreducible] prV prN oddV oddN Qby withF suiV suiN
end
end Go.Proofs.YtkngeegkjhipeaaGreat.K
