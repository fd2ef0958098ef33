import Derived.Test.YtkngeegkjhipeaaGreatN31
set_option linter.unusedSimpArgs false
set_option linter.unusedVariables false
namespace Go.Proofs.YtkngeegkjhipeaaGreat.K
open Go.RowKit
noncomputable section
attribute [local irreducible] epV epN prZ
theorem Qv0 (s : Qad) (o : List Int) : ∀ n v, (verC s o v n).length ≤ 16 * n
 | 0, _ => Nat.le_refl _
 | n + 1, v => by
  have h1 := QHA s o (v : Int) 1
  have h2 := Qv0 s o n (v + 1)
  have : verC s o v (n + 1) = rowC s o (v : Int) 1 ++ verC s o (v + 1) n := by
   unfold verC
   rw [List.range'_succ, List.flatMap_cons]
  rw [this, List.length_append]
  omega
theorem QQZ (c s : Qad) : (QaM c s).length ≤ 100000 := by
 unfold QaM
 cases hr : Qcy c s with
 | false => exact Nat.zero_le _
 | true =>
  obtain ⟨hv, hw⟩ := Bool.and_eq_true_iff.1 hr
  have v1 := Qbf hv
  have v2 := Qbf hw
  have := Qv0 s (Qan c) (hiC c s + 1 - loC c s).toNat (loC c s).toNat
  have b1 : 1 ≤ loC c s := by simp only [loC, imx]; omega
  have b2 : hiC c s ≤ 4 := by simp only [hiC, imn]; omega
  show (verC s (Qan c) (loC c s).toNat (hiC c s + 1 - loC c s).toNat).length ≤ 100000
  omega
theorem QIK (a : Int) : ine a a = false := by simp [ine]
-- loop 0: (x21 : Int) (y9 : Qad); out: ('ret',) (x6 : Bool); ('exit', 1)
theorem prC_sm {d : Dice} (h : dOk d = true) : endSm (prC d) = true := by
 have hi := QE6 (d := d) (nm := sApp) (by decide) h
 have hz : (epV d sApp).1.size ≤ 1000 := by rw [Qqt]; decide
 exact Bool.and_eq_true_iff.2 ⟨decide_eq_true ⟨hz, Nat.le_trans (QbY (nm := sApp) h) (show 10 ≤ 1000 by decide), Nat.le_trans hi.2 (show 3 ≤ 1000 by decide), Nat.le_trans (QNl d) (show 4 ≤ 1000 by decide), Nat.le_trans (QNk d) (show 4 ≤ 1000 by decide)⟩, hi.1⟩
theorem prS_sm {d : Dice} (h : dOk d = true) : endSm (prS d) = true := by
 have k1 := QxR (nm := sApp) h
 have hi := QE6 (d := pD1 d) (nm := sWeb) (by decide) k1
 have hz : (epV (pD1 d) sWeb).1.size ≤ 1000 := by rw [Qqt]; decide
 have l1 := QbY (nm := sApp) h
 have l2 := QbY (nm := sWeb) k1
 have hp : (pSz d).1.length ≤ 20 := bif_p (Nat.le_trans (QpQ _ _ _) (Nat.add_le_add l2 l1)) (Nat.le_trans l2 (show 10 ≤ 20 by decide))
 exact Bool.and_eq_true_iff.2 ⟨decide_eq_true ⟨hz, Nat.le_trans hp (show 20 ≤ 1000 by decide), Nat.le_trans hi.2 (show 3 ≤ 1000 by decide), Nat.le_trans (QM0 (pD1 d) sWeb) (show 4 ≤ 1000 by decide), Nat.le_trans (QMH (pD1 d) sWeb) (show 4 ≤ 1000 by decide)⟩, hi.1⟩
theorem QLh {e : Qad} (h : endSm e = true) : Qct e = true ∧ (Qan e).length ≤ 1000 ∧ (eIds e).length ≤ 1000 := by
 simp only [endSm, Bool.and_eq_true, decide_eq_true_eq] at h
 exact ⟨QE8 h.1.1 h.1.2.1 h.1.2.2.1 h.1.2.2.2.1 h.1.2.2.2.2 h.2, h.1.2.1, h.1.2.2.1⟩
theorem prVC {d : Dice} (h : dOk d = true) : endSm (prV d).1 = true := prC_sm h
theorem prVS {d : Dice} (h : dOk d = true) : endSm (prV d).2 = true := prS_sm h
attribute [local irreducible] prV prN oddV oddN QaM withF suiV suiN
end
end Go.Proofs.YtkngeegkjhipeaaGreat.K
