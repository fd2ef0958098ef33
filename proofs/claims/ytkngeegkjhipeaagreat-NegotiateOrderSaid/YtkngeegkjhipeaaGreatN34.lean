import Derived.Test.YtkngeegkjhipeaaGreatN32
import Derived.Test.YtkngeegkjhipeaaGreatN33
set_option linter.unusedSimpArgs false
set_option linter.unusedVariables false
namespace Go.Proofs.YtkngeegkjhipeaaGreat.K
open Go.RowKit
noncomputable section
theorem QiQ {c s : Qad} {d : Int} (hr : QbW c s = true) (hd : 0 ≤ d ∧ d ≤ 40000) : Qbm c s d = if hiC c s < loC c s then (zK, 27) else overF c s (hiC c s) d (Qak c) (outL s (Qak c)) := by
 obtain ⟨hv, hw⟩ := Bool.and_eq_true_iff.1 hr
 have v1 := QcG hv
 have v2 := QcG hw
 have g1 : ilt d 0 = false := decide_eq_false (by omega)
 have g2 : igt d 40000 = false := decide_eq_false (by omega)
 have g3 : ilt c.2.2.1 1 = false := decide_eq_false (by omega)
 have g4 : igt c.2.2.1 4 = false := decide_eq_false (by omega)
 unfold Qbm withF
 rw [hr, g1, g2, g3, g4]
 simp only [Bool.not_true, cond_false]
 by_cases h : hiC c s < loC c s
 ·rw [if_pos h]
  by_cases h1 : imn c.2.2.1 s.2.2.1 < c.2.1
  ·rw [show ilt (imn c.2.2.1 s.2.2.1) c.2.1 = true from decide_eq_true h1, cond_true]
  ·have h2 : imn c.2.2.1 s.2.2.1 < s.2.1 := by
    simp only [hiC, loC, imx] at h
    omega
   rw [show ilt (imn c.2.2.1 s.2.2.1) c.2.1 = false from decide_eq_false h1, show ilt (imn c.2.2.1 s.2.2.1) s.2.1 = true from decide_eq_true h2]
   rfl
 ·rw [if_neg h]
  have h1 : ¬ imn c.2.2.1 s.2.2.1 < c.2.1 := by
   simp only [hiC, loC, imx] at h
   omega
  have h2 : ¬ imn c.2.2.1 s.2.2.1 < s.2.1 := by
   simp only [hiC, loC, imx] at h
   omega
  rw [show ilt (imn c.2.2.1 s.2.2.1) c.2.1 = false from decide_eq_false h1, show ilt (imn c.2.2.1 s.2.2.1) s.2.1 = false from decide_eq_false h2]
  rfl
end
end Go.Proofs.YtkngeegkjhipeaaGreat.K
