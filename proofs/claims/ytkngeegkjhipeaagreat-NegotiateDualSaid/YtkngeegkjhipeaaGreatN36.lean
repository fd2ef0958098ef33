import Derived.Test.YtkngeegkjhipeaaGreatN35
set_option linter.unusedSimpArgs false
set_option linter.unusedVariables false
namespace Go.Proofs.YtkngeegkjhipeaaGreat.K
open Go.RowKit
noncomputable section
-- loop 0: (x10 : (List Keep)) (x15 : (List Int)) (x16 : Bool) (x17 : Int) (y8 : Keep); out: ('ret',) (x4 : Bool); ('exit', 0) (x16 : Bool)
theorem and5 {c s : Qad} {v x : Int} (h : posE s (Qao c) v x = true) : ine (QaA x).2 0 = false ∧ ilt v (QaA x).1.2.2.2.2.2.2.1 = false ∧ igt v (QaA x).1.2.2.2.2.2.2.2.1 = false ∧ hasF (Qao c) x = true ∧ hasF (Qao s) x = true ∧ (QaS s x).2 = true := by
 simp only [posE, Bool.and_eq_true] at h
 obtain ⟨h1, h2, h3, h4, h5, h6⟩ := h
 refine ⟨by rw [Qqm, h1]; rfl, ?_, ?_, h4, h5, h6⟩
 ·simp only [ige, decide_eq_true_eq] at h2
  exact decide_eq_false (by omega)
 ·simp only [ige, decide_eq_true_eq] at h3
  exact decide_eq_false (by omega)
theorem QEK {s : Qad} {x : Int} (h : (QaS s x).2 = true) : ∃ k : Nat, (QaS s x).1 = (k : Int) ∧ k < (eIds s).length ∧ idAlg (lgt Qak (eIds s) k) (QaA x).1 = true := by
 unfold QaS ixAlg at h ⊢
 cases hi : ine (QaA x).2 0 with
 | true => rw [hi] at h; cases h
 | false =>
  rw [hi] at h
  cases hq : fstG (fun y => idAlg y (QaA x).1) (eIds s) with
  | none => rw [hq] at h; cases h
  | some k =>
   obtain ⟨h1, h2⟩ := Qfx hq
   exact ⟨k, rfl, h1, by rw [QaG (y := Qak) h1]; exact h2⟩
attribute [local irreducible] prV prN oddV oddN Qby withF suiV suiN
end
end Go.Proofs.YtkngeegkjhipeaaGreat.K
