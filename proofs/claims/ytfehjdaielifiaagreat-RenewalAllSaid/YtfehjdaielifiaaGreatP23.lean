/-
 Plain laws on what fails: fewer allowed days, more links.
-/
import Derived.Test.YtfehjdaielifiaaGreatP22
set_option linter.unusedSimpArgs false
set_option linter.unusedVariables false
namespace Go.Proofs.YtfehjdaielifiaaGreat.K
open Go.RowKit
theorem fallA {y : Policy} {u : Keep} {p d f : Int} (h : polOk y = true) (hf : fallL (spansF y u p) = (f, true)) (h0 : 0 ≤ d) (h1 : d ≤ 40000) (hd : f ≤ d) : allF y u p d = false := by
 cases hq : allF y u p d with
 | false => rfl
 | true =>
  obtain ⟨k, hk, k1, k2⟩ := (spans_in h h0 h1).2 hq
  rcases fall_cases (u := u) (p := p) h with ⟨e, _⟩ | ⟨l, s, e, g1, g2, g3, g4, ef⟩
  ·rw [e] at hk; cases hk
  ·rw [ef] at hf
   rw [e] at hk
   split at hf
   ·injection hf with hf _
    rcases List.mem_append.1 hk with hk | hk
    ·have := g4 k hk
     omega
    ·rw [List.mem_singleton.1 hk] at k2
     omega
   ·injection hf with _ hf
    cases hf
theorem fallI {y : Policy} {u : Keep} {p f : Int} (h : polOk y = true) (hf : fallL (spansF y u p) = (f, true)) : 0 ≤ f ∧ f ≤ 40000 := by
 rcases fall_cases (u := u) (p := p) h with ⟨e, ef⟩ | ⟨l, s, e, g1, g2, g3, g4, ef⟩
 ·rw [ef] at hf
  injection hf with hf _
  omega
 ·rw [ef] at hf
  split at hf
  ·injection hf with hf _
   omega
  ·injection hf with _ hf
   cases hf
theorem gone_eq (x : LinkX) : (goneV x).1 = max x.1 x.2.1 := by
 show imx x.1 x.2.1 = _
 unfold imx
 split <;> omega
theorem sgF_eq (l : List LinkX) : sgFails l = if (goneV (sgLast l)).2 then ((goneV (sgLast l)).1, true) else (0, false) := rfl
theorem sgF_true {l : List LinkX} : (sgFails l).2 = true ↔ (sgLast l).2.2.1 = true := by
 rw [sgF_eq]
 show (if (sgLast l).2.2.1 then ((goneV (sgLast l)).1, true) else (0, false)).2 = true ↔ _
 split <;> simp [*]
theorem sgF_val {l : List LinkX} (h : (sgLast l).2.2.1 = true) : sgFails l = ((goneV (sgLast l)).1, true) := by
 rw [sgF_eq]
 exact if_pos h
theorem linksB_asc : ∀ {l : List Link} {pv : Option Int}, linksB pv l = true → l.Pairwise (fun x y => x.2.1 < y.2.1) ∧ ∀ d, pv = some d → ∀ x, x ∈ l → d < x.2.1
 | [], _, _ => ⟨List.Pairwise.nil, fun d _ x hx => (by cases hx)⟩
 | a :: l, pv, h => by
  rw [linksB_cons, Bool.and_eq_true, Bool.and_eq_true, Bool.and_eq_true] at h
  obtain ⟨h1, h2⟩ := linksB_asc h.2
  refine ⟨List.pairwise_cons.2 ⟨fun x hx => h2 a.2.1 rfl x hx, h1⟩, fun d hd x hx => ?_⟩
  subst hd
  have h3 : a.2.1 > d := of_decide_eq_true h.1.2
  rcases List.mem_cons.1 hx with rfl | hx
  ·exact h3
  ·have := h2 a.2.1 rfl x hx
   omega
end Go.Proofs.YtfehjdaielifiaaGreat.K
