/-
 Plain laws on the first day in spans and on the best link.
-/
import Derived.Test.YtfehjdaielifiaaGreatV33
import Derived.Test.YtfehjdaielifiaaGreatP24
set_option linter.unusedSimpArgs false
set_option linter.unusedVariables false
namespace Go.Proofs.YtfehjdaielifiaaGreat.K
open Go.RowKit
theorem imx_max (a b : Int) : imx a b = max a b := by
 unfold imx
 split <;> omega
def rFirst (l : List Keep) (a b : Int) : Option Int := (l.find? fun s => !(igt (imx a s.1) b) && !(ige (imx a s.1) s.2.1)).map fun s => imx a s.1
theorem firstF_cons_le {s : Keep} {l : List Keep} {a b : Int} (h : s.2.1 ≤ a) : firstF (s :: l) a b = firstF l a b := by
 have e : fstIx (s :: l) a = fstIx l a + 1 := by
  unfold fstIx
  rw [List.takeWhile_cons, if_pos (by simpa using h), List.length_cons]
 unfold firstF
 rw [e, List.getElem?_cons_succ]
theorem firstF_cons_gt {s : Keep} {l : List Keep} {a b : Int} (h : a < s.2.1) : firstF (s :: l) a b = (imx a s.1, ile (imx a s.1) b) := by
 have e : fstIx (s :: l) a = 0 := by
  unfold fstIx
  rw [List.takeWhile_cons, if_neg (by simpa using h)]
  rfl
 unfold firstF
 rw [e, List.getElem?_cons_zero]
theorem rFirst_eq (a b : Int) : ∀ {l : List Keep}, WS l 40001 → rFirst l a b = if (firstF l a b).2 then some (firstF l a b).1 else none
 | [], _ => rfl
 | s :: l, hw => by
  have hs := hw.2 s (by simp)
  have hw2 : WS l 40001 := ⟨(List.pairwise_cons.1 hw.1).2, fun k hk => hw.2 k (by simp [hk])⟩
  by_cases h : s.2.1 ≤ a
  ·rw [firstF_cons_le h, ← rFirst_eq a b hw2]
   unfold rFirst
   rw [List.find?_cons_of_neg]
   rw [imx_max]
   simp only [ige, igt, Bool.and_eq_true, Bool.not_eq_true', decide_eq_false_iff_not]
   omega
  ·rw [firstF_cons_gt (by omega)]
   unfold rFirst
   by_cases hb : imx a s.1 ≤ b
   ·rw [List.find?_cons_of_pos (by rw [imx_max] at hb ⊢; simp only [ige, igt, Bool.and_eq_true, Bool.not_eq_true', decide_eq_false_iff_not]; omega), show ile (imx a s.1) b = true from decide_eq_true hb]
    rfl
   ·rw [List.find?_cons_of_neg (by simp only [igt, Bool.and_eq_true, Bool.not_eq_true', decide_eq_false_iff_not]; omega), List.find?_eq_none.2 (fun t ht => ?_), show ile (imx a s.1) b = false from decide_eq_false hb]
    ·rfl
    ·have h1 := (List.pairwise_cons.1 hw.1).1 t ht
     rw [imx_max] at hb ⊢
     simp only [igt, Bool.and_eq_true, Bool.not_eq_true', decide_eq_false_iff_not]
     omega
theorem first_some {l : List Keep} {a b : Int} (hw : WS l 40001) (h : (firstF l a b).2 = true) : a ≤ (firstF l a b).1 ∧ (firstF l a b).1 ≤ b ∧ ∃ s, s ∈ l ∧ s.1 ≤ (firstF l a b).1 ∧ (firstF l a b).1 < s.2.1 := by
 induction l with
 | nil => exact absurd h (by simp [firstF])
 | cons s l ih =>
  have hw2 : WS l 40001 := ⟨(List.pairwise_cons.1 hw.1).2, fun k hk => hw.2 k (by simp [hk])⟩
  by_cases hs : s.2.1 ≤ a
  ·rw [firstF_cons_le hs] at h ⊢
   obtain ⟨h1, h2, t, h3, h4⟩ := ih hw2 h
   exact ⟨h1, h2, t, by simp [h3], h4⟩
  ·have g := hw.2 s (by simp)
   rw [firstF_cons_gt (by omega)] at h ⊢
   have h : imx a s.1 ≤ b := of_decide_eq_true h
   rw [imx_max] at h ⊢
   exact ⟨by show a ≤ max a s.1; omega, h, s, by simp, by show s.1 ≤ max a s.1; omega, by show max a s.1 < s.2.1; omega⟩
theorem first_all {y : Policy} {u : Keep} {p a b : Int} (hp : polOk y = true) (h0 : 0 ≤ a) (h : (firstF (spansF y u p) a b).2 = true) : a ≤ (firstF (spansF y u p) a b).1 ∧ (firstF (spansF y u p) a b).1 ≤ b ∧ (firstF (spansF y u p) a b).1 ≤ 40000 ∧ allF y u p (firstF (spansF y u p) a b).1 = true := by
 have hw := spans_ws (u := u) (p := p) hp
 obtain ⟨h1, h2, s, h3, h4, h5⟩ := first_some hw h
 have g := hw.2 s h3
 exact ⟨h1, h2, by omega, (spans_in hp (by omega) (by omega)).1 ⟨s, h3, h4, h5⟩⟩
def okU (y : Policy) (p a b : Int) (u : Keep) : Bool := (firstF (spansF y u p) a b).2
def dyU (y : Policy) (p a b : Int) (u : Keep) : Int := (firstF (spansF y u p) a b).1
def flU (y : Policy) (p : Int) (u : Keep) : Int := fallR (spansF y u p)
structure BInv (y : Policy) (p a b : Int) (pre : List Keep) (s : Link × (Bool × Int)) : Prop where
 any : s.2.1 = pre.any (okU y p a b)
 val : s.2.1 = true → ∃ u, u ∈ pre ∧ okU y p a b u = true ∧ s.1 = (u, (dyU y p a b u, ())) ∧ s.2.2 = flU y p u ∧ ∀ v, v ∈ pre → okU y p a b v = true → flU y p v < flU y p u ∨ (flU y p v = flU y p u ∧ dyU y p a b u ≤ dyU y p a b v)
theorem binv_step {y : Policy} {p a b : Int} {pre : List Keep} {s : Link × (Bool × Int)} (h : BInv y p a b pre s) (u : Keep) : BInv y p a b (pre ++ [u]) (bestStep y p a b s u) := by
 obtain ⟨h1, h2⟩ := h
 have eo : (firstF (spansF y u p) a b).2 = okU y p a b u := rfl
 have ed : (firstF (spansF y u p) a b).1 = dyU y p a b u := rfl
 have ef : fallR (spansF y u p) = flU y p u := rfl
 unfold bestStep
 rw [eo, ed, ef]
 cases ho : okU y p a b u with
 | false =>
  refine ⟨by rw [List.any_append, ← h1]; simp [ho], fun hs => ?_⟩
  obtain ⟨v, g1, g2, g3, g4, g5⟩ := h2 hs
  refine ⟨v, by simp [g1], g2, g3, g4, fun z hz hzo => ?_⟩
  rcases List.mem_append.1 hz with hz | hz
  ·exact g5 z hz hzo
  ·rw [List.mem_singleton.1 hz, ho] at hzo
   cases hzo
 | true =>
  rw [cond_true]
  have hany : (pre ++ [u]).any (okU y p a b) = true := by rw [List.any_append]; simp [ho]
  cases hc : (!s.2.1 || igt (flU y p u) s.2.2 || (ieq (flU y p u) s.2.2 && ilt (dyU y p a b u) s.1.2.1)) with
  | true =>
   rw [cond_true]
   refine ⟨hany.symm, fun _ => ⟨u, by simp, ho, rfl, rfl, fun z hz hzo => ?_⟩⟩
   rcases List.mem_append.1 hz with hz | hz
   ·have hs : s.2.1 = true := by rw [h1]; exact List.any_eq_true.2 ⟨z, hz, hzo⟩
    obtain ⟨v, g1, g2, g3, g4, g5⟩ := h2 hs
    rw [hs, g4, g3] at hc
    simp only [Bool.not_true, Bool.false_or, Bool.or_eq_true, Bool.and_eq_true, igt, ilt, ieq_dec, decide_eq_true_eq] at hc
    have := g5 z hz hzo
    omega
   ·rw [List.mem_singleton.1 hz]
    exact .inr ⟨rfl, Int.le_refl _⟩
  | false =>
   rw [cond_false]
   simp only [Bool.or_eq_false_iff, Bool.not_eq_false'] at hc
   obtain ⟨⟨hs, c2⟩, c3⟩ := hc
   obtain ⟨v, g1, g2, g3, g4, g5⟩ := h2 hs
   refine ⟨by rw [hany, hs], fun _ => ⟨v, by simp [g1], g2, g3, g4, fun z hz hzo => ?_⟩⟩
   rcases List.mem_append.1 hz with hz | hz
   ·exact g5 z hz hzo
   ·rw [List.mem_singleton.1 hz]
    rw [g4] at c2 c3
    rw [g3] at c3
    have c2 := of_decide_eq_false c2
    rw [Bool.and_eq_false_iff] at c3
    simp only [ieq_dec, ilt, decide_eq_false_iff_not] at c3
    omega
theorem binv_all {y : Policy} {p a b : Int} : ∀ (l pre : List Keep) (s : Link × (Bool × Int)), BInv y p a b pre s → BInv y p a b (pre ++ l) (l.foldl (bestStep y p a b) s)
 | [], pre, s, h => by rw [List.append_nil]; exact h
 | u :: l, pre, s, h => by
  have := binv_all l (pre ++ [u]) _ (binv_step h u)
  rw [List.append_assoc] at this
  exact this
theorem best_inv (y : Policy) (us : List Keep) (p a b : Int) : BInv y p a b us (bestZ y us p a b) := by
 have := binv_all (y := y) (p := p) (a := a) (b := b) us [] (noLink, (false, 0)) ⟨rfl, fun h => by cases h⟩
 exact this
theorem best_some {y : Policy} {us : List Keep} {p a b : Int} (h : (bestF y us p a b).2 = true) : ∃ u, u ∈ us ∧ okU y p a b u = true ∧ (bestF y us p a b).1 = (u, (dyU y p a b u, ())) ∧ ∀ v, v ∈ us → okU y p a b v = true → flU y p v < flU y p u ∨ (flU y p v = flU y p u ∧ dyU y p a b u ≤ dyU y p a b v) := by
 obtain ⟨u, g1, g2, g3, _, g5⟩ := (best_inv y us p a b).val h
 exact ⟨u, g1, g2, g3, g5⟩
end Go.Proofs.YtfehjdaielifiaaGreat.K
