/-
  Plain laws on what fails: fewer allowed days, more links.
-/
import Derived.Test.YtfehjdaielifiaaGreatP22
set_option linter.unusedSimpArgs false
set_option linter.unusedVariables false
namespace Go.Proofs.YtfehjdaielifiaaGreat.K
open Go.RowKit
/-! a use's fall -/
theorem fallA {y : Policy} {u : Keep} {p d f : Int} (h : polOk y = true) (hf : fallL (spansF y u p) = (f, true)) (h0 : 0 ≤ d) (h1 : d ≤ 40000) (hd : f ≤ d) : allF y u p d = false := by
  cases hq : allF y u p d with
  | false => rfl
  | true =>
    obtain ⟨k, hk, k1, k2⟩ := (spans_in h h0 h1).2 hq
    rcases fall_cases (u := u) (p := p) h with ⟨e, _⟩ | ⟨l, s, e, g1, g2, g3, g4, ef⟩
    · rw [e] at hk; cases hk
    · rw [ef] at hf
      rw [e] at hk
      split at hf
      · injection hf with hf _
        rcases List.mem_append.1 hk with hk | hk
        · have := g4 k hk
          omega
        · rw [List.mem_singleton.1 hk] at k2
          omega
      · injection hf with _ hf
        cases hf
theorem fallI {y : Policy} {u : Keep} {p f : Int} (h : polOk y = true) (hf : fallL (spansF y u p) = (f, true)) : 0 ≤ f ∧ f ≤ 40000 := by
  rcases fall_cases (u := u) (p := p) h with ⟨e, ef⟩ | ⟨l, s, e, g1, g2, g3, g4, ef⟩
  · rw [ef] at hf
    injection hf with hf _
    omega
  · rw [ef] at hf
    split at hf
    · injection hf with hf _
      omega
    · injection hf with _ hf
      cases hf
/-- the last allowed day -/
theorem fallB {y : Policy} {u : Keep} {p f : Int} (h : polOk y = true) (hf : fallL (spansF y u p) = (f, true)) (h0 : 0 < f) : allF y u p (f - 1) = true := by
  rcases fall_cases (u := u) (p := p) h with ⟨e, ef⟩ | ⟨l, s, e, g1, g2, g3, g4, ef⟩
  · rw [ef] at hf
    injection hf with hf _
    omega
  · rw [ef] at hf
    split at hf
    · injection hf with hf _
      exact (spans_in h (by omega) (by omega)).1 ⟨s, by rw [e]; simp, by unfold inK; omega⟩
    · injection hf with _ hf
      cases hf
theorem fallN {y : Policy} {u : Keep} {p : Int} (h : polOk y = true) (hf : (fallL (spansF y u p)).2 = false) : allF y u p 40000 = true := by
  rcases fall_cases (u := u) (p := p) h with ⟨e, ef⟩ | ⟨l, s, e, g1, g2, g3, g4, ef⟩
  · rw [ef] at hf
    cases hf
  · rw [ef] at hf
    split at hf
    · cases hf
    · exact (spans_in h (by omega) (by omega)).1 ⟨s, by rw [e]; simp, by unfold inK; omega⟩
theorem fall_mono {y z : Policy} {u : Keep} {p f : Int} (hy : polOk y = true) (hz : polOk z = true) (ha : ∀ d, 0 ≤ d → d ≤ 40000 → allF z u p d = true → allF y u p d = true) (hf : fallL (spansF y u p) = (f, true)) : ∃ g, fallL (spansF z u p) = (g, true) ∧ g ≤ f := by
  have hi := fallI hy hf
  cases hb : (fallL (spansF z u p)).2 with
  | false =>
    have h1 := ha 40000 (by omega) (by omega) (fallN hz hb)
    rw [fallA hy hf (by omega) (by omega) hi.2] at h1
    cases h1
  | true =>
    obtain ⟨g, hg⟩ : ∃ g, fallL (spansF z u p) = (g, true) := ⟨_, Prod.ext rfl hb⟩
    refine ⟨g, hg, ?_⟩
    have hj := fallI hz hg
    by_cases h0 : 0 < g
    · by_cases h1 : g ≤ f
      · exact h1
      · have h2 := ha (g - 1) (by omega) (by omega) (fallB hz hg h0)
        rw [fallA hy hf (by omega) (by omega) (by omega)] at h2
        cases h2
    · omega
theorem decLl {rs : List Rule} {u : Keep} {q d : Int} {i : Nat} (h : decL rs u q d = some i) : i < rs.length := (lastI_some.1 h).1
theorem decLa {l : List Rule} {a : Rule} {u : Keep} {q d : Int} : decL (l ++ [a]) u q d = if matches' a u q d then some l.length else decL l u q d := by
  unfold decL
  rw [lastI_app]
  unfold lastI lastI
  by_cases hm : matches' a u q d = true
  · simp only [if_pos hm]
    rfl
  · simp only [if_neg hm]
/-! a secret -/
theorem sec_step (s : Int × Bool) (a : LinkX) : (s.2 = true → (secStep s a).2 = true ∧ (secStep s a).1 ≤ s.1) ∧ (a.2.2.1 = true → (secStep s a).2 = true ∧ (secStep s a).1 ≤ (goneV a).1) ∧ ((secStep s a).2 = true → secStep s a = s ∨ (a.2.2.1 = true ∧ (secStep s a).1 = (goneV a).1)) := by
  obtain ⟨n, b⟩ := s
  have hg : (goneV a).2 = a.2.2.1 := rfl
  unfold secStep
  rw [hg]
  cases ha : a.2.2.1 with
  | false => simp
  | true =>
    cases b with
    | false => simp
    | true =>
      by_cases hl : (goneV a).1 < n
      · have : ilt (goneV a).1 n = true := decide_eq_true hl
        simp only [this, Bool.not_true, Bool.false_or, Bool.and_true, if_true]
        refine ⟨fun _ => ⟨trivial, by omega⟩, fun _ => ⟨trivial, Int.le_refl _⟩, fun _ => .inr ⟨trivial, trivial⟩⟩
      · have : ilt (goneV a).1 n = false := decide_eq_false hl
        simp only [this, Bool.not_true, Bool.false_or, Bool.and_false, Bool.false_eq_true, if_false]
        refine ⟨fun _ => ⟨trivial, Int.le_refl _⟩, fun _ => ⟨trivial, by omega⟩, fun _ => .inl trivial⟩
theorem sec_fold : ∀ (l : List LinkX) (s : Int × Bool), (s.2 = true → (l.foldl secStep s).2 = true ∧ (l.foldl secStep s).1 ≤ s.1) ∧ (∀ x, x ∈ l → x.2.2.1 = true → (l.foldl secStep s).2 = true ∧ (l.foldl secStep s).1 ≤ (goneV x).1) ∧ ((l.foldl secStep s).2 = true → l.foldl secStep s = s ∨ ∃ x, x ∈ l ∧ x.2.2.1 = true ∧ (goneV x).1 = (l.foldl secStep s).1)
  | [], s => ⟨fun h => ⟨h, Int.le_refl _⟩, fun x hx => (by cases hx), fun _ => .inl rfl⟩
  | a :: l, s => by
    obtain ⟨h1, h2, h3⟩ := sec_step s a
    obtain ⟨g1, g2, g3⟩ := sec_fold l (secStep s a)
    rw [List.foldl_cons]
    refine ⟨fun h => ?_, fun x hx hf => ?_, fun h => ?_⟩
    · have := h1 h
      have := g1 this.1
      exact ⟨this.1, by omega⟩
    · rcases List.mem_cons.1 hx with rfl | hx
      · have q := h2 hf
        have := g1 q.1
        exact ⟨this.1, by omega⟩
      · exact g2 x hx hf
    · rcases g3 h with e | ⟨x, hx, q1, q2⟩
      · rw [e] at h ⊢
        rcases h3 h with e2 | ⟨q1, q2⟩
        · exact .inl e2
        · exact .inr ⟨a, by simp, q1, q2.symm⟩
      · exact .inr ⟨x, by simp [hx], q1, q2⟩
theorem sec_at {l : List LinkX} (h : (secFails l).2 = true) : ∃ x, x ∈ l ∧ x.2.2.1 = true ∧ (goneV x).1 = (secFails l).1 := by
  rcases (sec_fold l (0, false)).2.2 h with e | h
  · have : secFails l = (0, false) := e
    rw [this] at h
    cases h
  · exact h
theorem gone_eq (x : LinkX) : (goneV x).1 = max x.1 x.2.1 := by
  show imx x.1 x.2.1 = _
  unfold imx
  split <;> omega
def leL (x' x : LinkX) : Prop := x'.1 = x.1 ∧ (x.2.2.1 = true → x'.2.2.1 = true ∧ x'.2.1 ≤ x.2.1)
/-! a signature -/
theorem sgF_eq (l : List LinkX) : sgFails l = if (goneV (sgLast l)).2 then ((goneV (sgLast l)).1, true) else (0, false) := rfl
theorem sgF_true {l : List LinkX} : (sgFails l).2 = true ↔ (sgLast l).2.2.1 = true := by
  rw [sgF_eq]
  show (if (sgLast l).2.2.1 then ((goneV (sgLast l)).1, true) else (0, false)).2 = true ↔ _
  split <;> simp [*]
theorem sgF_val {l : List LinkX} (h : (sgLast l).2.2.1 = true) : sgFails l = ((goneV (sgLast l)).1, true) := by
  rw [sgF_eq]
  exact if_pos h
theorem cnd_false {a b : LinkX} : cnd a b = false ↔ a.2.2.1 = true ∧ a.2.1 ≤ b.1 := by
  unfold cnd ilt
  rw [Bool.or_eq_false_iff, Bool.not_eq_false', decide_eq_false_iff_not, Int.not_lt]
theorem linksB_asc : ∀ {l : List Link} {pv : Option Int}, linksB pv l = true → l.Pairwise (fun x y => x.2.1 < y.2.1) ∧ ∀ d, pv = some d → ∀ x, x ∈ l → d < x.2.1
  | [], _, _ => ⟨List.Pairwise.nil, fun d _ x hx => (by cases hx)⟩
  | a :: l, pv, h => by
    rw [linksB_cons, Bool.and_eq_true, Bool.and_eq_true, Bool.and_eq_true] at h
    obtain ⟨h1, h2⟩ := linksB_asc h.2
    refine ⟨List.pairwise_cons.2 ⟨fun x hx => h2 a.2.1 rfl x hx, h1⟩, fun d hd x hx => ?_⟩
    subst hd
    have h3 : a.2.1 > d := of_decide_eq_true h.1.2
    rcases List.mem_cons.1 hx with rfl | hx
    · exact h3
    · have := h2 a.2.1 rfl x hx
      omega
theorem lk_mono {y z : Policy} {p : Int} (hy : polOk y = true) (hz : polOk z = true) (ha : ∀ u d, 0 ≤ d → d ≤ 40000 → allF z u p d = true → allF y u p d = true) (x : Link) : leL (lkF z p x) (lkF y p x) := by
  refine ⟨rfl, fun h => ?_⟩
  obtain ⟨f, hf⟩ : ∃ f, fallL (spansF y x.1 p) = (f, true) := ⟨_, Prod.ext rfl h⟩
  obtain ⟨g, hg, hle⟩ := fall_mono hy hz (ha x.1) hf
  show (fallL (spansF z x.1 p)).2 = true ∧ (fallL (spansF z x.1 p)).1 ≤ (fallL (spansF y x.1 p)).1
  rw [hg, hf]
  exact ⟨rfl, hle⟩
end Go.Proofs.YtfehjdaielifiaaGreat.K
