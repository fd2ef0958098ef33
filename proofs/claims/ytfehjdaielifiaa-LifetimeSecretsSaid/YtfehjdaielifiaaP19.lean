/-
  Plain laws: what spans say.
-/
import Derived.Test.YtfehjdaielifiaaV10
set_option linter.unusedSimpArgs false
set_option linter.unusedVariables false
namespace Go.Proofs.Ytfehjdaielifiaa.K
open Go.RowKit
/-! spans ascend and do not touch -/
def WS (s : List Keep) (hi : Int) : Prop := s.Pairwise (fun a b => a.2.1 < b.1) ∧ ∀ k, k ∈ s → 0 ≤ k.1 ∧ k.1 < k.2.1 ∧ k.2.1 ≤ hi
theorem WS.mono {s : List Keep} {a b : Int} (h : WS s a) (hab : a ≤ b) : WS s b := ⟨h.1, fun k hk => by have := h.2 k hk; omega⟩
theorem spanPut_ws {out : List Keep} {a b : Int} (h : WS out a) (h0 : 0 ≤ a) (hab : a < b) : WS (spanPut out a b) b := by
  rcases List.eq_nil_or_concat out with rfl | ⟨l, s, rfl⟩
  · refine ⟨by simp [spanPut], fun k hk => ?_⟩
    simp only [spanPut, List.getLast?_nil, List.mem_singleton] at hk
    subst hk
    exact ⟨h0, hab, Int.le_refl b⟩
  · rw [List.concat_eq_append] at *
    obtain ⟨h1, h2⟩ := h
    obtain ⟨p1, _, p2⟩ := List.pairwise_append.1 h1
    rw [spanPut_app]
    split
    · rename_i hs
      refine ⟨List.pairwise_append.2 ⟨p1, List.pairwise_singleton _ _, fun x hx y hy => ?_⟩, fun k hk => ?_⟩
      · rw [List.mem_singleton.1 hy]
        exact p2 x hx s (by simp)
      · rcases List.mem_append.1 hk with hk | hk
        · have := h2 k (by simp [hk]); omega
        · rw [List.mem_singleton.1 hk]
          have := h2 s (by simp)
          simp only
          omega
    · rename_i hs
      have g := h2 s (by simp)
      refine ⟨List.pairwise_append.2 ⟨h1, List.pairwise_singleton _ _, fun x hx y hy => ?_⟩, fun k hk => ?_⟩
      · rw [List.mem_singleton.1 hy]
        rcases List.mem_append.1 hx with hx | hx
        · have := p2 x hx s (by simp); simp only; omega
        · rw [List.mem_singleton.1 hx]; simp only; omega
      · rcases List.mem_append.1 hk with hk | hk
        · have := h2 k hk; omega
        · rw [List.mem_singleton.1 hk]; simp only; omega
theorem spansZ_ws {f : Int → Bool} {hi : Int} : ∀ (l : List Int) (a : Int) (out : List Keep), asc (a :: l) → 0 ≤ a → (∀ x, x ∈ a :: l → x ≤ hi) → WS out a → WS (spansZ f (a :: l) out) hi
  | [], a, out, _, _, h, hw => hw.mono (h a (by simp))
  | b :: r, a, out, ha, h0, h, hw => by
    obtain ⟨h1, h2⟩ := List.pairwise_cons.1 ha
    have hab : a < b := h1 b (by simp)
    unfold spansZ
    refine spansZ_ws r b _ h2 (by omega) (fun x hx => h x (by simp at hx; simp [hx])) ?_
    split
    · exact spanPut_ws hw h0 hab
    · exact hw.mono (by omega)
/-! what is decided between two cuts -/
theorem pol_ruled {y : Policy} (h : polOk y = true) {r : Rule} (hr : r ∈ y.1) : ruledF r = true := by
  simp only [polOk, Bool.and_eq_true] at h
  exact List.all_eq_true.1 h.1.1 r hr
theorem cuts_in {y : Policy} (h : polOk y = true) {x : Int} (hx : x ∈ cutsP y.1) : 0 ≤ x ∧ x ≤ 40001 := by
  rcases mem_cutsP.1 hx with rfl | rfl | hx
  · omega
  · omega
  · obtain ⟨r, hr, hx⟩ := List.mem_flatMap.1 hx
    have := pol_ruled h hr
    simp only [ruledF, decide_eq_true_eq, Policy.Rules, Policy.Keeps, Item.Name, Item.Kind, Item.Purpose, Item.Links, Item.Until, Keep.Alg, Keep.Bits, Link.Use, Link.Day, Rule.Allow, Rule.Alg, Rule.Below, Rule.Purpose, Rule.From, Rule.To, Dice.L, Dice.At, LinkX.day, LinkX.fall, LinkX.falls, Row.name, Row.kind, Row.way, Row.sizes, Row.strengths] at this
    simp only [List.mem_cons, List.not_mem_nil, or_false] at hx
    omega
theorem cuts_head {y : Policy} (h : polOk y = true) : ∃ l, cutsP y.1 = 0 :: l := by
  have h0 : (0 : Int) ∈ cutsP y.1 := mem_cutsP.2 (.inl rfl)
  have ha := asc_cutsP y.1
  cases hq : cutsP y.1 with
  | nil => rw [hq] at h0; cases h0
  | cons a l =>
    rw [hq] at h0 ha
    have ha0 := cuts_in h (x := a) (by rw [hq]; simp)
    rcases List.mem_cons.1 h0 with e | h0
    · exact ⟨l, by rw [e]⟩
    · have := (List.pairwise_cons.1 ha).1 0 h0
      omega
theorem spans_ws {y : Policy} {u : Keep} {p : Int} (h : polOk y = true) : WS (spansF y u p) 40001 := by
  obtain ⟨l, hl⟩ := cuts_head h
  have ha := asc_cutsP y.1
  unfold spansF
  rw [hl] at ha ⊢
  exact spansZ_ws l 0 [] ha (Int.le_refl 0) (fun x hx => (cuts_in h (by rw [hl]; exact hx)).2) ⟨List.Pairwise.nil, fun k hk => by cases hk⟩
/-- where a use falls -/
theorem fall_cases {y : Policy} {u : Keep} {p : Int} (h : polOk y = true) :
    (spansF y u p = [] ∧ fallL (spansF y u p) = (0, true)) ∨
    ∃ l s, spansF y u p = l ++ [s] ∧ 0 ≤ s.1 ∧ s.1 < s.2.1 ∧ s.2.1 ≤ 40001 ∧ (∀ k, k ∈ l → k.2.1 ≤ s.1) ∧ fallL (spansF y u p) = if s.2.1 ≤ 40000 then (s.2.1, true) else (0, false) := by
  have hw := spans_ws (u := u) (p := p) h
  rcases List.eq_nil_or_concat (spansF y u p) with e | ⟨l, s, e⟩
  · exact .inl ⟨e, by rw [e]; rfl⟩
  · right
    rw [List.concat_eq_append] at e
    rw [e] at hw ⊢
    obtain ⟨p1, _, p2⟩ := List.pairwise_append.1 hw.1
    have g := hw.2 s (by simp)
    refine ⟨l, s, rfl, g.1, g.2.1, g.2.2, fun k hk => ?_, ?_⟩
    · have := p2 k hk s (by simp)
      omega
    · unfold fallL
      rw [List.getLast?_concat]
      simp only
      split <;> split <;> first | rfl | omega
end Go.Proofs.Ytfehjdaielifiaa.K
