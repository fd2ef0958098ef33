/-
 Plain laws: what spans say.
-/
import Derived.Test.YtfehjdaielifiaaGreatV10
set_option linter.unusedSimpArgs false
set_option linter.unusedVariables false
namespace Go.Proofs.YtfehjdaielifiaaGreat.K
open Go.RowKit
def WS (s : List Keep) (hi : Int) : Prop := s.Pairwise (fun a b => a.2.1 < b.1) ∧ ∀ k, k ∈ s → 0 ≤ k.1 ∧ k.1 < k.2.1 ∧ k.2.1 ≤ hi
theorem WS.mono {s : List Keep} {a b : Int} (h : WS s a) (hab : a ≤ b) : WS s b := ⟨h.1, fun k hk => by have := h.2 k hk; omega⟩
theorem spanPut_ws {out : List Keep} {a b : Int} (h : WS out a) (h0 : 0 ≤ a) (hab : a < b) : WS (spanPut out a b) b := by
 rcases List.eq_nil_or_concat out with rfl | ⟨l, s, rfl⟩
 ·refine ⟨by simp [spanPut], fun k hk => ?_⟩
  simp only [spanPut, List.getLast?_nil, List.mem_singleton] at hk
  subst hk
  exact ⟨h0, hab, Int.le_refl b⟩
 ·rw [List.concat_eq_append] at *
  obtain ⟨h1, h2⟩ := h
  obtain ⟨p1, _, p2⟩ := List.pairwise_append.1 h1
  rw [spanPut_app]
  split
  ·rename_i hs
   refine ⟨List.pairwise_append.2 ⟨p1, List.pairwise_singleton _ _, fun x hx y hy => ?_⟩, fun k hk => ?_⟩
   ·rw [List.mem_singleton.1 hy]
    exact p2 x hx s (by simp)
   ·rcases List.mem_append.1 hk with hk | hk
    ·have := h2 k (by simp [hk]); omega
    ·rw [List.mem_singleton.1 hk]
     have := h2 s (by simp)
     simp only
     omega
  ·rename_i hs
   have g := h2 s (by simp)
   refine ⟨List.pairwise_append.2 ⟨h1, List.pairwise_singleton _ _, fun x hx y hy => ?_⟩, fun k hk => ?_⟩
   ·rw [List.mem_singleton.1 hy]
    rcases List.mem_append.1 hx with hx | hx
    ·have := p2 x hx s (by simp); simp only; omega
    ·rw [List.mem_singleton.1 hx]; simp only; omega
   ·rcases List.mem_append.1 hk with hk | hk
    ·have := h2 k hk; omega
    ·rw [List.mem_singleton.1 hk]; simp only; omega
theorem inL_app {l1 l2 : List Keep} {d : Int} : inL (l1 ++ l2) d ↔ inL l1 d ∨ inL l2 d := by
 unfold inL
 constructor
 ·rintro ⟨s, hs, h⟩
  rcases List.mem_append.1 hs with hs | hs
  ·exact .inl ⟨s, hs, h⟩
  ·exact .inr ⟨s, hs, h⟩
 ·rintro (⟨s, hs, h⟩ | ⟨s, hs, h⟩)
  ·exact ⟨s, by simp [hs], h⟩
  ·exact ⟨s, by simp [hs], h⟩
theorem inL_one {s : Keep} {d : Int} : inL [s] d ↔ s.1 ≤ d ∧ d < s.2.1 := by
 unfold inL inK
 simp
theorem spanPut_in {out : List Keep} {a b d : Int} (h : WS out a) (hab : a < b) : inL (spanPut out a b) d ↔ inL out d ∨ (a ≤ d ∧ d < b) := by
 rcases List.eq_nil_or_concat out with rfl | ⟨l, s, rfl⟩
 ·have : inL (spanPut [] a b) d ↔ a ≤ d ∧ d < b := inL_one
  rw [this]
  constructor
  ·exact .inr
  ·rintro (⟨s, hs, _⟩ | h)
   ·cases hs
   ·exact h
 ·rw [List.concat_eq_append] at *
  have g := h.2 s (by simp)
  rw [spanPut_app]
  split
  ·rename_i hs
   rw [inL_app, inL_app, inL_one, inL_one]
   simp only
   constructor
   ·rintro (h | h)
    ·exact .inl (.inl h)
    ·by_cases h2 : d < a
     ·exact .inl (.inr (by omega))
     ·exact .inr (by omega)
   ·rintro ((h | h) | h)
    ·exact .inl h
    ·exact .inr (by omega)
    ·exact .inr (by omega)
  ·rw [inL_app, inL_one]
def pieceP (f : Int → Bool) : List Int → Int → Prop
 | a :: b :: r, d => (f a = true ∧ a ≤ d ∧ d < b) ∨ pieceP f (b :: r) d
 | _, _ => False
theorem spansZ_ws {f : Int → Bool} {hi : Int} : ∀ (l : List Int) (a : Int) (out : List Keep), asc (a :: l) → 0 ≤ a → (∀ x, x ∈ a :: l → x ≤ hi) → WS out a → WS (spansZ f (a :: l) out) hi
 | [], a, out, _, _, h, hw => hw.mono (h a (by simp))
 | b :: r, a, out, ha, h0, h, hw => by
  obtain ⟨h1, h2⟩ := List.pairwise_cons.1 ha
  have hab : a < b := h1 b (by simp)
  unfold spansZ
  refine spansZ_ws r b _ h2 (by omega) (fun x hx => h x (by simp at hx; simp [hx])) ?_
  split
  ·exact spanPut_ws hw h0 hab
  ·exact hw.mono (by omega)
theorem spansZ_in {f : Int → Bool} {d : Int} : ∀ (l : List Int) (a : Int) (out : List Keep), asc (a :: l) → 0 ≤ a → WS out a → (inL (spansZ f (a :: l) out) d ↔ inL out d ∨ pieceP f (a :: l) d)
 | [], a, out, _, _, hw => by simp [spansZ, pieceP]
 | b :: r, a, out, ha, h0, hw => by
  obtain ⟨h1, h2⟩ := List.pairwise_cons.1 ha
  have hab : a < b := h1 b (by simp)
  unfold spansZ pieceP
  by_cases hf : f a = true
  ·rw [if_pos hf, spansZ_in r b _ h2 (by omega) (spanPut_ws hw h0 hab), spanPut_in hw hab]
   simp only [hf, true_and]
   exact or_assoc
  ·rw [if_neg hf, spansZ_in r b _ h2 (by omega) (hw.mono (by omega))]
   constructor
   ·rintro (h | h)
    ·exact .inl h
    ·exact .inr (.inr h)
   ·rintro (h | h | h)
    ·exact .inl h
    ·exact absurd h.1 hf
    ·exact .inr h
theorem pieceP_low {f : Int → Bool} {d : Int} : ∀ {l : List Int} {a : Int}, asc (a :: l) → pieceP f (a :: l) d → a ≤ d
 | [], _, _, h => by cases h
 | b :: r, a, ha, h => by
  obtain ⟨h1, h2⟩ := List.pairwise_cons.1 ha
  rcases h with h | h
  ·exact h.2.1
  ·have := pieceP_low h2 h
   have := h1 b (by simp)
   omega
theorem pieceP_eq {f : Int → Bool} {d : Int} : ∀ {l : List Int} {a : Int}, asc (a :: l) → a ≤ d → (∃ x, x ∈ a :: l ∧ d < x) → (∀ c, c ∈ a :: l → c ≤ d → (∀ x, x ∈ a :: l → x ≤ d → x ≤ c) → f d = f c) → (pieceP f (a :: l) d ↔ f d = true)
 | [], a, _, h1, ⟨x, hx, h2⟩, _ => by
  rw [List.mem_singleton.1 hx] at h2
  omega
 | b :: r, a, ha, h1, ⟨x, hx, h2⟩, H => by
  obtain ⟨g1, g2⟩ := List.pairwise_cons.1 ha
  have hab : a < b := g1 b (by simp)
  unfold pieceP
  by_cases hd : d < b
  ·have e : f d = f a := H a (by simp) h1 fun z hz hzd => by
    rcases List.mem_cons.1 hz with e | hz
    ·omega
    ·rcases List.mem_cons.1 hz with e | hz
     ·omega
     ·have := (List.pairwise_cons.1 g2).1 z hz
      omega
   have hn : ¬ pieceP f (b :: r) d := fun h => by have := pieceP_low g2 h; omega
   rw [e]
   constructor
   ·rintro (h | h)
    ·exact h.1
    ·exact absurd h hn
   ·exact fun h => .inl ⟨h, h1, hd⟩
  ·have hx' : x ∈ b :: r := by
    rcases List.mem_cons.1 hx with e | hx
    ·omega
    ·exact hx
   have ih := pieceP_eq (f := f) g2 (by omega) ⟨x, hx', h2⟩ fun c hc hcd hm => H c (by simp at hc; simp [hc]) hcd fun z hz hzd => by
    rcases List.mem_cons.1 hz with e | hz
    ·have := hm b (by simp) (by omega)
     omega
    ·exact hm z hz hzd
   rw [← ih]
   constructor
   ·rintro (h | h)
    ·omega
    ·exact h
   ·exact .inr
theorem lastI_congr {α : Type} {m m' : α → Bool} : ∀ {l : List α}, (∀ a, a ∈ l → m a = m' a) → lastI m l = lastI m' l
 | [], _ => rfl
 | a :: l, h => by
  unfold lastI
  rw [lastI_congr (l := l) fun b hb => h b (by simp [hb]), h a (by simp)]
theorem dec_cut {rs : List Rule} {u : Keep} {p c d : Int} (hc : c ≤ d) (hm : ∀ x, x ∈ cutsP rs → x ≤ d → x ≤ c) : decL rs u p d = decL rs u p c := by
 refine lastI_congr fun r hr => ?_
 unfold matches' within'
 have e1 : r.2.2.2.2.1 ∈ cutsP rs := mem_cutsP.2 (.inr (.inr (List.mem_flatMap.2 ⟨r, hr, by simp⟩)))
 have e2 : r.2.2.2.2.2.1 ∈ cutsP rs := mem_cutsP.2 (.inr (.inr (List.mem_flatMap.2 ⟨r, hr, by simp⟩)))
 have g1 := hm _ e1
 have g2 := hm _ e2
 congr 2
 ·rw [decide_eq_decide]
  simp only [Item.Name, Item.Kind, Item.Purpose, Item.Links, Item.Until, Policy.Rules, Policy.Keeps, Rule.Allow, Rule.Alg, Rule.Below, Rule.Purpose, Rule.From, Rule.To, Keep.Alg, Keep.Bits, Link.Use, Link.Day, Dice.L, Dice.At, LinkX.day, LinkX.fall, LinkX.falls, Row.name, Row.kind, Row.way, Row.sizes, Row.strengths]
  omega
 ·rw [decide_eq_decide]
  simp only [Item.Name, Item.Kind, Item.Purpose, Item.Links, Item.Until, Policy.Rules, Policy.Keeps, Rule.Allow, Rule.Alg, Rule.Below, Rule.Purpose, Rule.From, Rule.To, Keep.Alg, Keep.Bits, Link.Use, Link.Day, Dice.L, Dice.At, LinkX.day, LinkX.fall, LinkX.falls, Row.name, Row.kind, Row.way, Row.sizes, Row.strengths]
  omega
theorem all_cut {y : Policy} {u : Keep} {p c d : Int} (hc : c ≤ d) (hm : ∀ x, x ∈ cutsP y.1 → x ≤ d → x ≤ c) : allF y u p d = allF y u p c := by
 unfold allF allL
 rw [dec_cut hc hm]
theorem pol_ruled {y : Policy} (h : polOk y = true) {r : Rule} (hr : r ∈ y.1) : ruledF r = true := by
 simp only [polOk, Bool.and_eq_true] at h
 exact List.all_eq_true.1 h.1.1 r hr
theorem cuts_in {y : Policy} (h : polOk y = true) {x : Int} (hx : x ∈ cutsP y.1) : 0 ≤ x ∧ x ≤ 40001 := by
 rcases mem_cutsP.1 hx with rfl | rfl | hx
 ·omega
 ·omega
 ·obtain ⟨r, hr, hx⟩ := List.mem_flatMap.1 hx
  have := pol_ruled h hr
  simp only [ruledF, decide_eq_true_eq, Item.Name, Item.Kind, Item.Purpose, Item.Links, Item.Until, Policy.Rules, Policy.Keeps, Rule.Allow, Rule.Alg, Rule.Below, Rule.Purpose, Rule.From, Rule.To, Keep.Alg, Keep.Bits, Link.Use, Link.Day, Dice.L, Dice.At, LinkX.day, LinkX.fall, LinkX.falls, Row.name, Row.kind, Row.way, Row.sizes, Row.strengths] at this
  simp only [List.mem_cons, List.not_mem_nil, or_false] at hx
  omega
theorem cuts_head {y : Policy} (h : polOk y = true) : ∃ l, cutsP y.1 = 0 :: l := by
 have h0 : (0 : Int) ∈ cutsP y.1 := mem_cutsP.2 (.inl rfl)
 have ha := asc_cutsP y.1
 cases hq : cutsP y.1 with
 | nil => rw [hq] at h0; cases h0
 | cons a l =>
  rw [hq] at h0 ha
  have ha0 := cuts_in h (x := a) (by rw [hq]; simp)
  rcases List.mem_cons.1 h0 with e | h0
  ·exact ⟨l, by rw [e]⟩
  ·have := (List.pairwise_cons.1 ha).1 0 h0
   omega
theorem spans_ws {y : Policy} {u : Keep} {p : Int} (h : polOk y = true) : WS (spansF y u p) 40001 := by
 obtain ⟨l, hl⟩ := cuts_head h
 have ha := asc_cutsP y.1
 unfold spansF
 rw [hl] at ha ⊢
 exact spansZ_ws l 0 [] ha (Int.le_refl 0) (fun x hx => (cuts_in h (by rw [hl]; exact hx)).2) ⟨List.Pairwise.nil, fun k hk => by cases hk⟩
theorem spans_in {y : Policy} {u : Keep} {p d : Int} (h : polOk y = true) (h0 : 0 ≤ d) (h1 : d ≤ 40000) : inL (spansF y u p) d ↔ allF y u p d = true := by
 obtain ⟨l, hl⟩ := cuts_head h
 have ha := asc_cutsP y.1
 unfold spansF
 rw [hl] at ha ⊢
 rw [spansZ_in l 0 [] ha (Int.le_refl 0) ⟨List.Pairwise.nil, fun k hk => by cases hk⟩]
 have h4 : (40001 : Int) ∈ 0 :: l := by rw [← hl]; exact mem_cutsP.2 (.inr (.inl rfl))
 rw [pieceP_eq ha h0 ⟨40001, h4, by omega⟩ fun c _ hcd hm => all_cut hcd (by rw [hl]; exact hm)]
 constructor
 ·rintro (⟨s, hs, _⟩ | h)
  ·cases hs
  ·exact h
 ·exact .inr
theorem fall_cases {y : Policy} {u : Keep} {p : Int} (h : polOk y = true) :
  (spansF y u p = [] ∧ fallL (spansF y u p) = (0, true)) ∨
  ∃ l s, spansF y u p = l ++ [s] ∧ 0 ≤ s.1 ∧ s.1 < s.2.1 ∧ s.2.1 ≤ 40001 ∧ (∀ k, k ∈ l → k.2.1 ≤ s.1) ∧ fallL (spansF y u p) = if s.2.1 ≤ 40000 then (s.2.1, true) else (0, false) := by
 have hw := spans_ws (u := u) (p := p) h
 rcases List.eq_nil_or_concat (spansF y u p) with e | ⟨l, s, e⟩
 ·exact .inl ⟨e, by rw [e]; rfl⟩
 ·right
  rw [List.concat_eq_append] at e
  rw [e] at hw ⊢
  obtain ⟨p1, _, p2⟩ := List.pairwise_append.1 hw.1
  have g := hw.2 s (by simp)
  refine ⟨l, s, rfl, g.1, g.2.1, g.2.2, fun k hk => ?_, ?_⟩
  ·have := p2 k hk s (by simp)
   omega
  ·unfold fallL
   rw [List.getLast?_concat]
   simp only
   split <;> split <;> first | rfl | omega
end Go.Proofs.YtfehjdaielifiaaGreat.K
