/-
 Plain laws for verdict: the last that is so; ascending lists; spans.
-/
import Derived.Test.YtfehjdaielifiaaGreatV2
import Derived.Test.YtfehjdaielifiaaGreatKD
set_option linter.unusedSimpArgs false
set_option linter.unusedVariables false
namespace Go.Proofs.YtfehjdaielifiaaGreat.K
open Go.RowKit
def lastI {α : Type} (m : α → Bool) : List α → Option Nat
 | [] => none
 | a :: l => match lastI m l with
  | some k => some (k + 1)
  | none => if m a then some 0 else none
theorem lastI_app {α : Type} {m : α → Bool} {l2 : List α} : ∀ l1 : List α, lastI m (l1 ++ l2) = match lastI m l2 with | some k => some (l1.length + k) | none => lastI m l1
 | [] => by
  simp only [List.nil_append, List.length_nil, Nat.zero_add]
  cases lastI m l2 <;> rfl
 | a :: l1 => by
  simp only [List.cons_append, lastI, lastI_app l1, List.length_cons]
  cases lastI m l2 with
  | none => rfl
  | some k => simp only [Option.some.injEq]; omega
theorem lastI_none {α : Type} {m : α → Bool} : ∀ {l : List α}, lastI m l = none ↔ ∀ a, a ∈ l → m a = false
 | [] => by simp [lastI]
 | a :: l => by
  have ih := lastI_none (m := m) (l := l)
  simp only [lastI]
  cases h : lastI m l with
  | some k =>
   have : ¬ ∀ a, a ∈ l → m a = false := fun g => by rw [ih.2 g] at h; cases h
   simp only [List.mem_cons, forall_eq_or_imp, reduceCtorEq, false_iff, not_and]
   exact fun _ => this
  | none =>
   have g := ih.1 h
   cases hm : m a <;> simp_all
theorem lastI_some {α : Type} {m : α → Bool} : ∀ {l : List α} {k : Nat}, lastI m l = some k ↔ ∃ h : k < l.length, m l[k] = true ∧ ∀ j (hj : j < l.length), k < j → m l[j] = false
 | [], k => by simp [lastI]
 | a :: l, k => by
  have ih := @lastI_some α m l
  simp only [lastI]
  cases h : lastI m l with
  | some i =>
   obtain ⟨h1, h2, h3⟩ := ih.1 h
   simp only [Option.some.injEq]
   constructor
   ·rintro rfl
    refine ⟨by simp; omega, by simpa using h2, fun j hj hk => ?_⟩
    cases j with
    | zero => omega
    | succ j => simpa using h3 j (by simpa using hj) (by omega)
   ·rintro ⟨g1, g2, g3⟩
    cases k with
    | zero =>
     have := g3 (i + 1) (by simp; omega) (by omega)
     simp [h2] at this
    | succ k =>
     have g1' : k < l.length := by simpa using g1
     simp only [List.getElem_cons_succ] at g2
     have : lastI m l = some k := ih.2 ⟨g1', g2, fun j hj hk => by have := g3 (j + 1) (by rw [List.length_cons]; omega) (by omega); rwa [List.getElem_cons_succ] at this⟩
     rw [this] at h
     injection h with h
     omega
  | none =>
   have g := lastI_none.1 h
   cases hm : m a with
   | true =>
    simp only [if_true, Option.some.injEq]
    constructor
    ·rintro rfl
     refine ⟨by simp, by simpa using hm, fun j hj hk => ?_⟩
     cases j with
     | zero => omega
     | succ j => simp only [List.getElem_cons_succ]; exact g _ (List.getElem_mem _)
    ·rintro ⟨g1, g2, g3⟩
     cases k with
     | zero => rfl
     | succ k =>
      simp only [List.getElem_cons_succ] at g2
      rw [g _ (List.getElem_mem _)] at g2
      cases g2
   | false =>
    simp only [Bool.false_eq_true, if_false, reduceCtorEq, false_iff]
    rintro ⟨g1, g2, g3⟩
    cases k with
    | zero => simp [hm] at g2
    | succ k =>
     simp only [List.getElem_cons_succ] at g2
     rw [g _ (List.getElem_mem _)] at g2
     cases g2
theorem back_app {α : Type} (l : List α) (a : α) : backL (l ++ [a]) = ((l.length : Int), (a, ())) :: backL l := by
 unfold backL
 simp [List.zipIdx_append]
theorem rev_ind {α : Type} {P : List α → Prop} (h0 : P []) (h1 : ∀ l a, P l → P (l ++ [a])) (l : List α) : P l := by
 have : ∀ r : List α, P r.reverse := by
  intro r
  induction r with
  | nil => exact h0
  | cons a r ih => rw [List.reverse_cons]; exact h1 _ _ ih
 have h := this l.reverse
 rwa [List.reverse_reverse] at h
theorem back_find {α : Type} {m : α → Bool} (l : List α) : ((backL l).find? fun z => m z.2.1).map (·.1) = (lastI m l).map fun k : Nat => (k : Int) := by
 induction l using rev_ind with
 | h0 => rfl
 | h1 l a ih =>
  rw [back_app, List.find?_cons, lastI_app]
  simp only [lastI]
  cases hm : m a
  ·simpa using ih
  ·simp
def decL (rs : List Rule) (u : Keep) (p d : Int) : Option Nat := lastI (fun r => matches' r u p d) rs
theorem decF_eq {y : Policy} {u : Keep} {p d : Int} : decF y u p d = match decL y.1 u p d with | some k => (k : Int) | none => -1 := by
 unfold decF decZ decL
 rw [back_find (m := fun r => matches' r u p d)]
 cases lastI (fun r => matches' r u p d) y.1 <;> rfl
theorem decF_lt {y : Policy} {u : Keep} {p d : Int} : -1 ≤ decF y u p d ∧ decF y u p d < y.1.length := by
 rw [decF_eq]
 cases h : decL y.1 u p d with
 | none => simp only; omega
 | some k =>
  obtain ⟨h1, _⟩ := lastI_some.1 h
  simp only
  omega
def allL (rs : List Rule) (u : Keep) (p d : Int) : Bool := match decL rs u p d with
 | some k => (rs[k]?.map fun r : Rule => r.1).getD true
 | none => true
def allF (y : Policy) (u : Keep) (p d : Int) : Bool := allL y.1 u p d
def asc (l : List Int) : Prop := l.Pairwise (· < ·)
theorem asc_ext : ∀ {a b : List Int}, asc a → asc b → (∀ x, x ∈ a ↔ x ∈ b) → a = b
 | [], [], _, _, _ => rfl
 | [], y :: b, _, _, h => absurd ((h y).2 (by simp)) (by simp)
 | x :: a, [], _, _, h => absurd ((h x).1 (by simp)) (by simp)
 | x :: a, y :: b, ha, hb, h => by
  obtain ⟨ha1, ha2⟩ := List.pairwise_cons.1 ha
  obtain ⟨hb1, hb2⟩ := List.pairwise_cons.1 hb
  have e : x = y := by
   rcases List.mem_cons.1 ((h x).1 (by simp)) with e | e
   ·exact e
   ·rcases List.mem_cons.1 ((h y).2 (by simp)) with e' | e'
    ·exact e'.symm
    ·have := ha1 y e'
     have := hb1 x e
     omega
  subst e
  rw [asc_ext ha2 hb2 fun z => ?_]
  constructor
  ·intro hz
   have := ha1 z hz
   rcases List.mem_cons.1 ((h z).1 (by simp [hz])) with e | e
   ·omega
   ·exact e
  ·intro hz
   have := hb1 z hz
   rcases List.mem_cons.1 ((h z).2 (by simp [hz])) with e | e
   ·omega
   ·exact e
theorem compactUpTo_asc {d : Array Int} (hs : d.toList.Pairwise (· ≤ ·)) : ∀ m, m ≤ d.size → asc (Lib.compactUpTo d m) ∧ (∀ x, x ∈ Lib.compactUpTo d m ↔ x ∈ d.toList.take m) ∧ (0 < m → ∀ x, x ∈ Lib.compactUpTo d m → x ≤ d[m - 1]!)
 | 0, _ => ⟨List.Pairwise.nil, fun x => by simp [Lib.compactUpTo], fun h => absurd h (by omega)⟩
 | m + 1, hm => by
  obtain ⟨h1, h2, h3⟩ := compactUpTo_asc hs m (by omega)
  rw [Lib.compactUpTo_succ]
  have hsz : m < d.size := by omega
  have hle : m < d.toList.length := by simpa using hsz
  have et : d.toList.take (m + 1) = d.toList.take m ++ [d.toList[m]] := List.take_succ_eq_append_getElem hle
  have eg : d[m]! = d.toList[m] := by simp [hsz]
  have hle2 : ∀ x, x ∈ d.toList.take m → x ≤ d[m]! := by
   intro x hx
   rw [eg]
   obtain ⟨i, hi, rfl⟩ := List.getElem_of_mem hx
   have hi' : i < m := by rw [List.length_take] at hi; omega
   rw [List.getElem_take]
   exact (List.pairwise_iff_getElem.1 hs) i m (by omega) hle hi'
  by_cases hk : Lib.keeps d m = true
  ·rw [if_pos hk]
   have hlt : ∀ x, x ∈ Lib.compactUpTo d m → x < d[m]! := by
    intro x hx
    have h4 : 0 < m := by
     rcases Nat.eq_zero_or_pos m with rfl | h
     ·simp [Lib.compactUpTo] at hx
     ·exact h
    have h5 := h3 h4 x hx
    simp only [Lib.keeps, decide_eq_true_eq] at hk
    have h6 : d[m - 1]! ≤ d[m]! := hle2 _ (by
     have e : d[m - 1]! = d.toList[m - 1] := by simp [show m - 1 < d.size by omega]
     rw [e, List.mem_take_iff_getElem]
     exact ⟨m - 1, by omega, rfl⟩)
    rcases hk with hk | hk
    ·omega
    ·omega
   refine ⟨?_, fun x => ?_, fun _ x hx => ?_⟩
   ·refine List.pairwise_append.2 ⟨h1, List.pairwise_singleton _ _, fun a ha b hb => ?_⟩
    rw [List.mem_singleton.1 hb]
    exact hlt a ha
   ·rw [et, List.mem_append, List.mem_append, h2 x, eg]
   ·rw [Nat.add_sub_cancel]
    rcases List.mem_append.1 hx with hx | hx
    ·exact Int.le_of_lt (hlt x hx)
    ·rw [List.mem_singleton.1 hx]
     exact Int.le_refl _
  ·have hk' : Lib.keeps d m = false := by simpa using hk
   rw [hk']
   simp only [Bool.false_eq_true, if_false, List.append_nil]
   simp only [Lib.keeps, decide_eq_false_iff_not, not_or, Decidable.not_not] at hk'
   have h4 : 0 < m := by omega
   have e : d[m - 1]! = d.toList[m - 1] := by simp [show m - 1 < d.size by omega]
   refine ⟨h1, fun x => ?_, fun _ x hx => ?_⟩
   ·rw [et, List.mem_append, h2 x]
    constructor
    ·exact .inl
    ·rintro (h | h)
     ·exact h
     ·rw [List.mem_singleton.1 h, ← eg, hk'.2, e, List.mem_take_iff_getElem]
      exact ⟨m - 1, by omega, rfl⟩
   ·rw [Nat.add_sub_cancel, hk'.2]
    exact h3 h4 x hx
theorem compact_asc {l : List Int} (hs : l.Pairwise (· ≤ ·)) : asc (Lib.compact l) ∧ ∀ x, x ∈ Lib.compact l ↔ x ∈ l := by
 have h := compactUpTo_asc (d := l.toArray) (by simpa using hs) l.length (by simp)
 refine ⟨h.1, fun x => ?_⟩
 have := h.2.1 x
 rw [show Lib.compact l = Lib.compactUpTo l.toArray l.length from rfl, this, List.take_of_length_le (by simp)]
theorem sortI_sorted (l : List Int) : (sortI l).Pairwise (· ≤ ·) := by
 have := List.pairwise_mergeSort (le := fun x y : Int => decide (x ≤ y)) (fun a b c h1 h2 => by simp only [decide_eq_true_eq] at *; omega) (fun a b => by simp only [Bool.or_eq_true, decide_eq_true_eq]; omega) l
 exact this.imp fun h => of_decide_eq_true h
theorem mem_sortI {l : List Int} {x : Int} : x ∈ sortI l ↔ x ∈ l := List.mem_mergeSort
def insL : List Int → Int → List Int
 | [], n => [n]
 | a :: l, n => if a < n then a :: insL l n else if a = n then a :: l else n :: a :: l
theorem mem_insL {n x : Int} : ∀ {l : List Int}, x ∈ insL l n ↔ x = n ∨ x ∈ l
 | [] => by simp [insL]
 | a :: l => by
  have ih := mem_insL (n := n) (x := x) (l := l)
  unfold insL
  split
  ·rw [List.mem_cons, List.mem_cons, ih]
   exact ⟨fun h => h.elim (fun h => .inr (.inl h)) (fun h => h.elim .inl fun h => .inr (.inr h)), fun h => h.elim (fun h => .inr (.inl h)) (fun h => h.elim .inl fun h => .inr (.inr h))⟩
  ·split
   ·rename_i h
    subst h
    rw [List.mem_cons]
    exact ⟨fun h => h.elim .inl fun h => .inr (.inr h), fun h => h.elim .inl id⟩
   ·rw [List.mem_cons]
theorem asc_insL {n : Int} : ∀ {l : List Int}, asc l → asc (insL l n)
 | [], _ => List.pairwise_singleton _ _
 | a :: l, h => by
  obtain ⟨h1, h2⟩ := List.pairwise_cons.1 h
  unfold insL
  split
  ·refine List.pairwise_cons.2 ⟨fun x hx => ?_, asc_insL h2⟩
   rcases mem_insL.1 hx with e | hx
   ·omega
   ·exact h1 x hx
  ·split
   ·exact h
   ·refine List.pairwise_cons.2 ⟨fun x hx => ?_, h⟩
    rcases List.mem_cons.1 hx with e | hx
    ·omega
    ·have := h1 x hx
     omega
def ends (rs : List Rule) : List Int := rs.flatMap fun r => [r.2.2.2.2.1, r.2.2.2.2.2.1]
def cutsP (rs : List Rule) : List Int := Lib.compact (sortI ((0 :: ends rs) ++ [40001]))
def cutsR (rs : List Rule) : List Int := rs.foldl (fun l r => insL (insL l r.2.2.2.2.1) r.2.2.2.2.2.1) [0, 40001]
theorem cutsR_aux : ∀ (rs : List Rule) (l : List Int), asc l → asc (rs.foldl (fun l r => insL (insL l r.2.2.2.2.1) r.2.2.2.2.2.1) l) ∧ ∀ x, x ∈ rs.foldl (fun l r => insL (insL l r.2.2.2.2.1) r.2.2.2.2.2.1) l ↔ x ∈ l ∨ x ∈ ends rs
 | [], l, h => ⟨h, fun x => by simp [ends]⟩
 | r :: rs, l, h => by
  obtain ⟨h1, h2⟩ := cutsR_aux rs (insL (insL l r.2.2.2.2.1) r.2.2.2.2.2.1) (asc_insL (asc_insL h))
  refine ⟨h1, fun x => ?_⟩
  rw [List.foldl_cons, h2 x, mem_insL, mem_insL]
  simp only [ends, List.flatMap_cons, List.mem_append, List.mem_cons, List.not_mem_nil, or_false]
  constructor
  ·rintro ((h | h | h) | h)
   ·exact .inr (.inl (.inr h))
   ·exact .inr (.inl (.inl h))
   ·exact .inl h
   ·exact .inr (.inr h)
  ·rintro (h | (h | h) | h)
   ·exact .inl (.inr (.inr h))
   ·exact .inl (.inr (.inl h))
   ·exact .inl (.inl h)
   ·exact .inr h
theorem mem_cutsP {rs : List Rule} {x : Int} : x ∈ cutsP rs ↔ x = 0 ∨ x = 40001 ∨ x ∈ ends rs := by
 unfold cutsP
 rw [(compact_asc (sortI_sorted _)).2, mem_sortI]
 simp only [List.mem_append, List.mem_cons, List.not_mem_nil, or_false]
 constructor
 ·rintro ((h | h) | h)
  ·exact .inl h
  ·exact .inr (.inr h)
  ·exact .inr (.inl h)
 ·rintro (h | h | h)
  ·exact .inl (.inl h)
  ·exact .inr h
  ·exact .inl (.inr h)
theorem asc_cutsP (rs : List Rule) : asc (cutsP rs) := (compact_asc (sortI_sorted _)).1
theorem cuts_eq (rs : List Rule) : cutsP rs = cutsR rs := by
 have h := cutsR_aux rs [0, 40001] (by unfold asc; simp)
 refine asc_ext (asc_cutsP rs) h.1 fun x => ?_
 rw [mem_cutsP]
 unfold cutsR
 rw [h.2 x]
 simp only [List.mem_cons, List.not_mem_nil, or_false]
 exact ⟨fun h => h.elim (fun h => .inl (.inl h)) fun h => h.elim (fun h => .inl (.inr h)) .inr, fun h => h.elim (fun h => h.elim .inl fun h => .inr (.inl h)) fun h => .inr (.inr h)⟩
def spanPut (out : List Keep) (a b : Int) : List Keep := match out.getLast? with
 | some s => if s.2.1 = a then out.dropLast ++ [(s.1, b, ())] else out ++ [(a, b, ())]
 | none => [(a, b, ())]
def spansZ (f : Int → Bool) : List Int → List Keep → List Keep
 | a :: b :: r, out => spansZ f (b :: r) (if f a then spanPut out a b else out)
 | _, out => out
def spansF (y : Policy) (u : Keep) (p : Int) : List Keep := spansZ (allF y u p) (cutsP y.1) []
end Go.Proofs.YtfehjdaielifiaaGreat.K
