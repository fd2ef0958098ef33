/-
  Plain laws on what a ledger was at a day.
-/
import Derived.Test.YtnimpcffagidoaaP41b
namespace Go.Proofs.Ytnimpcffagidoaa
open Go.RowKit
set_option linter.unusedSimpArgs false
set_option linter.unusedVariables false

theorem Gen.sorted {a : Dec} {l : List Dec} (h : Gen a l) : ∀ (i j : Nat) (x y : Dec), i ≤ j → l[i]? = some x → l[j]? = some y → x.day ≤ y.day ∧ x.known ≤ y.known := by
  induction l generalizing a with
  | nil => intro i j x y _ hx; simp at hx
  | cons b l ih =>
    intro i j x y hij hx hy
    cases i with
    | zero =>
      simp at hx
      subst hx
      cases j with
      | zero => simp at hy; subst hy; omega
      | succ j => exact h.2.days_ge y (List.mem_of_getElem? (by simpa using hy))
    | succ i =>
      cases j with
      | zero => omega
      | succ j => exact ih h.2 i j x y (by omega) (by simpa using hx) (by simpa using hy)
theorem Gen.take {a : Dec} {l : List Dec} (h : Gen a l) (k : Nat) : Gen a (l.take k) := by
  induction l generalizing a k with
  | nil => simp [Gen]
  | cons b l ih =>
    cases k with
    | zero => simp [Gen]
    | succ k => exact ⟨h.1, ih h.2 k⟩
theorem follows_gen {ds : List Dec} {d : Dec} (hv : validB d = true) (ha : ∀ a, ds.getLast? = some a → a.day ≤ d.day ∧ a.known ≤ d.known) : followsR ds d = 0 := by
  unfold followsR
  rw [if_neg (by simp [hv])]
  cases hl : ds.getLast? with
  | none => rfl
  | some a =>
    have := ha a hl
    simp only
    rw [if_neg (by omega)]
theorem check_gen {ds : List Dec} (h : Gen zeroDec ds) (hl : ds.length ≤ 128) : checkR ds = 0 := by
  have hbd := h.mem_bd
  simp only [zeroDec] at hbd
  unfold checkR
  rw [if_neg (by omega)]
  have : ∀ f k, checkFrom ds f k = 0 := by
    intro f
    induction f with
    | zero => intro k; rfl
    | succ f ih =>
      intro k
      unfold checkFrom
      cases hk : ds[k]? with
      | none => rfl
      | some d =>
        have hm := hbd d (List.mem_of_getElem? hk)
        have hf : followsR (ds.take k) d = 0 := by
          refine follows_gen (by simp [validB]; omega) fun a ha => ?_
          rw [List.getLast?_eq_getElem?, List.getElem?_take] at ha
          split at ha
          · exact h.sorted _ _ _ _ (by omega) ha hk
          · cases ha
        simp only
        rw [if_neg (by simp [hf])]
        exact ih _
  exact this _ _
theorem then_day {ds : List Dec} (n : Int) : ∀ d ∈ ds.take (cnt ds n), d.day ≤ n := by
  intro d hd
  rw [take_cnt] at hd
  induction ds with
  | nil => cases hd
  | cons b l ih =>
    by_cases hb : b.day ≤ n
    · rw [List.takeWhile_cons_of_pos (by simpa using hb)] at hd
      rcases List.mem_cons.1 hd with rfl | hd
      · exact hb
      · exact ih hd
    · rw [List.takeWhile_cons_of_neg (by simpa using hb)] at hd
      cases hd
theorem then_differ {ds : List Dec} {k : Nat} (hk : k ≤ ds.length) {i : Nat} {b : Bool} (h : DiffIs (ds.take k) ds i b) : b = decide (k < ds.length) ∧ (b = true → i = k) := by
  have hlk : (ds.take k).length = k := by rw [List.length_take]; omega
  rcases h with ⟨rfl, h1, h2⟩ | ⟨rfl, rfl, h1⟩
  · have hik : k ≤ i := by
      rcases Nat.lt_or_ge i k with hlt | hge
      · exact absurd (List.getElem?_take_of_lt hlt) h2
      · exact hge
    have hlen := congrArg List.length h1
    rw [List.length_take, List.length_take, List.length_take] at hlen
    have hkl : k < ds.length := by
      rcases Nat.lt_or_ge k ds.length with hlt | hge
      · exact hlt
      · rw [List.take_of_length_le (by omega)] at h2
        exact absurd rfl h2
    exact ⟨by simp [hkl], fun _ => by omega⟩
  · have hlen := congrArg List.length h1
    rw [hlk] at hlen
    exact ⟨by simp [hlen], fun h => by cases h⟩
end Go.Proofs.Ytnimpcffagidoaa
