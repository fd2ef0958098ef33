/-
  Plain laws on what was changed, and on the latest decision.
-/
import Derived.Test.YtnimpcffagidoaaE7
namespace Go.Proofs.Ytnimpcffagidoaa
open Go.RowKit
set_option linter.unusedSimpArgs false
set_option linter.unusedVariables false

theorem Gen.mem_bd {a : Dec} {l : List Dec} (h : Gen a l) : ∀ d ∈ l, a.day ≤ d.day ∧ d.day ≤ a.day + 2 * l.length ∧ a.known ≤ d.known ∧ d.known ≤ a.known + l.length ∧ 1 ≤ d.kind ∧ d.kind ≤ 5 ∧ 0 ≤ d.subject ∧ d.subject ≤ 2 ∧ 0 ≤ d.value ∧ d.value ≤ 1 := by
  induction l generalizing a with
  | nil => intro d hd; cases hd
  | cons b l ih =>
    obtain ⟨h1, h2⟩ := h
    simp only [Follows] at h1
    intro d hd
    simp only [List.length_cons]
    rcases List.mem_cons.1 hd with rfl | hd
    · omega
    · have := ih h2 d hd
      omega
theorem cnt_all (ds : List Dec) (day : Int) (h : ∀ d ∈ ds, d.day ≤ day) : cnt ds day = ds.length := by
  unfold cnt
  induction ds with
  | nil => rfl
  | cons b l ih =>
    rw [List.takeWhile_cons_of_pos (by simpa using h b (by simp)), List.length_cons, List.length_cons, ih fun d hd => h d (List.mem_cons_of_mem _ hd)]
theorem latest_all (ds : List Dec) (k s day : Int) (h : ∀ d ∈ ds, d.day ≤ day) : latestR ds k s day = ds.reverse.find? (isOn k s) := by
  unfold latestR
  rw [cnt_all ds day h, List.take_length]
theorem ixD_at {c : List Nat} {j n : Nat} (h : c[j]? = some n) : (ixD c).drop (j * 1) = D.i n :: ixD (c.drop (j + 1)) := by
  rw [Nat.mul_one]
  unfold ixD
  rw [← List.map_drop, List.drop_eq_getElem_cons (List.getElem?_eq_some_iff.1 h).1, (List.getElem?_eq_some_iff.1 h).2]
  simp

/-- what stands behind each index of the list -/
def ChA (ds : List Dec) (k s : Int) (i : Nat) (c : List Nat) : Prop :=
  ∀ j n, c[j]? = some n → n < i ∧ ∃ d, ds[n]? = some d ∧ isOn k s d = true ∧ ∀ j', j = j' + 1 → ∃ m d', c[j']? = some m ∧ m < n ∧ ds[m]? = some d' ∧ d'.value ≠ d.value
def ChB (ds : List Dec) (k s : Int) (i : Nat) (c : List Nat) (v : Int) : Prop :=
  (c = [] ∧ v = -1 ∧ (ds.take i).reverse.find? (isOn k s) = none) ∨ (∃ m d d', c.getLast? = some m ∧ ds[m]? = some d ∧ d.value = v ∧ (ds.take i).reverse.find? (isOn k s) = some d' ∧ d'.value = v)
theorem chg_inv (ds : List Dec) (k s : Int) (hv : ∀ d ∈ ds, d.value ≠ -1) : ∀ i, i ≤ ds.length → ChA ds k s i (chgS ds k s i).1 ∧ ChB ds k s i (chgS ds k s i).1 (chgS ds k s i).2 := by
  intro i
  induction i with
  | zero =>
    intro _
    exact ⟨fun j n h => by simp [chgS] at h, .inl ⟨rfl, rfl, by simp⟩⟩
  | succ i ih =>
    intro hi
    obtain ⟨ha, hb⟩ := ih (by omega)
    obtain ⟨d, hd⟩ : ∃ d, ds[i]? = some d := ⟨_, List.getElem?_eq_getElem (by omega)⟩
    have hmem : d ∈ ds := List.mem_of_getElem? hd
    have hf : (ds.take (i + 1)).reverse.find? (isOn k s) = if isOn k s d then some d else (ds.take i).reverse.find? (isOn k s) := by
      rw [take_snoc3 hd]
      simp only [List.reverse_append, List.reverse_cons, List.reverse_nil, List.nil_append, List.cons_append, List.find?_cons]
      cases isOn k s d <;> rfl
    simp only [chgS, hd]
    generalize chgS ds k s i = p at *
    obtain ⟨c, v⟩ := p
    simp only at ha hb ⊢
    cases hon : isOn k s d with
    | false =>
      simp only [Bool.false_eq_true, if_false]
      rw [hon] at hf
      simp only [Bool.false_eq_true, if_false] at hf
      refine ⟨fun j n h => ?_, ?_⟩
      · obtain ⟨h1, h2⟩ := ha j n h
        exact ⟨by omega, h2⟩
      · unfold ChB
        rw [hf]
        exact hb
    | true =>
      simp only [if_true]
      rw [hon] at hf
      simp only [if_true] at hf
      by_cases he : d.value = v
      · rw [if_pos he]
        refine ⟨fun j n h => ?_, ?_⟩
        · obtain ⟨h1, h2⟩ := ha j n h
          exact ⟨by omega, h2⟩
        · unfold ChB
          rw [hf]
          rcases hb with ⟨_, h2, _⟩ | ⟨m, dm, d', h1, h2, h3, h4, h5⟩
          · exact absurd (he.trans h2) (hv d hmem)
          · exact .inr ⟨m, dm, d, h1, h2, by omega, rfl, rfl⟩
      · rw [if_neg he]
        refine ⟨fun j n h => ?_, ?_⟩
        · rcases Nat.lt_or_ge j c.length with hlt | hge
          · rw [List.getElem?_append_left hlt] at h
            obtain ⟨h1, d0, h2, h3, h4⟩ := ha j n h
            refine ⟨by omega, d0, h2, h3, fun j' hj => ?_⟩
            obtain ⟨m, d', q1, q2⟩ := h4 j' hj
            exact ⟨m, d', by rw [List.getElem?_append_left (by omega)]; exact q1, q2⟩
          · rw [List.getElem?_append_right hge] at h
            have hj0 : j - c.length = 0 := by
              have := (List.getElem?_eq_some_iff.1 h).1
              simp at this
              omega
            rw [hj0] at h
            simp at h
            subst h
            refine ⟨by omega, d, hd, hon, fun j' hj => ?_⟩
            have hjl : j' = c.length - 1 := by omega
            rcases hb with ⟨h1, _, _⟩ | ⟨m, dm, d', h1, h2, h3, h4, h5⟩
            · subst h1; simp at hge hj0; omega
            · have hm : c[j']? = some m := by rw [hjl, ← List.getLast?_eq_getElem?]; exact h1
              obtain ⟨g1, _⟩ := ha _ _ hm
              exact ⟨m, dm, by rw [List.getElem?_append_left (List.getElem?_eq_some_iff.1 hm).1]; exact hm, g1, h2, by omega⟩
        · refine .inr ⟨i, d, d, by simp, hd, rfl, hf, rfl⟩
theorem chg_elem {ds : List Dec} {k s : Int} (hv : ∀ d ∈ ds, d.value ≠ -1) {j n : Nat} (h : (chg ds k s)[j]? = some n) : n < ds.length ∧ ∃ d, ds[n]? = some d ∧ isOn k s d = true ∧ ∀ j', j = j' + 1 → ∃ m d', (chg ds k s)[j']? = some m ∧ m < n ∧ ds[m]? = some d' ∧ d'.value ≠ d.value :=
  (chg_inv ds k s hv ds.length (Nat.le_refl _)).1 j n h
theorem chg_last {ds : List Dec} {k s : Int} (hv : ∀ d ∈ ds, d.value ≠ -1) : (chg ds k s = [] ∧ ds.reverse.find? (isOn k s) = none) ∨ (∃ m d d', (chg ds k s).getLast? = some m ∧ ds[m]? = some d ∧ ds.reverse.find? (isOn k s) = some d' ∧ d.value = d'.value) := by
  have h := (chg_inv ds k s hv ds.length (Nat.le_refl _)).2
  unfold ChB at h
  rw [List.take_length] at h
  rcases h with ⟨h1, _, h3⟩ | ⟨m, d, d', h1, h2, h3, h4, h5⟩
  · exact .inl ⟨h1, h3⟩
  · exact .inr ⟨m, d, d', h1, h2, h4, by omega⟩
end Go.Proofs.Ytnimpcffagidoaa
