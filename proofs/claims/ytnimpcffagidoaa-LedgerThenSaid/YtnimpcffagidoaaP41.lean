/-
  Plain laws on ledgers.
-/
import Derived.Test.YtnimpcffagidoaaE3
namespace Go.Proofs.Ytnimpcffagidoaa
open Go.RowKit
set_option linter.unusedSimpArgs false
set_option linter.unusedVariables false

theorem Gen.days_ge {a : Dec} {l : List Dec} (h : Gen a l) : ∀ d ∈ l, a.day ≤ d.day ∧ a.known ≤ d.known := by
  induction l generalizing a with
  | nil => intro d hd; cases hd
  | cons b l ih =>
    obtain ⟨h1, h2⟩ := h
    simp only [Follows] at h1
    intro d hd
    rcases List.mem_cons.1 hd with rfl | hd
    · omega
    · have := ih h2 d hd
      omega
theorem Gen.days {a : Dec} {l : List Dec} (h : Gen a l) : Days l := by
  induction l generalizing a with
  | nil => intro i j x y _ hx; simp at hx
  | cons b l ih =>
    intro i j x y hij hx hy
    cases i with
    | zero =>
      simp at hx
      subst hx
      cases j with
      | zero => simp at hy; subst hy; omega
      | succ j => exact (h.2.days_ge y (List.mem_of_getElem? (by simpa using hy))).1
    | succ i =>
      cases j with
      | zero => omega
      | succ j => exact ih h.2 i j x y (by omega) (by simpa using hx) (by simpa using hy)
theorem take_cnt (ds : List Dec) (day : Int) : ds.take (cnt ds day) = ds.takeWhile fun d => decide (d.day ≤ day) :=
  (List.prefix_iff_eq_take.1 (List.takeWhile_prefix _)).symm
def wantF (day : Int) (n : Int) (l : List Dec) : Int := l.foldl (fun a d => if d.day ≤ day then d.known else a) n
theorem wantF_late {a : Dec} {l : List Dec} (h : Gen a l) (day n : Int) (ha : day < a.day) : wantF day n l = n := by
  have hd := h.days_ge
  clear h
  induction l with
  | nil => rfl
  | cons b l ih =>
    have h1 := (hd b (by simp)).1
    simp only [wantF, List.foldl_cons]
    rw [if_neg (by omega)]
    exact ih fun d hm => hd d (List.mem_cons_of_mem _ hm)
theorem wantF_is {a : Dec} {l : List Dec} (h : Gen a l) (day : Int) : wantF day a.known l = (l.takeWhile fun d => decide (d.day ≤ day)).foldl (fun n d => max n d.known) a.known := by
  induction l generalizing a with
  | nil => rfl
  | cons b l ih =>
    obtain ⟨h1, h2⟩ := h
    simp only [Follows] at h1
    by_cases hb : b.day ≤ day
    · have : (b :: l).takeWhile (fun d => decide (d.day ≤ day)) = b :: l.takeWhile fun d => decide (d.day ≤ day) := by simp [hb]
      rw [this]
      simp only [wantF, List.foldl_cons]
      rw [if_pos hb, Int.max_eq_right (by omega)]
      exact ih h2
    · have : (b :: l).takeWhile (fun d => decide (d.day ≤ day)) = [] := by simp [hb]
      rw [this]
      simp only [wantF, List.foldl_cons, List.foldl_nil]
      rw [if_neg hb]
      exact wantF_late h2 day _ (by omega)
theorem want_known {ds : List Dec} (h : Gen zeroDec ds) (day : Int) : wantF day 0 ds = maxK (ds.take (cnt ds day)) := by
  rw [take_cnt]
  exact wantF_is h day
theorem maxF_le (n : Int) (l : List Dec) : n ≤ l.foldl (fun n d => max n d.known) n := by
  induction l generalizing n with
  | nil => exact Int.le_refl _
  | cons b l ih => exact Int.le_trans (Int.le_max_left n b.known) (ih _)
theorem known_mono (ds : List Dec) (x y : Int) (h : x ≤ y) : maxK (ds.take (cnt ds x)) ≤ maxK (ds.take (cnt ds y)) := by
  rw [take_cnt, take_cnt]
  unfold maxK
  generalize (0 : Int) = n
  induction ds generalizing n with
  | nil => exact Int.le_refl _
  | cons b l ih =>
    by_cases hb : b.day ≤ x
    · rw [List.takeWhile_cons_of_pos (by simpa using hb), List.takeWhile_cons_of_pos (by simp; omega)]
      exact ih _
    · rw [List.takeWhile_cons_of_neg (by simpa using hb)]
      exact maxF_le _ _
theorem known_early {ds : List Dec} (h : Gen zeroDec ds) (day : Int) (hd : day < 0) : maxK (ds.take (cnt ds day)) = 0 := by
  rw [← want_known h]
  exact wantF_late h day 0 hd
theorem cellsD_at {ds : List Dec} {k : Nat} {d : Dec} (h : ds[k]? = some d) : (cellsD ds).drop (k * 5) = .i d.day :: .i d.known :: .i d.kind :: .i d.subject :: .i d.value :: cellsD (ds.drop (k + 1)) := by
  induction ds generalizing k with
  | nil => simp at h
  | cons b l ih =>
    cases k with
    | zero => simp at h; subst h; rfl
    | succ k =>
      have : (k + 1) * 5 = (k * 5) + 5 := by omega
      rw [this]
      show ([D.i b.day, D.i b.known, D.i b.kind, D.i b.subject, D.i b.value] ++ cellsD l).drop (k * 5 + 5) = _
      rw [Nat.add_comm, ← List.drop_drop]
      exact ih (by simpa using h)
end Go.Proofs.Ytnimpcffagidoaa
