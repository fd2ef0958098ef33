/-
  Plain laws on ledgers (for the texts in types).
-/
import Derived.Test.YtnimpcffagidoaaAwake41
import Derived.Test.YtnimpcffagidoaaSame
namespace Go.Proofs.Ytnimpcffagidoaa
open Go.RowKit
set_option linter.unusedSimpArgs false
set_option linter.unusedVariables false


theorem Gen.days_ge {a : Dec} {l : List Dec} (h : Gen a l) : ∀ d ∈ l, a.day ≤ d.day ∧ a.known ≤ d.known := by
  induction l generalizing a with
  | nil => intro d hd; cases hd
  | cons b l ih =>
    obtain ⟨h1, h2⟩ := h
    simp only [Follows] at h1
    intro d hd
    rcases List.mem_cons.1 hd with rfl | hd
    · omega
    · have := ih h2 d hd
      omega
theorem Gen.days {a : Dec} {l : List Dec} (h : Gen a l) : Days l := by
  induction l generalizing a with
  | nil => intro i j x y _ hx; simp at hx
  | cons b l ih =>
    intro i j x y hij hx hy
    cases i with
    | zero =>
      simp at hx
      subst hx
      cases j with
      | zero => simp at hy; subst hy; omega
      | succ j => exact (h.2.days_ge y (List.mem_of_getElem? (by simpa using hy))).1
    | succ i =>
      cases j with
      | zero => omega
      | succ j => exact ih h.2 i j x y (by omega) (by simpa using hx) (by simpa using hy)
theorem take_cnt (ds : List Dec) (day : Int) : ds.take (cnt ds day) = ds.takeWhile fun d => decide (d.day ≤ day) :=
  (List.prefix_iff_eq_take.1 (List.takeWhile_prefix _)).symm
def wantF (day : Int) (n : Int) (l : List Dec) : Int := l.foldl (fun a d => if d.day ≤ day then d.known else a) n
theorem wantF_late {a : Dec} {l : List Dec} (h : Gen a l) (day n : Int) (ha : day < a.day) : wantF day n l = n := by
  have hd := h.days_ge
  clear h
  induction l with
  | nil => rfl
  | cons b l ih =>
    have h1 := (hd b (by simp)).1
    simp only [wantF, List.foldl_cons]
    rw [if_neg (by omega)]
    exact ih fun d hm => hd d (List.mem_cons_of_mem _ hm)
theorem wantF_is {a : Dec} {l : List Dec} (h : Gen a l) (day : Int) : wantF day a.known l = (l.takeWhile fun d => decide (d.day ≤ day)).foldl (fun n d => max n d.known) a.known := by
  induction l generalizing a with
  | nil => rfl
  | cons b l ih =>
    obtain ⟨h1, h2⟩ := h
    simp only [Follows] at h1
    by_cases hb : b.day ≤ day
    · have : (b :: l).takeWhile (fun d => decide (d.day ≤ day)) = b :: l.takeWhile fun d => decide (d.day ≤ day) := by simp [hb]
      rw [this]
      simp only [wantF, List.foldl_cons]
      rw [if_pos hb, Int.max_eq_right (by omega)]
      exact ih h2
    · have : (b :: l).takeWhile (fun d => decide (d.day ≤ day)) = [] := by simp [hb]
      rw [this]
      simp only [wantF, List.foldl_cons, List.foldl_nil]
      rw [if_neg hb]
      exact wantF_late h2 day _ (by omega)
theorem want_known {ds : List Dec} (h : Gen zeroDec ds) (day : Int) : wantF day 0 ds = maxK (ds.take (cnt ds day)) := by
  rw [take_cnt]
  exact wantF_is h day
theorem maxF_le (n : Int) (l : List Dec) : n ≤ l.foldl (fun n d => max n d.known) n := by
  induction l generalizing n with
  | nil => exact Int.le_refl _
  | cons b l ih => exact Int.le_trans (Int.le_max_left n b.known) (ih _)
theorem known_mono (ds : List Dec) (x y : Int) (h : x ≤ y) : maxK (ds.take (cnt ds x)) ≤ maxK (ds.take (cnt ds y)) := by
  rw [take_cnt, take_cnt]
  unfold maxK
  generalize (0 : Int) = n
  induction ds generalizing n with
  | nil => exact Int.le_refl _
  | cons b l ih =>
    by_cases hb : b.day ≤ x
    · rw [List.takeWhile_cons_of_pos (by simpa using hb), List.takeWhile_cons_of_pos (by simp; omega)]
      exact ih _
    · rw [List.takeWhile_cons_of_neg (by simpa using hb)]
      exact maxF_le _ _
theorem known_early {ds : List Dec} (h : Gen zeroDec ds) (day : Int) (hd : day < 0) : maxK (ds.take (cnt ds day)) = 0 := by
  rw [← want_known h]
  exact wantF_late h day 0 hd
theorem Gen.mem_bd {a : Dec} {l : List Dec} (h : Gen a l) : ∀ d ∈ l, a.day ≤ d.day ∧ d.day ≤ a.day + 2 * l.length ∧ a.known ≤ d.known ∧ d.known ≤ a.known + l.length ∧ 1 ≤ d.kind ∧ d.kind ≤ 5 ∧ 0 ≤ d.subject ∧ d.subject ≤ 2 ∧ 0 ≤ d.value ∧ d.value ≤ 1 := by
  induction l generalizing a with
  | nil => intro d hd; cases hd
  | cons b l ih =>
    obtain ⟨h1, h2⟩ := h
    simp only [Follows] at h1
    intro d hd
    simp only [List.length_cons]
    rcases List.mem_cons.1 hd with rfl | hd
    · omega
    · have := ih h2 d hd
      omega
theorem cnt_all (ds : List Dec) (day : Int) (h : ∀ d ∈ ds, d.day ≤ day) : cnt ds day = ds.length := by
  unfold cnt
  induction ds with
  | nil => rfl
  | cons b l ih =>
    rw [List.takeWhile_cons_of_pos (by simpa using h b (by simp)), List.length_cons, List.length_cons, ih fun d hd => h d (List.mem_cons_of_mem _ hd)]
theorem latest_all (ds : List Dec) (k s day : Int) (h : ∀ d ∈ ds, d.day ≤ day) : latestR ds k s day = ds.reverse.find? (isOn k s) := by
  unfold latestR
  rw [cnt_all ds day h, List.take_length]


theorem Gen.sorted {a : Dec} {l : List Dec} (h : Gen a l) : ∀ (i j : Nat) (x y : Dec), i ≤ j → l[i]? = some x → l[j]? = some y → x.day ≤ y.day ∧ x.known ≤ y.known := by
  induction l generalizing a with
  | nil => intro i j x y _ hx; simp at hx
  | cons b l ih =>
    intro i j x y hij hx hy
    cases i with
    | zero =>
      simp at hx
      subst hx
      cases j with
      | zero => simp at hy; subst hy; omega
      | succ j => exact h.2.days_ge y (List.mem_of_getElem? (by simpa using hy))
    | succ i =>
      cases j with
      | zero => omega
      | succ j => exact ih h.2 i j x y (by omega) (by simpa using hx) (by simpa using hy)
theorem Gen.take {a : Dec} {l : List Dec} (h : Gen a l) (k : Nat) : Gen a (l.take k) := by
  induction l generalizing a k with
  | nil => simp [Gen]
  | cons b l ih =>
    cases k with
    | zero => simp [Gen]
    | succ k => exact ⟨h.1, ih h.2 k⟩
theorem follows_gen {ds : List Dec} {d : Dec} (hv : validB d = true) (ha : ∀ a, ds.getLast? = some a → a.day ≤ d.day ∧ a.known ≤ d.known) : followsR ds d = 0 := by
  unfold followsR
  rw [if_neg (by simp [hv])]
  cases hl : ds.getLast? with
  | none => rfl
  | some a =>
    have := ha a hl
    simp only
    rw [if_neg (by omega)]
theorem check_gen {ds : List Dec} (h : Gen zeroDec ds) (hl : ds.length ≤ 128) : checkR ds = 0 := by
  have hbd := h.mem_bd
  simp only [zeroDec] at hbd
  unfold checkR
  rw [if_neg (by omega)]
  have : ∀ f k, checkFrom ds f k = 0 := by
    intro f
    induction f with
    | zero => intro k; rfl
    | succ f ih =>
      intro k
      unfold checkFrom
      cases hk : ds[k]? with
      | none => rfl
      | some d =>
        have hm := hbd d (List.mem_of_getElem? hk)
        have hf : followsR (ds.take k) d = 0 := by
          refine follows_gen (by simp [validB]; omega) fun a ha => ?_
          rw [List.getLast?_eq_getElem?, List.getElem?_take] at ha
          split at ha
          · exact h.sorted _ _ _ _ (by omega) ha hk
          · cases ha
        simp only
        rw [if_neg (by simp [hf])]
        exact ih _
  exact this _ _
theorem then_day {ds : List Dec} (n : Int) : ∀ d ∈ ds.take (cnt ds n), d.day ≤ n := by
  intro d hd
  rw [take_cnt] at hd
  induction ds with
  | nil => cases hd
  | cons b l ih =>
    by_cases hb : b.day ≤ n
    · rw [List.takeWhile_cons_of_pos (by simpa using hb)] at hd
      rcases List.mem_cons.1 hd with rfl | hd
      · exact hb
      · exact ih hd
    · rw [List.takeWhile_cons_of_neg (by simpa using hb)] at hd
      cases hd
theorem then_differ {ds : List Dec} {k : Nat} (hk : k ≤ ds.length) {i : Nat} {b : Bool} (h : DiffIs (ds.take k) ds i b) : b = decide (k < ds.length) ∧ (b = true → i = k) := by
  have hlk : (ds.take k).length = k := by rw [List.length_take]; omega
  rcases h with ⟨rfl, h1, h2⟩ | ⟨rfl, rfl, h1⟩
  · have hik : k ≤ i := by
      rcases Nat.lt_or_ge i k with hlt | hge
      · exact absurd (List.getElem?_take_of_lt hlt) h2
      · exact hge
    have hlen := congrArg List.length h1
    rw [List.length_take, List.length_take, List.length_take] at hlen
    have hkl : k < ds.length := by
      rcases Nat.lt_or_ge k ds.length with hlt | hge
      · exact hlt
      · rw [List.take_of_length_le (by omega)] at h2
        exact absurd rfl h2
    exact ⟨by simp [hkl], fun _ => by omega⟩
  · have hlen := congrArg List.length h1
    rw [hlk] at hlen
    exact ⟨by simp [hlen], fun h => by cases h⟩


/-- the last one on the subject up to the day -/
def wantO (k s day : Int) (o : Option Dec) (l : List Dec) : Option Dec := l.foldl (fun o y => if isOn k s y && decide (y.day ≤ day) then some y else o) o
theorem wantO_late {a : Dec} {l : List Dec} (h : Gen a l) (k s day : Int) (o : Option Dec) (ha : day < a.day) : wantO k s day o l = o := by
  have hd := h.days_ge
  clear h
  induction l with
  | nil => rfl
  | cons b l ih =>
    have h1 := (hd b (by simp)).1
    have h2 : decide (b.day ≤ day) = false := by simp; omega
    simp only [wantO, List.foldl_cons, h2, Bool.and_false, Bool.false_eq_true, if_false]
    exact ih fun d hm => hd d (List.mem_cons_of_mem _ hm)
theorem wantO_is {a : Dec} {l : List Dec} (h : Gen a l) (k s day : Int) (o : Option Dec) : wantO k s day o l = (l.takeWhile fun d => decide (d.day ≤ day)).foldl (fun o y => if isOn k s y then some y else o) o := by
  induction l generalizing a o with
  | nil => rfl
  | cons b l ih =>
    obtain ⟨h1, h2⟩ := h
    by_cases hb : b.day ≤ day
    · rw [List.takeWhile_cons_of_pos (by simpa using hb)]
      have h3 : decide (b.day ≤ day) = true := by simpa using hb
      simp only [wantO, List.foldl_cons, h3, Bool.and_true]
      exact ih h2 _
    · rw [List.takeWhile_cons_of_neg (by simpa using hb)]
      have h3 : decide (b.day ≤ day) = false := by simpa using hb
      simp only [wantO, List.foldl_cons, h3, Bool.and_false, Bool.false_eq_true, if_false, List.foldl_nil]
      exact wantO_late h2 k s day o (by omega)
theorem last_find (p : Dec → Bool) (l : List Dec) (o : Option Dec) : l.foldl (fun o y => if p y then some y else o) o = (l.reverse.find? p).or o := by
  induction l generalizing o with
  | nil => simp
  | cons b l ih =>
    simp only [List.foldl_cons, List.reverse_cons, List.find?_append]
    rw [ih]
    cases hp : p b <;> cases List.find? p l.reverse <;> simp [hp]
theorem want_latest {ds : List Dec} (h : Gen zeroDec ds) (k s day : Int) : wantO k s day none ds = latestR ds k s day := by
  rw [wantO_is h, last_find, latestR, take_cnt]
  simp
theorem wantO_snoc (k s day : Int) (o : Option Dec) (l : List Dec) (d : Dec) : wantO k s day o (l ++ [d]) = if isOn k s d && decide (d.day ≤ day) then some d else wantO k s day o l := by
  simp [wantO]
theorem add_gen {ds : List Dec} {x : Dec} (h : Gen zeroDec ds) (hl : ds.length < 128) (hv : validB x = true) (hx : (lastD zeroDec ds).day ≤ x.day ∧ (lastD zeroDec ds).known ≤ x.known) : addR ds x = 0 ∧ addL ds x = ds ++ [x] := by
  have hc := check_gen h (by omega)
  have hf : followsR ds x = 0 := follows_gen hv fun a ha => by
    have : lastD zeroDec ds = a := by simp [lastD, List.getLastD_eq_getLast?, ha]
    rw [this] at hx
    exact hx
  have hr : addR ds x = 0 := by
    unfold addR
    rw [if_neg (by simp [hc]), if_neg (by omega), hf]
  exact ⟨hr, by simp [addL, hr]⟩
theorem latest_new {ds : List Dec} {x : Dec} (h : Gen zeroDec ds) (hx : (lastD zeroDec ds).day ≤ x.day) : latestR (ds ++ [x]) x.kind x.subject x.day = some x := by
  have hall : ∀ d ∈ ds ++ [x], d.day ≤ x.day := by
    intro d hd
    rcases List.mem_append.1 hd with hd | hd
    · obtain ⟨i, hi⟩ := List.mem_iff_getElem?.1 hd
      have hlt := (List.getElem?_eq_some_iff.1 hi).1
      obtain ⟨z, hz⟩ : ∃ z, ds[ds.length - 1]? = some z := ⟨_, List.getElem?_eq_getElem (by omega)⟩
      have h1 := (h.sorted i (ds.length - 1) d z (by omega) hi hz).1
      have h2 : lastD zeroDec ds = z := by simp [lastD, List.getLastD_eq_getLast?, List.getLast?_eq_getElem?, hz]
      rw [h2] at hx
      omega
    · simp at hd
      subst hd
      omega
  rw [latest_all _ _ _ _ hall]
  simp [isOn]
end Go.Proofs.Ytnimpcffagidoaa
