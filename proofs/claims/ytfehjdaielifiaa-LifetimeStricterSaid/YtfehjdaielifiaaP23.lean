/-
  Plain laws on what fails: fewer allowed days, more links.
-/
import Derived.Test.YtfehjdaielifiaaP22
set_option linter.unusedSimpArgs false
set_option linter.unusedVariables false
namespace Go.Proofs.Ytfehjdaielifiaa.K
open Go.RowKit
/-! a use's fall -/
theorem fallA {y : Policy} {u : Keep} {p d f : Int} (h : polOk y = true) (hf : fallL (spansF y u p) = (f, true)) (h0 : 0 ≤ d) (h1 : d ≤ 40000) (hd : f ≤ d) : allF y u p d = false := by
  cases hq : allF y u p d with
  | false => rfl
  | true =>
    obtain ⟨k, hk, k1, k2⟩ := (spans_in h h0 h1).2 hq
    rcases fall_cases (u := u) (p := p) h with ⟨e, _⟩ | ⟨l, s, e, g1, g2, g3, g4, ef⟩
    · rw [e] at hk; cases hk
    · rw [ef] at hf
      rw [e] at hk
      split at hf
      · injection hf with hf _
        rcases List.mem_append.1 hk with hk | hk
        · have := g4 k hk
          omega
        · rw [List.mem_singleton.1 hk] at k2
          omega
      · injection hf with _ hf
        cases hf
theorem fallI {y : Policy} {u : Keep} {p f : Int} (h : polOk y = true) (hf : fallL (spansF y u p) = (f, true)) : 0 ≤ f ∧ f ≤ 40000 := by
  rcases fall_cases (u := u) (p := p) h with ⟨e, ef⟩ | ⟨l, s, e, g1, g2, g3, g4, ef⟩
  · rw [ef] at hf
    injection hf with hf _
    omega
  · rw [ef] at hf
    split at hf
    · injection hf with hf _
      omega
    · injection hf with _ hf
      cases hf
/-- the last allowed day -/
theorem fallB {y : Policy} {u : Keep} {p f : Int} (h : polOk y = true) (hf : fallL (spansF y u p) = (f, true)) (h0 : 0 < f) : allF y u p (f - 1) = true := by
  rcases fall_cases (u := u) (p := p) h with ⟨e, ef⟩ | ⟨l, s, e, g1, g2, g3, g4, ef⟩
  · rw [ef] at hf
    injection hf with hf _
    omega
  · rw [ef] at hf
    split at hf
    · injection hf with hf _
      exact (spans_in h (by omega) (by omega)).1 ⟨s, by rw [e]; simp, by unfold inK; omega⟩
    · injection hf with _ hf
      cases hf
theorem fallN {y : Policy} {u : Keep} {p : Int} (h : polOk y = true) (hf : (fallL (spansF y u p)).2 = false) : allF y u p 40000 = true := by
  rcases fall_cases (u := u) (p := p) h with ⟨e, ef⟩ | ⟨l, s, e, g1, g2, g3, g4, ef⟩
  · rw [ef] at hf
    cases hf
  · rw [ef] at hf
    split at hf
    · cases hf
    · exact (spans_in h (by omega) (by omega)).1 ⟨s, by rw [e]; simp, by unfold inK; omega⟩
theorem fall_mono {y z : Policy} {u : Keep} {p f : Int} (hy : polOk y = true) (hz : polOk z = true) (ha : ∀ d, 0 ≤ d → d ≤ 40000 → allF z u p d = true → allF y u p d = true) (hf : fallL (spansF y u p) = (f, true)) : ∃ g, fallL (spansF z u p) = (g, true) ∧ g ≤ f := by
  have hi := fallI hy hf
  cases hb : (fallL (spansF z u p)).2 with
  | false =>
    have h1 := ha 40000 (by omega) (by omega) (fallN hz hb)
    rw [fallA hy hf (by omega) (by omega) hi.2] at h1
    cases h1
  | true =>
    obtain ⟨g, hg⟩ : ∃ g, fallL (spansF z u p) = (g, true) := ⟨_, Prod.ext rfl hb⟩
    refine ⟨g, hg, ?_⟩
    have hj := fallI hz hg
    by_cases h0 : 0 < g
    · by_cases h1 : g ≤ f
      · exact h1
      · have h2 := ha (g - 1) (by omega) (by omega) (fallB hz hg h0)
        rw [fallA hy hf (by omega) (by omega) (by omega)] at h2
        cases h2
    · omega
theorem decLl {rs : List Rule} {u : Keep} {q d : Int} {i : Nat} (h : decL rs u q d = some i) : i < rs.length := (lastI_some.1 h).1
theorem decLa {l : List Rule} {a : Rule} {u : Keep} {q d : Int} : decL (l ++ [a]) u q d = if matches' a u q d then some l.length else decL l u q d := by
  unfold decL
  rw [lastI_app]
  unfold lastI lastI
  by_cases hm : matches' a u q d = true
  · simp only [if_pos hm]
    rfl
  · simp only [if_neg hm]
/-- a rule more that forbids -/
theorem all_more {y : Policy} {r : Rule} (hr : r.1 = false) {ks : List Keep} {u : Keep} {p d : Int} (h : allF (y.1 ++ [r], (ks, ())) u p d = true) : allF y u p d = true := by
  unfold allF allL at h ⊢
  rw [decLa] at h
  split at h
  · rename_i k hk
    by_cases hm : matches' r u p d = true
    · rw [if_pos hm] at hk
      injection hk with hk
      subst hk
      simp only [List.getElem?_append_right (Nat.le_refl _), Nat.sub_self, List.getElem?_cons_zero, Option.map_some, Option.getD_some] at h
      simp [hr] at h
    · rw [if_neg hm] at hk
      rw [hk]
      have := decLl hk
      simp only [List.getElem?_append_left this] at h
      exact h
  · rename_i hk
    by_cases hm : matches' r u p d = true
    · rw [if_pos hm] at hk
      cases hk
    · rw [if_neg hm] at hk
      rw [hk]
/-! a secret -/
theorem sec_step (s : Int × Bool) (a : LinkX) : (s.2 = true → (secStep s a).2 = true ∧ (secStep s a).1 ≤ s.1) ∧ (a.2.2.1 = true → (secStep s a).2 = true ∧ (secStep s a).1 ≤ (goneV a).1) ∧ ((secStep s a).2 = true → secStep s a = s ∨ (a.2.2.1 = true ∧ (secStep s a).1 = (goneV a).1)) := by
  obtain ⟨n, b⟩ := s
  have hg : (goneV a).2 = a.2.2.1 := rfl
  unfold secStep
  rw [hg]
  cases ha : a.2.2.1 with
  | false => simp
  | true =>
    cases b with
    | false => simp
    | true =>
      by_cases hl : (goneV a).1 < n
      · have : ilt (goneV a).1 n = true := decide_eq_true hl
        simp only [this, Bool.not_true, Bool.false_or, Bool.and_true, if_true]
        refine ⟨fun _ => ⟨trivial, by omega⟩, fun _ => ⟨trivial, Int.le_refl _⟩, fun _ => .inr ⟨trivial, trivial⟩⟩
      · have : ilt (goneV a).1 n = false := decide_eq_false hl
        simp only [this, Bool.not_true, Bool.false_or, Bool.and_false, Bool.false_eq_true, if_false]
        refine ⟨fun _ => ⟨trivial, Int.le_refl _⟩, fun _ => ⟨trivial, by omega⟩, fun _ => .inl trivial⟩
theorem sec_fold : ∀ (l : List LinkX) (s : Int × Bool), (s.2 = true → (l.foldl secStep s).2 = true ∧ (l.foldl secStep s).1 ≤ s.1) ∧ (∀ x, x ∈ l → x.2.2.1 = true → (l.foldl secStep s).2 = true ∧ (l.foldl secStep s).1 ≤ (goneV x).1) ∧ ((l.foldl secStep s).2 = true → l.foldl secStep s = s ∨ ∃ x, x ∈ l ∧ x.2.2.1 = true ∧ (goneV x).1 = (l.foldl secStep s).1)
  | [], s => ⟨fun h => ⟨h, Int.le_refl _⟩, fun x hx => (by cases hx), fun _ => .inl rfl⟩
  | a :: l, s => by
    obtain ⟨h1, h2, h3⟩ := sec_step s a
    obtain ⟨g1, g2, g3⟩ := sec_fold l (secStep s a)
    rw [List.foldl_cons]
    refine ⟨fun h => ?_, fun x hx hf => ?_, fun h => ?_⟩
    · have := h1 h
      have := g1 this.1
      exact ⟨this.1, by omega⟩
    · rcases List.mem_cons.1 hx with rfl | hx
      · have q := h2 hf
        have := g1 q.1
        exact ⟨this.1, by omega⟩
      · exact g2 x hx hf
    · rcases g3 h with e | ⟨x, hx, q1, q2⟩
      · rw [e] at h ⊢
        rcases h3 h with e2 | ⟨q1, q2⟩
        · exact .inl e2
        · exact .inr ⟨a, by simp, q1, q2.symm⟩
      · exact .inr ⟨x, by simp [hx], q1, q2⟩
theorem sec_le {l : List LinkX} {x : LinkX} (hx : x ∈ l) (hf : x.2.2.1 = true) : (secFails l).2 = true ∧ (secFails l).1 ≤ (goneV x).1 := (sec_fold l (0, false)).2.1 x hx hf
theorem sec_at {l : List LinkX} (h : (secFails l).2 = true) : ∃ x, x ∈ l ∧ x.2.2.1 = true ∧ (goneV x).1 = (secFails l).1 := by
  rcases (sec_fold l (0, false)).2.2 h with e | h
  · have : secFails l = (0, false) := e
    rw [this] at h
    cases h
  · exact h
theorem gone_eq (x : LinkX) : (goneV x).1 = max x.1 x.2.1 := by
  show imx x.1 x.2.1 = _
  unfold imx
  split <;> omega
def leL (x' x : LinkX) : Prop := x'.1 = x.1 ∧ (x.2.2.1 = true → x'.2.2.1 = true ∧ x'.2.1 ≤ x.2.1)
theorem gone_mono {a b : LinkX} (h : leL a b) (hb : b.2.2.1 = true) : a.2.2.1 = true ∧ (goneV a).1 ≤ (goneV b).1 := by
  obtain ⟨h1, h2⟩ := h
  have h2 := h2 hb
  refine ⟨h2.1, ?_⟩
  rw [gone_eq, gone_eq, h1]
  omega
theorem sec_mono {f g : Link → LinkX} {l : List Link} (h : ∀ x, x ∈ l → leL (g x) (f x)) (hs : (secFails (l.map f)).2 = true) : (secFails (l.map g)).2 = true ∧ (secFails (l.map g)).1 ≤ (secFails (l.map f)).1 := by
  obtain ⟨x, hx, h1, h2⟩ := sec_at hs
  obtain ⟨y, hy, rfl⟩ := List.mem_map.1 hx
  obtain ⟨q1, q2⟩ := gone_mono (h y hy) h1
  have := sec_le (List.mem_map_of_mem (f := g) hy) q1
  exact ⟨this.1, by omega⟩
/-! a signature -/
theorem sgLast_one (a : LinkX) : sgLast [a] = a := rfl
theorem sgLast_cons (a b : LinkX) (r : List LinkX) : sgLast (a :: b :: r) = if cnd a b then sgLast (b :: r) else a := by
  simp only [sgLast, sgCount, cntD]
  have e : cntL a (b :: r) = if cnd a b then cntL b r + 1 else 0 := rfl
  rw [e]
  by_cases h : cnd a b = true
  · rw [if_pos h, if_pos h]
    have e1 : (1 + ((cntL b r + 1 : Nat) : Int) - 1).toNat = cntL b r + 1 := by omega
    have e2 : (1 + ((cntL b r : Nat) : Int) - 1).toNat = cntL b r := by omega
    rw [e1, e2]
    rfl
  · rw [if_neg h, if_neg h]
    rfl
theorem sgF_eq (l : List LinkX) : sgFails l = if (goneV (sgLast l)).2 then ((goneV (sgLast l)).1, true) else (0, false) := rfl
theorem sgF_true {l : List LinkX} : (sgFails l).2 = true ↔ (sgLast l).2.2.1 = true := by
  rw [sgF_eq]
  show (if (sgLast l).2.2.1 then ((goneV (sgLast l)).1, true) else (0, false)).2 = true ↔ _
  split <;> simp [*]
theorem sgF_val {l : List LinkX} (h : (sgLast l).2.2.1 = true) : sgFails l = ((goneV (sgLast l)).1, true) := by
  rw [sgF_eq]
  exact if_pos h
theorem sg_low : ∀ (r : List LinkX) (a : LinkX), (a :: r).Pairwise (fun x y => x.1 < y.1) → a.1 ≤ (sgLast (a :: r)).1
  | [], a, _ => Int.le_refl _
  | b :: r, a, h => by
    obtain ⟨h1, h2⟩ := List.pairwise_cons.1 h
    have := sg_low r b h2
    have := h1 b (by simp)
    rw [sgLast_cons]
    split <;> omega
theorem cnd_false {a b : LinkX} : cnd a b = false ↔ a.2.2.1 = true ∧ a.2.1 ≤ b.1 := by
  unfold cnd ilt
  rw [Bool.or_eq_false_iff, Bool.not_eq_false', decide_eq_false_iff_not, Int.not_lt]
theorem sg_mono {f g : Link → LinkX} (hd : ∀ x, (f x).1 = x.2.1) : ∀ (r : List Link) (a : Link), (a :: r).Pairwise (fun x y => x.2.1 < y.2.1) → (∀ x, x ∈ a :: r → leL (g x) (f x)) → (sgFails ((a :: r).map f)).2 = true → (sgFails ((a :: r).map g)).2 = true ∧ (sgFails ((a :: r).map g)).1 ≤ (sgFails ((a :: r).map f)).1
  | [], a, _, h, hs => by
    have hs := sgF_true.1 hs
    obtain ⟨q1, q2⟩ := gone_mono (h a (by simp)) hs
    have e1 : sgFails (([a] : List Link).map g) = ((goneV (g a)).1, true) := sgF_val q1
    have e2 : sgFails (([a] : List Link).map f) = ((goneV (f a)).1, true) := sgF_val hs
    rw [e1, e2]
    exact ⟨rfl, q2⟩
  | b :: r, a, hp, h, hs => by
    obtain ⟨p1, p2⟩ := List.pairwise_cons.1 hp
    have hab := p1 b (by simp)
    have ha := h a (by simp)
    have hb := h b (by simp)
    have hs1 := sgF_true.1 hs
    have low := sg_low (r.map f) (f b) (by
      show ((b :: r).map f).Pairwise _
      rw [List.pairwise_map]
      simp only [hd]
      exact p2)
    have ih := sg_mono hd r b p2 (fun x hx => h x (by simp at hx; simp [hx]))
    have ef := sgLast_cons (f a) (f b) (r.map f)
    have eg := sgLast_cons (g a) (g b) (r.map g)
    simp only [List.map_cons] at hs1 ih ⊢
    by_cases c1 : cnd (f a) (f b) = true
    · rw [if_pos c1] at ef
      have c1 : sgFails (f a :: f b :: r.map f) = sgFails (f b :: r.map f) := by rw [sgF_eq, sgF_eq, ef]
      rw [ef] at hs1
      by_cases c2 : cnd (g a) (g b) = true
      · rw [if_pos c2] at eg
        have c2 : sgFails (g a :: g b :: r.map g) = sgFails (g b :: r.map g) := by rw [sgF_eq, sgF_eq, eg]
        rw [c1, c2]
        exact ih (sgF_true.2 hs1)
      · rw [if_neg c2] at eg
        obtain ⟨q1, q2⟩ := cnd_false.1 (by simpa using c2)
        rw [c1, sgF_val (l := g a :: g b :: r.map g) (by rw [eg]; exact q1), eg, sgF_val hs1]
        refine ⟨rfl, ?_⟩
        simp only [gone_eq]
        rw [hb.1, hd b] at q2
        rw [ha.1, hd a]
        rw [hd b] at low
        omega
    · rw [if_neg c1] at ef
      have c1 := cnd_false.1 (show cnd (f a) (f b) = false by simpa using c1)
      obtain ⟨q1, q2⟩ := ha.2 c1.1
      have c2 : cnd (g a) (g b) = false := cnd_false.2 ⟨q1, by rw [hb.1]; omega⟩
      rw [if_neg (by rw [c2]; simp)] at eg
      rw [sgF_val (l := g a :: g b :: r.map g) (by rw [eg]; exact q1), eg, sgF_val (l := f a :: f b :: r.map f) (by rw [ef]; exact c1.1), ef]
      exact ⟨rfl, (gone_mono ha c1.1).2⟩
theorem linksB_asc : ∀ {l : List Link} {pv : Option Int}, linksB pv l = true → l.Pairwise (fun x y => x.2.1 < y.2.1) ∧ ∀ d, pv = some d → ∀ x, x ∈ l → d < x.2.1
  | [], _, _ => ⟨List.Pairwise.nil, fun d _ x hx => (by cases hx)⟩
  | a :: l, pv, h => by
    rw [linksB_cons, Bool.and_eq_true, Bool.and_eq_true, Bool.and_eq_true] at h
    obtain ⟨h1, h2⟩ := linksB_asc h.2
    refine ⟨List.pairwise_cons.2 ⟨fun x hx => h2 a.2.1 rfl x hx, h1⟩, fun d hd x hx => ?_⟩
    subst hd
    have h3 : a.2.1 > d := of_decide_eq_true h.1.2
    rcases List.mem_cons.1 hx with rfl | hx
    · exact h3
    · have := h2 a.2.1 rfl x hx
      omega
theorem lk_mono {y z : Policy} {p : Int} (hy : polOk y = true) (hz : polOk z = true) (ha : ∀ u d, 0 ≤ d → d ≤ 40000 → allF z u p d = true → allF y u p d = true) (x : Link) : leL (lkF z p x) (lkF y p x) := by
  refine ⟨rfl, fun h => ?_⟩
  obtain ⟨f, hf⟩ : ∃ f, fallL (spansF y x.1 p) = (f, true) := ⟨_, Prod.ext rfl h⟩
  obtain ⟨g, hg, hle⟩ := fall_mono hy hz (ha x.1) hf
  show (fallL (spansF z x.1 p)).2 = true ∧ (fallL (spansF z x.1 p)).1 ≤ (fallL (spansF y x.1 p)).1
  rw [hg, hf]
  exact ⟨rfl, hle⟩
/-- nothing fails later under fewer allowed days -/
theorem fails_mono {y z : Policy} {i : Item} (hy : polOk y = true) (hz : polOk z = true) (hi : itemOk i = true) (ha : ∀ u d, 0 ≤ d → d ≤ 40000 → allF z u i.2.2.1 d = true → allF y u i.2.2.1 d = true) (hf : (failsL y i).2 = true) : (failsL z i).2 = true ∧ (failsL z i).1 ≤ (failsL y i).1 := by
  have hI := itemOk_iff.1 hi
  have hl := linksB_asc hI.2.2.2.2.1
  unfold failsL at hf ⊢
  by_cases hk : ieq i.2.1 1 = true
  · rw [if_pos hk] at hf ⊢
    rw [if_pos hk]
    exact sec_mono (fun x _ => lk_mono hy hz ha x) hf
  · rw [if_neg hk] at hf ⊢
    rw [if_neg hk]
    unfold lksF at hf ⊢
    cases hq : i.2.2.2.1 with
    | nil => rw [hq] at hI; simp at hI
    | cons a r =>
      rw [hq] at hf hl
      exact sg_mono (f := lkF y i.2.2.1) (g := lkF z i.2.2.1) (fun x => rfl) r a hl.1 (fun x _ => lk_mono hy hz ha x) hf
theorem valid_alg {u : Keep} (h : validF u = true) : 1 ≤ u.1 ∧ u.1 ≤ 22 := by
  have h : strF u > 0 := of_decide_eq_true h
  refine Classical.byContradiction fun hn => ?_
  have e : strF u = amongF u.2.1 [0] [singleF u.1] := by
    unfold strF
    rw [if_neg (by omega), if_neg (by omega), if_neg (by omega), if_neg (by omega), if_neg (by omega), if_neg (by omega), if_neg (by omega)]
  have e2 : singleF u.1 = 0 := by
    unfold singleF
    rw [if_neg (by omega), if_neg (by omega), if_neg (by omega), if_neg (by omega), if_neg (by omega), if_neg (by omega), if_neg (by omega)]
  rw [e, e2] at h
  unfold amongF at h
  split at h
  · rename_i k hk
    have := idxN_lt hk
    simp only [List.length_singleton] at this
    have : k = 0 := by omega
    subst this
    simp at h
  · omega
end Go.Proofs.Ytfehjdaielifiaa.K
