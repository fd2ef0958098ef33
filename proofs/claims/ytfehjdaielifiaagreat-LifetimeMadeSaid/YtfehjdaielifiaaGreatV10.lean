/-
  verdict.Dead.
-/
import Derived.Test.YtfehjdaielifiaaGreatV9
import Derived.Test.YtfehjdaielifiaaGreatB2
set_option linter.unusedSimpArgs false
set_option linter.unusedVariables false
namespace Go.Proofs.YtfehjdaielifiaaGreat.K
open Go.RowKit
/-! what is cut from free days -/
def inK (s : Keep) (d : Int) : Prop := s.1 ≤ d ∧ d < s.2.1
def inL (l : List Keep) (d : Int) : Prop := ∃ s, s ∈ l ∧ inK s d
def wsL (l : List Keep) : Prop := l.Pairwise (fun a b => a.2.1 ≤ b.1) ∧ ∀ a, a ∈ l → a.1 < a.2.1
theorem imx_le {a b c : Int} : imx a b ≤ c ↔ a ≤ c ∧ b ≤ c := by unfold imx; split <;> omega
theorem imx_lt {a b c : Int} : imx a b < c ↔ a < c ∧ b < c := by unfold imx; split <;> omega
theorem lt_imx {a b c : Int} : c < imx a b ↔ c < a ∨ c < b := by unfold imx; split <;> omega
theorem lt_imn {a b c : Int} : c < imn a b ↔ c < a ∧ c < b := by unfold imn; split <;> omega
theorem imn_lt {a b c : Int} : imn a b < c ↔ a < c ∨ b < c := by unfold imn; split <;> omega
theorem imx_cases (a b : Int) : (imx a b = a ∧ b ≤ a) ∨ (imx a b = b ∧ a < b) := by unfold imx; split <;> omega
theorem imn_cases (a b : Int) : (imn a b = a ∧ a ≤ b) ∨ (imn a b = b ∧ b < a) := by unfold imn; split <;> omega
theorem cutS_mem {r : Rule} {s t : Keep} (ht : t ∈ cutS r s) (hs : s.1 < s.2.1) : s.1 ≤ t.1 ∧ t.1 < t.2.1 ∧ t.2.1 ≤ s.2.1 := by
  have h1 := imx_cases s.1 r.2.2.2.2.1
  have h2 := imn_cases s.2.1 r.2.2.2.2.2.1
  unfold cutS at ht
  split at ht
  · rw [List.mem_singleton.1 ht]; omega
  · rename_i hh
    rcases List.mem_append.1 ht with ht | ht
    · split at ht
      · rw [List.mem_singleton.1 ht]; simp only; omega
      · cases ht
    · split at ht
      · rw [List.mem_singleton.1 ht]; simp only; omega
      · cases ht
theorem cutS_in {r : Rule} {s : Keep} {d : Int} : inL (cutS r s) d ↔ inK s d ∧ within' r d = false := by
  have h1 := imx_cases s.1 r.2.2.2.2.1
  have h2 := imn_cases s.2.1 r.2.2.2.2.2.1
  simp only [within', Bool.and_eq_false_iff, decide_eq_false_iff_not, inL, inK, cutS, Item.Name, Item.Kind, Item.Purpose, Item.Links, Item.Until, Policy.Rules, Policy.Keeps, Rule.Allow, Rule.Alg, Rule.Below, Rule.Purpose, Rule.From, Rule.To, Keep.Alg, Keep.Bits, Link.Use, Link.Day, Dice.L, Dice.At, LinkX.day, LinkX.fall, LinkX.falls, Row.name, Row.kind, Row.way, Row.sizes, Row.strengths]
  constructor
  · rintro ⟨t, ht, g1, g2⟩
    split at ht
    · rw [List.mem_singleton.1 ht] at g1 g2
      exact ⟨⟨g1, g2⟩, by omega⟩
    · rcases List.mem_append.1 ht with ht | ht
      · split at ht
        · rw [List.mem_singleton.1 ht] at g1 g2; simp only at g1 g2; exact ⟨⟨g1, by omega⟩, by omega⟩
        · cases ht
      · split at ht
        · rw [List.mem_singleton.1 ht] at g1 g2; simp only at g1 g2; exact ⟨⟨by omega, g2⟩, by omega⟩
        · cases ht
  · rintro ⟨⟨g1, g2⟩, g3⟩
    split
    · exact ⟨s, by simp, g1, g2⟩
    · by_cases g4 : d < imx s.1 r.2.2.2.2.1
      · exact ⟨(s.1, imx s.1 r.2.2.2.2.1, ()), List.mem_append.2 (.inl (by rw [if_pos (by omega)]; simp)), g1, g4⟩
      · exact ⟨(imn s.2.1 r.2.2.2.2.2.1, s.2.1, ()), List.mem_append.2 (.inr (by rw [if_pos (by omega)]; simp)), by simp only; omega, g2⟩
theorem hitS_in {r : Rule} {s : Keep} : hitS r s = true ↔ ∃ d, inK s d ∧ within' r d = true := by
  have h1 := imx_cases s.1 r.2.2.2.2.1
  have h2 := imn_cases s.2.1 r.2.2.2.2.2.1
  simp only [hitS, within', Bool.and_eq_true, decide_eq_true_eq, inK, Item.Name, Item.Kind, Item.Purpose, Item.Links, Item.Until, Policy.Rules, Policy.Keeps, Rule.Allow, Rule.Alg, Rule.Below, Rule.Purpose, Rule.From, Rule.To, Keep.Alg, Keep.Bits, Link.Use, Link.Day, Dice.L, Dice.At, LinkX.day, LinkX.fall, LinkX.falls, Row.name, Row.kind, Row.way, Row.sizes, Row.strengths]
  constructor
  · intro h
    exact ⟨imx s.1 r.2.2.2.2.1, by omega⟩
  · rintro ⟨d, h⟩
    omega
theorem cutL_in {r : Rule} {d : Int} {l : List Keep} : inL (cutL l r) d ↔ inL l d ∧ within' r d = false := by
  constructor
  · rintro ⟨t, ht, g⟩
    obtain ⟨s, hs, ht⟩ := List.mem_flatMap.1 ht
    obtain ⟨h1, h2⟩ := cutS_in.1 ⟨t, ht, g⟩
    exact ⟨⟨s, hs, h1⟩, h2⟩
  · rintro ⟨⟨s, hs, g⟩, h⟩
    obtain ⟨t, ht, g⟩ := cutS_in.2 ⟨g, h⟩
    exact ⟨t, List.mem_flatMap.2 ⟨s, hs, ht⟩, g⟩
theorem cutB_in {r : Rule} {l : List Keep} : cutB l r = true ↔ ∃ d, inL l d ∧ within' r d = true := by
  unfold cutB
  rw [List.any_eq_true]
  constructor
  · rintro ⟨s, hs, h⟩
    obtain ⟨d, h1, h2⟩ := hitS_in.1 h
    exact ⟨d, ⟨s, hs, h1⟩, h2⟩
  · rintro ⟨d, ⟨s, hs, h1⟩, h2⟩
    exact ⟨s, hs, hitS_in.2 ⟨d, h1, h2⟩⟩
theorem cutL_low {r : Rule} {l : List Keep} {t : Keep} (ht : t ∈ cutL l r) (hw : ∀ a, a ∈ l → a.1 < a.2.1) : ∃ s, s ∈ l ∧ s.1 ≤ t.1 ∧ t.1 < t.2.1 := by
  obtain ⟨s, hs, ht⟩ := List.mem_flatMap.1 ht
  have := cutS_mem ht (hw s hs)
  exact ⟨s, hs, this.1, this.2.1⟩
theorem cutS_ws {r : Rule} {s : Keep} : (cutS r s).Pairwise (fun a b => a.2.1 ≤ b.1) := by
  have h1 := imx_cases s.1 r.2.2.2.2.1
  have h2 := imn_cases s.2.1 r.2.2.2.2.2.1
  unfold cutS
  split
  · exact List.pairwise_singleton _ _
  · split <;> split <;> simp
    omega
theorem cutL_ws {r : Rule} : ∀ {l : List Keep}, wsL l → wsL (cutL l r)
  | [], _ => ⟨List.Pairwise.nil, fun a h => by cases h⟩
  | s :: l, h => by
    obtain ⟨h1, h2⟩ := List.pairwise_cons.1 h.1
    have hw : ∀ a, a ∈ l → a.1 < a.2.1 := fun a ha => h.2 a (by simp [ha])
    have ih := cutL_ws (r := r) (l := l) ⟨h2, hw⟩
    have e : cutL (s :: l) r = cutS r s ++ cutL l r := by simp [cutL]
    rw [e]
    refine ⟨List.pairwise_append.2 ⟨cutS_ws, ih.1, fun a ha b hb => ?_⟩, fun a ha => ?_⟩
    · have g := cutS_mem ha (h.2 s (by simp))
      obtain ⟨t, ht, g1, _⟩ := cutL_low hb hw
      have := h1 t ht
      omega
    · rcases List.mem_append.1 ha with ha | ha
      · exact (cutS_mem ha (h.2 s (by simp))).2.1
      · exact ih.2 a ha
theorem cutS_one {r : Rule} {s : Keep} (h : r.2.2.2.2.1 ≤ s.1) : (cutS r s).length ≤ 1 := by
  have h1 := imx_cases s.1 r.2.2.2.2.1
  unfold cutS
  split
  · simp
  · rw [if_neg (by omega)]
    split <;> simp
theorem cutS_two {r : Rule} {s : Keep} (h : ¬ (cutS r s).length ≤ 1) : r.2.2.2.2.1 < s.2.1 := by
  have h1 := imx_cases s.1 r.2.2.2.2.1
  have h2 := imn_cases s.2.1 r.2.2.2.2.2.1
  unfold cutS at h
  split at h
  · simp at h
  · split at h <;> split at h <;> simp at h
    omega
theorem cutL_one {r : Rule} : ∀ {l : List Keep}, (∀ a, a ∈ l → r.2.2.2.2.1 ≤ a.1) → (cutL l r).length ≤ l.length
  | [], _ => by simp [cutL]
  | s :: l, h => by
    have ih := cutL_one (r := r) (l := l) fun a ha => h a (by simp [ha])
    have := cutS_one (h s (by simp))
    simp only [cutL, List.flatMap_cons, List.length_append, List.length_cons] at ih ⊢
    omega
theorem cutL_len {r : Rule} : ∀ {l : List Keep}, wsL l → (cutL l r).length ≤ l.length + 1
  | [], _ => by simp [cutL]
  | s :: l, h => by
    obtain ⟨h1, h2⟩ := List.pairwise_cons.1 h.1
    have hw : ∀ a, a ∈ l → a.1 < a.2.1 := fun a ha => h.2 a (by simp [ha])
    by_cases hl : (cutS r s).length ≤ 1
    · have ih := cutL_len (r := r) (l := l) ⟨h2, hw⟩
      simp only [cutL, List.flatMap_cons, List.length_append, List.length_cons] at ih ⊢
      omega
    · have g := cutS_two hl
      have g2 := cutS_len r s
      have ih := cutL_one (r := r) (l := l) fun a ha => by have := h1 a ha; omega
      simp only [cutL, List.flatMap_cons, List.length_append, List.length_cons] at ih ⊢
      omega

/-! the rules from the last one on -/
def stepZ (u : Keep) (q : Int) (z : Int × (Rule × Unit)) (x : List Keep × List Bool) : List Keep × List Bool := if concerns z.2.1 u q then (cutL x.1 z.2.1, x.2.set z.1.toNat (x.2.getD z.1.toNat false || cutB x.1 z.2.1)) else x
def deadZ (u : Keep) (q : Int) (zs : List (Int × (Rule × Unit))) (fr : List Keep) (al : List Bool) : List Keep × List Bool := zs.foldl (fun x z => stepZ u q z x) (fr, al)
def okZ (u : Keep) (q : Int) : List (Int × (Rule × Unit)) → List Keep → List Bool → Bool
  | [], _, _ => true
  | z :: zs, fr, al => if concerns z.2.1 u q then lenOk5 fr && cIx al z.1 && okZ u q zs (cutL fr z.2.1) (al.set z.1.toNat (al.getD z.1.toNat false || cutB fr z.2.1)) else okZ u q zs fr al
def alP (rs : List Rule) (u : Keep) : Nat → List Bool → List Bool
  | 0, al => al
  | n + 1, al => alP rs u n (deadZ u (4 - (n : Int)) (backL rs) [(0, (40001, ()))] al).2
def alU (rs : List Rule) : List Keep → List Bool → List Bool
  | [], al => al
  | u :: l, al => alU rs l (alP rs u 4 al)
def deadI (k : Int) : List Bool → List Int
  | [] => []
  | b :: l => if b then deadI (k + 1) l else k :: deadI (k + 1) l
def DeadF (y : Policy) : List Int × Int := if polOk y then (deadI 0 (alU y.1 (usesF y) (List.replicate y.1.length false)), 0) else ([], 25)
theorem back_mem {α : Type} {l : List α} {z : Int × (α × Unit)} (h : z ∈ backL l) : 0 ≤ z.1 ∧ z.1 < l.length ∧ l[z.1.toNat]? = some z.2.1 := by
  unfold backL at h
  rw [List.mem_reverse, List.mem_map] at h
  obtain ⟨⟨a, i⟩, h1, rfl⟩ := h
  have h2 := List.mem_zipIdx_iff_getElem?.1 h1
  simp only at h2
  have h3 := (List.getElem?_eq_some_iff.1 h2).1
  refine ⟨by simp only; omega, by simp only; omega, by simpa using h2⟩
theorem back_len {α : Type} (l : List α) : (backL l).length = l.length := by simp [backL]
theorem stepZ_len (u : Keep) (q : Int) (z : Int × (Rule × Unit)) (x : List Keep × List Bool) : (stepZ u q z x).2.length = x.2.length := by
  unfold stepZ
  split <;> simp
theorem deadZ_len (u : Keep) (q : Int) : ∀ (zs : List (Int × (Rule × Unit))) (fr : List Keep) (al : List Bool), (deadZ u q zs fr al).2.length = al.length
  | [], _, _ => rfl
  | z :: zs, fr, al => by
    have h := deadZ_len u q zs (stepZ u q z (fr, al)).1 (stepZ u q z (fr, al)).2
    rw [stepZ_len] at h
    exact h
theorem alP_len (rs : List Rule) (u : Keep) : ∀ (n : Nat) (al : List Bool), (alP rs u n al).length = al.length
  | 0, _ => rfl
  | n + 1, al => by
    unfold alP
    rw [alP_len rs u n, deadZ_len]
theorem alU_len (rs : List Rule) : ∀ (l : List Keep) (al : List Bool), (alU rs l al).length = al.length
  | [], _ => rfl
  | u :: l, al => by
    unfold alU
    rw [alU_len rs l, alP_len]
theorem okZ_ok (u : Keep) (q : Int) : ∀ (zs : List (Int × (Rule × Unit))) (fr : List Keep) (al : List Bool), wsL fr → fr.length + zs.length ≤ 100000 → (∀ z, z ∈ zs → 0 ≤ z.1 ∧ z.1 < al.length) → okZ u q zs fr al = true
  | [], _, _, _, _, _ => rfl
  | z :: zs, fr, al, hw, hl, hz => by
    have h0 := hz z (by simp)
    rw [List.length_cons] at hl
    unfold okZ
    split
    · have h1 := cutL_len (r := z.2.1) hw
      simp only [Bool.and_eq_true]
      refine ⟨⟨?_, ?_⟩, okZ_ok u q zs _ _ (cutL_ws hw) (by omega) fun z' h' => ?_⟩
      · simp only [lenOk5, decide_eq_true_eq]; omega
      · simp only [cIx, decide_eq_true_eq]; omega
      · rw [List.length_set]; exact hz z' (by simp [h'])
    · exact okZ_ok u q zs fr al hw (by omega) fun z' h' => hz z' (by simp [h'])
theorem free_ws : wsL [(0, (40001, ()))] := ⟨List.pairwise_singleton _ _, fun a h => by rw [List.mem_singleton.1 h]; decide⟩
theorem okZ_pol {y : Policy} {u : Keep} {q : Int} {al : List Bool} (h : polOk y = true) (hl : al.length = y.1.length) : okZ u q (backL y.1) [(0, (40001, ()))] al = true := by
  have h60 := polOk_len h
  refine okZ_ok u q _ _ _ free_ws (by rw [back_len]; simp; omega) fun z hz => ?_
  have := back_mem hz
  omega
theorem usesZ_len (l : List Int) : ∀ n, (usesZ l n).length ≤ n * l.length
  | 0 => by simp [usesZ]
  | n + 1 => by
    have h1 := usesZ_len l n
    have h2 := usesA_len (22 - (n : Int)) l
    rw [usesZ, List.length_append, Nat.succ_mul]
    omega
end Go.Proofs.YtfehjdaielifiaaGreat.K
