/-
  Plain laws: which rules decide nothing.
-/
import Derived.Test.YtfldcnhkppgmbaaV13
set_option linter.unusedSimpArgs false
set_option linter.unusedVariables false
namespace Go.Proofs.Ytfldcnhkppgmbaa.K
open Go.RowKit
/-! a rule that decides -/
theorem decL_lt {rs : List Rule} {u : Keep} {q d : Int} {i : Nat} (h : decL rs u q d = some i) : i < rs.length := (lastI_some.1 h).1
theorem decL_app {l : List Rule} {a : Rule} {u : Keep} {q d : Int} : decL (l ++ [a]) u q d = if matches' a u q d then some l.length else decL l u q d := by
  unfold decL
  rw [lastI_app]
  simp only [lastI]
  split <;> rename_i hq
  · split at hq
    · rename_i hm
      injection hq with hq
      subst hq
      rw [if_pos hm]
      rfl
    · cases hq
  · split at hq
    · cases hq
    · rename_i hm
      rw [if_neg hm]
theorem set_get {al : List Bool} {n i : Nat} {b : Bool} (hn : n < al.length) : (al.set n b)[i]? = if n = i then some b else al[i]? := by
  rw [List.getElem?_set]
  split
  · rename_i h
    subst h
    simp [hn]
  · rfl
theorem deadZ_spec (u : Keep) (q : Int) (rs : List Rule) : ∀ (fr : List Keep) (al : List Bool), rs.length ≤ al.length → ∀ i, (deadZ u q (backL rs) fr al).2[i]? = some true ↔ al[i]? = some true ∨ ∃ d, inL fr d ∧ decL rs u q d = some i := by
  induction rs using rev_ind with
  | h0 =>
    intro fr al _ i
    show al[i]? = some true ↔ _
    constructor
    · exact .inl
    · rintro (h | ⟨d, _, h⟩)
      · exact h
      · cases h
  | h1 l a ih =>
    intro fr al hl i
    rw [List.length_append, List.length_singleton] at hl
    rw [back_app]
    show (deadZ u q (backL l) (stepZ u q ((l.length : Int), (a, ())) (fr, al)).1 (stepZ u q ((l.length : Int), (a, ())) (fr, al)).2).2[i]? = some true ↔ _
    have hlt : l.length < al.length := by omega
    unfold stepZ
    cases hc : concerns a u q with
    | false =>
      have hm : ∀ d, matches' a u q d = false := fun d => by simp [matches', hc]
      simp only [Bool.false_eq_true, if_false]
      rw [ih fr al (by omega)]
      simp only [decL_app, hm, Bool.false_eq_true, if_false]
    | true =>
      have hm : ∀ d, matches' a u q d = within' a d := fun d => by simp [matches', hc]
      simp only [if_true]
      rw [ih _ _ (by rw [List.length_set]; omega), Int.toNat_natCast, set_get hlt]
      have hg : al.getD l.length false = al[l.length] := by rw [List.getD_eq_getElem?_getD, List.getElem?_eq_getElem hlt]; rfl
      rw [hg]
      simp only [decL_app, hm]
      constructor
      · rintro (h | ⟨d, h1, h2⟩)
        · split at h
          · rename_i hi
            subst hi
            rw [Option.some.injEq, Bool.or_eq_true] at h
            rcases h with h | h
            · left; rw [List.getElem?_eq_getElem hlt, h]
            · obtain ⟨d, h1, h2⟩ := cutB_in.1 h
              exact .inr ⟨d, h1, by rw [h2]; rfl⟩
          · exact .inl h
        · obtain ⟨h3, h4⟩ := cutL_in.1 h1
          exact .inr ⟨d, h3, by rw [h4]; exact h2⟩
      · rintro (h | ⟨d, h1, h2⟩)
        · left
          split
          · rename_i hi
            subst hi
            rw [List.getElem?_eq_getElem hlt] at h
            injection h with h
            rw [h]
            rfl
          · exact h
        · cases hw : within' a d with
          | true =>
            rw [hw] at h2
            simp only [if_true, Option.some.injEq] at h2
            left
            rw [if_pos h2, cutB_in.2 ⟨d, h1, hw⟩, Bool.or_true]
          | false =>
            rw [hw] at h2
            exact .inr ⟨d, cutL_in.2 ⟨h1, hw⟩, by simpa using h2⟩
/-- a rule decides for a use of some purpose on some day -/
def Dec (rs : List Rule) (u : Keep) (i : Nat) : Prop := ∃ q d : Int, 1 ≤ q ∧ q ≤ 4 ∧ 0 ≤ d ∧ d ≤ 40000 ∧ decL rs u q d = some i
theorem free_in {d : Int} : inL [(0, (40001, ()))] d ↔ 0 ≤ d ∧ d ≤ 40000 := by
  rw [inL_one]
  simp only
  omega
theorem alP_spec (rs : List Rule) (u : Keep) (i : Nat) : ∀ (n : Nat) (al : List Bool), rs.length ≤ al.length → ((alP rs u n al)[i]? = some true ↔ al[i]? = some true ∨ ∃ q d : Int, 5 - (n : Int) ≤ q ∧ q ≤ 4 ∧ 0 ≤ d ∧ d ≤ 40000 ∧ decL rs u q d = some i)
  | 0, al, _ => by
    show al[i]? = some true ↔ _
    constructor
    · exact .inl
    · rintro (h | ⟨q, d, h1, h2, _⟩)
      · exact h
      · omega
  | n + 1, al, h => by
    rw [alP, alP_spec rs u i n _ (by rw [deadZ_len]; exact h), deadZ_spec _ _ _ _ _ h]
    constructor
    · rintro ((h | ⟨d, h1, h2⟩) | ⟨q, d, h1, h2⟩)
      · exact .inl h
      · rw [free_in] at h1
        exact .inr ⟨_, d, by omega, by omega, h1.1, h1.2, h2⟩
      · exact .inr ⟨q, d, by omega, h2⟩
    · rintro (h | ⟨q, d, h1, h2, h3, h4, h5⟩)
      · exact .inl (.inl h)
      · by_cases hq : q = 4 - (n : Int)
        · subst hq
          exact .inl (.inr ⟨d, free_in.2 ⟨h3, h4⟩, h5⟩)
        · exact .inr ⟨q, d, by omega, h2, h3, h4, h5⟩
theorem alU_spec (rs : List Rule) (i : Nat) : ∀ (l : List Keep) (al : List Bool), rs.length ≤ al.length → ((alU rs l al)[i]? = some true ↔ al[i]? = some true ∨ ∃ u, u ∈ l ∧ Dec rs u i)
  | [], al, _ => by
    show al[i]? = some true ↔ _
    constructor
    · exact .inl
    · rintro (h | ⟨u, h, _⟩)
      · exact h
      · cases h
  | u :: l, al, h => by
    rw [alU, alU_spec rs i l _ (by rw [alP_len]; exact h), alP_spec _ _ _ _ _ h]
    constructor
    · rintro ((h | ⟨q, d, h1, h2⟩) | ⟨v, hv, h⟩)
      · exact .inl h
      · exact .inr ⟨u, by simp, q, d, by omega, h2⟩
      · exact .inr ⟨v, by simp [hv], h⟩
    · rintro (h | ⟨v, hv, h⟩)
      · exact .inl (.inl h)
      · rcases List.mem_cons.1 hv with rfl | hv
        · obtain ⟨q, d, h1, h2⟩ := h
          exact .inl (.inr ⟨q, d, by omega, h2⟩)
        · exact .inr ⟨v, hv, h⟩

/-! uses that rules cannot tell apart -/
theorem idxN_mem {v : Int} {l : List Int} {k : Nat} (h : idxN v l = some k) : v ∈ l := Classical.byContradiction fun hn => by rw [idxN_none.2 hn] at h; cases h
theorem among_mem {b : Int} {s t : List Int} (h : amongF b s t > 0) : b ∈ s := by
  unfold amongF at h
  split at h
  · rename_i hq; exact idxN_mem hq
  · omega
theorem modF_pos (b : Int) : modF b > 0 := by
  unfold modF modZ modL
  simp only [Int.toNat_zero, List.drop_zero, List.find?_cons]
  repeat' split
  all_goals first | decide | simp
theorem valid_cases {a b : Int} (h : validF (a, (b, ())) = true) : 1 ≤ a ∧ a ≤ 22 ∧ (((a = 5 ∨ a = 6 ∨ a = 10 ∨ a = 11) ∧ 512 ≤ b ∧ b ≤ 16384) ∨ (¬ (a = 5 ∨ a = 6 ∨ a = 10 ∨ a = 11) ∧ b ∈ base16)) := by
  have h : strF (a, (b, ())) > 0 := of_decide_eq_true h
  have hs : ∀ {l : List Int}, (∀ x, x ∈ l → base16.contains x = true) → b ∈ l → b ∈ base16 := fun hl hb => List.contains_iff_mem.1 (hl b hb)
  unfold strF at h
  simp only at h
  by_cases c1 : a = 5 ∨ a = 6 ∨ a = 10 ∨ a = 11
  · rw [if_pos c1] at h
    unfold modulusF at h
    split at h
    · omega
    · exact ⟨by omega, by omega, .inl ⟨c1, by omega, by omega⟩⟩
  · rw [if_neg c1] at h
    by_cases c2 : a = 7 ∨ a = 12
    · rw [if_pos c2] at h
      unfold curveF at h
      split at h
      · rename_i hh
        exact ⟨by omega, by omega, .inr ⟨c1, hs (l := [160, 224, 256, 384, 521]) (by decide) (List.contains_iff_mem.1 hh)⟩⟩
      · omega
    · rw [if_neg c2] at h
      by_cases c3 : a = 9
      · rw [if_pos c3] at h; exact ⟨by omega, by omega, .inr ⟨c1, hs (by decide) (among_mem h)⟩⟩
      rw [if_neg c3] at h
      by_cases c4 : a = 13
      · rw [if_pos c4] at h; exact ⟨by omega, by omega, .inr ⟨c1, hs (by decide) (among_mem h)⟩⟩
      rw [if_neg c4] at h
      by_cases c5 : a = 14
      · rw [if_pos c5] at h; exact ⟨by omega, by omega, .inr ⟨c1, hs (by decide) (among_mem h)⟩⟩
      rw [if_neg c5] at h
      by_cases c6 : a = 15
      · rw [if_pos c6] at h; exact ⟨by omega, by omega, .inr ⟨c1, hs (by decide) (among_mem h)⟩⟩
      rw [if_neg c6] at h
      by_cases c7 : a = 16 ∨ a = 17
      · rw [if_pos c7] at h; exact ⟨by omega, by omega, .inr ⟨c1, hs (by decide) (among_mem h)⟩⟩
      rw [if_neg c7] at h
      have hb := among_mem h
      have ha : 1 ≤ a ∧ a ≤ 22 := by
        by_cases hr : a < 1 ∨ 22 < a
        · have e1 : singleF a = 0 := by
            unfold singleF
            repeat rw [if_neg (by omega)]
          rw [e1] at h
          simp only [amongF, idxN] at h
          cases hz : (0 : Int) == b <;> simp [hz] at h
        · omega
      exact ⟨ha.1, ha.2, .inr ⟨c1, hs (by decide) hb⟩⟩
theorem valid_mod {a b : Int} (h : a = 5 ∨ a = 6 ∨ a = 10 ∨ a = 11) (h1 : 512 ≤ b) (h2 : b ≤ 16384) : validF (a, (b, ())) = true := by
  unfold validF strF
  simp only
  rw [if_pos h]
  unfold modulusF
  rw [if_neg (by omega)]
  exact decide_eq_true (modF_pos b)
theorem mem_sizesP {rs : List Rule} {x : Int} : x ∈ sizesP rs ↔ x ∈ base16 ∨ x ∈ belows rs := by
  unfold sizesP
  rw [(compact_asc (sortI_sorted _)).2, mem_sortI, List.mem_append]
/-- the greatest one that is not above -/
theorem greatest {b : Int} : ∀ {l : List Int}, (∃ x, x ∈ l ∧ x ≤ b) → ∃ c, c ∈ l ∧ c ≤ b ∧ ∀ x, x ∈ l → x ≤ b → x ≤ c
  | [], ⟨x, h, _⟩ => by cases h
  | a :: l, h => by
    by_cases hl : ∃ x, x ∈ l ∧ x ≤ b
    · obtain ⟨c, h1, h2, h3⟩ := greatest hl
      by_cases ha : a ≤ b ∧ c < a
      · refine ⟨a, by simp, ha.1, fun x hx hb => ?_⟩
        rcases List.mem_cons.1 hx with e | hx
        · omega
        · have := h3 x hx hb; omega
      · refine ⟨c, by simp [h1], h2, fun x hx hb => ?_⟩
        rcases List.mem_cons.1 hx with e | hx
        · omega
        · exact h3 x hx hb
    · obtain ⟨x, hx, hb⟩ := h
      rcases List.mem_cons.1 hx with e | hx
      · subst e
        refine ⟨x, by simp, hb, fun z hz hzb => ?_⟩
        rcases List.mem_cons.1 hz with e | hz
        · omega
        · exact absurd ⟨z, hz, hzb⟩ hl
      · exact absurd ⟨x, hx, hb⟩ hl
theorem dec_same {rs : List Rule} {a b c q d : Int} (h : ∀ r : Rule, r ∈ rs → concerns r (a, (b, ())) q = concerns r (a, (c, ())) q) : decL rs (a, (b, ())) q d = decL rs (a, (c, ())) q d := by
  refine lastI_congr fun r hr => ?_
  unfold matches'
  rw [h r hr]
theorem rep {rs : List Rule} {a b : Int} (h : validF (a, (b, ())) = true) : ∃ c, c ∈ sizesP rs ∧ validF (a, (c, ())) = true ∧ ∀ q d, decL rs (a, (b, ())) q d = decL rs (a, (c, ())) q d := by
  obtain ⟨_, _, h3⟩ := valid_cases h
  rcases h3 with ⟨ha, hb, hb2⟩ | ⟨_, hb⟩
  · obtain ⟨c, h1, h2, h4⟩ := greatest (b := b) (l := sizesP rs) ⟨512, mem_sizesP.2 (.inl (by decide)), hb⟩
    have h512 : 512 ≤ c := h4 512 (mem_sizesP.2 (.inl (by decide))) hb
    refine ⟨c, h1, valid_mod ha h512 (by omega), fun q d => dec_same fun r hr => ?_⟩
    unfold concerns
    have hB := h4 r.2.2.1 (mem_sizesP.2 (.inr (List.mem_map.2 ⟨r, hr, rfl⟩)))
    congr 2
    simp only [Policy.Rules, Policy.Keeps, Keep.Purpose, Keep.Days, Rule.Allow, Rule.Alg, Rule.Below, Rule.Purpose, Rule.From, Rule.To, Item.Name, Item.Kind, Item.Purpose, Item.Links, Item.Until, Link.Use, Link.Day, Dice.L, Dice.At, LinkX.day, LinkX.fall, LinkX.falls, Row.name, Row.kind, Row.way, Row.sizes, Row.strengths]
    rw [Bool.eq_iff_iff, Bool.and_eq_true, Bool.and_eq_true, decide_eq_true_eq, decide_eq_true_eq, decide_eq_true_eq, decide_eq_true_eq]
    omega
  · exact ⟨b, mem_sizesP.2 (.inl hb), h, fun _ _ => rfl⟩
/-- a rule decides for some valid use -/
def Alive (rs : List Rule) (i : Nat) : Prop := ∃ u, validF u = true ∧ Dec rs u i
theorem mem_usesA {a : Int} {l : List Int} {u : Keep} : u ∈ usesA a l ↔ validF u = true ∧ ∃ b, b ∈ l ∧ u = (a, (b, ())) := by
  unfold usesA
  rw [List.mem_filter, List.mem_map]
  constructor
  · rintro ⟨⟨b, hb, rfl⟩, h⟩
    exact ⟨h, b, hb, rfl⟩
  · rintro ⟨h, b, hb, rfl⟩
    exact ⟨⟨b, hb, rfl⟩, h⟩
theorem mem_usesZ {l : List Int} {u : Keep} : ∀ {n : Nat}, u ∈ usesZ l n ↔ validF u = true ∧ ∃ a b : Int, 23 - (n : Int) ≤ a ∧ a ≤ 22 ∧ b ∈ l ∧ u = (a, (b, ()))
  | 0 => by
    simp only [usesZ, List.not_mem_nil, false_iff]
    rintro ⟨_, a, b, h1, h2, _⟩
    omega
  | n + 1 => by
    rw [usesZ, List.mem_append, mem_usesA, mem_usesZ]
    constructor
    · rintro (⟨h, b, hb, rfl⟩ | ⟨h, a, b, h1, h2⟩)
      · exact ⟨h, _, b, by omega, by omega, hb, rfl⟩
      · exact ⟨h, a, b, by omega, h2⟩
    · rintro ⟨h, a, b, h1, h2, hb, rfl⟩
      by_cases ha : a = 22 - (n : Int)
      · exact .inl ⟨h, b, hb, by rw [ha]⟩
      · exact .inr ⟨h, a, b, by omega, h2, hb, rfl⟩
theorem alive_uses {y : Policy} {i : Nat} : (∃ u, u ∈ usesF y ∧ Dec y.1 u i) ↔ Alive y.1 i := by
  constructor
  · rintro ⟨u, hu, h⟩
    exact ⟨u, (mem_usesZ.1 hu).1, h⟩
  · rintro ⟨⟨a, b, _⟩, hv, q, d, h1, h2, h3, h4, h5⟩
    obtain ⟨c, g1, g2, g3⟩ := rep (rs := y.1) hv
    obtain ⟨k1, k2, _⟩ := valid_cases g2
    exact ⟨(a, (c, ())), mem_usesZ.2 ⟨g2, a, c, by omega, k2, g1, rfl⟩, q, d, h1, h2, h3, h4, by rw [← g3]; exact h5⟩
theorem alU_alive {y : Policy} {i : Nat} : (alU y.1 (usesF y) (List.replicate y.1.length false))[i]? = some true ↔ Alive y.1 i := by
  rw [alU_spec _ _ _ _ (by simp), ← alive_uses]
  constructor
  · rintro (h | h)
    · rw [List.getElem?_replicate] at h
      split at h <;> cases h
    · exact h
  · exact .inr

/-! the answer's -/
theorem anyN_iff {hi : Int} {f : Int → Bool} : ∀ {n : Nat}, anyN hi f n = true ↔ ∃ a : Int, hi + 1 - (n : Int) ≤ a ∧ a ≤ hi ∧ f a = true
  | 0 => by
    simp only [anyN, Bool.false_eq_true, false_iff]
    rintro ⟨a, h1, h2, _⟩
    omega
  | n + 1 => by
    rw [anyN, Bool.or_eq_true, anyN_iff]
    constructor
    · rintro (h | ⟨a, h1, h2, h3⟩)
      · exact ⟨_, by omega, by omega, h⟩
      · exact ⟨a, by omega, h2, h3⟩
    · rintro ⟨a, h1, h2, h3⟩
      by_cases ha : a = hi - (n : Int)
      · exact .inl (by rw [← ha]; exact h3)
      · exact .inr ⟨a, by omega, h2, h3⟩
theorem pieceB_iff {f : Int → Bool} : ∀ {l : List Int} {a : Int}, asc (a :: l) → ∀ {m : Int}, m ∈ a :: l → (∀ x, x ∈ a :: l → x ≤ m) → (pieceB f (a :: l) = true ↔ ∃ c, c ∈ a :: l ∧ c < m ∧ f c = true)
  | [], a, _, m, hm, _ => by
    rw [List.mem_singleton] at hm
    subst hm
    simp only [pieceB, Bool.false_eq_true, false_iff]
    rintro ⟨c, hc, h, _⟩
    rw [List.mem_singleton] at hc
    omega
  | b :: r, a, ha, m, hm, hx => by
    obtain ⟨h1, h2⟩ := List.pairwise_cons.1 ha
    have hab := h1 b (by simp)
    have hbm := hx b (by simp)
    have hm' : m ∈ b :: r := by
      rcases List.mem_cons.1 hm with e | hm
      · omega
      · exact hm
    rw [pieceB, Bool.or_eq_true, pieceB_iff h2 hm' fun x h => hx x (List.mem_cons_of_mem _ h)]
    constructor
    · rintro (h | ⟨c, hc, h3, h4⟩)
      · exact ⟨a, by simp, by omega, h⟩
      · exact ⟨c, List.mem_cons_of_mem _ hc, h3, h4⟩
    · rintro ⟨c, hc, h3, h4⟩
      rcases List.mem_cons.1 hc with rfl | hc
      · exact .inl h4
      · exact .inr ⟨c, hc, h3, h4⟩
theorem mem_sizeZ {a x : Int} : ∀ {l o : List Int}, x ∈ sizeZ a o l ↔ x ∈ o ∨ (x ∈ l ∧ validF (a, (x, ())) = true)
  | [], o => by simp [sizeZ]
  | b :: l, o => by
    have ih := mem_sizeZ (a := a) (x := x) (l := l) (o := if validF (a, (b, ())) then insL o b else o)
    have e : sizeZ a o (b :: l) = sizeZ a (if validF (a, (b, ())) then insL o b else o) l := rfl
    rw [e, ih]
    cases hv : validF (a, (b, ())) with
    | true =>
      simp only [if_true, mem_insL, List.mem_cons]
      constructor
      · rintro ((rfl | h) | h)
        · exact .inr ⟨.inl rfl, hv⟩
        · exact .inl h
        · exact .inr ⟨.inr h.1, h.2⟩
      · rintro (h | ⟨rfl | h, h2⟩)
        · exact .inl (.inr h)
        · exact .inl (.inl rfl)
        · exact .inr ⟨h, h2⟩
    | false =>
      simp only [Bool.false_eq_true, if_false, List.mem_cons]
      constructor
      · rintro (h | h)
        · exact .inl h
        · exact .inr ⟨.inr h.1, h.2⟩
      · rintro (h | ⟨rfl | h, h2⟩)
        · exact .inl h
        · rw [hv] at h2; cases h2
        · exact .inr ⟨h, h2⟩
theorem mem_sizesR {y : Policy} {a x : Int} : x ∈ sizesR y a ↔ (x ∈ base17 ∨ x ∈ belows2 y.1) ∧ validF (a, (x, ())) = true := by
  unfold sizesR
  rw [mem_sizeZ, List.mem_append]
  simp
theorem sizes_sub {y : Policy} {a x : Int} (h : x ∈ sizesP y.1) (hv : validF (a, (x, ())) = true) : x ∈ sizesR y a := by
  rw [mem_sizesR]
  refine ⟨?_, hv⟩
  rcases mem_sizesP.1 h with h | h
  · left
    have : ∀ z, z ∈ base16 → base17.contains z = true := by decide
    exact List.contains_iff_mem.1 (this x h)
  · right
    obtain ⟨r, hr, rfl⟩ := List.mem_map.1 h
    exact List.mem_flatMap.2 ⟨r, hr, by simp⟩
theorem dec_day {y : Policy} (h : polOk y = true) {u : Keep} {q : Int} {i : Nat} : (∃ d, 0 ≤ d ∧ d ≤ 40000 ∧ decL y.1 u q d = some i) ↔ ∃ c, c ∈ daysF y ∧ c < 40001 ∧ decL y.1 u q c = some i := by
  constructor
  · rintro ⟨d, h1, h2, h3⟩
    obtain ⟨c, g1, g2, g3⟩ := greatest (b := d) (l := cutsP y.1) ⟨0, mem_cutsP.2 (.inl rfl), h1⟩
    exact ⟨c, g1, by omega, by rw [← dec_cut g2 g3]; exact h3⟩
  · rintro ⟨c, h1, h2, h3⟩
    have := cuts_in h h1
    exact ⟨c, by omega, by omega, h3⟩
theorem anyA_alive {y : Policy} (h : polOk y = true) {i : Nat} (hi : i < y.1.length) : anyA y (i : Int) = true ↔ Alive y.1 i := by
  have hr : y.1.getD i tyRule.zero = y.1[i] := by rw [List.getD_eq_getElem?_getD, List.getElem?_eq_getElem hi]; rfl
  obtain ⟨l, hl⟩ := cuts_head h
  have ha := asc_cutsP y.1
  have hp : ∀ u q, pieceB (hitR y y.1[i] (i : Int) u q) (daysF y) = true ↔ ∃ d, 0 ≤ d ∧ d ≤ 40000 ∧ decL y.1 u q d = some i := by
    intro u q
    rw [dec_day h]
    have e : daysF y = 0 :: l := hl
    rw [hl] at ha
    have h4 : (40001 : Int) ∈ 0 :: l := by rw [← hl]; exact mem_cutsP.2 (.inr (.inl rfl))
    rw [e, pieceB_iff ha h4 fun x hx => (cuts_in h (by rw [hl]; exact hx)).2]
    have hd : ∀ c, hitR y y.1[i] (i : Int) u q c = true ↔ decL y.1 u q c = some i := by
      intro c
      unfold hitR
      rw [Bool.and_eq_true, ieq_dec, decide_eq_true_eq, decF_eq]
      constructor
      · rintro ⟨_, h2⟩
        cases hq : decL y.1 u q c with
        | none => rw [hq] at h2; simp only at h2; omega
        | some k => rw [hq] at h2; simp only at h2; congr 1; omega
      · intro h2
        rw [h2]
        exact ⟨(lastI_some.1 h2).2.1, rfl⟩
    simp only [hd]
  unfold anyA
  rw [anyN_iff]
  constructor
  · rintro ⟨a, h1, h2, h3⟩
    unfold aliveF at h3
    rw [Int.toNat_natCast, hr] at h3
    split at h3
    · cases h3
    · obtain ⟨b, hb, h4⟩ := List.any_eq_true.1 h3
      obtain ⟨q, q1, q2, h5⟩ := anyN_iff.1 h4
      obtain ⟨d, d1, d2, h6⟩ := (hp _ _).1 h5
      exact ⟨(a, (b, ())), (mem_sizesR.1 hb).2, q, d, by omega, q2, d1, d2, h6⟩
  · rintro ⟨⟨a, b, _⟩, hv, q, d, h1, h2, h3, h4, h5⟩
    obtain ⟨c, g1, g2, g3⟩ := rep (rs := y.1) hv
    obtain ⟨k1, k2, _⟩ := valid_cases g2
    refine ⟨a, by omega, k2, ?_⟩
    unfold aliveF
    rw [Int.toNat_natCast, hr]
    rw [g3] at h5
    have hm := (lastI_some.1 h5).2.1
    have hc : ¬ (y.1[i].2.1 ≠ 0 ∧ y.1[i].2.1 ≠ a) := by
      simp only [matches', concerns, Bool.and_eq_true, Bool.or_eq_true, beq_iff_eq, Policy.Rules, Policy.Keeps, Keep.Purpose, Keep.Days, Rule.Allow, Rule.Alg, Rule.Below, Rule.Purpose, Rule.From, Rule.To, Item.Name, Item.Kind, Item.Purpose, Item.Links, Item.Until, Link.Use, Link.Day, Dice.L, Dice.At, LinkX.day, LinkX.fall, LinkX.falls, Row.name, Row.kind, Row.way, Row.sizes, Row.strengths] at hm
      rintro ⟨m1, m2⟩
      rcases hm.1.1.1 with e | e
      · exact m1 e
      · exact m2 e
    rw [if_neg hc]
    exact List.any_eq_true.2 ⟨c, sizes_sub g1 g2, anyN_iff.2 ⟨q, by omega, h2, (hp _ _).2 ⟨d, h3, h4, h5⟩⟩⟩

/-! the two say the same -/
theorem deadI_R {y : Policy} (h : polOk y = true) : ∀ (n : Nat) (k : Nat) (al : List Bool), al.length = n → k + n = y.1.length → (∀ i, al[i]? = some true ↔ Alive y.1 (k + i)) → deadI (k : Int) al = deadR y (k : Int) n
  | 0, k, al, h1, _, _ => by
    rw [List.eq_nil_of_length_eq_zero h1]
    rfl
  | n + 1, k, [], h1, _, _ => by simp at h1
  | n + 1, k, b :: al, h1, h2, h3 => by
    have ih := deadI_R h n (k + 1) al (by simpa using h1) (by omega) fun i => by
      have := h3 (i + 1)
      rw [List.getElem?_cons_succ] at this
      rw [this, show k + (i + 1) = k + 1 + i by omega]
    have h0 := h3 0
    rw [List.getElem?_cons_zero, Nat.add_zero, ← anyA_alive h (by omega)] at h0
    have hb : b = anyA y (k : Int) := by
      rw [Bool.eq_iff_iff, ← h0]
      simp
    have ek : ((k + 1 : Nat) : Int) = (k : Int) + 1 := by omega
    rw [ek] at ih
    rw [deadI, deadR, ← hb, ih]
theorem dead_same (y : Policy) : DeadF y = DeadR y := by
  unfold DeadF DeadR
  cases h : polOk y with
  | false => rfl
  | true =>
    simp only [if_true]
    have := deadI_R h y.1.length 0 (alU y.1 (usesF y) (List.replicate y.1.length false)) (by rw [alU_len, List.length_replicate]) (by omega) fun i => by rw [Nat.zero_add]; exact alU_alive
    rw [show (0 : Int) = ((0 : Nat) : Int) from rfl, this]
theorem mem_deadI {al : List Bool} {x : Int} : ∀ {k : Nat}, x ∈ deadI (k : Int) al ↔ ∃ i : Nat, x = ((k + i : Nat) : Int) ∧ al[i]? = some false := by
  induction al with
  | nil => intro k; simp [deadI]
  | cons b l ih =>
    intro k
    have ek : (k : Int) + 1 = ((k + 1 : Nat) : Int) := by omega
    have step : (∃ i : Nat, x = ((k + 1 + i : Nat) : Int) ∧ l[i]? = some false) → ∃ i : Nat, x = ((k + i : Nat) : Int) ∧ (b :: l)[i]? = some false := fun ⟨i, h1, h2⟩ => ⟨i + 1, by rw [h1]; congr 1; omega, by rw [List.getElem?_cons_succ]; exact h2⟩
    unfold deadI
    cases b with
    | true =>
      rw [if_pos rfl, ek, ih]
      constructor
      · exact step
      · rintro ⟨i, h1, h2⟩
        cases i with
        | zero => simp at h2
        | succ i => exact ⟨i, by rw [h1]; congr 1; omega, by rw [List.getElem?_cons_succ] at h2; exact h2⟩
    | false =>
      rw [if_neg (by simp), List.mem_cons, ek, ih]
      constructor
      · rintro (h | h)
        · exact ⟨0, by rw [h]; rfl, by simp⟩
        · exact step h
      · rintro ⟨i, h1, h2⟩
        cases i with
        | zero => exact .inl (by rw [h1]; rfl)
        | succ i => exact .inr ⟨i, by rw [h1]; congr 1; omega, by rw [List.getElem?_cons_succ] at h2; exact h2⟩
/-- the rules that are not dead -/
def lessZ (dead : List Int) : Nat → List Rule → List Rule
  | _, [] => []
  | k, r :: rs => if dead.contains (k : Int) then lessZ dead (k + 1) rs else r :: lessZ dead (k + 1) rs
def lastR {α : Type} (m : α → Bool) : List α → Option α
  | [] => none
  | a :: l => match lastR m l with
    | some x => some x
    | none => if m a then some a else none
theorem lastR_eq {α : Type} {m : α → Bool} : ∀ l : List α, lastR m l = (lastI m l).bind (l[·]?)
  | [] => rfl
  | a :: l => by
    unfold lastR lastI
    rw [lastR_eq l]
    cases h : lastI m l with
    | none => cases m a <;> simp
    | some k =>
      have hk := (lastI_some.1 h).1
      simp [List.getElem?_eq_getElem hk]
theorem allL_eq {rs : List Rule} {u : Keep} {q d : Int} : allL rs u q d = ((lastR (fun r => matches' r u q d) rs).map fun r : Rule => r.1).getD true := by
  unfold allL decL
  rw [lastR_eq]
  cases lastI (fun r => matches' r u q d) rs <;> rfl
theorem lastR_none {α : Type} {m : α → Bool} {l : List α} : lastR m l = none ↔ lastI m l = none := by
  rw [lastR_eq]
  cases h : lastI m l with
  | none => simp
  | some k =>
    have hk := (lastI_some.1 h).1
    simp [List.getElem?_eq_getElem hk]
theorem less_last {dead : List Int} {m : Rule → Bool} : ∀ (rs : List Rule) (k : Nat), (∀ i, lastI m rs = some i → dead.contains ((k + i : Nat) : Int) = false) → lastR m (lessZ dead k rs) = lastR m rs
  | [], _, _ => rfl
  | r :: rs, k, h => by
    have ih := less_last rs (k + 1) fun i hi => by
      have := h (i + 1) (by unfold lastI; rw [hi])
      rw [show k + 1 + i = k + (i + 1) by omega]
      exact this
    unfold lessZ
    cases hd : dead.contains (k : Int) with
    | true =>
      simp only [if_true]
      rw [ih]
      conv => rhs; unfold lastR
      cases hl : lastR m rs with
      | some x => rfl
      | none =>
        have hl' := lastR_none.1 hl
        cases hm : m r with
        | false => rfl
        | true =>
          have := h 0 (by unfold lastI; rw [hl', hm]; rfl)
          rw [Nat.add_zero, hd] at this
          cases this
    | false =>
      simp only [Bool.false_eq_true, if_false]
      unfold lastR
      rw [ih]
theorem less_all {y : Policy} (h : polOk y = true) {u : Keep} {q d : Int} (hv : validF u = true) (h1 : 1 ≤ q) (h2 : q ≤ 4) (h3 : 0 ≤ d) (h4 : d ≤ 40000) : allL (lessZ (DeadF y).1 0 y.1) u q d = allL y.1 u q d := by
  rw [allL_eq, allL_eq, less_last]
  intro i hi
  have hd : decL y.1 u q d = some i := hi
  have hal : Alive y.1 i := ⟨u, hv, q, d, h1, h2, h3, h4, hd⟩
  rw [Nat.zero_add]
  cases hc : (DeadF y).1.contains (i : Int) with
  | false => rfl
  | true =>
    have hm := List.contains_iff_mem.1 hc
    unfold DeadF at hm
    rw [h] at hm
    simp only [if_true] at hm
    rw [show (0 : Int) = ((0 : Nat) : Int) from rfl, mem_deadI] at hm
    obtain ⟨j, e, hj⟩ := hm
    have e : j = i := by omega
    subst e
    rw [alU_alive.2 hal] at hj
    cases hj
theorem sameI_self (l : List Int) : sameI l l = true := by simp [sameI]
theorem deadR_len (y : Policy) : ∀ (n : Nat) (k : Int), (deadR y k n).length ≤ n
  | 0, _ => by simp [deadR]
  | n + 1, k => by
    have h := deadR_len y n (k + 1)
    unfold deadR
    split
    · omega
    · rw [List.length_cons]; omega
theorem dead_len {y : Policy} {b : List Int} : sameIOk (DeadR y).1 b = true := by
  unfold DeadR
  cases h : polOk y with
  | false => rfl
  | true =>
    have h1 := deadR_len y y.1.length 0
    have h2 := polOk_len h
    simp only [if_true, sameIOk, lenOk5, decide_eq_true_eq]
    omega
end Go.Proofs.Ytfldcnhkppgmbaa.K
