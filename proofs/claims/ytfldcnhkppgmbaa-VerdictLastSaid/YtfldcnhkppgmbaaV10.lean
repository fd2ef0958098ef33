/-
  verdict.Dead.
-/
import Derived.Test.YtfldcnhkppgmbaaV9
import Derived.Test.YtfldcnhkppgmbaaB2
set_option linter.unusedSimpArgs false
set_option linter.unusedVariables false
namespace Go.Proofs.Ytfldcnhkppgmbaa.K
open Go.RowKit
/-! what is cut from free days -/
def inK (s : Keep) (d : Int) : Prop := s.1 ≤ d ∧ d < s.2.1
def inL (l : List Keep) (d : Int) : Prop := ∃ s, s ∈ l ∧ inK s d
def wsL (l : List Keep) : Prop := l.Pairwise (fun a b => a.2.1 ≤ b.1) ∧ ∀ a, a ∈ l → a.1 < a.2.1
theorem imx_le {a b c : Int} : imx a b ≤ c ↔ a ≤ c ∧ b ≤ c := by unfold imx; split <;> omega
theorem imx_lt {a b c : Int} : imx a b < c ↔ a < c ∧ b < c := by unfold imx; split <;> omega
theorem lt_imx {a b c : Int} : c < imx a b ↔ c < a ∨ c < b := by unfold imx; split <;> omega
theorem lt_imn {a b c : Int} : c < imn a b ↔ c < a ∧ c < b := by unfold imn; split <;> omega
theorem imn_lt {a b c : Int} : imn a b < c ↔ a < c ∨ b < c := by unfold imn; split <;> omega
theorem imx_cases (a b : Int) : (imx a b = a ∧ b ≤ a) ∨ (imx a b = b ∧ a < b) := by unfold imx; split <;> omega
theorem imn_cases (a b : Int) : (imn a b = a ∧ a ≤ b) ∨ (imn a b = b ∧ b < a) := by unfold imn; split <;> omega
theorem cutS_mem {r : Rule} {s t : Keep} (ht : t ∈ cutS r s) (hs : s.1 < s.2.1) : s.1 ≤ t.1 ∧ t.1 < t.2.1 ∧ t.2.1 ≤ s.2.1 := by
  have h1 := imx_cases s.1 r.2.2.2.2.1
  have h2 := imn_cases s.2.1 r.2.2.2.2.2.1
  unfold cutS at ht
  split at ht
  · rw [List.mem_singleton.1 ht]; omega
  · rename_i hh
    rcases List.mem_append.1 ht with ht | ht
    · split at ht
      · rw [List.mem_singleton.1 ht]; simp only; omega
      · cases ht
    · split at ht
      · rw [List.mem_singleton.1 ht]; simp only; omega
      · cases ht
theorem cutS_in {r : Rule} {s : Keep} {d : Int} : inL (cutS r s) d ↔ inK s d ∧ within' r d = false := by
  have h1 := imx_cases s.1 r.2.2.2.2.1
  have h2 := imn_cases s.2.1 r.2.2.2.2.2.1
  simp only [within', Bool.and_eq_false_iff, decide_eq_false_iff_not, inL, inK, cutS, Policy.Rules, Policy.Keeps, Keep.Purpose, Keep.Days, Rule.Allow, Rule.Alg, Rule.Below, Rule.Purpose, Rule.From, Rule.To, Item.Name, Item.Kind, Item.Purpose, Item.Links, Item.Until, Link.Use, Link.Day, Dice.L, Dice.At, LinkX.day, LinkX.fall, LinkX.falls, Row.name, Row.kind, Row.way, Row.sizes, Row.strengths]
  constructor
  · rintro ⟨t, ht, g1, g2⟩
    split at ht
    · rw [List.mem_singleton.1 ht] at g1 g2
      exact ⟨⟨g1, g2⟩, by omega⟩
    · rcases List.mem_append.1 ht with ht | ht
      · split at ht
        · rw [List.mem_singleton.1 ht] at g1 g2; simp only at g1 g2; exact ⟨⟨g1, by omega⟩, by omega⟩
        · cases ht
      · split at ht
        · rw [List.mem_singleton.1 ht] at g1 g2; simp only at g1 g2; exact ⟨⟨by omega, g2⟩, by omega⟩
        · cases ht
  · rintro ⟨⟨g1, g2⟩, g3⟩
    split
    · exact ⟨s, by simp, g1, g2⟩
    · by_cases g4 : d < imx s.1 r.2.2.2.2.1
      · exact ⟨(s.1, imx s.1 r.2.2.2.2.1, ()), List.mem_append.2 (.inl (by rw [if_pos (by omega)]; simp)), g1, g4⟩
      · exact ⟨(imn s.2.1 r.2.2.2.2.2.1, s.2.1, ()), List.mem_append.2 (.inr (by rw [if_pos (by omega)]; simp)), by simp only; omega, g2⟩
theorem hitS_in {r : Rule} {s : Keep} : hitS r s = true ↔ ∃ d, inK s d ∧ within' r d = true := by
  have h1 := imx_cases s.1 r.2.2.2.2.1
  have h2 := imn_cases s.2.1 r.2.2.2.2.2.1
  simp only [hitS, within', Bool.and_eq_true, decide_eq_true_eq, inK, Policy.Rules, Policy.Keeps, Keep.Purpose, Keep.Days, Rule.Allow, Rule.Alg, Rule.Below, Rule.Purpose, Rule.From, Rule.To, Item.Name, Item.Kind, Item.Purpose, Item.Links, Item.Until, Link.Use, Link.Day, Dice.L, Dice.At, LinkX.day, LinkX.fall, LinkX.falls, Row.name, Row.kind, Row.way, Row.sizes, Row.strengths]
  constructor
  · intro h
    exact ⟨imx s.1 r.2.2.2.2.1, by omega⟩
  · rintro ⟨d, h⟩
    omega
theorem cutL_in {r : Rule} {d : Int} {l : List Keep} : inL (cutL l r) d ↔ inL l d ∧ within' r d = false := by
  constructor
  · rintro ⟨t, ht, g⟩
    obtain ⟨s, hs, ht⟩ := List.mem_flatMap.1 ht
    obtain ⟨h1, h2⟩ := cutS_in.1 ⟨t, ht, g⟩
    exact ⟨⟨s, hs, h1⟩, h2⟩
  · rintro ⟨⟨s, hs, g⟩, h⟩
    obtain ⟨t, ht, g⟩ := cutS_in.2 ⟨g, h⟩
    exact ⟨t, List.mem_flatMap.2 ⟨s, hs, ht⟩, g⟩
theorem cutB_in {r : Rule} {l : List Keep} : cutB l r = true ↔ ∃ d, inL l d ∧ within' r d = true := by
  unfold cutB
  rw [List.any_eq_true]
  constructor
  · rintro ⟨s, hs, h⟩
    obtain ⟨d, h1, h2⟩ := hitS_in.1 h
    exact ⟨d, ⟨s, hs, h1⟩, h2⟩
  · rintro ⟨d, ⟨s, hs, h1⟩, h2⟩
    exact ⟨s, hs, hitS_in.2 ⟨d, h1, h2⟩⟩
theorem cutL_low {r : Rule} {l : List Keep} {t : Keep} (ht : t ∈ cutL l r) (hw : ∀ a, a ∈ l → a.1 < a.2.1) : ∃ s, s ∈ l ∧ s.1 ≤ t.1 ∧ t.1 < t.2.1 := by
  obtain ⟨s, hs, ht⟩ := List.mem_flatMap.1 ht
  have := cutS_mem ht (hw s hs)
  exact ⟨s, hs, this.1, this.2.1⟩
theorem cutS_ws {r : Rule} {s : Keep} : (cutS r s).Pairwise (fun a b => a.2.1 ≤ b.1) := by
  have h1 := imx_cases s.1 r.2.2.2.2.1
  have h2 := imn_cases s.2.1 r.2.2.2.2.2.1
  unfold cutS
  split
  · exact List.pairwise_singleton _ _
  · split <;> split <;> simp
    omega
theorem cutL_ws {r : Rule} : ∀ {l : List Keep}, wsL l → wsL (cutL l r)
  | [], _ => ⟨List.Pairwise.nil, fun a h => by cases h⟩
  | s :: l, h => by
    obtain ⟨h1, h2⟩ := List.pairwise_cons.1 h.1
    have hw : ∀ a, a ∈ l → a.1 < a.2.1 := fun a ha => h.2 a (by simp [ha])
    have ih := cutL_ws (r := r) (l := l) ⟨h2, hw⟩
    have e : cutL (s :: l) r = cutS r s ++ cutL l r := by simp [cutL]
    rw [e]
    refine ⟨List.pairwise_append.2 ⟨cutS_ws, ih.1, fun a ha b hb => ?_⟩, fun a ha => ?_⟩
    · have g := cutS_mem ha (h.2 s (by simp))
      obtain ⟨t, ht, g1, _⟩ := cutL_low hb hw
      have := h1 t ht
      omega
    · rcases List.mem_append.1 ha with ha | ha
      · exact (cutS_mem ha (h.2 s (by simp))).2.1
      · exact ih.2 a ha
theorem cutS_one {r : Rule} {s : Keep} (h : r.2.2.2.2.1 ≤ s.1) : (cutS r s).length ≤ 1 := by
  have h1 := imx_cases s.1 r.2.2.2.2.1
  unfold cutS
  split
  · simp
  · rw [if_neg (by omega)]
    split <;> simp
theorem cutS_two {r : Rule} {s : Keep} (h : ¬ (cutS r s).length ≤ 1) : r.2.2.2.2.1 < s.2.1 := by
  have h1 := imx_cases s.1 r.2.2.2.2.1
  have h2 := imn_cases s.2.1 r.2.2.2.2.2.1
  unfold cutS at h
  split at h
  · simp at h
  · split at h <;> split at h <;> simp at h
    omega
theorem cutL_one {r : Rule} : ∀ {l : List Keep}, (∀ a, a ∈ l → r.2.2.2.2.1 ≤ a.1) → (cutL l r).length ≤ l.length
  | [], _ => by simp [cutL]
  | s :: l, h => by
    have ih := cutL_one (r := r) (l := l) fun a ha => h a (by simp [ha])
    have := cutS_one (h s (by simp))
    simp only [cutL, List.flatMap_cons, List.length_append, List.length_cons] at ih ⊢
    omega
theorem cutL_len {r : Rule} : ∀ {l : List Keep}, wsL l → (cutL l r).length ≤ l.length + 1
  | [], _ => by simp [cutL]
  | s :: l, h => by
    obtain ⟨h1, h2⟩ := List.pairwise_cons.1 h.1
    have hw : ∀ a, a ∈ l → a.1 < a.2.1 := fun a ha => h.2 a (by simp [ha])
    by_cases hl : (cutS r s).length ≤ 1
    · have ih := cutL_len (r := r) (l := l) ⟨h2, hw⟩
      simp only [cutL, List.flatMap_cons, List.length_append, List.length_cons] at ih ⊢
      omega
    · have g := cutS_two hl
      have g2 := cutS_len r s
      have ih := cutL_one (r := r) (l := l) fun a ha => by have := h1 a ha; omega
      simp only [cutL, List.flatMap_cons, List.length_append, List.length_cons] at ih ⊢
      omega

/-! the rules from the last one on -/
def stepZ (u : Keep) (q : Int) (z : Int × (Rule × Unit)) (x : List Keep × List Bool) : List Keep × List Bool := if concerns z.2.1 u q then (cutL x.1 z.2.1, x.2.set z.1.toNat (x.2.getD z.1.toNat false || cutB x.1 z.2.1)) else x
def deadZ (u : Keep) (q : Int) (zs : List (Int × (Rule × Unit))) (fr : List Keep) (al : List Bool) : List Keep × List Bool := zs.foldl (fun x z => stepZ u q z x) (fr, al)
def okZ (u : Keep) (q : Int) : List (Int × (Rule × Unit)) → List Keep → List Bool → Bool
  | [], _, _ => true
  | z :: zs, fr, al => if concerns z.2.1 u q then lenOk5 fr && cIx al z.1 && okZ u q zs (cutL fr z.2.1) (al.set z.1.toNat (al.getD z.1.toNat false || cutB fr z.2.1)) else okZ u q zs fr al
def alP (rs : List Rule) (u : Keep) : Nat → List Bool → List Bool
  | 0, al => al
  | n + 1, al => alP rs u n (deadZ u (4 - (n : Int)) (backL rs) [(0, (40001, ()))] al).2
def alU (rs : List Rule) : List Keep → List Bool → List Bool
  | [], al => al
  | u :: l, al => alU rs l (alP rs u 4 al)
def deadI (k : Int) : List Bool → List Int
  | [] => []
  | b :: l => if b then deadI (k + 1) l else k :: deadI (k + 1) l
def DeadF (y : Policy) : List Int × Int := if polOk y then (deadI 0 (alU y.1 (usesF y) (List.replicate y.1.length false)), 0) else ([], 25)
def dr_verdict_Dead_0 : List DO := [(.mk (.mk (some 55) none (.m (.ld false 1 (.t 5)))) []), (.mk (.mk (some 56) none (.m (.pu (.mv (.t 10))))) []), (.mk (.mk (some 57) none (.m (.pu (.mv (.t 12))))) []), (.mk (.mk (some 58) none (.m (.ld false 1 (.t 5)))) []), (.mk (.mk (some 59) none (.m (.pu (.mv (.t 10))))) []), (.mk (.mk (some 60) none (.m (.pu (.ix 1 (.t 58) (.t 59))))) [3, 4]), (.mk (.mk (some 61) none (.m (.ld false 1 (.t 60)))) [5]), (.mk (.mk (some 62) none (.m (.pu (.mv (.t 61))))) [6]), (.mk (.mk (some 63) (some (62, false)) (.m (.pu (.mv (.t 13))))) [7]), (.mk (.mk (some 64) none (.m (.pu (.pick (.t 62) (.c (.v (.bool true))) (.t 63))))) [7, 8]), (.mk (.mk none none (.m (.st 1 (.t 9) (.t 57)))) [2, 7, 2]), (.mk (.mk (some 65) none (.m (.pu (.ix 1 (.t 55) (.t 56))))) [0, 1, 0, 1, 2, 3, 4, 5, 6, 7, 8, 9, 10]), (.mk (.mk none none (.m (.st 1 (.t 65) (.t 64)))) [11, 9, 10, 0, 1, 2, 3, 4, 5, 6, 7, 8, 9, 10])]
def fg_verdict_Dead_0 : Fg := ⟨[(1, none), (5, none), (7, none), (8, none), (9, none), (27, some (.sl tyKeep)), (28, some tI), (29, some tI), (33, some tI)], [(60000, some tyPolicy), (60001, none), (60002, some tyKeep), (60003, none), (60004, none), (25, none), (5025, none), (10025, none), (15025, none)]⟩
def ta_verdict_Dead_0 : TC := (.sq (.reg [(.mk (some 10) none (.m (.pu (.mv (.t 41)))))]) (.reg [(.mk (some 11) none (.m (.new [(.v (.bool false)), (.v (.int .i64 0)), (.v (.int .i64 0)), (.v (.int .i64 0)), (.v (.int .i64 0)), (.v (.int .i64 0))]))), (.mk none none (.m (.st 6 (.t 11) (.t 42))))]))
def tb_verdict_Dead_0 : TC := (.bk 5 (.sq (.sq (.reg [(.mk (some 43) none (.m (.ld true 6 (.t 11)))), (.mk (some 44) none (.m (.ld true 2 (.t 7)))), (.mk (some 45) none (.m (.ld false 1 (.t 8)))), (.mk (some 46) none (.m (.pu (.bin false .add (.t 45) (.c (.v (.int .i64 1))))))), (.mk (some 47) none (.call 55 [(.t 43), (.t 44), (.t 46)])), (.mk (some 48) none (.m (.pu (.nt (.t 47)))))]) (.cd (.t 48) (.fg ⟨[(1, none), (5, none), (7, none), (8, none), (9, none), (27, some (.sl tyKeep)), (28, some tI), (29, some tI), (33, some tI)], [(60000, some tyPolicy), (60001, none), (60002, some tyKeep), (60003, none), (60004, none), (25, none), (5025, none), (10025, none), (15025, none)]⟩ (.ex 5)) .sk)) (.sq (.reg [(.mk (some 50) none (.m (.ld false 1 (.t 9)))), (.mk (some 51) none (.m (.ld true 6 (.t 11)))), (.mk (some 52) none (.call 56 [(.t 50), (.t 51)])), (.mk (some 49) none (.m (.pu (.mv (.t 52))))), (.mk (some 53) none (.m (.pu (.ext 0 (.t 49))))), (.mk (some 54) none (.m (.pu (.ext 1 (.t 49))))), (.mk (some 12) none (.m (.pu (.mv (.t 53))))), (.mk (some 13) none (.m (.pu (.mv (.t 54)))))]) (.dr dr_verdict_Dead_0 [(0, [25, 5025, 10025, 15025, 60001]), (1, []), (2, []), (3, [25, 5025, 10025, 15025, 60001]), (4, []), (5, [25, 5025, 10025, 15025]), (6, [25, 5025, 10025, 15025]), (7, []), (8, []), (9, []), (10, [60004]), (11, [25, 5025, 10025, 15025]), (12, [25, 5025, 10025, 15025, 60001])] (.of [0, 1, 2, 3, 4, 5, 6, 7, 8, 9, 10, 11, 12])))))
def fg_verdict_Dead_1 : Fg := ⟨[(1, none), (5, none), (7, none), (27, some (.sl tyKeep)), (28, some tI), (29, some tI), (33, some tI)], [(1, some tyPolicy), (5, none), (7, some tyKeep), (25, none), (5025, none), (10025, none), (15025, none)]⟩
def tb_verdict_Dead_1 : TC := (.sq (.reg [(.mk (some 34) none (.m (.pu (.bin false .lss (.t 33) (.c (.v (.int .i64 4)))))))]) (.sq (.cd (.t 34) .sk (.fg ⟨[(1, none), (5, none), (27, some (.sl tyKeep)), (28, some tI), (29, some tI)], [(1, some tyPolicy), (5, none), (25, none), (5025, none), (10025, none), (15025, none)]⟩ (.ex 2))) (.sq (.bk 3 (.sq (.reg [(.mk (some 35) none (.m (.pu (.mv (.t 33))))), (.mk (some 8) none (.m (.new [(.v (.int .i64 0))]))), (.mk none none (.m (.st 1 (.t 8) (.t 35))))]) (.sq (.reg [(.mk (some 36) none (.m (.pu (.bd [(.v (.int .i64 0)), (.v (.int .i64 0))] [(0, 1, (.c (.v (.int .i64 0)))), (1, 1, (.c (.v (.int .i64 40001))))])))), (.mk (some 37) none (.m (.bs 50 2 1 [(.v (.int .i64 0)), (.v (.int .i64 0))] [(0, 2, (.t 36))]))), (.mk (some 9) none (.m (.new [(.v (.slice none 0 0))]))), (.mk none none (.m (.st 1 (.t 9) (.t 37))))]) (.sq (.reg [(.mk (some 38) none (.m (.pu (.fa 0 (.t 1))))), (.mk (some 39) none (.m (.ld false 1 (.t 38)))), (.mk (some 40) none (.call 54 [(.t 39)]))]) (.bk 4 (.rf 0 fg_verdict_Dead_0 (.t 40) (.pr tI (.pr tyRule .nil)) [41, 42] [1, 5, 7, 8, 9] ta_verdict_Dead_0 tb_verdict_Dead_0)))))) (.reg [(.mk (some 66) none (.m (.pu (.bin false .add (.t 33) (.c (.v (.int .i64 1))))))), (.mk (some 33) none (.m (.pu (.mv (.t 66)))))]))))
def fg_verdict_Dead_2 : Fg := ⟨[(1, none), (5, none), (27, some (.sl tyKeep)), (28, some tI), (29, some tI)], [(1, some tyPolicy), (5, none), (25, none), (5025, none), (10025, none), (15025, none)]⟩
def tb_verdict_Dead_2 : TC := (.sq (.reg [(.mk (some 30) none (.m (.pu (.bin false .lss (.t 29) (.t 28)))))]) (.sq (.cd (.t 30) .sk (.fg ⟨[(5, none)], [(5, none), (25, none), (5025, none), (10025, none), (15025, none)]⟩ (.ex 0))) (.sq (.bk 1 (.sq (.reg [(.mk (some 31) none (.m (.pu (.ix 2 (.t 27) (.t 29))))), (.mk (some 32) none (.m (.ld true 2 (.t 31)))), (.mk (some 7) none (.m (.new [(.v (.int .i64 0)), (.v (.int .i64 0))]))), (.mk none none (.m (.st 2 (.t 7) (.t 32))))]) (.sq (.reg [(.mk (some 33) none (.m (.pu (.mv (.c (.v (.int .i64 0)))))))]) (.bk 2 (.lp 1 fg_verdict_Dead_1 tb_verdict_Dead_1))))) (.reg [(.mk (some 67) none (.m (.pu (.bin false .add (.t 29) (.c (.v (.int .i64 1))))))), (.mk (some 29) none (.m (.pu (.mv (.t 67)))))]))))
def fg_verdict_Dead_3 : Fg := ⟨[(14, none), (68, none), (69, some tI), (70, some tI)], [(14, none), (25, none), (80, none), (5025, none), (10025, none), (15025, none)]⟩
def tb_verdict_Dead_3 : TC := (.sq (.reg [(.mk (some 71) none (.m (.pu (.bin false .lss (.t 70) (.t 69)))))]) (.sq (.cd (.t 71) .sk (.fg ⟨[(14, none)], [(14, none), (80, none)]⟩ (.ex 6))) (.sq (.bk 7 (.sq (.reg [(.mk (some 72) none (.m (.pu (.mv (.t 70))))), (.mk (some 73) none (.m (.pu (.ix 1 (.t 68) (.t 70))))), (.mk (some 74) none (.m (.ld false 1 (.t 73)))), (.mk (some 15) none (.m (.pu (.mv (.t 72))))), (.mk (some 16) none (.m (.pu (.mv (.t 74)))))]) (.sq (.reg [(.mk (some 75) none (.m (.pu (.mv (.t 16))))), (.mk (some 76) none (.m (.pu (.nt (.t 75)))))]) (.cd (.t 76) (.reg [(.mk (some 77) none (.m (.pu (.mv (.t 14))))), (.mk (some 78) none (.m (.pu (.mv (.t 15))))), (.mk (some 79) none (.m (.bs 3 1 1 [(.v (.int .i64 0))] [(0, 1, (.t 78))]))), (.mk (some 80) none (.m (.app 3 1 8 (.t 77) (.t 79)))), (.mk (some 14) none (.m (.pu (.mv (.t 80)))))]) .sk)))) (.reg [(.mk (some 81) none (.m (.pu (.bin false .add (.t 70) (.c (.v (.int .i64 1))))))), (.mk (some 70) none (.m (.pu (.mv (.t 81)))))]))))
/-- cipherplan/verdict.Dead -/
def tc_verdict_Dead : TC := (.sq (.reg [(.mk (some 1) none (.m (.box (.t 0)))), (.mk (some 2) none (.m (.pu (.mv (.c (.v (.slice none 0 0))))))), (.mk (some 3) none (.m (.pu (.mv (.c (.v (.int .i64 0)))))))]) (.sq (.sq (.reg [(.mk (some 17) none (.m (.ld true 2 (.t 1)))), (.mk (some 18) none (.call 52 [(.t 17)])), (.mk (some 4) none (.m (.pu (.mv (.t 18)))))]) (.sq (.reg [(.mk (some 19) none (.m (.pu (.mv (.t 4))))), (.mk (some 20) none (.m (.pu (.bin false .neq (.t 19) (.c (.v (.int .i64 0)))))))]) (.cd (.t 20) (.sq (.reg [(.mk (some 21) none (.m (.pu (.mv (.t 4))))), (.mk (some 2) none (.m (.pu (.mv (.c (.v (.slice none 0 0))))))), (.mk (some 3) none (.m (.pu (.mv (.t 21)))))]) .rt) .sk))) (.sq (.reg [(.mk (some 22) none (.m (.pu (.fa 0 (.t 1))))), (.mk (some 23) none (.m (.ld false 1 (.t 22)))), (.mk (some 24) none (.m (.pu (.len false (.t 23))))), (.mk (some 25) none (.call 1001489 [(.t 24), (.t 24)])), (.mk (some 5) none (.m (.new [(.v (.slice none 0 0))]))), (.mk none none (.m (.st 1 (.t 5) (.t 25))))]) (.sq (.sq (.reg [(.mk (some 26) none (.m (.ld true 2 (.t 1)))), (.mk (some 27) none (.call 53 [(.t 26)])), (.mk (some 28) none (.m (.pu (.len false (.t 27))))), (.mk (some 29) none (.m (.pu (.mv (.c (.v (.int .i64 0)))))))]) (.bk 0 (.lp 2 fg_verdict_Dead_2 tb_verdict_Dead_2))) (.sq (.reg [(.mk (some 14) none (.m (.pu (.mv (.c (.v (.slice none 0 0)))))))]) (.sq (.sq (.reg [(.mk (some 68) none (.m (.ld false 1 (.t 5)))), (.mk (some 69) none (.m (.pu (.len false (.t 68))))), (.mk (some 70) none (.m (.pu (.mv (.c (.v (.int .i64 0)))))))]) (.bk 6 (.nw 14 3 (.lp 3 fg_verdict_Dead_3 tb_verdict_Dead_3)))) (.sq (.reg [(.mk (some 82) none (.m (.pu (.mv (.t 14))))), (.mk (some 2) none (.m (.pu (.mv (.t 82))))), (.mk (some 3) none (.m (.pu (.mv (.c (.v (.int .i64 0)))))))]) .rt)))))))
def rv_verdict_Dead : List (RV × Option Ty) := [((.t 2), some (.sl tI)), ((.t 3), some tI)]
abbrev sh_verdict_Dead_0 : Sh := ⟨[(1, .ptr 60000 0), (5, .ptr 60001 0), (7, .ptr 60002 0), (8, .ptr 60003 0), (9, .ptr 60004 0), (27, .ty (.sl tyKeep)), (28, .ty tI), (29, .ty tI), (33, .ty tI)], [(60000, .box tyPolicy), (60001, .bag [.ms 25]), (60002, .box tyKeep), (60003, .bag [.ty tI]), (60004, .bag [.ty (.sl tyKeep)]), (25, .arr 4 .bool), (5025, .no), (10025, .no), (15025, .no)]⟩
def st_verdict_Dead_0 (x27 : (List Keep)) (x28 : Int) (x29 : Int) (x33 : Int) (y60000 : Policy) (y60002 : Keep) (y60003_0 : Int) (y60004_0 : (List Keep)) (y25 : (List Bool)) : VS := sh_verdict_Dead_0.st ((), (), (), (), (), x27, x28, x29, x33, ()) (y60000, ((), ()), y60002, (y60003_0, ()), (y60004_0, ()), y25, (), (), (), ())
abbrev sh_verdict_Dead_0_normal : Sh := ⟨[(1, .ptr 60000 0), (5, .ptr 60001 0), (7, .ptr 60002 0), (8, .ptr 60003 0), (9, .ptr 60004 0), (27, .ty (.sl tyKeep)), (28, .ty tI), (29, .ty tI), (33, .ty tI)], [(60000, .box tyPolicy), (60001, .bag [.ms 25]), (60002, .box tyKeep), (60003, .bag [.ty tI]), (60004, .bag [.ty (.sl tyKeep)]), (25, .arr 4 .bool), (5025, .no), (10025, .no), (15025, .no)]⟩
def st_verdict_Dead_0_normal (x27 : (List Keep)) (x28 : Int) (x29 : Int) (x33 : Int) (y60000 : Policy) (y60002 : Keep) (y60003_0 : Int) (y60004_0 : (List Keep)) (y25 : (List Bool)) : VS := sh_verdict_Dead_0_normal.st ((), (), (), (), (), x27, x28, x29, x33, ()) (y60000, ((), ()), y60002, (y60003_0, ()), (y60004_0, ()), y25, (), (), (), ())
-- loop 0: (x27 : (List Keep)) (x28 : Int) (x29 : Int) (x33 : Int) (y60000 : Policy) (y60002 : Keep) (y60003_0 : Int) (y60004_0 : (List Keep)) (y25 : (List Bool)); out: ('normal',) (x27 : (List Keep)) (x28 : Int) (x29 : Int) (x33 : Int) (y60000 : Policy) (y60002 : Keep) (y60003_0 : Int) (y60004_0 : (List Keep)) (y25 : (List Bool))
abbrev sh_verdict_Dead_1 : Sh := ⟨[(1, .ptr 1 0), (5, .ptr 5 0), (7, .ptr 7 0), (27, .ty (.sl tyKeep)), (28, .ty tI), (29, .ty tI), (33, .ty tI)], [(1, .box tyPolicy), (5, .bag [.ms 25]), (7, .box tyKeep), (25, .arr 4 .bool), (5025, .no), (10025, .no), (15025, .no)]⟩
def st_verdict_Dead_1 (x27 : (List Keep)) (x28 : Int) (x29 : Int) (x33 : Int) (y1 : Policy) (y7 : Keep) (y25 : (List Bool)) : VS := sh_verdict_Dead_1.st ((), (), (), x27, x28, x29, x33, ()) (y1, ((), ()), y7, y25, (), (), (), ())
abbrev sh_verdict_Dead_1_e2 : Sh := ⟨[(1, .ptr 1 0), (5, .ptr 5 0), (27, .ty (.sl tyKeep)), (28, .ty tI), (29, .ty tI)], [(1, .box tyPolicy), (5, .bag [.ms 25]), (25, .arr 4 .bool), (5025, .no), (10025, .no), (15025, .no)]⟩
def st_verdict_Dead_1_e2 (x27 : (List Keep)) (x28 : Int) (x29 : Int) (y1 : Policy) (y25 : (List Bool)) : VS := sh_verdict_Dead_1_e2.st ((), (), x27, x28, x29, ()) (y1, ((), ()), y25, (), (), (), ())
-- loop 1: (x27 : (List Keep)) (x28 : Int) (x29 : Int) (x33 : Int) (y1 : Policy) (y7 : Keep) (y25 : (List Bool)); out: ('exit', 2) (x27 : (List Keep)) (x28 : Int) (x29 : Int) (y1 : Policy) (y25 : (List Bool))
abbrev sh_verdict_Dead_2 : Sh := ⟨[(1, .ptr 1 0), (5, .ptr 5 0), (27, .ty (.sl tyKeep)), (28, .ty tI), (29, .ty tI)], [(1, .box tyPolicy), (5, .bag [.ms 25]), (25, .arr 4 .bool), (5025, .no), (10025, .no), (15025, .no)]⟩
def st_verdict_Dead_2 (x27 : (List Keep)) (x28 : Int) (x29 : Int) (y1 : Policy) (y25 : (List Bool)) : VS := sh_verdict_Dead_2.st ((), (), x27, x28, x29, ()) (y1, ((), ()), y25, (), (), (), ())
abbrev sh_verdict_Dead_2_e0 : Sh := ⟨[(5, .ptr 5 0)], [(5, .bag [.ms 25]), (25, .arr 4 .bool), (5025, .no), (10025, .no), (15025, .no)]⟩
def st_verdict_Dead_2_e0 (y25 : (List Bool)) : VS := sh_verdict_Dead_2_e0.st ((), ()) (((), ()), y25, (), (), (), ())
-- loop 2: (x27 : (List Keep)) (x28 : Int) (x29 : Int) (y1 : Policy) (y25 : (List Bool)); out: ('exit', 0) (y25 : (List Bool))
abbrev sh_verdict_Dead_3 : Sh := ⟨[(14, .ms 14), (68, .ms 25), (69, .ty tI), (70, .ty tI)], [(14, .arr 3 tI), (25, .arr 4 .bool), (80, .no), (5025, .no), (10025, .no), (15025, .no)]⟩
def st_verdict_Dead_3 (x69 : Int) (x70 : Int) (y14 : (List Int)) (y25 : (List Bool)) : VS := sh_verdict_Dead_3.st ((), (), x69, x70, ()) (y14, y25, (), (), (), (), ())
abbrev sh_verdict_Dead_3_e6 : Sh := ⟨[(14, .ms 14)], [(14, .arr 3 tI), (80, .no)]⟩
def st_verdict_Dead_3_e6 (y14 : (List Int)) : VS := sh_verdict_Dead_3_e6.st ((), ()) (y14, (), ())
-- loop 3: (x69 : Int) (x70 : Int) (y14 : (List Int)) (y25 : (List Bool)); out: ('exit', 6) (y14 : (List Int))
def R_verdict_Dead_0 : VS → List (Ty.T (.pr tI (.pr tyRule .nil))) → Option (Bool × List (Bool × Exit × VS)) := mkR sh_verdict_Dead_0 (fun zs x y => (okZ y.2.2.1 (iadd .i64 y.2.2.2.1.1 1) zs y.2.2.2.2.1.1 y.2.2.2.2.2.1)) (fun zs x y => [(true, .normal, st_verdict_Dead_0_normal (x.2.2.2.2.2.1) (x.2.2.2.2.2.2.1) (x.2.2.2.2.2.2.2.1) (x.2.2.2.2.2.2.2.2.1) (y.1) (y.2.2.1) (y.2.2.2.1.1) ((deadZ y.2.2.1 (iadd .i64 y.2.2.2.1.1 1) zs y.2.2.2.2.1.1 y.2.2.2.2.2.1).1) ((deadZ y.2.2.1 (iadd .i64 y.2.2.2.1.1 1) zs y.2.2.2.2.1.1 y.2.2.2.2.2.1).2))])
def L_verdict_Dead_1 : VS → Option (Bool × List (Bool × Exit × VS)) := mkL sh_verdict_Dead_1 (fun x y => (decide (0 ≤ x.2.2.2.2.2.2.1 ∧ x.2.2.2.2.2.2.1 ≤ 4 ∧ y.2.2.2.1.length = y.1.1.length) && polOk y.1)) (fun x y => [(true, .exit 2, st_verdict_Dead_1_e2 (x.2.2.2.1) (x.2.2.2.2.1) (x.2.2.2.2.2.1) (y.1) (alP y.1.1 y.2.2.1 (4 - x.2.2.2.2.2.2.1).toNat y.2.2.2.1))])
def L_verdict_Dead_2 : VS → Option (Bool × List (Bool × Exit × VS)) := mkL sh_verdict_Dead_2 (fun x y => (decide (x.2.2.2.1 = (x.2.2.1.length : Int) ∧ 0 ≤ x.2.2.2.2.1 ∧ x.2.2.2.2.1 ≤ x.2.2.2.1 ∧ x.2.2.1.length ≤ 1000000 ∧ y.2.2.1.length = y.1.1.length) && polOk y.1)) (fun x y => [(true, .exit 0, st_verdict_Dead_2_e0 (alU y.1.1 (x.2.2.1.drop x.2.2.2.2.1.toNat) y.2.2.1))])
def L_verdict_Dead_3 : VS → Option (Bool × List (Bool × Exit × VS)) := mkL sh_verdict_Dead_3 (fun x y => (rngOk y.2.1 x.2.2.1 x.2.2.2.1 && decide ((y.1.length : Int) ≤ x.2.2.2.1))) (fun x y => [(true, .exit 6, st_verdict_Dead_3_e6 (y.1 ++ deadI x.2.2.2.1 (y.2.1.drop x.2.2.2.1.toNat)))])
def g_verdict_Dead : G := ⟨TYs, [], 83, EL [(52, sp_rule_Check), (53, sp_verdict_uses), (54, sp_slices_Backward_api_Rule_api_Rule), (55, sp_verdict_concerns), (56, sp_verdict_cut), (1001489, sp_op_make_93)], keeps, (Ls [fun _ => none, L_verdict_Dead_1, L_verdict_Dead_2, L_verdict_Dead_3]), IL [(76, it_slices_Backward_api_Rule_api_Rule_1)], (RL [⟨(.pr tI (.pr tyRule .nil)), R_verdict_Dead_0⟩, ⟨.nil, fun _ _ => none⟩, ⟨.nil, fun _ _ => none⟩, ⟨.nil, fun _ _ => none⟩])⟩
def b_verdict_Dead_0 (z : (Int × (Rule × Unit))) (x27 : (List Keep)) (x28 : Int) (x29 : Int) (x33 : Int) (y60000 : Policy) (y60002 : Keep) (y60003_0 : Int) (y60004_0 : (List Keep)) (y25 : (List Bool)) : Option (Exit × VS) :=
  br ((!(concerns z.2.1 y60002 (iadd .i64 y60003_0 1))))
    (some (.normal, st_verdict_Dead_0 x27 x28 x29 x33 y60000 y60002 y60003_0 y60004_0 y25))
    (br ((cutOk y60004_0 z.2.1))
      (br (cIx y25 z.1)
        (br (cLd y25 (Int.toNat z.1))
          (br ((lgt .bool y25 (Int.toNat z.1)))
            (br (cIx y25 z.1)
              (br (cLd y25 (Int.toNat z.1))
                (some (.normal, st_verdict_Dead_0 x27 x28 x29 x33 y60000 y60002 y60003_0 ((cutF y60004_0 z.2.1).1) (List.set y25 (Int.toNat z.1) true)))
                (none))
              (none))
            (br (cIx y25 z.1)
              (br (cLd y25 (Int.toNat z.1))
                (some (.normal, st_verdict_Dead_0 x27 x28 x29 x33 y60000 y60002 y60003_0 ((cutF y60004_0 z.2.1).1) (List.set y25 (Int.toNat z.1) ((cutF y60004_0 z.2.1).2))))
                (none))
              (none)))
          (none))
        (none))
      (none))
noncomputable def lp_verdict_Dead_0 (zs : List (Int × (Rule × Unit))) (x27 : (List Keep)) (x28 : Int) (x29 : Int) (x33 : Int) (y60000 : Policy) (y60002 : Keep) (y60003_0 : Int) (y60004_0 : (List Keep)) (y25 : (List Bool)) : Option (Exit × VS) := rangeF (roundR g_verdict_Dead fg_verdict_Dead_0 (.pr tI (.pr tyRule .nil)) [41, 42] ta_verdict_Dead_0 tb_verdict_Dead_0) zs (st_verdict_Dead_0 x27 x28 x29 x33 y60000 y60002 y60003_0 y60004_0 y25)
noncomputable def n_verdict_Dead_0 (z : (Int × (Rule × Unit))) (zs : List (Int × (Rule × Unit))) (x27 : (List Keep)) (x28 : Int) (x29 : Int) (x33 : Int) (y60000 : Policy) (y60002 : Keep) (y60003_0 : Int) (y60004_0 : (List Keep)) (y25 : (List Bool)) : Option (Exit × VS) :=
  br ((!(concerns z.2.1 y60002 (iadd .i64 y60003_0 1))))
    (lp_verdict_Dead_0 zs x27 x28 x29 x33 y60000 y60002 y60003_0 y60004_0 y25)
    (br ((cutOk y60004_0 z.2.1))
      (br (cIx y25 z.1)
        (br (cLd y25 (Int.toNat z.1))
          (br ((lgt .bool y25 (Int.toNat z.1)))
            (br (cIx y25 z.1)
              (br (cLd y25 (Int.toNat z.1))
                (lp_verdict_Dead_0 zs x27 x28 x29 x33 y60000 y60002 y60003_0 ((cutF y60004_0 z.2.1).1) (List.set y25 (Int.toNat z.1) true))
                (none))
              (none))
            (br (cIx y25 z.1)
              (br (cLd y25 (Int.toNat z.1))
                (lp_verdict_Dead_0 zs x27 x28 x29 x33 y60000 y60002 y60003_0 ((cutF y60004_0 z.2.1).1) (List.set y25 (Int.toNat z.1) ((cutF y60004_0 z.2.1).2)))
                (none))
              (none)))
          (none))
        (none))
      (none))
def la_verdict_Dead_0 (zs : List (Int × (Rule × Unit))) (x27 : (List Keep)) (x28 : Int) (x29 : Int) (x33 : Int) (y60000 : Policy) (y60002 : Keep) (y60003_0 : Int) (y60004_0 : (List Keep)) (y25 : (List Bool)) : Option (Exit × VS) := some (.normal, st_verdict_Dead_0_normal (x27) (x28) (x29) (x33) (y60000) (y60002) (y60003_0) ((deadZ y60002 (iadd .i64 y60003_0 1) zs y60004_0 y25).1) ((deadZ y60002 (iadd .i64 y60003_0 1) zs y60004_0 y25).2))
theorem be_verdict_Dead_0 (z : (Int × (Rule × Unit))) (x27 : (List Keep)) (x28 : Int) (x29 : Int) (x33 : Int) (y60000 : Policy) (y60002 : Keep) (y60003_0 : Int) (y60004_0 : (List Keep)) (y25 : (List Bool)) : roundR g_verdict_Dead fg_verdict_Dead_0 (.pr tI (.pr tyRule .nil)) [41, 42] ta_verdict_Dead_0 tb_verdict_Dead_0 z (st_verdict_Dead_0 x27 x28 x29 x33 y60000 y60002 y60003_0 y60004_0 y25) = b_verdict_Dead_0 z x27 x28 x29 x33 y60000 y60002 y60003_0 y60004_0 y25 := by kernel_rfl
theorem ln0_verdict_Dead_0 (x27 : (List Keep)) (x28 : Int) (x29 : Int) (x33 : Int) (y60000 : Policy) (y60002 : Keep) (y60003_0 : Int) (y60004_0 : (List Keep)) (y25 : (List Bool)) : lp_verdict_Dead_0 [] x27 x28 x29 x33 y60000 y60002 y60003_0 y60004_0 y25 = some (.normal, st_verdict_Dead_0_normal x27 x28 x29 x33 y60000 y60002 y60003_0 y60004_0 y25) := rfl
theorem ln_verdict_Dead_0 (z : (Int × (Rule × Unit))) (zs : List (Int × (Rule × Unit))) (x27 : (List Keep)) (x28 : Int) (x29 : Int) (x33 : Int) (y60000 : Policy) (y60002 : Keep) (y60003_0 : Int) (y60004_0 : (List Keep)) (y25 : (List Bool)) : lp_verdict_Dead_0 (z :: zs) x27 x28 x29 x33 y60000 y60002 y60003_0 y60004_0 y25 = n_verdict_Dead_0 z zs x27 x28 x29 x33 y60000 y60002 y60003_0 y60004_0 y25 := (rangeF_cons _ _ _ _).trans (by
  rw [be_verdict_Dead_0]
  simp only [b_verdict_Dead_0, n_verdict_Dead_0, nxt_br, nxt_n, nxt_r, nxt_e, nxt_0]
  rfl)
def b_verdict_Dead_1 (x27 : (List Keep)) (x28 : Int) (x29 : Int) (x33 : Int) (y1 : Policy) (y7 : Keep) (y25 : (List Bool)) : Option (Exit × VS) :=
  br ((ilt x33 4))
    (br ((okZ y7 (iadd .i64 x33 1) (backL y1.1) ([(0, (40001, ()))]) y25))
      (some (.normal, st_verdict_Dead_1 (x27) (x28) (x29) (iadd .i64 (x33) 1) (y1) (y7) ((deadZ y7 (iadd .i64 x33 1) (backL y1.1) ([(0, (40001, ()))]) y25).2)))
      (none))
    (some (.exit 2, st_verdict_Dead_1_e2 x27 x28 x29 y1 y25))
noncomputable def lp_verdict_Dead_1 (x27 : (List Keep)) (x28 : Int) (x29 : Int) (x33 : Int) (y1 : Policy) (y7 : Keep) (y25 : (List Bool)) : Option (Exit × VS) := loopF (roundF g_verdict_Dead fg_verdict_Dead_1 tb_verdict_Dead_1) (st_verdict_Dead_1 x27 x28 x29 x33 y1 y7 y25)
noncomputable def n_verdict_Dead_1 (x27 : (List Keep)) (x28 : Int) (x29 : Int) (x33 : Int) (y1 : Policy) (y7 : Keep) (y25 : (List Bool)) : Option (Exit × VS) :=
  br ((ilt x33 4))
    (br ((okZ y7 (iadd .i64 x33 1) (backL y1.1) ([(0, (40001, ()))]) y25))
      (lp_verdict_Dead_1 (x27) (x28) (x29) (iadd .i64 (x33) 1) (y1) (y7) ((deadZ y7 (iadd .i64 x33 1) (backL y1.1) ([(0, (40001, ()))]) y25).2))
      (none))
    (some (.exit 2, st_verdict_Dead_1_e2 x27 x28 x29 y1 y25))
def la_verdict_Dead_1 (x27 : (List Keep)) (x28 : Int) (x29 : Int) (x33 : Int) (y1 : Policy) (y7 : Keep) (y25 : (List Bool)) : Option (Exit × VS) := some (.exit 2, st_verdict_Dead_1_e2 (x27) (x28) (x29) (y1) (alP y1.1 y7 (4 - x33).toNat y25))
theorem be_verdict_Dead_1 (x27 : (List Keep)) (x28 : Int) (x29 : Int) (x33 : Int) (y1 : Policy) (y7 : Keep) (y25 : (List Bool)) : roundF g_verdict_Dead fg_verdict_Dead_1 tb_verdict_Dead_1 (st_verdict_Dead_1 x27 x28 x29 x33 y1 y7 y25) = b_verdict_Dead_1 x27 x28 x29 x33 y1 y7 y25 := by kernel_rfl
theorem ln_verdict_Dead_1 (x27 : (List Keep)) (x28 : Int) (x29 : Int) (x33 : Int) (y1 : Policy) (y7 : Keep) (y25 : (List Bool)) : lp_verdict_Dead_1 x27 x28 x29 x33 y1 y7 y25 = n_verdict_Dead_1 x27 x28 x29 x33 y1 y7 y25 := (loopF_nxt _ _).trans (by
  rw [be_verdict_Dead_1]
  simp only [b_verdict_Dead_1, n_verdict_Dead_1, nxt_br, nxt_n, nxt_r, nxt_e, nxt_0]
  rfl)
def b_verdict_Dead_2 (x27 : (List Keep)) (x28 : Int) (x29 : Int) (y1 : Policy) (y25 : (List Bool)) : Option (Exit × VS) :=
  br ((ilt x29 x28))
    (br (cIx x27 x29)
      (br ((decide (0 ≤ (0 : Int) ∧ (0 : Int) ≤ 4 ∧ y25.length = y1.1.length) && polOk y1))
        (some (.normal, st_verdict_Dead_2 (x27) (x28) (iadd .i64 (x29) 1) (y1) (alP y1.1 (lgt tyKeep x27 (Int.toNat x29)) (4 - (0 : Int)).toNat y25)))
        (none))
      (none))
    (some (.exit 0, st_verdict_Dead_2_e0 y25))
noncomputable def lp_verdict_Dead_2 (x27 : (List Keep)) (x28 : Int) (x29 : Int) (y1 : Policy) (y25 : (List Bool)) : Option (Exit × VS) := loopF (roundF g_verdict_Dead fg_verdict_Dead_2 tb_verdict_Dead_2) (st_verdict_Dead_2 x27 x28 x29 y1 y25)
noncomputable def n_verdict_Dead_2 (x27 : (List Keep)) (x28 : Int) (x29 : Int) (y1 : Policy) (y25 : (List Bool)) : Option (Exit × VS) :=
  br ((ilt x29 x28))
    (br (cIx x27 x29)
      (br ((decide (0 ≤ (0 : Int) ∧ (0 : Int) ≤ 4 ∧ y25.length = y1.1.length) && polOk y1))
        (lp_verdict_Dead_2 (x27) (x28) (iadd .i64 (x29) 1) (y1) (alP y1.1 (lgt tyKeep x27 (Int.toNat x29)) (4 - (0 : Int)).toNat y25))
        (none))
      (none))
    (some (.exit 0, st_verdict_Dead_2_e0 y25))
def la_verdict_Dead_2 (x27 : (List Keep)) (x28 : Int) (x29 : Int) (y1 : Policy) (y25 : (List Bool)) : Option (Exit × VS) := some (.exit 0, st_verdict_Dead_2_e0 (alU y1.1 (x27.drop x29.toNat) y25))
theorem be_verdict_Dead_2 (x27 : (List Keep)) (x28 : Int) (x29 : Int) (y1 : Policy) (y25 : (List Bool)) : roundF g_verdict_Dead fg_verdict_Dead_2 tb_verdict_Dead_2 (st_verdict_Dead_2 x27 x28 x29 y1 y25) = b_verdict_Dead_2 x27 x28 x29 y1 y25 := by kernel_rfl
theorem ln_verdict_Dead_2 (x27 : (List Keep)) (x28 : Int) (x29 : Int) (y1 : Policy) (y25 : (List Bool)) : lp_verdict_Dead_2 x27 x28 x29 y1 y25 = n_verdict_Dead_2 x27 x28 x29 y1 y25 := (loopF_nxt _ _).trans (by
  rw [be_verdict_Dead_2]
  simp only [b_verdict_Dead_2, n_verdict_Dead_2, nxt_br, nxt_n, nxt_r, nxt_e, nxt_0]
  rfl)
def b_verdict_Dead_3 (x69 : Int) (x70 : Int) (y14 : (List Int)) (y25 : (List Bool)) : Option (Exit × VS) :=
  br ((ilt x70 x69))
    (br (cIx y25 x70)
      (br (cLd y25 (Int.toNat x70))
        (br ((!(lgt .bool y25 (Int.toNat x70))))
          (br (cApp y14 ([x70]) 8)
            (some (.normal, st_verdict_Dead_3 x69 (iadd .i64 x70 1) (y14 ++ ([x70])) y25))
            (none))
          (some (.normal, st_verdict_Dead_3 x69 (iadd .i64 x70 1) y14 y25)))
        (none))
      (none))
    (some (.exit 6, st_verdict_Dead_3_e6 y14))
noncomputable def lp_verdict_Dead_3 (x69 : Int) (x70 : Int) (y14 : (List Int)) (y25 : (List Bool)) : Option (Exit × VS) := loopF (roundF g_verdict_Dead fg_verdict_Dead_3 tb_verdict_Dead_3) (st_verdict_Dead_3 x69 x70 y14 y25)
noncomputable def n_verdict_Dead_3 (x69 : Int) (x70 : Int) (y14 : (List Int)) (y25 : (List Bool)) : Option (Exit × VS) :=
  br ((ilt x70 x69))
    (br (cIx y25 x70)
      (br (cLd y25 (Int.toNat x70))
        (br ((!(lgt .bool y25 (Int.toNat x70))))
          (br (cApp y14 ([x70]) 8)
            (lp_verdict_Dead_3 x69 (iadd .i64 x70 1) (y14 ++ ([x70])) y25)
            (none))
          (lp_verdict_Dead_3 x69 (iadd .i64 x70 1) y14 y25))
        (none))
      (none))
    (some (.exit 6, st_verdict_Dead_3_e6 y14))
def la_verdict_Dead_3 (x69 : Int) (x70 : Int) (y14 : (List Int)) (y25 : (List Bool)) : Option (Exit × VS) := some (.exit 6, st_verdict_Dead_3_e6 (y14 ++ deadI x70 (y25.drop x70.toNat)))
theorem be_verdict_Dead_3 (x69 : Int) (x70 : Int) (y14 : (List Int)) (y25 : (List Bool)) : roundF g_verdict_Dead fg_verdict_Dead_3 tb_verdict_Dead_3 (st_verdict_Dead_3 x69 x70 y14 y25) = b_verdict_Dead_3 x69 x70 y14 y25 := by kernel_rfl
theorem ln_verdict_Dead_3 (x69 : Int) (x70 : Int) (y14 : (List Int)) (y25 : (List Bool)) : lp_verdict_Dead_3 x69 x70 y14 y25 = n_verdict_Dead_3 x69 x70 y14 y25 := (loopF_nxt _ _).trans (by
  rw [be_verdict_Dead_3]
  simp only [b_verdict_Dead_3, n_verdict_Dead_3, nxt_br, nxt_n, nxt_r, nxt_e, nxt_0]
  rfl)
def r_verdict_Dead (p0 : Policy) : Option (V × List VO) :=
  br ((polLen p0))
    (br ((ine (checkF p0) 0))
      (some (.tu [(.t (.sl tI) ([] : List Int)), (.t tI (checkF p0))], []))
      (br ((makeOk (llen p0.1) (llen p0.1)))
        (br ((polSmall p0))
          (br ((decide ((llen (usesF p0)) = ((usesF p0).length : Int) ∧ 0 ≤ (0 : Int) ∧ (0 : Int) ≤ (llen (usesF p0)) ∧ (usesF p0).length ≤ 1000000 ∧ (makeL .bool (llen p0.1) (llen p0.1)).length = p0.1.length) && polOk p0))
            (br ((rngOk (alU p0.1 ((usesF p0).drop (0 : Int).toNat) (makeL .bool (llen p0.1) (llen p0.1))) (llen (alU p0.1 ((usesF p0).drop (0 : Int).toNat) (makeL .bool (llen p0.1) (llen p0.1)))) (0 : Int) && decide ((([] : List Int).length : Int) ≤ (0 : Int))))
              (some (.tu [(.t (.sl tI) (([] : List Int) ++ deadI (0 : Int) ((alU p0.1 ((usesF p0).drop (0 : Int).toNat) (makeL .bool (llen p0.1) (llen p0.1))).drop (0 : Int).toNat))), (.t tI 0)], []))
              (none))
            (none))
          (none))
        (none)))
    (none)
theorem e_verdict_Dead (p0 : Policy) : runF g_verdict_Dead tc_verdict_Dead rv_verdict_Dead false [.t tyPolicy p0] [] = r_verdict_Dead p0 := by kernel_rfl
theorem ok_verdict_Dead : Option.map (trC Try.prog) Try.f29.body = some tc_verdict_Dead.er := by kernel_rfl
theorem rok_verdict_Dead : trVs Try.prog Try.f29.results.toList = some (rv_verdict_Dead.map Prod.fst) := by kernel_rfl
theorem en_verdict_Dead : Entered Try.prog 29 := .inr ⟨by decide, _, Try.func29, by kernel_rfl, by kernel_rfl⟩
theorem gk_verdict_Dead : GOk Try.prog g_verdict_Dead := gok_of _ (by
  intro p hp
  simp only [List.mem_cons, List.not_mem_nil, or_false] at hp
  rcases hp with rfl | rfl | rfl | rfl | rfl | rfl
  · exact ⟨en_rule_Check, ms_rule_Check⟩
  · exact ⟨en_verdict_uses, ms_verdict_uses⟩
  · exact ⟨en_slices_Backward_api_Rule_api_Rule, ms_slices_Backward_api_Rule_api_Rule⟩
  · exact ⟨en_verdict_concerns, ms_verdict_concerns⟩
  · exact ⟨en_verdict_cut, ms_verdict_cut⟩
  · exact ⟨en_op_make_93, ms_op_make_93⟩) [(76, it_slices_Backward_api_Rule_api_Rule_1)] (by
  intro p hp
  simp only [List.mem_cons, List.not_mem_nil, or_false] at hp
  rcases hp with rfl
  · exact is_slices_Backward_api_Rule_api_Rule_1)
theorem l_verdict_Dead_0 (zs : List (Int × (Rule × Unit))) (x27 : (List Keep)) (x28 : Int) (x29 : Int) (x33 : Int) (y60000 : Policy) (y60002 : Keep) (y60003_0 : Int) (y60004_0 : (List Keep)) (y25 : (List Bool)) (h : (okZ y60002 (iadd .i64 y60003_0 1) zs y60004_0 y25) = true) : lp_verdict_Dead_0 zs x27 x28 x29 x33 y60000 y60002 y60003_0 y60004_0 y25 = la_verdict_Dead_0 zs x27 x28 x29 x33 y60000 y60002 y60003_0 y60004_0 y25 := by
  induction zs generalizing y60004_0 y25 with
  | nil => rfl
  | cons z zs ih =>
    rw [ln_verdict_Dead_0]
    simp only [n_verdict_Dead_0]
    unfold okZ at h
    have el : la_verdict_Dead_0 (z :: zs) x27 x28 x29 x33 y60000 y60002 y60003_0 y60004_0 y25 = la_verdict_Dead_0 zs x27 x28 x29 x33 y60000 y60002 y60003_0 (stepZ y60002 (iadd .i64 y60003_0 1) z (y60004_0, y25)).1 (stepZ y60002 (iadd .i64 y60003_0 1) z (y60004_0, y25)).2 := rfl
    rw [el]
    unfold stepZ
    cases hc : concerns z.2.1 y60002 (iadd .i64 y60003_0 1) with
    | false =>
      rw [hc] at h
      simp only [Bool.not_false, br_true, Bool.false_eq_true, if_false] at h ⊢
      exact ih _ _ h
    | true =>
      rw [hc] at h
      simp only [if_true, Bool.and_eq_true] at h
      obtain ⟨⟨h1, h2⟩, h3⟩ := h
      have h2' := h2
      simp only [cIx, decide_eq_true_eq] at h2'
      have h4 : z.1.toNat < y25.length := by omega
      have h5 : cLd y25 z.1.toNat = true := by simp [cLd, h4]
      have h6 : cutOk y60004_0 z.2.1 = true := h1
      simp only [Bool.not_true, br_false, h6, h2, h5, br_true, if_true, lgt_get (y := .bool) h4]
      have h7 : y25.getD z.1.toNat false = y25[z.1.toNat] := by rw [List.getD_eq_getElem?_getD, List.getElem?_eq_getElem h4]; rfl
      rw [h7] at h3 ⊢
      have ih := ih _ _ h3
      cases hb : y25[z.1.toNat] with
      | true => rw [hb] at ih; exact ih
      | false => rw [hb] at ih; exact ih
theorem back_mem {α : Type} {l : List α} {z : Int × (α × Unit)} (h : z ∈ backL l) : 0 ≤ z.1 ∧ z.1 < l.length ∧ l[z.1.toNat]? = some z.2.1 := by
  unfold backL at h
  rw [List.mem_reverse, List.mem_map] at h
  obtain ⟨⟨a, i⟩, h1, rfl⟩ := h
  have h2 := List.mem_zipIdx_iff_getElem?.1 h1
  simp only at h2
  have h3 := (List.getElem?_eq_some_iff.1 h2).1
  refine ⟨by simp only; omega, by simp only; omega, by simpa using h2⟩
theorem back_len {α : Type} (l : List α) : (backL l).length = l.length := by simp [backL]
theorem stepZ_len (u : Keep) (q : Int) (z : Int × (Rule × Unit)) (x : List Keep × List Bool) : (stepZ u q z x).2.length = x.2.length := by
  unfold stepZ
  split <;> simp
theorem deadZ_len (u : Keep) (q : Int) : ∀ (zs : List (Int × (Rule × Unit))) (fr : List Keep) (al : List Bool), (deadZ u q zs fr al).2.length = al.length
  | [], _, _ => rfl
  | z :: zs, fr, al => by
    have h := deadZ_len u q zs (stepZ u q z (fr, al)).1 (stepZ u q z (fr, al)).2
    rw [stepZ_len] at h
    exact h
theorem alP_len (rs : List Rule) (u : Keep) : ∀ (n : Nat) (al : List Bool), (alP rs u n al).length = al.length
  | 0, _ => rfl
  | n + 1, al => by
    unfold alP
    rw [alP_len rs u n, deadZ_len]
theorem alU_len (rs : List Rule) : ∀ (l : List Keep) (al : List Bool), (alU rs l al).length = al.length
  | [], _ => rfl
  | u :: l, al => by
    unfold alU
    rw [alU_len rs l, alP_len]
theorem okZ_ok (u : Keep) (q : Int) : ∀ (zs : List (Int × (Rule × Unit))) (fr : List Keep) (al : List Bool), wsL fr → fr.length + zs.length ≤ 100000 → (∀ z, z ∈ zs → 0 ≤ z.1 ∧ z.1 < al.length) → okZ u q zs fr al = true
  | [], _, _, _, _, _ => rfl
  | z :: zs, fr, al, hw, hl, hz => by
    have h0 := hz z (by simp)
    rw [List.length_cons] at hl
    unfold okZ
    split
    · have h1 := cutL_len (r := z.2.1) hw
      simp only [Bool.and_eq_true]
      refine ⟨⟨?_, ?_⟩, okZ_ok u q zs _ _ (cutL_ws hw) (by omega) fun z' h' => ?_⟩
      · simp only [lenOk5, decide_eq_true_eq]; omega
      · simp only [cIx, decide_eq_true_eq]; omega
      · rw [List.length_set]; exact hz z' (by simp [h'])
    · exact okZ_ok u q zs fr al hw (by omega) fun z' h' => hz z' (by simp [h'])
theorem free_ws : wsL [(0, (40001, ()))] := ⟨List.pairwise_singleton _ _, fun a h => by rw [List.mem_singleton.1 h]; decide⟩
theorem okZ_pol {y : Policy} {u : Keep} {q : Int} {al : List Bool} (h : polOk y = true) (hl : al.length = y.1.length) : okZ u q (backL y.1) [(0, (40001, ()))] al = true := by
  have h60 := polOk_len h
  refine okZ_ok u q _ _ _ free_ws (by rw [back_len]; simp; omega) fun z hz => ?_
  have := back_mem hz
  omega
theorem l_verdict_Dead_1 (x27 : (List Keep)) (x28 : Int) (x29 : Int) (x33 : Int) (y1 : Policy) (y7 : Keep) (y25 : (List Bool)) (h : (decide (0 ≤ x33 ∧ x33 ≤ 4 ∧ y25.length = y1.1.length) && polOk y1) = true) : lp_verdict_Dead_1 x27 x28 x29 x33 y1 y7 y25 = la_verdict_Dead_1 x27 x28 x29 x33 y1 y7 y25 := by
  simp only [Bool.and_eq_true, decide_eq_true_eq] at h
  obtain ⟨⟨h1, h2, h3⟩, h4⟩ := h
  obtain ⟨k, rfl⟩ := Int.eq_ofNat_of_zero_le h1
  revert y25
  refine up_ind 4 (fun k => ∀ y25 : List Bool, y25.length = y1.1.length → lp_verdict_Dead_1 x27 x28 x29 (k : Int) y1 y7 y25 = la_verdict_Dead_1 x27 x28 x29 (k : Int) y1 y7 y25) ?_ ?_ k (by omega)
  · intro y25 _
    rw [ln_verdict_Dead_1]
    rfl
  · intro k hk ih y25 hy
    rw [ln_verdict_Dead_1]
    have e1 : ilt (k : Int) 4 = true := by simp only [ilt, decide_eq_true_eq]; omega
    simp only [n_verdict_Dead_1, e1, br_true, okZ_pol h4 hy, add1 (show k < 4611686018427387904 by omega)]
    rw [ih _ (by rw [deadZ_len]; exact hy)]
    simp only [la_verdict_Dead_1]
    have e2 : (4 - (k : Int)).toNat = (4 - ((k + 1 : Nat) : Int)).toNat + 1 := by omega
    have e3 : (4 : Int) - ((4 - ((k + 1 : Nat) : Int)).toNat : Int) = ((k + 1 : Nat) : Int) := by omega
    rw [e2, alP, e3]
theorem l_verdict_Dead_2 (x27 : (List Keep)) (x28 : Int) (x29 : Int) (y1 : Policy) (y25 : (List Bool)) (h : (decide (x28 = (x27.length : Int) ∧ 0 ≤ x29 ∧ x29 ≤ x28 ∧ x27.length ≤ 1000000 ∧ y25.length = y1.1.length) && polOk y1) = true) : lp_verdict_Dead_2 x27 x28 x29 y1 y25 = la_verdict_Dead_2 x27 x28 x29 y1 y25 := by
  simp only [Bool.and_eq_true, decide_eq_true_eq] at h
  obtain ⟨⟨rfl, h1, h2, h3, h4⟩, h5⟩ := h
  obtain ⟨k, rfl⟩ := Int.eq_ofNat_of_zero_le h1
  revert y25
  refine range_ind x27 (fun k => ∀ y25 : List Bool, y25.length = y1.1.length → lp_verdict_Dead_2 x27 (x27.length : Int) (k : Int) y1 y25 = la_verdict_Dead_2 x27 (x27.length : Int) (k : Int) y1 y25) ?_ ?_ k (by omega)
  · intro y25 _
    rw [ln_verdict_Dead_2]
    simp [n_verdict_Dead_2, la_verdict_Dead_2, ilt_nat, br_false, alU]
  · intro k hk ih y25 hy
    rw [ln_verdict_Dead_2]
    simp only [n_verdict_Dead_2, ilt_nat, cIx_nat, hk, decide_true, br_true, Int.toNat_natCast, add1 (show k < 4611686018427387904 by omega), lgt_get (y := tyKeep) hk]
    rw [h5, Bool.and_true, dec_true ⟨Int.le_refl 0, by decide, hy⟩, br_true, ih _ (by rw [alP_len]; exact hy)]
    simp only [la_verdict_Dead_2, Int.toNat_natCast, List.drop_eq_getElem_cons hk, alU]
    rfl
theorem l_verdict_Dead_3 (x69 : Int) (x70 : Int) (y14 : (List Int)) (y25 : (List Bool)) (h : (rngOk y25 x69 x70 && decide ((y14.length : Int) ≤ x70)) = true) : lp_verdict_Dead_3 x69 x70 y14 y25 = la_verdict_Dead_3 x69 x70 y14 y25 := by
  simp only [Bool.and_eq_true, decide_eq_true_eq] at h
  obtain ⟨h0, h4⟩ := h
  obtain ⟨rfl, h3, k, rfl, hk⟩ := rng_k h0
  clear h0
  revert y14
  refine range_ind y25 (fun k => ∀ y14 : List Int, (y14.length : Int) ≤ (k : Int) → lp_verdict_Dead_3 (y25.length : Int) (k : Int) y14 y25 = la_verdict_Dead_3 (y25.length : Int) (k : Int) y14 y25) ?_ ?_ k hk
  · intro y14 _
    rw [ln_verdict_Dead_3]
    simp [n_verdict_Dead_3, la_verdict_Dead_3, ilt_nat, br_false, deadI]
  · intro k hk ih y14 hy
    rw [ln_verdict_Dead_3]
    have h5 : cLd y25 k = true := by simp [cLd, hk]
    simp only [n_verdict_Dead_3, ilt_nat, cIx_nat, hk, h5, decide_true, br_true, Int.toNat_natCast, add1 (show k < 4611686018427387904 by omega), lgt_get (y := .bool) hk]
    rw [cApp_ok (by simp; omega) (by omega), br_true]
    have el : la_verdict_Dead_3 (y25.length : Int) (k : Int) y14 y25 = la_verdict_Dead_3 (y25.length : Int) ((k + 1 : Nat) : Int) (if y25[k] then y14 else y14 ++ [(k : Int)]) y25 := by
      simp only [la_verdict_Dead_3, Int.toNat_natCast, List.drop_eq_getElem_cons hk, deadI]
      cases y25[k] <;> simp
    rw [el]
    cases hv : y25[k] with
    | true => rw [Bool.not_true, br_false, if_pos rfl]; exact ih _ (by omega)
    | false => rw [Bool.not_false, br_true, if_neg (by simp)]; exact ih _ (by simp; omega)
theorem lo_verdict_Dead_0 : ∀ S (rows : List (Ty.T (.pr tI (.pr tyRule .nil)))) l p, g_verdict_Dead.R 0 (fgt fg_verdict_Dead_0 S) (.pr tI (.pr tyRule .nil)) rows = some (true, l) → pickA l = some p → rangeF (roundR g_verdict_Dead fg_verdict_Dead_0 (.pr tI (.pr tyRule .nil)) [41, 42] ta_verdict_Dead_0 tb_verdict_Dead_0) rows (fgt fg_verdict_Dead_0 S) = some p := by
  intro S rows l p hR hp
  rw [show g_verdict_Dead.R 0 (fgt fg_verdict_Dead_0 S) (.pr tI (.pr tyRule .nil)) rows = R_verdict_Dead_0 (fgt fg_verdict_Dead_0 S) rows from RL_at (l := [⟨(.pr tI (.pr tyRule .nil)), R_verdict_Dead_0⟩, ⟨.nil, fun _ _ => none⟩, ⟨.nil, fun _ _ => none⟩, ⟨.nil, fun _ _ => none⟩]) (j := 0) (F := R_verdict_Dead_0) rfl _ _] at hR
  refine lokR_of (s := sh_verdict_Dead_0) ⟨by decide, by decide⟩ (by kernel_rfl) (fun zs x y hok p hp => ?_) S rows l p hR hp
  simp only [pickA_br, pickA_one] at hp
  exact (l_verdict_Dead_0 zs x.2.2.2.2.2.1 x.2.2.2.2.2.2.1 x.2.2.2.2.2.2.2.1 x.2.2.2.2.2.2.2.2.1 y.1 y.2.2.1 y.2.2.2.1.1 y.2.2.2.2.1.1 y.2.2.2.2.2.1 (by first | rfl | simpa using hok)).trans hp
theorem lo_verdict_Dead_1 : ∀ S l p, g_verdict_Dead.L 1 (fgt fg_verdict_Dead_1 S) = some (true, l) → pickA l = some p → loopF (roundF g_verdict_Dead fg_verdict_Dead_1 tb_verdict_Dead_1) S = some p :=
  lok_of (s := sh_verdict_Dead_1) ⟨by decide, by decide⟩ (by kernel_rfl) fun x y hok p hp => by
  simp only [pickA_br, pickA_one] at hp
  exact (l_verdict_Dead_1 x.2.2.2.1 x.2.2.2.2.1 x.2.2.2.2.2.1 x.2.2.2.2.2.2.1 y.1 y.2.2.1 y.2.2.2.1 (by simpa using hok)).trans hp
theorem lo_verdict_Dead_2 : ∀ S l p, g_verdict_Dead.L 2 (fgt fg_verdict_Dead_2 S) = some (true, l) → pickA l = some p → loopF (roundF g_verdict_Dead fg_verdict_Dead_2 tb_verdict_Dead_2) S = some p :=
  lok_of (s := sh_verdict_Dead_2) ⟨by decide, by decide⟩ (by kernel_rfl) fun x y hok p hp => by
  simp only [pickA_br, pickA_one] at hp
  exact (l_verdict_Dead_2 x.2.2.1 x.2.2.2.1 x.2.2.2.2.1 y.1 y.2.2.1 (by simpa using hok)).trans hp
theorem lo_verdict_Dead_3 : ∀ S l p, g_verdict_Dead.L 3 (fgt fg_verdict_Dead_3 S) = some (true, l) → pickA l = some p → loopF (roundF g_verdict_Dead fg_verdict_Dead_3 tb_verdict_Dead_3) S = some p :=
  lok_of (s := sh_verdict_Dead_3) ⟨by decide, by decide⟩ (by kernel_rfl) fun x y hok p hp => by
  simp only [pickA_br, pickA_one] at hp
  exact (l_verdict_Dead_3 x.2.2.1 x.2.2.2.1 y.1 y.2.1 (by simpa using hok)).trans hp
theorem lk_verdict_Dead : tc_verdict_Dead.lok g_verdict_Dead := by
  repeat (first | exact trivial | exact lo_verdict_Dead_0 | exact lo_verdict_Dead_1 | exact lo_verdict_Dead_2 | exact lo_verdict_Dead_3 | refine ⟨?_, ?_⟩)
theorem usesZ_len (l : List Int) : ∀ n, (usesZ l n).length ≤ n * l.length
  | 0 => by simp [usesZ]
  | n + 1 => by
    have h1 := usesZ_len l n
    have h2 := usesA_len (22 - (n : Int)) l
    rw [usesZ, List.length_append, Nat.succ_mul]
    omega
theorem s_verdict_Dead (y : Policy) (h : polLen y = true) : r_verdict_Dead y = some (.tu [.t (.sl tI) (DeadF y).1, .t tI (DeadF y).2], []) := by
  simp only [r_verdict_Dead, h, br_true, checkF, DeadF]
  cases hp : polOk y with
  | false => rfl
  | true =>
    have h60 := polOk_len hp
    have hu : (usesF y).length ≤ 1748 := by
      have h1 := usesZ_len (sizesP y.1) 23
      have h2 := sizes_len y.1
      unfold usesF
      omega
    have hs : polSmall y = true := by simp only [polSmall, decide_eq_true_eq]; omega
    have hm : makeOk (llen y.1) (llen y.1) = true := decide_eq_true ⟨by unfold llen; omega, rfl, by unfold llen; omega⟩
    have hk : makeL .bool (llen y.1) (llen y.1) = List.replicate y.1.length false := rfl
    simp only [if_true, show ine 0 0 = false from rfl, br_false, hs, hm, hk, br_true, Bool.and_true, Int.toNat_zero, List.drop_zero]
    rw [dec_true ⟨trivial, Int.le_refl 0, by unfold llen; omega, by omega, by simp⟩, br_true, rng_0 (by rw [alU_len, List.length_replicate]; omega), Bool.true_and, dec_true (by simp), br_true]
    rfl
def sp_verdict_Dead : Ent := spec (.pr tyPolicy .nil) (fun x => (polLen x.1)) (fun x => (.tu [(.t (.sl tI) ((DeadF x.1).1)), (.t tI ((DeadF x.1).2))]))
theorem ms_verdict_Dead : Meets Try.prog 29 (strip sp_verdict_Dead) := by
  obtain ⟨c, hc, hi⟩ := Option.map_eq_some_iff.1 ok_verdict_Dead
  exact meets_spec (R := runF g_verdict_Dead tc_verdict_Dead rv_verdict_Dead false) (meets_of (by decide) Try.func29 hc hi Try.ntmps29 rok_verdict_Dead gk_verdict_Dead lk_verdict_Dead mixed) fun x hok => (e_verdict_Dead x.1).trans (s_verdict_Dead x.1 hok)
end Go.Proofs.Ytfldcnhkppgmbaa.K
