/-
 Which policies are valid, by the program and by its answer.
-/
import Derived.Test.YtfehjdaielifiaaGreatV6
set_option linter.unusedSimpArgs false
set_option linter.unusedVariables false
namespace Go.Proofs.YtfehjdaielifiaaGreat.K
open Go.RowKit
def ruledF (r : Rule) : Bool := decide (0 ≤ r.Alg ∧ r.Alg ≤ 22 ∧ 0 ≤ r.Below ∧ r.Below ≤ 16384 ∧ 0 ≤ r.Purpose ∧ r.Purpose ≤ 4 ∧ 0 ≤ r.From ∧ r.From < r.To ∧ r.To ≤ 40001)
def keptF (k : Keep) : Bool := decide (1 ≤ k.1 ∧ k.1 ≤ 4 ∧ 0 ≤ k.2.1 ∧ k.2.1 ≤ 40000)
def ruledN (r : Rule) : Bool := !ruledF r
def keptN (k : Keep) : Bool := !keptF k
def tc_f86 : TC := (.sq (.reg [(oM 1 (.box (.t 0))), (oP 2 (.mv (cB false)))]) (.sq (.reg [(oP 3 (.fa 1 (.t 1))), (oL 4 3), (oP 5 (.bin false .geq (.t 4) (cI 0))), (oV 6 5), (oQ 7 6 true (.fa 1 (.t 1))), (oG 8 6 true (.m (.ld false 1 (.t 7)))), (oQ 9 6 true (.bin false .leq (.t 8) (cI 22))), (oP 10 (.pick (.t 6) (.t 9) (cB false))), (oV 11 10), (oQ 12 11 true (.fa 2 (.t 1))), (oG 13 11 true (.m (.ld false 1 (.t 12)))), (oQ 14 11 true (.bin false .geq (.t 13) (cI 0))), (oP 15 (.pick (.t 11) (.t 14) (cB false))), (oV 16 15), (oQ 17 16 true (.fa 2 (.t 1))), (oG 18 16 true (.m (.ld false 1 (.t 17)))), (oQ 19 16 true (.bin false .leq (.t 18) (cI 16384))), (oP 20 (.pick (.t 16) (.t 19) (cB false))), (oV 21 20), (oQ 22 21 true (.fa 3 (.t 1))), (oG 23 21 true (.m (.ld false 1 (.t 22)))), (oQ 24 21 true (.bin false .geq (.t 23) (cI 0))), (oP 25 (.pick (.t 21) (.t 24) (cB false))), (oV 26 25), (oQ 27 26 true (.fa 3 (.t 1))), (oG 28 26 true (.m (.ld false 1 (.t 27)))), (oQ 29 26 true (.bin false .leq (.t 28) (cI 4))), (oP 30 (.pick (.t 26) (.t 29) (cB false))), (oV 31 30), (oQ 32 31 true (.fa 4 (.t 1))), (oG 33 31 true (.m (.ld false 1 (.t 32)))), (oQ 34 31 true (.bin false .geq (.t 33) (cI 0))), (oP 35 (.pick (.t 31) (.t 34) (cB false))), (oV 36 35), (oQ 37 36 true (.fa 4 (.t 1))), (oG 38 36 true (.m (.ld false 1 (.t 37)))), (oQ 39 36 true (.fa 5 (.t 1))), (oG 40 36 true (.m (.ld false 1 (.t 39)))), (oQ 41 36 true (.bin false .lss (.t 38) (.t 40))), (oP 42 (.pick (.t 36) (.t 41) (cB false))), (oV 43 42), (oQ 44 43 true (.fa 5 (.t 1))), (oG 45 43 true (.m (.ld false 1 (.t 44)))), (oQ 46 43 true (.bin false .leq (.t 45) (cI 40001))), (oP 47 (.pick (.t 43) (.t 46) (cB false))), (oV 2 47)]) .rt))
def rv_f86 : List (RV × Option Ty) := [((.t 2), some .bool)]
def g_f86 : G := ⟨TYs, [], 48, EL [], keeps, (fun _ _ => none), IL [], RL []⟩
def r_f86 (p0 : Rule) : Option (V × List VO) :=
 br ((ige p0.2.1 0))
  (br ((ile p0.2.1 22))
   (br ((ige p0.2.2.1 0))
    (br ((ile p0.2.2.1 16384))
     (br ((ige p0.2.2.2.1 0))
      (br ((ile p0.2.2.2.1 4))
       (br ((ige p0.2.2.2.2.1 0))
        (br ((ilt p0.2.2.2.2.1 p0.2.2.2.2.2.1))
         (some (.t .bool (ile p0.2.2.2.2.2.1 40001), []))
         (some (.t .bool false, [])))
        (some (.t .bool false, [])))
       (some (.t .bool false, [])))
      (some (.t .bool false, [])))
     (some (.t .bool false, [])))
    (some (.t .bool false, [])))
   (some (.t .bool false, [])))
  (some (.t .bool false, []))
theorem e_f86 (p0 : Rule) : runF g_f86 tc_f86 rv_f86 false [.t tyRule p0] [] = r_f86 p0 := by kernel_rfl
theorem ok_f86 : Option.map (trC Tryz.prog) Tryz.f86.body = some tc_f86.er := by kernel_rfl
theorem rok_f86 : trVs Tryz.prog Tryz.f86.results.toList = some (rv_f86.map Prod.fst) := by kernel_rfl
theorem en_f86 : Entered Tryz.prog 86 := .inr ⟨by decide, _, Tryz.func86, by kernel_rfl, by kernel_rfl⟩
theorem gk_f86 : GOk Tryz.prog g_f86 := gok_of _ (fun p hp => by cases hp)
theorem lk_f86 : tc_f86.lok g_f86 := by repeat (first | exact trivial | refine ⟨?_, ?_⟩)
theorem s_f86 (r : Rule) : r_f86 r = some (.t .bool (ruledF r), []) := by
 simp only [r_f86]
 repeat' (refine br_intro ?_ ?_ <;> intro _)
 all_goals simp only [ige, ile, ilt, decide_eq_true_eq, decide_eq_false_iff_not, Item.Name, Item.Kind, Item.Purpose, Item.Links, Item.Until, Policy.Rules, Policy.Keeps, Rule.Allow, Rule.Alg, Rule.Below, Rule.Purpose, Rule.From, Rule.To, Keep.Alg, Keep.Bits, Link.Use, Link.Day, Dice.L, Dice.At, LinkX.day, LinkX.fall, LinkX.falls, Row.name, Row.kind, Row.way, Row.sizes, Row.strengths] at *
 all_goals (apply some_b; unfold ruledF; rw [Bool.eq_iff_iff]; simp only [ige, ile, ilt, decide_eq_true_eq, Item.Name, Item.Kind, Item.Purpose, Item.Links, Item.Until, Policy.Rules, Policy.Keeps, Rule.Allow, Rule.Alg, Rule.Below, Rule.Purpose, Rule.From, Rule.To, Keep.Alg, Keep.Bits, Link.Use, Link.Day, Dice.L, Dice.At, LinkX.day, LinkX.fall, LinkX.falls, Row.name, Row.kind, Row.way, Row.sizes, Row.strengths, Bool.false_eq_true, false_iff]; omega)
def sp_f86 : Ent := spec (.pr tyRule .nil) (fun x => true) (fun x => (.t .bool (ruledF x.1)))
theorem ms_f86 : Meets Tryz.prog 86 (strip sp_f86) := by
 obtain ⟨c, hc, hi⟩ := Option.map_eq_some_iff.1 ok_f86
 exact meets_spec (R := runF g_f86 tc_f86 rv_f86 false) (meets_of (by decide) Tryz.func86 hc hi Tryz.ntmps86 rok_f86 gk_f86 lk_f86 mixed) fun x _ => (e_f86 x.1).trans (s_f86 x.1)
def tc_f89 : TC := (.sq (.reg [(oM 1 (.box (.t 0))), (oP 2 (.mv (cB false)))]) (.sq (.reg [(oP 3 (.fa 0 (.t 1))), (oL 4 3), (oP 5 (.bin false .geq (.t 4) (cI 1))), (oV 6 5), (oQ 7 6 true (.fa 0 (.t 1))), (oG 8 6 true (.m (.ld false 1 (.t 7)))), (oQ 9 6 true (.bin false .leq (.t 8) (cI 4))), (oP 10 (.pick (.t 6) (.t 9) (cB false))), (oV 11 10), (oQ 12 11 true (.fa 1 (.t 1))), (oG 13 11 true (.m (.ld false 1 (.t 12)))), (oQ 14 11 true (.bin false .geq (.t 13) (cI 0))), (oP 15 (.pick (.t 11) (.t 14) (cB false))), (oV 16 15), (oQ 17 16 true (.fa 1 (.t 1))), (oG 18 16 true (.m (.ld false 1 (.t 17)))), (oQ 19 16 true (.bin false .leq (.t 18) (cI 40000))), (oP 20 (.pick (.t 16) (.t 19) (cB false))), (oV 2 20)]) .rt))
def rv_f89 : List (RV × Option Ty) := [((.t 2), some .bool)]
def g_f89 : G := ⟨TYs, [], 21, EL [], keeps, (fun _ _ => none), IL [], RL []⟩
def r_f89 (p0 : Keep) : Option (V × List VO) :=
 br ((ige p0.1 1))
  (br ((ile p0.1 4))
   (br ((ige p0.2.1 0))
    (some (.t .bool (ile p0.2.1 40000), []))
    (some (.t .bool false, [])))
   (some (.t .bool false, [])))
  (some (.t .bool false, []))
theorem e_f89 (p0 : Keep) : runF g_f89 tc_f89 rv_f89 false [.t tyKeep p0] [] = r_f89 p0 := by kernel_rfl
theorem ok_f89 : Option.map (trC Tryz.prog) Tryz.f89.body = some tc_f89.er := by kernel_rfl
theorem rok_f89 : trVs Tryz.prog Tryz.f89.results.toList = some (rv_f89.map Prod.fst) := by kernel_rfl
theorem en_f89 : Entered Tryz.prog 89 := .inr ⟨by decide, _, Tryz.func89, by kernel_rfl, by kernel_rfl⟩
theorem gk_f89 : GOk Tryz.prog g_f89 := gok_of _ (fun p hp => by cases hp)
theorem lk_f89 : tc_f89.lok g_f89 := by repeat (first | exact trivial | refine ⟨?_, ?_⟩)
theorem s_f89 (r : Keep) : r_f89 r = some (.t .bool (keptF r), []) := by
 simp only [r_f89]
 repeat' (refine br_intro ?_ ?_ <;> intro _)
 all_goals simp only [ige, ile, ilt, decide_eq_true_eq, decide_eq_false_iff_not, Item.Name, Item.Kind, Item.Purpose, Item.Links, Item.Until, Policy.Rules, Policy.Keeps, Rule.Allow, Rule.Alg, Rule.Below, Rule.Purpose, Rule.From, Rule.To, Keep.Alg, Keep.Bits, Link.Use, Link.Day, Dice.L, Dice.At, LinkX.day, LinkX.fall, LinkX.falls, Row.name, Row.kind, Row.way, Row.sizes, Row.strengths] at *
 all_goals (apply some_b; unfold keptF; rw [Bool.eq_iff_iff]; simp only [ige, ile, ilt, decide_eq_true_eq, Item.Name, Item.Kind, Item.Purpose, Item.Links, Item.Until, Policy.Rules, Policy.Keeps, Rule.Allow, Rule.Alg, Rule.Below, Rule.Purpose, Rule.From, Rule.To, Keep.Alg, Keep.Bits, Link.Use, Link.Day, Dice.L, Dice.At, LinkX.day, LinkX.fall, LinkX.falls, Row.name, Row.kind, Row.way, Row.sizes, Row.strengths, Bool.false_eq_true, false_iff]; omega)
def sp_f89 : Ent := spec (.pr tyKeep .nil) (fun x => true) (fun x => (.t .bool (keptF x.1)))
theorem ms_f89 : Meets Tryz.prog 89 (strip sp_f89) := by
 obtain ⟨c, hc, hi⟩ := Option.map_eq_some_iff.1 ok_f89
 exact meets_spec (R := runF g_f89 tc_f89 rv_f89 false) (meets_of (by decide) Tryz.func89 hc hi Tryz.ntmps89 rok_f89 gk_f89 lk_f89 mixed) fun x _ => (e_f89 x.1).trans (s_f89 x.1)
def tc_f91 : TC := (.sq (.reg [(oM 1 (.box (.t 0))), (oP 2 (.mv (cB false)))]) (.sq (.reg [(oP 3 (.fa 1 (.t 1))), (oL 4 3), (oP 5 (.bin false .geq (.t 4) (cI 0))), (oV 6 5), (oQ 7 6 true (.fa 1 (.t 1))), (oG 8 6 true (.m (.ld false 1 (.t 7)))), (oQ 9 6 true (.bin false .leq (.t 8) (cI 22))), (oP 10 (.pick (.t 6) (.t 9) (cB false))), (oV 11 10), (oQ 12 11 true (.fa 2 (.t 1))), (oG 13 11 true (.m (.ld false 1 (.t 12)))), (oQ 14 11 true (.bin false .geq (.t 13) (cI 0))), (oP 15 (.pick (.t 11) (.t 14) (cB false))), (oV 16 15), (oQ 17 16 true (.fa 2 (.t 1))), (oG 18 16 true (.m (.ld false 1 (.t 17)))), (oQ 19 16 true (.bin false .leq (.t 18) (cI 16384))), (oP 20 (.pick (.t 16) (.t 19) (cB false))), (oV 21 20), (oQ 22 21 true (.fa 3 (.t 1))), (oG 23 21 true (.m (.ld false 1 (.t 22)))), (oQ 24 21 true (.bin false .geq (.t 23) (cI 0))), (oP 25 (.pick (.t 21) (.t 24) (cB false))), (oV 26 25), (oQ 27 26 true (.fa 3 (.t 1))), (oG 28 26 true (.m (.ld false 1 (.t 27)))), (oQ 29 26 true (.bin false .leq (.t 28) (cI 4))), (oP 30 (.pick (.t 26) (.t 29) (cB false))), (oV 31 30), (oQ 32 31 true (.fa 4 (.t 1))), (oG 33 31 true (.m (.ld false 1 (.t 32)))), (oQ 34 31 true (.bin false .geq (.t 33) (cI 0))), (oP 35 (.pick (.t 31) (.t 34) (cB false))), (oV 36 35), (oQ 37 36 true (.fa 4 (.t 1))), (oG 38 36 true (.m (.ld false 1 (.t 37)))), (oQ 39 36 true (.fa 5 (.t 1))), (oG 40 36 true (.m (.ld false 1 (.t 39)))), (oQ 41 36 true (.bin false .lss (.t 38) (.t 40))), (oP 42 (.pick (.t 36) (.t 41) (cB false))), (oV 43 42), (oQ 44 43 true (.fa 5 (.t 1))), (oG 45 43 true (.m (.ld false 1 (.t 44)))), (oQ 46 43 true (.bin false .leq (.t 45) (cI 40001))), (oP 47 (.pick (.t 43) (.t 46) (cB false))), (oV 2 47)]) .rt))
def rv_f91 : List (RV × Option Ty) := [((.t 2), some .bool)]
def g_f91 : G := ⟨TYs, [], 48, EL [], keeps, (fun _ _ => none), IL [], RL []⟩
def r_f91 (p0 : Rule) : Option (V × List VO) :=
 br ((ige p0.2.1 0))
  (br ((ile p0.2.1 22))
   (br ((ige p0.2.2.1 0))
    (br ((ile p0.2.2.1 16384))
     (br ((ige p0.2.2.2.1 0))
      (br ((ile p0.2.2.2.1 4))
       (br ((ige p0.2.2.2.2.1 0))
        (br ((ilt p0.2.2.2.2.1 p0.2.2.2.2.2.1))
         (some (.t .bool (ile p0.2.2.2.2.2.1 40001), []))
         (some (.t .bool false, [])))
        (some (.t .bool false, [])))
       (some (.t .bool false, [])))
      (some (.t .bool false, [])))
     (some (.t .bool false, [])))
    (some (.t .bool false, [])))
   (some (.t .bool false, [])))
  (some (.t .bool false, []))
theorem e_f91 (p0 : Rule) : runF g_f91 tc_f91 rv_f91 false [.t tyRule p0] [] = r_f91 p0 := by kernel_rfl
theorem ok_f91 : Option.map (trC Tryz.prog) Tryz.f91.body = some tc_f91.er := by kernel_rfl
theorem rok_f91 : trVs Tryz.prog Tryz.f91.results.toList = some (rv_f91.map Prod.fst) := by kernel_rfl
theorem en_f91 : Entered Tryz.prog 91 := .inr ⟨by decide, _, Tryz.func91, by kernel_rfl, by kernel_rfl⟩
theorem gk_f91 : GOk Tryz.prog g_f91 := gok_of _ (fun p hp => by cases hp)
theorem lk_f91 : tc_f91.lok g_f91 := by repeat (first | exact trivial | refine ⟨?_, ?_⟩)
theorem s_f91 (r : Rule) : r_f91 r = some (.t .bool (ruledF r), []) := by
 simp only [r_f91]
 repeat' (refine br_intro ?_ ?_ <;> intro _)
 all_goals simp only [ige, ile, ilt, decide_eq_true_eq, decide_eq_false_iff_not, Item.Name, Item.Kind, Item.Purpose, Item.Links, Item.Until, Policy.Rules, Policy.Keeps, Rule.Allow, Rule.Alg, Rule.Below, Rule.Purpose, Rule.From, Rule.To, Keep.Alg, Keep.Bits, Link.Use, Link.Day, Dice.L, Dice.At, LinkX.day, LinkX.fall, LinkX.falls, Row.name, Row.kind, Row.way, Row.sizes, Row.strengths] at *
 all_goals (apply some_b; unfold ruledF; rw [Bool.eq_iff_iff]; simp only [ige, ile, ilt, decide_eq_true_eq, Item.Name, Item.Kind, Item.Purpose, Item.Links, Item.Until, Policy.Rules, Policy.Keeps, Rule.Allow, Rule.Alg, Rule.Below, Rule.Purpose, Rule.From, Rule.To, Keep.Alg, Keep.Bits, Link.Use, Link.Day, Dice.L, Dice.At, LinkX.day, LinkX.fall, LinkX.falls, Row.name, Row.kind, Row.way, Row.sizes, Row.strengths, Bool.false_eq_true, false_iff]; omega)
def sp_f91 : Ent := spec (.pr tyRule .nil) (fun x => true) (fun x => (.t .bool (ruledF x.1)))
theorem ms_f91 : Meets Tryz.prog 91 (strip sp_f91) := by
 obtain ⟨c, hc, hi⟩ := Option.map_eq_some_iff.1 ok_f91
 exact meets_spec (R := runF g_f91 tc_f91 rv_f91 false) (meets_of (by decide) Tryz.func91 hc hi Tryz.ntmps91 rok_f91 gk_f91 lk_f91 mixed) fun x _ => (e_f91 x.1).trans (s_f91 x.1)
def tc_f92 : TC := (.sq (.reg [(oM 1 (.box (.t 0))), (oP 2 (.mv (cB false)))]) (.sq (.reg [(oP 3 (.fa 0 (.t 1))), (oL 4 3), (oP 5 (.bin false .geq (.t 4) (cI 1))), (oV 6 5), (oQ 7 6 true (.fa 0 (.t 1))), (oG 8 6 true (.m (.ld false 1 (.t 7)))), (oQ 9 6 true (.bin false .leq (.t 8) (cI 4))), (oP 10 (.pick (.t 6) (.t 9) (cB false))), (oV 11 10), (oQ 12 11 true (.fa 1 (.t 1))), (oG 13 11 true (.m (.ld false 1 (.t 12)))), (oQ 14 11 true (.bin false .geq (.t 13) (cI 0))), (oP 15 (.pick (.t 11) (.t 14) (cB false))), (oV 16 15), (oQ 17 16 true (.fa 1 (.t 1))), (oG 18 16 true (.m (.ld false 1 (.t 17)))), (oQ 19 16 true (.bin false .leq (.t 18) (cI 40000))), (oP 20 (.pick (.t 16) (.t 19) (cB false))), (oV 2 20)]) .rt))
def rv_f92 : List (RV × Option Ty) := [((.t 2), some .bool)]
def g_f92 : G := ⟨TYs, [], 21, EL [], keeps, (fun _ _ => none), IL [], RL []⟩
def r_f92 (p0 : Keep) : Option (V × List VO) :=
 br ((ige p0.1 1))
  (br ((ile p0.1 4))
   (br ((ige p0.2.1 0))
    (some (.t .bool (ile p0.2.1 40000), []))
    (some (.t .bool false, [])))
   (some (.t .bool false, [])))
  (some (.t .bool false, []))
theorem e_f92 (p0 : Keep) : runF g_f92 tc_f92 rv_f92 false [.t tyKeep p0] [] = r_f92 p0 := by kernel_rfl
theorem ok_f92 : Option.map (trC Tryz.prog) Tryz.f92.body = some tc_f92.er := by kernel_rfl
theorem rok_f92 : trVs Tryz.prog Tryz.f92.results.toList = some (rv_f92.map Prod.fst) := by kernel_rfl
theorem en_f92 : Entered Tryz.prog 92 := .inr ⟨by decide, _, Tryz.func92, by kernel_rfl, by kernel_rfl⟩
theorem gk_f92 : GOk Tryz.prog g_f92 := gok_of _ (fun p hp => by cases hp)
theorem lk_f92 : tc_f92.lok g_f92 := by repeat (first | exact trivial | refine ⟨?_, ?_⟩)
theorem s_f92 (r : Keep) : r_f92 r = some (.t .bool (keptF r), []) := by
 simp only [r_f92]
 repeat' (refine br_intro ?_ ?_ <;> intro _)
 all_goals simp only [ige, ile, ilt, decide_eq_true_eq, decide_eq_false_iff_not, Item.Name, Item.Kind, Item.Purpose, Item.Links, Item.Until, Policy.Rules, Policy.Keeps, Rule.Allow, Rule.Alg, Rule.Below, Rule.Purpose, Rule.From, Rule.To, Keep.Alg, Keep.Bits, Link.Use, Link.Day, Dice.L, Dice.At, LinkX.day, LinkX.fall, LinkX.falls, Row.name, Row.kind, Row.way, Row.sizes, Row.strengths] at *
 all_goals (apply some_b; unfold keptF; rw [Bool.eq_iff_iff]; simp only [ige, ile, ilt, decide_eq_true_eq, Item.Name, Item.Kind, Item.Purpose, Item.Links, Item.Until, Policy.Rules, Policy.Keeps, Rule.Allow, Rule.Alg, Rule.Below, Rule.Purpose, Rule.From, Rule.To, Keep.Alg, Keep.Bits, Link.Use, Link.Day, Dice.L, Dice.At, LinkX.day, LinkX.fall, LinkX.falls, Row.name, Row.kind, Row.way, Row.sizes, Row.strengths, Bool.false_eq_true, false_iff]; omega)
def sp_f92 : Ent := spec (.pr tyKeep .nil) (fun x => true) (fun x => (.t .bool (keptF x.1)))
theorem ms_f92 : Meets Tryz.prog 92 (strip sp_f92) := by
 obtain ⟨c, hc, hi⟩ := Option.map_eq_some_iff.1 ok_f92
 exact meets_spec (R := runF g_f92 tc_f92 rv_f92 false) (meets_of (by decide) Tryz.func92 hc hi Tryz.ntmps92 rok_f92 gk_f92 lk_f92 mixed) fun x _ => (e_f92 x.1).trans (s_f92 x.1)
def tc_f85 : TC := (.sq (.reg [(oM 1 (.box (.t 0))), (oP 2 (.mv (cB false)))]) (.sq (.reg [(oM 3 (.ld true 6 (.t 1))), (oC 4 86 [(.t 3)]), (oP 5 (.nt (.t 4))), (oV 2 5)]) .rt))
def rv_f85 : List (RV × Option Ty) := [((.t 2), some .bool)]
def g_f85 : G := ⟨TYs, [], 6, EL [(86, sp_f86)], keeps, (fun _ _ => none), IL [], RL []⟩
def r_f85 (p0 : Rule) : Option (V × List VO) :=
 some (.t .bool (!(ruledF p0)), [])
theorem e_f85 (p0 : Rule) : runF g_f85 tc_f85 rv_f85 false [.t tyRule p0] [] = r_f85 p0 := by kernel_rfl
theorem ok_f85 : Option.map (trC Tryz.prog) Tryz.f85.body = some tc_f85.er := by kernel_rfl
theorem rok_f85 : trVs Tryz.prog Tryz.f85.results.toList = some (rv_f85.map Prod.fst) := by kernel_rfl
theorem en_f85 : Entered Tryz.prog 85 := .inr ⟨by decide, _, Tryz.func85, by kernel_rfl, by kernel_rfl⟩
theorem gk_f85 : GOk Tryz.prog g_f85 := gok_of _ (by
 intro p hp
 simp only [List.mem_cons, List.not_mem_nil, or_false] at hp
 rcases hp with rfl
 ·exact ⟨en_f86, ms_f86⟩)
theorem lk_f85 : tc_f85.lok g_f85 := by repeat (first | exact trivial | refine ⟨?_, ?_⟩)
theorem s_f85 (r : Rule) : r_f85 r = some (.t .bool (ruledN r), []) := rfl
def sp_f85 : Ent := spec (.pr tyRule .nil) (fun x => true) (fun x => (.t .bool (ruledN x.1)))
theorem ms_f85 : Meets Tryz.prog 85 (strip sp_f85) := by
 obtain ⟨c, hc, hi⟩ := Option.map_eq_some_iff.1 ok_f85
 exact meets_spec (R := runF g_f85 tc_f85 rv_f85 false) (meets_of (by decide) Tryz.func85 hc hi Tryz.ntmps85 rok_f85 gk_f85 lk_f85 mixed) fun x _ => (e_f85 x.1).trans (s_f85 x.1)
def tc_f88 : TC := (.sq (.reg [(oM 1 (.box (.t 0))), (oP 2 (.mv (cB false)))]) (.sq (.reg [(oM 3 (.ld true 2 (.t 1))), (oC 4 89 [(.t 3)]), (oP 5 (.nt (.t 4))), (oV 2 5)]) .rt))
def rv_f88 : List (RV × Option Ty) := [((.t 2), some .bool)]
def g_f88 : G := ⟨TYs, [], 6, EL [(89, sp_f89)], keeps, (fun _ _ => none), IL [], RL []⟩
def r_f88 (p0 : Keep) : Option (V × List VO) :=
 some (.t .bool (!(keptF p0)), [])
theorem e_f88 (p0 : Keep) : runF g_f88 tc_f88 rv_f88 false [.t tyKeep p0] [] = r_f88 p0 := by kernel_rfl
theorem ok_f88 : Option.map (trC Tryz.prog) Tryz.f88.body = some tc_f88.er := by kernel_rfl
theorem rok_f88 : trVs Tryz.prog Tryz.f88.results.toList = some (rv_f88.map Prod.fst) := by kernel_rfl
theorem en_f88 : Entered Tryz.prog 88 := .inr ⟨by decide, _, Tryz.func88, by kernel_rfl, by kernel_rfl⟩
theorem gk_f88 : GOk Tryz.prog g_f88 := gok_of _ (by
 intro p hp
 simp only [List.mem_cons, List.not_mem_nil, or_false] at hp
 rcases hp with rfl
 ·exact ⟨en_f89, ms_f89⟩)
theorem lk_f88 : tc_f88.lok g_f88 := by repeat (first | exact trivial | refine ⟨?_, ?_⟩)
theorem s_f88 (r : Keep) : r_f88 r = some (.t .bool (keptN r), []) := rfl
def sp_f88 : Ent := spec (.pr tyKeep .nil) (fun x => true) (fun x => (.t .bool (keptN x.1)))
theorem ms_f88 : Meets Tryz.prog 88 (strip sp_f88) := by
 obtain ⟨c, hc, hi⟩ := Option.map_eq_some_iff.1 ok_f88
 exact meets_spec (R := runF g_f88 tc_f88 rv_f88 false) (meets_of (by decide) Tryz.func88 hc hi Tryz.ntmps88 rok_f88 gk_f88 lk_f88 mixed) fun x _ => (e_f88 x.1).trans (s_f88 x.1)
def fstN {α : Type} (m : α → Bool) : List α → Option Nat
 | [] => none
 | a :: l => if m a then some 0 else (fstN m l).map (· + 1)
theorem fstN_none {α : Type} {m : α → Bool} : ∀ {l : List α}, fstN m l = none ↔ l.any m = false
 | [] => by simp [fstN]
 | a :: l => by
  have ih := fstN_none (m := m) (l := l)
  unfold fstN
  cases h : m a with
  | true => simp [h]
  | false => simpa [h] using ih
theorem fstN_some {α : Type} {m : α → Bool} {l : List α} {k : Nat} (h : fstN m l = some k) : l.any m = true := by
 cases hq : l.any m with
 | true => rfl
 | false => rw [fstN_none.2 hq] at h; cases h
def lenOk5 {α : Type} (l : List α) : Bool := decide (l.length ≤ 100000)
def fstRule (l : List Rule) : Int := match fstN ruledN l with | some k => (k : Int) | none => -1
def fstKeep (l : List Keep) : Int := match fstN keptN l with | some k => (k : Int) | none => -1
def fg_f106c85_0 : Fg := ⟨[(0, some (.sl tyRule)), (1, none), (7, some tI), (8, some tI)], []⟩
def tb_f106c85_0 : TC := (.sq (.reg [(oP 9 (.bin false .lss (.t 8) (.t 7)))]) (.sq (.cd (.t 9) .sk (.fg ⟨[], []⟩ (.ex 0))) (.sq (.bk 1 (.sq (.reg [(oV 10 8), (oV 5 10)]) (.sq (.reg [(oV 11 1), (oV 12 0), (oV 13 5), (oP 14 (.ix 6 (.t 12) (.t 13))), (oM 15 (.ld true 6 (.t 14))), (oK 16 (.cv (.t 11) [(.t 15)]))]) (.cd (.t 16) (.sq (.reg [(oV 17 5), (oV 4 17)]) (.fg ⟨[(4, some tI)], []⟩ .rt)) .sk)))) (.reg [(oP 18 (.bin false .add (.t 8) (cI 1))), (oV 8 18)]))))
def tc_f106c85 : TC := (.sq (.reg [(oP 4 (.mv (cI 0)))]) (.sq (.sq (.reg [(oV 6 0), (oP 7 (.len false (.t 6))), (oP 8 (.mv (cI 0)))]) (.bk 0 (.lp 0 fg_f106c85_0 tb_f106c85_0))) (.sq (.reg [(oP 4 (.mv (cI (-1))))]) .rt)))
def rv_f106c85 : List (RV × Option Ty) := [((.t 4), some tI)]
abbrev sh_f106c85_0 : Sh := ⟨[(0, .ty (.sl tyRule)), (1, .cf 85), (7, .ty tI), (8, .ty tI)], []⟩
def st_f106c85_0 (x0 : (List Rule)) (x7 : Int) (x8 : Int) : VS := sh_f106c85_0.st (x0, (), x7, x8, ()) ()
abbrev sh_f106c85_0_ret : Sh := ⟨[(4, .ty tI)], []⟩
def st_f106c85_0_ret (x4 : Int) : VS := sh_f106c85_0_ret.st (x4, ()) ()
abbrev sh_f106c85_0_e0 : Sh := ⟨[], []⟩
def st_f106c85_0_e0  : VS := sh_f106c85_0_e0.st () ()
-- loop 0: (x0 : (List Rule)) (x7 : Int) (x8 : Int); out: ('ret',) (x4 : Int); ('exit', 0)
def L_f106c85_0 : VS → Option (Bool × List (Bool × Exit × VS)) := mkL sh_f106c85_0 (fun x y => (rngOk x.1 x.2.2.1 x.2.2.2.1)) (fun x y => [(((fstN ruledN (x.1.drop x.2.2.2.1.toNat)).isSome), .ret, st_f106c85_0_ret (x.2.2.2.1 + ((fstN ruledN (x.1.drop x.2.2.2.1.toNat)).getD 0 : Nat))), (true, .exit 0, st_f106c85_0_e0)])
def g_f106c85 : G := ⟨TYs, [], 19, EL [(85, sp_f85)], keeps, (Ls [L_f106c85_0]), IL [], RL []⟩
def b_f106c85_0 (x0 : (List Rule)) (x7 : Int) (x8 : Int) : Option (Exit × VS) :=
 br ((ilt x8 x7))
  (br (cIx x0 x8)
   (br ((ruledN (lgt tyRule x0 (Int.toNat x8))))
    (some (.ret, st_f106c85_0_ret x8))
    (some (.normal, st_f106c85_0 x0 x7 (iadd .i64 x8 1))))
   (none))
  (some (.exit 0, st_f106c85_0_e0))
noncomputable def lp_f106c85_0 (x0 : (List Rule)) (x7 : Int) (x8 : Int) : Option (Exit × VS) := loopF (roundF g_f106c85 fg_f106c85_0 tb_f106c85_0) (st_f106c85_0 x0 x7 x8)
noncomputable def n_f106c85_0 (x0 : (List Rule)) (x7 : Int) (x8 : Int) : Option (Exit × VS) :=
 br ((ilt x8 x7))
  (br (cIx x0 x8)
   (br ((ruledN (lgt tyRule x0 (Int.toNat x8))))
    (some (.ret, st_f106c85_0_ret x8))
    (lp_f106c85_0 x0 x7 (iadd .i64 x8 1)))
   (none))
  (some (.exit 0, st_f106c85_0_e0))
def la_f106c85_0 (x0 : (List Rule)) (x7 : Int) (x8 : Int) : Option (Exit × VS) := br ((fstN ruledN (x0.drop x8.toNat)).isSome) (some (.ret, st_f106c85_0_ret (x8 + ((fstN ruledN (x0.drop x8.toNat)).getD 0 : Nat)))) <| some (.exit 0, st_f106c85_0_e0)
theorem be_f106c85_0 (x0 : (List Rule)) (x7 : Int) (x8 : Int) : roundF g_f106c85 fg_f106c85_0 tb_f106c85_0 (st_f106c85_0 x0 x7 x8) = b_f106c85_0 x0 x7 x8 := by kernel_rfl
theorem ln_f106c85_0 (x0 : (List Rule)) (x7 : Int) (x8 : Int) : lp_f106c85_0 x0 x7 x8 = n_f106c85_0 x0 x7 x8 := (loopF_nxt _ _).trans (by
 rw [be_f106c85_0]
 simp only [b_f106c85_0, n_f106c85_0, nxt_br, nxt_n, nxt_r, nxt_e, nxt_0]
 rfl)
def r_f106c85 (p0 : (List Rule)) : Option (V × List VO) :=
 br ((rngOk p0 (llen p0) (0 : Int)))
  (br (((fstN ruledN (p0.drop (0 : Int).toNat)).isSome))
   (some (.t tI ((0 : Int) + ((fstN ruledN (p0.drop (0 : Int).toNat)).getD 0 : Nat)), []))
   (some (.t tI (-1), [])))
  (none)
theorem e_f106c85 (p0 : (List Rule)) : runF g_f106c85 tc_f106c85 rv_f106c85 false [.t (.sl tyRule) p0, .c (.func (.func 85) ⟨[]⟩ ⟨[]⟩)] [] = r_f106c85 p0 := by kernel_rfl
theorem ok_f106c85 : Option.map (trC Tryz.prog) Tryz.f106.body = some tc_f106c85.er := by kernel_rfl
theorem rok_f106c85 : trVs Tryz.prog Tryz.f106.results.toList = some (rv_f106c85.map Prod.fst) := by kernel_rfl
theorem en_f106c85 : Entered Tryz.prog 106 := .inr ⟨by decide, _, Tryz.func106, by kernel_rfl, by kernel_rfl⟩
theorem gk_f106c85 : GOk Tryz.prog g_f106c85 := gok_of _ (by
 intro p hp
 simp only [List.mem_cons, List.not_mem_nil, or_false] at hp
 rcases hp with rfl
 ·exact ⟨en_f85, ms_f85⟩)
theorem l_f106c85_0 (x0 : (List Rule)) (x7 : Int) (x8 : Int) (h : (rngOk x0 x7 x8) = true) : lp_f106c85_0 x0 x7 x8 = la_f106c85_0 x0 x7 x8 := by
 obtain ⟨rfl, h3, k, rfl, hk⟩ := rng_k h
 clear h
 refine range_ind x0 (fun k => lp_f106c85_0 x0 (x0.length : Int) (k : Int) = la_f106c85_0 x0 (x0.length : Int) (k : Int)) ?_ ?_ k hk
 ·rw [ln_f106c85_0]
  simp [n_f106c85_0, la_f106c85_0, ilt_nat, br_false, fstN]
 ·intro k hk ih
  rw [ln_f106c85_0]
  simp only [n_f106c85_0, ilt_nat, cIx_nat, hk, decide_true, br_true, Int.toNat_natCast, add1 (show k < 4611686018427387904 by omega), ih, lgt_get (y := tyRule) hk]
  simp only [la_f106c85_0, Int.toNat_natCast, List.drop_eq_getElem_cons hk, fstN]
  cases h : ruledN x0[k] with
  | true => simp [br_true]
  | false =>
   simp only [br_false, Bool.false_eq_true, if_false]
   cases hq : fstN ruledN (x0.drop (k + 1)) with
   | none => rfl
   | some j =>
    simp only [Option.map_some, Option.isSome_some, Option.getD_some, br_true]
    congr 3
    omega
theorem lo_f106c85_0 : ∀ S l p, g_f106c85.L 0 (fgt fg_f106c85_0 S) = some (true, l) → pickA l = some p → loopF (roundF g_f106c85 fg_f106c85_0 tb_f106c85_0) S = some p :=
 lok_of (s := sh_f106c85_0) ⟨by decide, by decide⟩ (by kernel_rfl) fun x y hok p hp => by
 simp only [pickA_br, pickA_one] at hp
 exact (l_f106c85_0 x.1 x.2.2.1 x.2.2.2.1 (by simpa using hok)).trans hp
theorem lk_f106c85 : tc_f106c85.lok g_f106c85 := by
 repeat (first | exact trivial | exact lo_f106c85_0 | refine ⟨?_, ?_⟩)
theorem s_f106c85 (l : List Rule) (h : lenOk5 l = true) : r_f106c85 l = some (.t tI (fstRule l), []) := by
 simp only [lenOk5, decide_eq_true_eq] at h
 simp only [r_f106c85, rng_0 h, br_true, Int.toNat_zero, List.drop_zero, fstRule]
 cases fstN ruledN l <;> simp [br_true, br_false]
def sp_f106c85 : Ent := specH [.ty (.sl tyRule), .cf 85] [] (fun x d => (lenOk5 x.1)) (fun x d => (.t tI (fstRule x.1)))
theorem ms_f106c85 : Meets Tryz.prog 106 (strip sp_f106c85) := by
 obtain ⟨c, hc, hi⟩ := Option.map_eq_some_iff.1 ok_f106c85
 exact meets_specH (R := runF g_f106c85 tc_f106c85 rv_f106c85 false) (meets_of (by decide) Tryz.func106 hc hi Tryz.ntmps106 rok_f106c85 gk_f106c85 lk_f106c85 mixed) fun x d hok => (e_f106c85 x.1).trans (s_f106c85 x.1 hok)
def anyRule (l : List Rule) : Bool := l.any ruledN
def tc_f84c85 : TC := (.sq (.reg [(oP 4 (.mv (cB false)))]) (.sq (.reg [(oV 5 0), (oV 6 1), (oC 7 106 [(.t 5), (.t 6)]), (oP 8 (.bin false .geq (.t 7) (cI 0))), (oV 4 8)]) .rt))
def rv_f84c85 : List (RV × Option Ty) := [((.t 4), some .bool)]
def g_f84c85 : G := ⟨TYs, [], 9, EL [(106, sp_f106c85)], keeps, (fun _ _ => none), IL [], RL []⟩
def r_f84c85 (p0 : (List Rule)) : Option (V × List VO) :=
 br ((lenOk5 p0))
  (some (.t .bool (ige (fstRule p0) 0), []))
  (none)
theorem e_f84c85 (p0 : (List Rule)) : runF g_f84c85 tc_f84c85 rv_f84c85 false [.t (.sl tyRule) p0, .c (.func (.func 85) ⟨[]⟩ ⟨[]⟩)] [] = r_f84c85 p0 := by kernel_rfl
theorem ok_f84c85 : Option.map (trC Tryz.prog) Tryz.f84.body = some tc_f84c85.er := by kernel_rfl
theorem rok_f84c85 : trVs Tryz.prog Tryz.f84.results.toList = some (rv_f84c85.map Prod.fst) := by kernel_rfl
theorem en_f84c85 : Entered Tryz.prog 84 := .inr ⟨by decide, _, Tryz.func84, by kernel_rfl, by kernel_rfl⟩
theorem gk_f84c85 : GOk Tryz.prog g_f84c85 := gok_of _ (by
 intro p hp
 simp only [List.mem_cons, List.not_mem_nil, or_false] at hp
 rcases hp with rfl
 ·exact ⟨en_f106c85, ms_f106c85⟩)
theorem lk_f84c85 : tc_f84c85.lok g_f84c85 := by repeat (first | exact trivial | refine ⟨?_, ?_⟩)
theorem s_f84c85 (l : List Rule) (h : lenOk5 l = true) : r_f84c85 l = some (.t .bool (anyRule l), []) := by
 simp only [r_f84c85, h, br_true]
 congr 3
 unfold fstRule anyRule
 cases hq : fstN ruledN l with
 | none => rw [fstN_none.1 hq]; rfl
 | some k => rw [fstN_some hq]; simp only [ige, decide_eq_true_eq]; omega
def sp_f84c85 : Ent := specH [.ty (.sl tyRule), .cf 85] [] (fun x d => (lenOk5 x.1)) (fun x d => (.t .bool (anyRule x.1)))
theorem ms_f84c85 : Meets Tryz.prog 84 (strip sp_f84c85) := by
 obtain ⟨c, hc, hi⟩ := Option.map_eq_some_iff.1 ok_f84c85
 exact meets_specH (R := runF g_f84c85 tc_f84c85 rv_f84c85 false) (meets_of (by decide) Tryz.func84 hc hi Tryz.ntmps84 rok_f84c85 gk_f84c85 lk_f84c85 mixed) fun x d hok => (e_f84c85 x.1).trans (s_f84c85 x.1 hok)
def fg_f107c88_0 : Fg := ⟨[(0, some (.sl tyKeep)), (1, none), (7, some tI), (8, some tI)], []⟩
def tb_f107c88_0 : TC := (.sq (.reg [(oP 9 (.bin false .lss (.t 8) (.t 7)))]) (.sq (.cd (.t 9) .sk (.fg ⟨[], []⟩ (.ex 0))) (.sq (.bk 1 (.sq (.reg [(oV 10 8), (oV 5 10)]) (.sq (.reg [(oV 11 1), (oV 12 0), (oV 13 5), (oP 14 (.ix 2 (.t 12) (.t 13))), (oM 15 (.ld true 2 (.t 14))), (oK 16 (.cv (.t 11) [(.t 15)]))]) (.cd (.t 16) (.sq (.reg [(oV 17 5), (oV 4 17)]) (.fg ⟨[(4, some tI)], []⟩ .rt)) .sk)))) (.reg [(oP 18 (.bin false .add (.t 8) (cI 1))), (oV 8 18)]))))
def tc_f107c88 : TC := (.sq (.reg [(oP 4 (.mv (cI 0)))]) (.sq (.sq (.reg [(oV 6 0), (oP 7 (.len false (.t 6))), (oP 8 (.mv (cI 0)))]) (.bk 0 (.lp 0 fg_f107c88_0 tb_f107c88_0))) (.sq (.reg [(oP 4 (.mv (cI (-1))))]) .rt)))
def rv_f107c88 : List (RV × Option Ty) := [((.t 4), some tI)]
abbrev sh_f107c88_0 : Sh := ⟨[(0, .ty (.sl tyKeep)), (1, .cf 88), (7, .ty tI), (8, .ty tI)], []⟩
def st_f107c88_0 (x0 : (List Keep)) (x7 : Int) (x8 : Int) : VS := sh_f107c88_0.st (x0, (), x7, x8, ()) ()
abbrev sh_f107c88_0_ret : Sh := ⟨[(4, .ty tI)], []⟩
def st_f107c88_0_ret (x4 : Int) : VS := sh_f107c88_0_ret.st (x4, ()) ()
abbrev sh_f107c88_0_e0 : Sh := ⟨[], []⟩
def st_f107c88_0_e0  : VS := sh_f107c88_0_e0.st () ()
-- loop 0: (x0 : (List Keep)) (x7 : Int) (x8 : Int); out: ('ret',) (x4 : Int); ('exit', 0)
def L_f107c88_0 : VS → Option (Bool × List (Bool × Exit × VS)) := mkL sh_f107c88_0 (fun x y => (rngOk x.1 x.2.2.1 x.2.2.2.1)) (fun x y => [(((fstN keptN (x.1.drop x.2.2.2.1.toNat)).isSome), .ret, st_f107c88_0_ret (x.2.2.2.1 + ((fstN keptN (x.1.drop x.2.2.2.1.toNat)).getD 0 : Nat))), (true, .exit 0, st_f107c88_0_e0)])
def g_f107c88 : G := ⟨TYs, [], 19, EL [(88, sp_f88)], keeps, (Ls [L_f107c88_0]), IL [], RL []⟩
def b_f107c88_0 (x0 : (List Keep)) (x7 : Int) (x8 : Int) : Option (Exit × VS) :=
 br ((ilt x8 x7))
  (br (cIx x0 x8)
   (br ((keptN (lgt tyKeep x0 (Int.toNat x8))))
    (some (.ret, st_f107c88_0_ret x8))
    (some (.normal, st_f107c88_0 x0 x7 (iadd .i64 x8 1))))
   (none))
  (some (.exit 0, st_f107c88_0_e0))
noncomputable def lp_f107c88_0 (x0 : (List Keep)) (x7 : Int) (x8 : Int) : Option (Exit × VS) := loopF (roundF g_f107c88 fg_f107c88_0 tb_f107c88_0) (st_f107c88_0 x0 x7 x8)
noncomputable def n_f107c88_0 (x0 : (List Keep)) (x7 : Int) (x8 : Int) : Option (Exit × VS) :=
 br ((ilt x8 x7))
  (br (cIx x0 x8)
   (br ((keptN (lgt tyKeep x0 (Int.toNat x8))))
    (some (.ret, st_f107c88_0_ret x8))
    (lp_f107c88_0 x0 x7 (iadd .i64 x8 1)))
   (none))
  (some (.exit 0, st_f107c88_0_e0))
def la_f107c88_0 (x0 : (List Keep)) (x7 : Int) (x8 : Int) : Option (Exit × VS) := br ((fstN keptN (x0.drop x8.toNat)).isSome) (some (.ret, st_f107c88_0_ret (x8 + ((fstN keptN (x0.drop x8.toNat)).getD 0 : Nat)))) <| some (.exit 0, st_f107c88_0_e0)
theorem be_f107c88_0 (x0 : (List Keep)) (x7 : Int) (x8 : Int) : roundF g_f107c88 fg_f107c88_0 tb_f107c88_0 (st_f107c88_0 x0 x7 x8) = b_f107c88_0 x0 x7 x8 := by kernel_rfl
theorem ln_f107c88_0 (x0 : (List Keep)) (x7 : Int) (x8 : Int) : lp_f107c88_0 x0 x7 x8 = n_f107c88_0 x0 x7 x8 := (loopF_nxt _ _).trans (by
 rw [be_f107c88_0]
 simp only [b_f107c88_0, n_f107c88_0, nxt_br, nxt_n, nxt_r, nxt_e, nxt_0]
 rfl)
def r_f107c88 (p0 : (List Keep)) : Option (V × List VO) :=
 br ((rngOk p0 (llen p0) (0 : Int)))
  (br (((fstN keptN (p0.drop (0 : Int).toNat)).isSome))
   (some (.t tI ((0 : Int) + ((fstN keptN (p0.drop (0 : Int).toNat)).getD 0 : Nat)), []))
   (some (.t tI (-1), [])))
  (none)
theorem e_f107c88 (p0 : (List Keep)) : runF g_f107c88 tc_f107c88 rv_f107c88 false [.t (.sl tyKeep) p0, .c (.func (.func 88) ⟨[]⟩ ⟨[]⟩)] [] = r_f107c88 p0 := by kernel_rfl
theorem ok_f107c88 : Option.map (trC Tryz.prog) Tryz.f107.body = some tc_f107c88.er := by kernel_rfl
theorem rok_f107c88 : trVs Tryz.prog Tryz.f107.results.toList = some (rv_f107c88.map Prod.fst) := by kernel_rfl
theorem en_f107c88 : Entered Tryz.prog 107 := .inr ⟨by decide, _, Tryz.func107, by kernel_rfl, by kernel_rfl⟩
theorem gk_f107c88 : GOk Tryz.prog g_f107c88 := gok_of _ (by
 intro p hp
 simp only [List.mem_cons, List.not_mem_nil, or_false] at hp
 rcases hp with rfl
 ·exact ⟨en_f88, ms_f88⟩)
theorem l_f107c88_0 (x0 : (List Keep)) (x7 : Int) (x8 : Int) (h : (rngOk x0 x7 x8) = true) : lp_f107c88_0 x0 x7 x8 = la_f107c88_0 x0 x7 x8 := by
 obtain ⟨rfl, h3, k, rfl, hk⟩ := rng_k h
 clear h
 refine range_ind x0 (fun k => lp_f107c88_0 x0 (x0.length : Int) (k : Int) = la_f107c88_0 x0 (x0.length : Int) (k : Int)) ?_ ?_ k hk
 ·rw [ln_f107c88_0]
  simp [n_f107c88_0, la_f107c88_0, ilt_nat, br_false, fstN]
 ·intro k hk ih
  rw [ln_f107c88_0]
  simp only [n_f107c88_0, ilt_nat, cIx_nat, hk, decide_true, br_true, Int.toNat_natCast, add1 (show k < 4611686018427387904 by omega), ih, lgt_get (y := tyKeep) hk]
  simp only [la_f107c88_0, Int.toNat_natCast, List.drop_eq_getElem_cons hk, fstN]
  cases h : keptN x0[k] with
  | true => simp [br_true]
  | false =>
   simp only [br_false, Bool.false_eq_true, if_false]
   cases hq : fstN keptN (x0.drop (k + 1)) with
   | none => rfl
   | some j =>
    simp only [Option.map_some, Option.isSome_some, Option.getD_some, br_true]
    congr 3
    omega
theorem lo_f107c88_0 : ∀ S l p, g_f107c88.L 0 (fgt fg_f107c88_0 S) = some (true, l) → pickA l = some p → loopF (roundF g_f107c88 fg_f107c88_0 tb_f107c88_0) S = some p :=
 lok_of (s := sh_f107c88_0) ⟨by decide, by decide⟩ (by kernel_rfl) fun x y hok p hp => by
 simp only [pickA_br, pickA_one] at hp
 exact (l_f107c88_0 x.1 x.2.2.1 x.2.2.2.1 (by simpa using hok)).trans hp
theorem lk_f107c88 : tc_f107c88.lok g_f107c88 := by
 repeat (first | exact trivial | exact lo_f107c88_0 | refine ⟨?_, ?_⟩)
theorem s_f107c88 (l : List Keep) (h : lenOk5 l = true) : r_f107c88 l = some (.t tI (fstKeep l), []) := by
 simp only [lenOk5, decide_eq_true_eq] at h
 simp only [r_f107c88, rng_0 h, br_true, Int.toNat_zero, List.drop_zero, fstKeep]
 cases fstN keptN l <;> simp [br_true, br_false]
def sp_f107c88 : Ent := specH [.ty (.sl tyKeep), .cf 88] [] (fun x d => (lenOk5 x.1)) (fun x d => (.t tI (fstKeep x.1)))
theorem ms_f107c88 : Meets Tryz.prog 107 (strip sp_f107c88) := by
 obtain ⟨c, hc, hi⟩ := Option.map_eq_some_iff.1 ok_f107c88
 exact meets_specH (R := runF g_f107c88 tc_f107c88 rv_f107c88 false) (meets_of (by decide) Tryz.func107 hc hi Tryz.ntmps107 rok_f107c88 gk_f107c88 lk_f107c88 mixed) fun x d hok => (e_f107c88 x.1).trans (s_f107c88 x.1 hok)
def anyKeep (l : List Keep) : Bool := l.any keptN
def tc_f87c88 : TC := (.sq (.reg [(oP 4 (.mv (cB false)))]) (.sq (.reg [(oV 5 0), (oV 6 1), (oC 7 107 [(.t 5), (.t 6)]), (oP 8 (.bin false .geq (.t 7) (cI 0))), (oV 4 8)]) .rt))
def rv_f87c88 : List (RV × Option Ty) := [((.t 4), some .bool)]
def g_f87c88 : G := ⟨TYs, [], 9, EL [(107, sp_f107c88)], keeps, (fun _ _ => none), IL [], RL []⟩
def r_f87c88 (p0 : (List Keep)) : Option (V × List VO) :=
 br ((lenOk5 p0))
  (some (.t .bool (ige (fstKeep p0) 0), []))
  (none)
theorem e_f87c88 (p0 : (List Keep)) : runF g_f87c88 tc_f87c88 rv_f87c88 false [.t (.sl tyKeep) p0, .c (.func (.func 88) ⟨[]⟩ ⟨[]⟩)] [] = r_f87c88 p0 := by kernel_rfl
theorem ok_f87c88 : Option.map (trC Tryz.prog) Tryz.f87.body = some tc_f87c88.er := by kernel_rfl
theorem rok_f87c88 : trVs Tryz.prog Tryz.f87.results.toList = some (rv_f87c88.map Prod.fst) := by kernel_rfl
theorem en_f87c88 : Entered Tryz.prog 87 := .inr ⟨by decide, _, Tryz.func87, by kernel_rfl, by kernel_rfl⟩
theorem gk_f87c88 : GOk Tryz.prog g_f87c88 := gok_of _ (by
 intro p hp
 simp only [List.mem_cons, List.not_mem_nil, or_false] at hp
 rcases hp with rfl
 ·exact ⟨en_f107c88, ms_f107c88⟩)
theorem lk_f87c88 : tc_f87c88.lok g_f87c88 := by repeat (first | exact trivial | refine ⟨?_, ?_⟩)
theorem s_f87c88 (l : List Keep) (h : lenOk5 l = true) : r_f87c88 l = some (.t .bool (anyKeep l), []) := by
 simp only [r_f87c88, h, br_true]
 congr 3
 unfold fstKeep anyKeep
 cases hq : fstN keptN l with
 | none => rw [fstN_none.1 hq]; rfl
 | some k => rw [fstN_some hq]; simp only [ige, decide_eq_true_eq]; omega
def sp_f87c88 : Ent := specH [.ty (.sl tyKeep), .cf 88] [] (fun x d => (lenOk5 x.1)) (fun x d => (.t .bool (anyKeep x.1)))
theorem ms_f87c88 : Meets Tryz.prog 87 (strip sp_f87c88) := by
 obtain ⟨c, hc, hi⟩ := Option.map_eq_some_iff.1 ok_f87c88
 exact meets_specH (R := runF g_f87c88 tc_f87c88 rv_f87c88 false) (meets_of (by decide) Tryz.func87 hc hi Tryz.ntmps87 rok_f87c88 gk_f87c88 lk_f87c88 mixed) fun x d hok => (e_f87c88 x.1).trans (s_f87c88 x.1 hok)
theorem igt60 {α : Type} {l : List α} : igt (llen l) 60 = !decide (l.length ≤ 60) := by
 have : igt (llen l) 60 = decide (60 < l.length) := igt_nat
 rw [this]
 by_cases h : l.length ≤ 60
 ·rw [decide_eq_true h, Bool.not_true, decide_eq_false_iff_not]; omega
 ·rw [decide_eq_false h, Bool.not_false, decide_eq_true_eq]; omega
def polOk (y : Policy) : Bool := y.1.all ruledF && y.2.1.all keptF && decide (y.1.length ≤ 60 ∧ y.2.1.length ≤ 60)
def checkF (y : Policy) : Int := if polOk y then 0 else 25
def polLen (y : Policy) : Bool := lenOk5 y.1 && lenOk5 y.2.1
def tc_f67 : TC := (.sq (.reg [(oM 1 (.box (.t 0))), (oP 2 (.mv (cI 0)))]) (.sq (.reg [(oP 4 (.fa 0 (.t 1))), (oL 5 4), (oC 6 84 [(.t 5), (.c (.v (.func (.func 85) #[] #[])))]), (oV 7 6), (oQ 8 7 false (.fa 1 (.t 1))), (oG 9 7 false (.m (.ld false 1 (.t 8)))), (oG 10 7 false (.call 87 [(.t 9), (.c (.v (.func (.func 88) #[] #[])))])), (oP 11 (.pick (.t 7) (cB true) (.t 10))), (oV 3 11)]) (.sq (.sq (.reg [(oV 12 3), (oV 13 12), (oQ 14 13 false (.fa 0 (.t 1))), (oG 15 13 false (.m (.ld false 1 (.t 14)))), (oQ 16 13 false (.len false (.t 15))), (oQ 17 13 false (.bin false .gtr (.t 16) (cI 60))), (oP 18 (.pick (.t 13) (cB true) (.t 17))), (oV 19 18), (oQ 20 19 false (.fa 1 (.t 1))), (oG 21 19 false (.m (.ld false 1 (.t 20)))), (oQ 22 19 false (.len false (.t 21))), (oQ 23 19 false (.bin false .gtr (.t 22) (cI 60))), (oP 24 (.pick (.t 19) (cB true) (.t 23)))]) (.cd (.t 24) (.sq (.reg [(oP 2 (.mv (cI 25)))]) .rt) .sk)) (.sq (.reg [(oP 2 (.mv (cI 0)))]) .rt))))
def rv_f67 : List (RV × Option Ty) := [((.t 2), some tI)]
def g_f67 : G := ⟨TYs, [], 25, EL [(84, sp_f84c85), (87, sp_f87c88)], keeps, (fun _ _ => none), IL [], RL []⟩
def r_f67 (p0 : Policy) : Option (V × List VO) :=
 br ((lenOk5 p0.1))
  (br ((anyRule p0.1))
   (some (.t tI 25, []))
   (br ((lenOk5 p0.2.1))
    (br ((anyKeep p0.2.1))
     (some (.t tI 25, []))
     (br ((igt (llen p0.1) 60))
      (some (.t tI 25, []))
      (br ((igt (llen p0.2.1) 60))
       (some (.t tI 25, []))
       (some (.t tI 0, [])))))
    (none)))
  (none)
theorem e_f67 (p0 : Policy) : runF g_f67 tc_f67 rv_f67 false [.t tyPolicy p0] [] = r_f67 p0 := by kernel_rfl
theorem ok_f67 : Option.map (trC Tryz.prog) Tryz.f67.body = some tc_f67.er := by kernel_rfl
theorem rok_f67 : trVs Tryz.prog Tryz.f67.results.toList = some (rv_f67.map Prod.fst) := by kernel_rfl
theorem en_f67 : Entered Tryz.prog 67 := .inr ⟨by decide, _, Tryz.func67, by kernel_rfl, by kernel_rfl⟩
theorem gk_f67 : GOk Tryz.prog g_f67 := gok_of _ (by
 intro p hp
 simp only [List.mem_cons, List.not_mem_nil, or_false] at hp
 rcases hp with rfl | rfl
 ·exact ⟨en_f84c85, ms_f84c85⟩
 ·exact ⟨en_f87c88, ms_f87c88⟩)
theorem lk_f67 : tc_f67.lok g_f67 := by repeat (first | exact trivial | refine ⟨?_, ?_⟩)
theorem s_f67 (y : Policy) (h : polLen y = true) : r_f67 y = some (.t tI (checkF y), []) := by
 simp only [polLen, Bool.and_eq_true] at h
 simp only [r_f67, h.1, h.2, br_true]
 have e1 : anyRule y.1 = !y.1.all ruledF := by simp [anyRule, List.any_eq_not_all_not, ruledN]
 have e2 : anyKeep y.2.1 = !y.2.1.all keptF := by simp [anyKeep, List.any_eq_not_all_not, keptN]
 rw [e1, e2]
 unfold checkF polOk
 rw [igt60, igt60]
 by_cases h1 : y.1.length ≤ 60 <;> by_cases h2 : y.2.1.length ≤ 60 <;> cases y.1.all ruledF <;> cases y.2.1.all keptF <;> simp [br_true, br_false, h1, h2]
def sp_f67 : Ent := spec (.pr tyPolicy .nil) (fun x => (polLen x.1)) (fun x => (.t tI (checkF x.1)))
theorem ms_f67 : Meets Tryz.prog 67 (strip sp_f67) := by
 obtain ⟨c, hc, hi⟩ := Option.map_eq_some_iff.1 ok_f67
 exact meets_spec (R := runF g_f67 tc_f67 rv_f67 false) (meets_of (by decide) Tryz.func67 hc hi Tryz.ntmps67 rok_f67 gk_f67 lk_f67 mixed) fun x hok => (e_f67 x.1).trans (s_f67 x.1 hok)
def fg_f69_0 : Fg := ⟨[(1, none), (3, some tI)], [(1, some tyPolicy)]⟩
def tb_f69_0 : TC := (.sq (.sq (.reg [(oV 15 3), (oP 16 (.fa 0 (.t 1))), (oL 17 16), (oP 18 (.len false (.t 17))), (oP 19 (.bin false .lss (.t 15) (.t 18)))]) (.cd (.t 19) .sk (.fg ⟨[(1, none)], [(1, some tyPolicy)]⟩ (.ex 0)))) (.sq (.bk 1 (.sq (.reg [(oP 22 (.fa 0 (.t 1))), (oL 23 22), (oV 24 3), (oP 25 (.ix 6 (.t 23) (.t 24))), (oM 26 (.ld true 6 (.t 25))), (oC 27 91 [(.t 26)]), (oP 28 (.nt (.t 27)))]) (.cd (.t 28) (.sq (.reg [(oP 2 (.mv (cI 25)))]) (.fg ⟨[(2, some tI)], []⟩ .rt)) .sk))) (.reg [(oV 20 3), (oP 21 (.bin false .add (.t 20) (cI 1))), (oV 3 21)])))
def fg_f69_1 : Fg := ⟨[(1, none), (4, some tI)], [(1, some tyPolicy)]⟩
def tb_f69_1 : TC := (.sq (.sq (.reg [(oV 29 4), (oP 30 (.fa 1 (.t 1))), (oL 31 30), (oP 32 (.len false (.t 31))), (oP 33 (.bin false .lss (.t 29) (.t 32)))]) (.cd (.t 33) .sk (.fg ⟨[], []⟩ (.ex 2)))) (.sq (.bk 3 (.sq (.reg [(oP 36 (.fa 1 (.t 1))), (oL 37 36), (oV 38 4), (oP 39 (.ix 2 (.t 37) (.t 38))), (oM 40 (.ld true 2 (.t 39))), (oC 41 92 [(.t 40)]), (oP 42 (.nt (.t 41)))]) (.cd (.t 42) (.sq (.reg [(oP 2 (.mv (cI 25)))]) (.fg ⟨[(2, some tI)], []⟩ .rt)) .sk))) (.reg [(oV 34 4), (oP 35 (.bin false .add (.t 34) (cI 1))), (oV 4 35)])))
def tc_f69 : TC := (.sq (.reg [(oM 1 (.box (.t 0))), (oP 2 (.mv (cI 0)))]) (.sq (.sq (.reg [(oP 5 (.fa 0 (.t 1))), (oL 6 5), (oP 7 (.len false (.t 6))), (oP 8 (.bin false .gtr (.t 7) (cI 60))), (oV 9 8), (oQ 10 9 false (.fa 1 (.t 1))), (oG 11 9 false (.m (.ld false 1 (.t 10)))), (oQ 12 9 false (.len false (.t 11))), (oQ 13 9 false (.bin false .gtr (.t 12) (cI 60))), (oP 14 (.pick (.t 9) (cB true) (.t 13)))]) (.cd (.t 14) (.sq (.reg [(oP 2 (.mv (cI 25)))]) .rt) .sk)) (.sq (.sq (.reg [(oP 3 (.mv (cI 0)))]) (.bk 0 (.lp 0 fg_f69_0 tb_f69_0))) (.sq (.sq (.reg [(oP 4 (.mv (cI 0)))]) (.bk 2 (.lp 1 fg_f69_1 tb_f69_1))) (.sq (.reg [(oP 2 (.mv (cI 0)))]) .rt)))))
def rv_f69 : List (RV × Option Ty) := [((.t 2), some tI)]
abbrev sh_f69_0 : Sh := ⟨[(1, .ptr 1 0), (3, .ty tI)], [(1, .box tyPolicy)]⟩
def st_f69_0 (x3 : Int) (y1 : Policy) : VS := sh_f69_0.st ((), x3, ()) (y1, ())
abbrev sh_f69_0_ret : Sh := ⟨[(2, .ty tI)], []⟩
def st_f69_0_ret (x2 : Int) : VS := sh_f69_0_ret.st (x2, ()) ()
abbrev sh_f69_0_e0 : Sh := ⟨[(1, .ptr 1 0)], [(1, .box tyPolicy)]⟩
def st_f69_0_e0 (y1 : Policy) : VS := sh_f69_0_e0.st ((), ()) (y1, ())
-- loop 0: (x3 : Int) (y1 : Policy); out: ('ret',) (x2 : Int); ('exit', 0) (y1 : Policy)
abbrev sh_f69_1 : Sh := ⟨[(1, .ptr 1 0), (4, .ty tI)], [(1, .box tyPolicy)]⟩
def st_f69_1 (x4 : Int) (y1 : Policy) : VS := sh_f69_1.st ((), x4, ()) (y1, ())
abbrev sh_f69_1_ret : Sh := ⟨[(2, .ty tI)], []⟩
def st_f69_1_ret (x2 : Int) : VS := sh_f69_1_ret.st (x2, ()) ()
abbrev sh_f69_1_e2 : Sh := ⟨[], []⟩
def st_f69_1_e2  : VS := sh_f69_1_e2.st () ()
-- loop 1: (x4 : Int) (y1 : Policy); out: ('ret',) (x2 : Int); ('exit', 2)
def L_f69_0 : VS → Option (Bool × List (Bool × Exit × VS)) := mkL sh_f69_0 (fun x y => (decide (0 ≤ x.2.1 ∧ x.2.1 ≤ y.1.1.length ∧ y.1.1.length ≤ 100000))) (fun x y => [(((y.1.1.drop x.2.1.toNat).any ruledN), .ret, st_f69_0_ret (25)), (true, .exit 0, st_f69_0_e0 (y.1))])
def L_f69_1 : VS → Option (Bool × List (Bool × Exit × VS)) := mkL sh_f69_1 (fun x y => (decide (0 ≤ x.2.1 ∧ x.2.1 ≤ y.1.2.1.length ∧ y.1.2.1.length ≤ 100000))) (fun x y => [(((y.1.2.1.drop x.2.1.toNat).any keptN), .ret, st_f69_1_ret (25)), (true, .exit 2, st_f69_1_e2)])
def g_f69 : G := ⟨TYs, [], 43, EL [(91, sp_f91), (92, sp_f92)], keeps, (Ls [L_f69_0, L_f69_1]), IL [], RL []⟩
def b_f69_0 (x3 : Int) (y1 : Policy) : Option (Exit × VS) :=
 br ((ilt x3 (llen y1.1)))
  (br (cIx y1.1 x3)
   (br ((!(ruledF (lgt tyRule y1.1 (Int.toNat x3)))))
    (some (.ret, st_f69_0_ret 25))
    (some (.normal, st_f69_0 (iadd .i64 x3 1) y1)))
   (none))
  (some (.exit 0, st_f69_0_e0 y1))
noncomputable def lp_f69_0 (x3 : Int) (y1 : Policy) : Option (Exit × VS) := loopF (roundF g_f69 fg_f69_0 tb_f69_0) (st_f69_0 x3 y1)
noncomputable def n_f69_0 (x3 : Int) (y1 : Policy) : Option (Exit × VS) :=
 br ((ilt x3 (llen y1.1)))
  (br (cIx y1.1 x3)
   (br ((!(ruledF (lgt tyRule y1.1 (Int.toNat x3)))))
    (some (.ret, st_f69_0_ret 25))
    (lp_f69_0 (iadd .i64 x3 1) y1))
   (none))
  (some (.exit 0, st_f69_0_e0 y1))
def la_f69_0 (x3 : Int) (y1 : Policy) : Option (Exit × VS) := br ((y1.1.drop x3.toNat).any ruledN) (some (.ret, st_f69_0_ret (25))) <| some (.exit 0, st_f69_0_e0 (y1))
theorem be_f69_0 (x3 : Int) (y1 : Policy) : roundF g_f69 fg_f69_0 tb_f69_0 (st_f69_0 x3 y1) = b_f69_0 x3 y1 := by kernel_rfl
theorem ln_f69_0 (x3 : Int) (y1 : Policy) : lp_f69_0 x3 y1 = n_f69_0 x3 y1 := (loopF_nxt _ _).trans (by
 rw [be_f69_0]
 simp only [b_f69_0, n_f69_0, nxt_br, nxt_n, nxt_r, nxt_e, nxt_0]
 rfl)
def b_f69_1 (x4 : Int) (y1 : Policy) : Option (Exit × VS) :=
 br ((ilt x4 (llen y1.2.1)))
  (br (cIx y1.2.1 x4)
   (br ((!(keptF (lgt tyKeep y1.2.1 (Int.toNat x4)))))
    (some (.ret, st_f69_1_ret 25))
    (some (.normal, st_f69_1 (iadd .i64 x4 1) y1)))
   (none))
  (some (.exit 2, st_f69_1_e2))
noncomputable def lp_f69_1 (x4 : Int) (y1 : Policy) : Option (Exit × VS) := loopF (roundF g_f69 fg_f69_1 tb_f69_1) (st_f69_1 x4 y1)
noncomputable def n_f69_1 (x4 : Int) (y1 : Policy) : Option (Exit × VS) :=
 br ((ilt x4 (llen y1.2.1)))
  (br (cIx y1.2.1 x4)
   (br ((!(keptF (lgt tyKeep y1.2.1 (Int.toNat x4)))))
    (some (.ret, st_f69_1_ret 25))
    (lp_f69_1 (iadd .i64 x4 1) y1))
   (none))
  (some (.exit 2, st_f69_1_e2))
def la_f69_1 (x4 : Int) (y1 : Policy) : Option (Exit × VS) := br ((y1.2.1.drop x4.toNat).any keptN) (some (.ret, st_f69_1_ret (25))) <| some (.exit 2, st_f69_1_e2)
theorem be_f69_1 (x4 : Int) (y1 : Policy) : roundF g_f69 fg_f69_1 tb_f69_1 (st_f69_1 x4 y1) = b_f69_1 x4 y1 := by kernel_rfl
theorem ln_f69_1 (x4 : Int) (y1 : Policy) : lp_f69_1 x4 y1 = n_f69_1 x4 y1 := (loopF_nxt _ _).trans (by
 rw [be_f69_1]
 simp only [b_f69_1, n_f69_1, nxt_br, nxt_n, nxt_r, nxt_e, nxt_0]
 rfl)
def r_f69 (p0 : Policy) : Option (V × List VO) :=
 br ((igt (llen p0.1) 60))
  (some (.t tI 25, []))
  (br ((igt (llen p0.2.1) 60))
   (some (.t tI 25, []))
   (br ((decide (0 ≤ (0 : Int) ∧ (0 : Int) ≤ p0.1.length ∧ p0.1.length ≤ 100000)))
    (br (((p0.1.drop (0 : Int).toNat).any ruledN))
     (some (.t tI (25), []))
     (br ((decide (0 ≤ (0 : Int) ∧ (0 : Int) ≤ (p0).2.1.length ∧ (p0).2.1.length ≤ 100000)))
      (br ((((p0).2.1.drop (0 : Int).toNat).any keptN))
       (some (.t tI (25), []))
       (some (.t tI 0, [])))
      (none)))
    (none)))
theorem e_f69 (p0 : Policy) : runF g_f69 tc_f69 rv_f69 false [.t tyPolicy p0] [] = r_f69 p0 := by kernel_rfl
theorem ok_f69 : Option.map (trC Tryz.prog) Tryz.f69.body = some tc_f69.er := by kernel_rfl
theorem rok_f69 : trVs Tryz.prog Tryz.f69.results.toList = some (rv_f69.map Prod.fst) := by kernel_rfl
theorem en_f69 : Entered Tryz.prog 69 := .inr ⟨by decide, _, Tryz.func69, by kernel_rfl, by kernel_rfl⟩
theorem gk_f69 : GOk Tryz.prog g_f69 := gok_of _ (by
 intro p hp
 simp only [List.mem_cons, List.not_mem_nil, or_false] at hp
 rcases hp with rfl | rfl
 ·exact ⟨en_f91, ms_f91⟩
 ·exact ⟨en_f92, ms_f92⟩)
theorem l_f69_0 (x3 : Int) (y1 : Policy) (h : (decide (0 ≤ x3 ∧ x3 ≤ y1.1.length ∧ y1.1.length ≤ 100000)) = true) : lp_f69_0 x3 y1 = la_f69_0 x3 y1 := by
 simp only [decide_eq_true_eq] at h
 obtain ⟨h1, h2, h3⟩ := h
 obtain ⟨k, rfl⟩ := Int.eq_ofNat_of_zero_le h1
 refine range_ind y1.1 (fun k => lp_f69_0 (k : Int) y1 = la_f69_0 (k : Int) y1) ?_ ?_ k (by omega)
 ·rw [ln_f69_0]
  simp [n_f69_0, la_f69_0, ilt_nat, llen, br_false]
 ·intro k hk ih
  rw [ln_f69_0]
  simp only [n_f69_0, ilt_nat, llen, cIx_nat, hk, decide_true, br_true, Int.toNat_natCast, add1 (show k < 4611686018427387904 by omega), ih, lgt_get (y := tyRule) hk]
  simp only [la_f69_0, Int.toNat_natCast, List.drop_eq_getElem_cons hk, List.any_cons, ruledN]
  cases ruledF y1.1[k] <;> simp [br_true, br_false]
theorem l_f69_1 (x4 : Int) (y1 : Policy) (h : (decide (0 ≤ x4 ∧ x4 ≤ y1.2.1.length ∧ y1.2.1.length ≤ 100000)) = true) : lp_f69_1 x4 y1 = la_f69_1 x4 y1 := by
 simp only [decide_eq_true_eq] at h
 obtain ⟨h1, h2, h3⟩ := h
 obtain ⟨k, rfl⟩ := Int.eq_ofNat_of_zero_le h1
 refine range_ind y1.2.1 (fun k => lp_f69_1 (k : Int) y1 = la_f69_1 (k : Int) y1) ?_ ?_ k (by omega)
 ·rw [ln_f69_1]
  simp [n_f69_1, la_f69_1, ilt_nat, llen, br_false]
 ·intro k hk ih
  rw [ln_f69_1]
  simp only [n_f69_1, ilt_nat, llen, cIx_nat, hk, decide_true, br_true, Int.toNat_natCast, add1 (show k < 4611686018427387904 by omega), ih, lgt_get (y := tyKeep) hk]
  simp only [la_f69_1, Int.toNat_natCast, List.drop_eq_getElem_cons hk, List.any_cons, keptN]
  cases keptF y1.2.1[k] <;> simp [br_true, br_false]
theorem lo_f69_0 : ∀ S l p, g_f69.L 0 (fgt fg_f69_0 S) = some (true, l) → pickA l = some p → loopF (roundF g_f69 fg_f69_0 tb_f69_0) S = some p :=
 lok_of (s := sh_f69_0) ⟨by decide, by decide⟩ (by kernel_rfl) fun x y hok p hp => by
 simp only [pickA_br, pickA_one] at hp
 exact (l_f69_0 x.2.1 y.1 (by simpa using hok)).trans hp
theorem lo_f69_1 : ∀ S l p, g_f69.L 1 (fgt fg_f69_1 S) = some (true, l) → pickA l = some p → loopF (roundF g_f69 fg_f69_1 tb_f69_1) S = some p :=
 lok_of (s := sh_f69_1) ⟨by decide, by decide⟩ (by kernel_rfl) fun x y hok p hp => by
 simp only [pickA_br, pickA_one] at hp
 exact (l_f69_1 x.2.1 y.1 (by simpa using hok)).trans hp
theorem lk_f69 : tc_f69.lok g_f69 := by
 repeat (first | exact trivial | exact lo_f69_0 | exact lo_f69_1 | refine ⟨?_, ?_⟩)
theorem s_f69 (y : Policy) (h : polLen y = true) : r_f69 y = some (.t tI (checkF y), []) := by
 simp only [polLen, lenOk5, Bool.and_eq_true, decide_eq_true_eq] at h
 have g1 : decide ((0 : Int) ≤ 0 ∧ (0 : Int) ≤ y.1.length ∧ y.1.length ≤ 100000) = true := by simp [h.1]
 have g2 : decide ((0 : Int) ≤ 0 ∧ (0 : Int) ≤ y.2.1.length ∧ y.2.1.length ≤ 100000) = true := by simp [h.2]
 simp only [r_f69, g1, g2, br_true, Int.toNat_zero, List.drop_zero]
 have e1 : y.1.any ruledN = !y.1.all ruledF := by simp [List.any_eq_not_all_not, ruledN]
 have e2 : y.2.1.any keptN = !y.2.1.all keptF := by simp [List.any_eq_not_all_not, keptN]
 rw [e1, e2]
 unfold checkF polOk
 rw [igt60, igt60]
 by_cases h1 : y.1.length ≤ 60 <;> by_cases h2 : y.2.1.length ≤ 60 <;> cases y.1.all ruledF <;> cases y.2.1.all keptF <;> simp [br_true, br_false, h1, h2]
def sp_f69 : Ent := spec (.pr tyPolicy .nil) (fun x => (polLen x.1)) (fun x => (.t tI (checkF x.1)))
theorem ms_f69 : Meets Tryz.prog 69 (strip sp_f69) := by
 obtain ⟨c, hc, hi⟩ := Option.map_eq_some_iff.1 ok_f69
 exact meets_spec (R := runF g_f69 tc_f69 rv_f69 false) (meets_of (by decide) Tryz.func69 hc hi Tryz.ntmps69 rok_f69 gk_f69 lk_f69 mixed) fun x hok => (e_f69 x.1).trans (s_f69 x.1 hok)
end Go.Proofs.YtfehjdaielifiaaGreat.K
