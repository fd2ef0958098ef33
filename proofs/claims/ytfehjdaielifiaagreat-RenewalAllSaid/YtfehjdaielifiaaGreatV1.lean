/-
 Functions of verdict and of its answer.
-/
import Derived.Test.YtfehjdaielifiaaGreatM1
set_option linter.unusedSimpArgs false
set_option linter.unusedVariables false
namespace Go.Proofs.YtfehjdaielifiaaGreat.K
open Go.RowKit
def concerns (r : Rule) (u : Keep) (p : Int) : Bool := (r.Alg == 0 || r.Alg == u.1) && (r.Purpose == 0 || r.Purpose == p) && (r.Below == 0 || (decide (u.2.1 > 0) && decide (u.2.1 < r.Below)))
def within' (r : Rule) (day : Int) : Bool := decide (r.From ≤ day) && decide (day < r.To)
def matches' (r : Rule) (u : Keep) (p day : Int) : Bool := concerns r u p && within' r day
def tc_f118 : TC := (.sq (.reg [(oM 3 (.box (.t 0))), (oM 4 (.box (.t 1))), (oP 6 (.mv (cB false)))]) (.sq (.sq (.reg [(oP 7 (.fa 1 (.t 3))), (oL 8 7), (oP 9 (.bin false .neq (.t 8) (cI 0))), (oV 10 9), (oQ 11 10 true (.fa 1 (.t 3))), (oG 12 10 true (.m (.ld false 1 (.t 11)))), (oQ 13 10 true (.fa 0 (.t 4))), (oG 14 10 true (.m (.ld false 1 (.t 13)))), (oQ 15 10 true (.bin false .neq (.t 12) (.t 14))), (oP 16 (.pick (.t 10) (.t 15) (cB false))), (oV 17 16), (oQ 18 17 false (.fa 3 (.t 3))), (oG 19 17 false (.m (.ld false 1 (.t 18)))), (oQ 20 17 false (.bin false .neq (.t 19) (cI 0))), (oQ 21 17 false (.mv (.t 20))), (oQ 22 21 true (.fa 3 (.t 3))), (oG 23 21 true (.m (.ld false 1 (.t 22)))), (oQ 24 21 true (.mv (.t 2))), (oQ 25 21 true (.bin false .neq (.t 23) (.t 24))), (oQ 26 17 false (.pick (.t 21) (.t 25) (cB false))), (oP 27 (.pick (.t 17) (cB true) (.t 26)))]) (.cd (.t 27) (.sq (.reg [(oP 6 (.mv (cB false)))]) .rt) .sk)) (.sq (.reg [(oP 28 (.fa 2 (.t 3))), (oL 29 28), (oP 30 (.bin false .eql (.t 29) (cI 0))), (oV 31 30), (oQ 32 31 false (.fa 1 (.t 4))), (oG 33 31 false (.m (.ld false 1 (.t 32)))), (oQ 34 31 false (.bin false .gtr (.t 33) (cI 0))), (oQ 35 31 false (.mv (.t 34))), (oQ 36 35 true (.fa 1 (.t 4))), (oG 37 35 true (.m (.ld false 1 (.t 36)))), (oQ 38 35 true (.fa 2 (.t 3))), (oG 39 35 true (.m (.ld false 1 (.t 38)))), (oQ 40 35 true (.bin false .lss (.t 37) (.t 39))), (oQ 41 31 false (.pick (.t 35) (.t 40) (cB false))), (oP 42 (.pick (.t 31) (cB true) (.t 41))), (oV 6 42)]) .rt)))
def rv_f118 : List (RV × Option Ty) := [((.t 6), some .bool)]
def g_f118 : G := ⟨TYs, [], 43, EL [], keeps, (fun _ _ => none), IL [], RL []⟩
def r_f118_2 (p0 : Rule) (p1 : Keep) (p2 : Int) : Option (V × List VO) :=
 br ((ieq p0.2.2.1 0))
  (some (.t .bool true, []))
  (br ((igt p1.2.1 0))
   (some (.t .bool (ilt p1.2.1 p0.2.2.1), []))
   (some (.t .bool false, [])))
def r_f118_1 (p0 : Rule) (p1 : Keep) (p2 : Int) : Option (V × List VO) :=
 br ((ine p0.2.2.2.1 0))
  (br ((ine p0.2.2.2.1 p2))
   (some (.t .bool false, []))
   (r_f118_2 p0 p1 p2))
  (r_f118_2 p0 p1 p2)
def r_f118 (p0 : Rule) (p1 : Keep) (p2 : Int) : Option (V × List VO) :=
 br ((ine p0.2.1 0))
  (br ((ine p0.2.1 p1.1))
   (some (.t .bool false, []))
   (r_f118_1 p0 p1 p2))
  (r_f118_1 p0 p1 p2)
theorem e_f118 (p0 : Rule) (p1 : Keep) (p2 : Int) : runF g_f118 tc_f118 rv_f118 false [.t tyRule p0, .t tyKeep p1, .t tI p2] [] = r_f118 p0 p1 p2 := by kernel_rfl
theorem ok_f118 : Option.map (trC Tryz.prog) Tryz.f118.body = some tc_f118.er := by kernel_rfl
theorem rok_f118 : trVs Tryz.prog Tryz.f118.results.toList = some (rv_f118.map Prod.fst) := by kernel_rfl
theorem en_f118 : Entered Tryz.prog 118 := .inr ⟨by decide, _, Tryz.func118, by kernel_rfl, by kernel_rfl⟩
theorem gk_f118 : GOk Tryz.prog g_f118 := gok_of _ (fun p hp => by cases hp)
theorem lk_f118 : tc_f118.lok g_f118 := by repeat (first | exact trivial | refine ⟨?_, ?_⟩)
theorem s_f118 (p0 : Rule) (p1 : Keep) (p2 : Int) : r_f118 p0 p1 p2 = some (.t .bool (concerns p0 p1 p2), []) := by
 simp only [r_f118, r_f118_1, r_f118_2]
 repeat' (refine br_intro ?_ ?_ <;> intro _)
 all_goals (simp_all [concerns, Item.Name, Item.Kind, Item.Purpose, Item.Links, Item.Until, Policy.Rules, Policy.Keeps, Rule.Allow, Rule.Alg, Rule.Below, Rule.Purpose, Rule.From, Rule.To, Keep.Alg, Keep.Bits, Link.Use, Link.Day, Dice.L, Dice.At, LinkX.day, LinkX.fall, LinkX.falls, Row.name, Row.kind, Row.way, Row.sizes, Row.strengths] <;> omega)
def sp_f118 : Ent := spec (.pr tyRule (.pr tyKeep (.pr tI .nil))) (fun x => true) (fun x => (.t .bool (concerns x.1 x.2.1 x.2.2.1)))
theorem ms_f118 : Meets Tryz.prog 118 (strip sp_f118) := by
 obtain ⟨c, hc, hi⟩ := Option.map_eq_some_iff.1 ok_f118
 exact meets_spec (R := runF g_f118 tc_f118 rv_f118 false) (meets_of (by decide) Tryz.func118 hc hi Tryz.ntmps118 rok_f118 gk_f118 lk_f118 mixed) fun x _ => (e_f118 x.1 x.2.1 x.2.2.1).trans (s_f118 x.1 x.2.1 x.2.2.1)
def tc_f83 : TC := (.sq (.reg [(oM 4 (.box (.t 0))), (oM 5 (.box (.t 1))), (oP 8 (.mv (cB false)))]) (.sq (.reg [(oP 9 (.fa 1 (.t 4))), (oL 10 9), (oP 11 (.bin false .eql (.t 10) (cI 0))), (oV 12 11), (oQ 13 12 false (.fa 1 (.t 4))), (oG 14 12 false (.m (.ld false 1 (.t 13)))), (oQ 15 12 false (.fa 0 (.t 5))), (oG 16 12 false (.m (.ld false 1 (.t 15)))), (oQ 17 12 false (.bin false .eql (.t 14) (.t 16))), (oP 18 (.pick (.t 12) (cB true) (.t 17))), (oV 19 18), (oQ 20 19 true (.fa 2 (.t 4))), (oG 21 19 true (.m (.ld false 1 (.t 20)))), (oQ 22 19 true (.bin false .eql (.t 21) (cI 0))), (oQ 23 19 true (.mv (.t 22))), (oQ 24 23 false (.fa 1 (.t 5))), (oG 25 23 false (.m (.ld false 1 (.t 24)))), (oQ 26 23 false (.bin false .gtr (.t 25) (cI 0))), (oQ 27 23 false (.mv (.t 26))), (oQ 28 27 true (.fa 1 (.t 5))), (oG 29 27 true (.m (.ld false 1 (.t 28)))), (oQ 30 27 true (.fa 2 (.t 4))), (oG 31 27 true (.m (.ld false 1 (.t 30)))), (oQ 32 27 true (.bin false .lss (.t 29) (.t 31))), (oQ 33 23 false (.pick (.t 27) (.t 32) (cB false))), (oQ 34 19 true (.pick (.t 23) (cB true) (.t 33))), (oP 35 (.pick (.t 19) (.t 34) (cB false))), (oV 36 35), (oQ 37 36 true (.fa 3 (.t 4))), (oG 38 36 true (.m (.ld false 1 (.t 37)))), (oQ 39 36 true (.bin false .eql (.t 38) (cI 0))), (oQ 40 36 true (.mv (.t 39))), (oQ 41 40 false (.fa 3 (.t 4))), (oG 42 40 false (.m (.ld false 1 (.t 41)))), (oQ 43 40 false (.mv (.t 2))), (oQ 44 40 false (.bin false .eql (.t 42) (.t 43))), (oQ 45 36 true (.pick (.t 40) (cB true) (.t 44))), (oP 46 (.pick (.t 36) (.t 45) (cB false))), (oV 47 46), (oQ 48 47 true (.mv (.t 3))), (oQ 49 47 true (.fa 4 (.t 4))), (oG 50 47 true (.m (.ld false 1 (.t 49)))), (oQ 51 47 true (.bin false .geq (.t 48) (.t 50))), (oP 52 (.pick (.t 47) (.t 51) (cB false))), (oV 53 52), (oQ 54 53 true (.mv (.t 3))), (oQ 55 53 true (.fa 5 (.t 4))), (oG 56 53 true (.m (.ld false 1 (.t 55)))), (oQ 57 53 true (.bin false .lss (.t 54) (.t 56))), (oP 58 (.pick (.t 53) (.t 57) (cB false))), (oV 8 58)]) .rt))
def rv_f83 : List (RV × Option Ty) := [((.t 8), some .bool)]
def g_f83 : G := ⟨TYs, [], 59, EL [], keeps, (fun _ _ => none), IL [], RL []⟩
def r_f83_3 (p0 : Rule) (p1 : Keep) (p2 : Int) (p3 : Int) : Option (V × List VO) :=
 br ((ige p3 p0.2.2.2.2.1))
  (some (.t .bool (ilt p3 p0.2.2.2.2.2.1), []))
  (some (.t .bool false, []))
def r_f83_2 (p0 : Rule) (p1 : Keep) (p2 : Int) (p3 : Int) : Option (V × List VO) :=
 br ((ieq p0.2.2.2.1 0))
  (r_f83_3 p0 p1 p2 p3)
  (br ((ieq p0.2.2.2.1 p2))
   (r_f83_3 p0 p1 p2 p3)
   (some (.t .bool false, [])))
def r_f83_1 (p0 : Rule) (p1 : Keep) (p2 : Int) (p3 : Int) : Option (V × List VO) :=
 br ((ieq p0.2.2.1 0))
  (r_f83_2 p0 p1 p2 p3)
  (br ((igt p1.2.1 0))
   (br ((ilt p1.2.1 p0.2.2.1))
    (r_f83_2 p0 p1 p2 p3)
    (some (.t .bool false, [])))
   (some (.t .bool false, [])))
def r_f83 (p0 : Rule) (p1 : Keep) (p2 : Int) (p3 : Int) : Option (V × List VO) :=
 br ((ieq p0.2.1 0))
  (r_f83_1 p0 p1 p2 p3)
  (br ((ieq p0.2.1 p1.1))
   (r_f83_1 p0 p1 p2 p3)
   (some (.t .bool false, [])))
theorem e_f83 (p0 : Rule) (p1 : Keep) (p2 : Int) (p3 : Int) : runF g_f83 tc_f83 rv_f83 false [.t tyRule p0, .t tyKeep p1, .t tI p2, .t tI p3] [] = r_f83 p0 p1 p2 p3 := by kernel_rfl
theorem ok_f83 : Option.map (trC Tryz.prog) Tryz.f83.body = some tc_f83.er := by kernel_rfl
theorem rok_f83 : trVs Tryz.prog Tryz.f83.results.toList = some (rv_f83.map Prod.fst) := by kernel_rfl
theorem en_f83 : Entered Tryz.prog 83 := .inr ⟨by decide, _, Tryz.func83, by kernel_rfl, by kernel_rfl⟩
theorem gk_f83 : GOk Tryz.prog g_f83 := gok_of _ (fun p hp => by cases hp)
theorem lk_f83 : tc_f83.lok g_f83 := by repeat (first | exact trivial | refine ⟨?_, ?_⟩)
theorem s_f83 (p0 : Rule) (p1 : Keep) (p2 p3 : Int) : r_f83 p0 p1 p2 p3 = some (.t .bool (matches' p0 p1 p2 p3), []) := by
 simp only [r_f83, r_f83_1, r_f83_2, r_f83_3]
 repeat' (refine br_intro ?_ ?_ <;> intro _)
 all_goals (simp_all [matches', concerns, within', Item.Name, Item.Kind, Item.Purpose, Item.Links, Item.Until, Policy.Rules, Policy.Keeps, Rule.Allow, Rule.Alg, Rule.Below, Rule.Purpose, Rule.From, Rule.To, Keep.Alg, Keep.Bits, Link.Use, Link.Day, Dice.L, Dice.At, LinkX.day, LinkX.fall, LinkX.falls, Row.name, Row.kind, Row.way, Row.sizes, Row.strengths] <;> omega)
def sp_f83 : Ent := spec (.pr tyRule (.pr tyKeep (.pr tI (.pr tI .nil)))) (fun x => true) (fun x => (.t .bool (matches' x.1 x.2.1 x.2.2.1 x.2.2.2.1)))
theorem ms_f83 : Meets Tryz.prog 83 (strip sp_f83) := by
 obtain ⟨c, hc, hi⟩ := Option.map_eq_some_iff.1 ok_f83
 exact meets_spec (R := runF g_f83 tc_f83 rv_f83 false) (meets_of (by decide) Tryz.func83 hc hi Tryz.ntmps83 rok_f83 gk_f83 lk_f83 mixed) fun x _ => (e_f83 x.1 x.2.1 x.2.2.1 x.2.2.2.1).trans (s_f83 x.1 x.2.1 x.2.2.1 x.2.2.2.1)
def same (a b : List Keep) : Bool := a == b
end Go.Proofs.YtfehjdaielifiaaGreat.K
