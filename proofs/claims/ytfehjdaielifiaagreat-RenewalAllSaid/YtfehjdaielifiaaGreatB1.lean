/-
 slices.Backward.
-/
import Derived.Test.YtfehjdaielifiaaGreatM1
set_option linter.unusedSimpArgs false
set_option linter.unusedVariables false
namespace Go.Proofs.YtfehjdaielifiaaGreat.K
open Go.RowKit
def backL {α : Type} (l : List α) : List (Int × (α × Unit)) := (l.zipIdx.map fun p => ((p.2 : Int), (p.1, ()))).reverse
def mkIt (l : List SV) (bs : List Ty) (yr : Ty) (ok : boxT bs → Bool) (f : boxT bs → List yr.T) : Itr := fun caps objs =>
 match rdVt l caps, asBoxes bs objs with
 | some _, some d => some (ok d, ⟨yr, f d⟩)
 | _, _ => none
def it_f117_1 : Itr := mkIt [.ptr 50000 0] [(.sl tyRule)] (.pr tI (.pr tyRule .nil)) (fun d => true) (fun d => (backL d.1))
def tc_f117 : TC := (.sq (.reg [(oM 1 (.box (.t 0))), (oP 2 (.mv (.c (.v .nilFunc))))]) (.sq (.reg [(oK 3 (.mf 130 [(.t 1)])), (oV 2 3)]) .rt))
def rv_f117 : List (RV × Option Ty) := [((.t 2), none)]
def g_f117 : G := ⟨TYs, [], 4, EL [], keeps, (fun _ _ => none), IL [], RL []⟩
def r_f117 (p0 : (List Rule)) : Option (V × List VO) :=
 some (.fn 130 [(.ptr 50000 0)], [.box (.t (.sl tyRule) p0)])
theorem e_f117 (p0 : (List Rule)) : runF g_f117 tc_f117 rv_f117 true [.t (.sl tyRule) p0] [] = r_f117 p0 := by kernel_rfl
theorem ok_f117 : Option.map (trC Tryz.prog) Tryz.f117.body = some tc_f117.er := by kernel_rfl
theorem rok_f117 : trVs Tryz.prog Tryz.f117.results.toList = some (rv_f117.map Prod.fst) := by kernel_rfl
theorem en_f117 : Entered Tryz.prog 117 := .inr ⟨by decide, _, Tryz.func117, by kernel_rfl, by kernel_rfl⟩
theorem gk_f117 : GOk Tryz.prog g_f117 := gok_of _ (fun p hp => by cases hp)
theorem lk_f117 : tc_f117.lok g_f117 := by repeat (first | exact trivial | refine ⟨?_, ?_⟩)
def sp_f117 : Ent := specO (.pr (.sl tyRule) .nil) (fun _ => true) (fun x => .fn 130 [.ptr 50000 0]) (fun x => [.box (.t (.sl tyRule) x.1)])
theorem ms_f117 : Meets Tryz.prog 117 (strip sp_f117) := by
 obtain ⟨c, hc, hi⟩ := Option.map_eq_some_iff.1 ok_f117
 exact meets_specO (R := runF g_f117 tc_f117 rv_f117 true) (meets_of (by decide) Tryz.func117 hc hi Tryz.ntmps117 rok_f117 gk_f117 lk_f117 mixed) fun x _ => (e_f117 x.1).trans rfl
end Go.Proofs.YtfehjdaielifiaaGreat.K
