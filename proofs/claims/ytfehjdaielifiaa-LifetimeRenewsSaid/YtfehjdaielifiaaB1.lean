/-
  slices.Backward.
-/
import Derived.Test.YtfehjdaielifiaaM1
set_option linter.unusedSimpArgs false
set_option linter.unusedVariables false
namespace Go.Proofs.Ytfehjdaielifiaa.K
open Go.RowKit
/-- a list from its end, with the numbers -/
def backL {α : Type} (l : List α) : List (Int × (α × Unit)) := (l.zipIdx.map fun p => ((p.2 : Int), (p.1, ()))).reverse
/-- an iterator that holds variables of these types -/
def mkIt (l : List SV) (bs : List Ty) (yr : Ty) (ok : boxT bs → Bool) (f : boxT bs → List yr.T) : Itr := fun caps objs =>
  match rdVt l caps, asBoxes bs objs with
  | some _, some d => some (ok d, ⟨yr, f d⟩)
  | _, _ => none
def it_slices_Backward_api_Rule_api_Rule_1 : Itr := mkIt [.ptr 50000 0] [(.sl tyRule)] (.pr tI (.pr tyRule .nil)) (fun d => true) (fun d => (backL d.1))
/-- slices.Backward[[]cipherplan/api.Rule,cipherplan/api.Rule] -/
def tc_slices_Backward_api_Rule_api_Rule : TC := (.sq (.reg [(.mk (some 1) none (.m (.box (.t 0)))), (.mk (some 2) none (.m (.pu (.mv (.c (.v .nilFunc))))))]) (.sq (.reg [(.mk (some 3) none (.mf 86 [(.t 1)])), (.mk (some 2) none (.m (.pu (.mv (.t 3)))))]) .rt))
def rv_slices_Backward_api_Rule_api_Rule : List (RV × Option Ty) := [((.t 2), none)]
def g_slices_Backward_api_Rule_api_Rule : G := ⟨TYs, [], 4, EL [], keeps, (fun _ _ => none), IL [], RL []⟩
def r_slices_Backward_api_Rule_api_Rule (p0 : (List Rule)) : Option (V × List VO) :=
  some (.fn 86 [(.ptr 50000 0)], [.box (.t (.sl tyRule) p0)])
theorem e_slices_Backward_api_Rule_api_Rule (p0 : (List Rule)) : runF g_slices_Backward_api_Rule_api_Rule tc_slices_Backward_api_Rule_api_Rule rv_slices_Backward_api_Rule_api_Rule true [.t (.sl tyRule) p0] [] = r_slices_Backward_api_Rule_api_Rule p0 := by kernel_rfl
theorem ok_slices_Backward_api_Rule_api_Rule : Option.map (trC Try.prog) Try.f73.body = some tc_slices_Backward_api_Rule_api_Rule.er := by kernel_rfl
theorem rok_slices_Backward_api_Rule_api_Rule : trVs Try.prog Try.f73.results.toList = some (rv_slices_Backward_api_Rule_api_Rule.map Prod.fst) := by kernel_rfl
theorem en_slices_Backward_api_Rule_api_Rule : Entered Try.prog 73 := .inr ⟨by decide, _, Try.func73, by kernel_rfl, by kernel_rfl⟩
theorem gk_slices_Backward_api_Rule_api_Rule : GOk Try.prog g_slices_Backward_api_Rule_api_Rule := gok_of _ (fun p hp => by cases hp)
theorem lk_slices_Backward_api_Rule_api_Rule : tc_slices_Backward_api_Rule_api_Rule.lok g_slices_Backward_api_Rule_api_Rule := by repeat (first | exact trivial | refine ⟨?_, ?_⟩)
def sp_slices_Backward_api_Rule_api_Rule : Ent := specO (.pr (.sl tyRule) .nil) (fun _ => true) (fun x => .fn 86 [.ptr 50000 0]) (fun x => [.box (.t (.sl tyRule) x.1)])
theorem ms_slices_Backward_api_Rule_api_Rule : Meets Try.prog 73 (strip sp_slices_Backward_api_Rule_api_Rule) := by
  obtain ⟨c, hc, hi⟩ := Option.map_eq_some_iff.1 ok_slices_Backward_api_Rule_api_Rule
  exact meets_specO (R := runF g_slices_Backward_api_Rule_api_Rule tc_slices_Backward_api_Rule_api_Rule rv_slices_Backward_api_Rule_api_Rule true) (meets_of (by decide) Try.func73 hc hi Try.ntmps73 rok_slices_Backward_api_Rule_api_Rule gk_slices_Backward_api_Rule_api_Rule lk_slices_Backward_api_Rule_api_Rule mixed) fun x _ => (e_slices_Backward_api_Rule_api_Rule x.1).trans rfl
end Go.Proofs.Ytfehjdaielifiaa.K
