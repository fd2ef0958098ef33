/-
  The answer's Encode at executables without fault: the bytes are the caller's own.
-/
import Derived.Test.YtdbaaejiolibfaaG2
set_option linter.unusedSimpArgs false
set_option linter.unusedVariables false
namespace Go.Proofs.Ytdbaaejiolibfaa.K.OE
open Go.RowKit
noncomputable section
def encOwn (x : Image) : Bool := chkOk x && !badX x
/-- cipherplan/cipherplanref10.Encode -/
def tc_f7 : TC := (.sq (.reg [(oM 1 (.box (.t 0))), (oP 2 (.mv (.c (.v (.slice none 0 0))))), (oP 3 (.mv (cI 0)))]) (.sq (.sq (.reg [(oM 5 (.ld true 2 (.t 1))), (oC 6 19 [(.t 5)]), (oV 4 6)]) (.sq (.reg [(oV 7 4), (oP 8 (.bin false .neq (.t 7) (cI 0)))]) (.cd (.t 8) (.sq (.reg [(oV 9 4), (oP 2 (.mv (.c (.v (.slice none 0 0))))), (oV 3 9)]) .rt) .sk))) (.sq (.reg [(oM 10 (.ld true 2 (.t 1))), (oC 11 20 [(.t 10)]), (oV 2 11), (oP 3 (.mv (cI 0)))]) .rt)))
def rv_f7 : List (RV × Option Ty) := [((.t 2), none), ((.t 3), none)]
def g_f7 : G := ⟨TYs, [], 12, EL [(19, sp_f19), (20, sp_f20)], keeps, (fun _ _ => none), IL [], RL []⟩
def r_f7 (p0 : Image) : Option (V × List VO) :=
  br ((chkOk p0))
    (br ((ine (checkX p0) 0))
      (some (.tu [(.c (.slice none 0 0)), (.t tI (checkX p0))], []))
      (br ((wrOk p0))
        (some (.tu [(.ms 50000), (.t tI 0)], [.arr 5 (.int .u8) (writtenF p0)]))
        (none)))
    (none)
theorem e_f7 (p0 : Image) : runF g_f7 tc_f7 rv_f7 true [.t tyImage p0] [] = r_f7 p0 := by kernel_rfl
theorem ok_f7 : Option.map (trC Try.prog) Try.f7.body = some tc_f7.er := by kernel_rfl
theorem rok_f7 : trVs Try.prog Try.f7.results.toList = some (rv_f7.map Prod.fst) := by kernel_rfl
theorem en_f7 : Entered Try.prog 7 := .inr ⟨by decide, _, Try.func7, by kernel_rfl, by kernel_rfl⟩
theorem gk_f7 : GOk Try.prog g_f7 := gok_of _ (by
  intro p hp
  simp only [List.mem_cons, List.not_mem_nil, or_false] at hp
  rcases hp with rfl | rfl
  · exact ⟨en_f19, ms_f19⟩
  · exact ⟨en_f20, ms_f20⟩)
theorem lk_f7 : tc_f7.lok g_f7 := by repeat (first | exact trivial | refine ⟨?_, ?_⟩)
theorem s_f7 (x : Image) (h : encOwn x = true) : r_f7 x = some (.tu [.ms 50000, .t tI (encX x).2], [.arr 5 (.int .u8) (encX x).1]) := by
  simp only [encOwn, Bool.and_eq_true, Bool.not_eq_true'] at h
  simp only [r_f7, h.1, show wrOk x = true from h.1, br_true, checkX, encX, h.2]
  rfl
def sp_f7 : Ent := specO (.pr tyImage .nil) (fun x => (encOwn x.1)) (fun x => (.tu [(.ms 50000), (.t tI ((encX x.1).2))])) (fun x => [.arr 5 (.int .u8) ((encX x.1).1)])
theorem ms_f7 : Meets Try.prog 7 (strip sp_f7) := by
  obtain ⟨c, hc, hi⟩ := Option.map_eq_some_iff.1 ok_f7
  exact meets_specO (R := runF g_f7 tc_f7 rv_f7 true) (meets_of (by decide) Try.func7 hc hi Try.ntmps7 rok_f7 gk_f7 lk_f7 mixed) fun x hok => (e_f7 x.1).trans (s_f7 x.1 hok)
end
end Go.Proofs.Ytdbaaejiolibfaa.K.OE
