/-
  The first law of 22: links.
-/
import Derived.Test.YtfehjdaielifiaaV22
import Derived.Test.YtfehjdaielifiaaV14
import Derived.Test.YtfehjdaielifiaaM2P
import Derived.Test.YtfehjdaielifiaaM3
import Derived.Test.YtfehjdaielifiaaP22
import Derived.Test.YtfehjdaielifiaaKD
set_option linter.unusedSimpArgs false
set_option linter.unusedVariables false
namespace Go.Proofs.Ytfehjdaielifiaa.K
open Go.RowKit
def failsF (y : Policy) (i : Item) : Int × Bool := ((FailsI y i).1, (FailsI y i).2.1 && ieq (FailsI y i).2.2 0)
/-- cipherplan/cipherplanlaw22.fails -/
def tc_law22_fails : TC := (.sq (.reg [(.mk (some 2) none (.m (.box (.t 0)))), (.mk (some 3) none (.m (.box (.t 1)))), (.mk (some 4) none (.m (.pu (.mv (.c (.v (.int .i64 0))))))), (.mk (some 5) none (.m (.pu (.mv (.c (.v (.bool false)))))))]) (.sq (.reg [(.mk (some 10) none (.m (.ld true 2 (.t 2)))), (.mk (some 11) none (.m (.ld true 5 (.t 3)))), (.mk (some 12) none (.call 21 [(.t 10), (.t 11)])), (.mk (some 9) none (.m (.pu (.mv (.t 12))))), (.mk (some 13) none (.m (.pu (.ext 0 (.t 9))))), (.mk (some 14) none (.m (.pu (.ext 1 (.t 9))))), (.mk (some 15) none (.m (.pu (.ext 2 (.t 9))))), (.mk (some 6) none (.m (.pu (.mv (.t 13))))), (.mk (some 7) none (.m (.pu (.mv (.t 14))))), (.mk (some 8) none (.m (.pu (.mv (.t 15)))))]) (.sq (.reg [(.mk (some 16) none (.m (.pu (.mv (.t 6))))), (.mk (some 17) none (.m (.pu (.mv (.t 7))))), (.mk (some 18) none (.m (.pu (.mv (.t 17))))), (.mk (some 19) (some (18, true)) (.m (.pu (.mv (.t 8))))), (.mk (some 20) (some (18, true)) (.m (.pu (.bin false .eql (.t 19) (.c (.v (.int .i64 0))))))), (.mk (some 21) none (.m (.pu (.pick (.t 18) (.t 20) (.c (.v (.bool false))))))), (.mk (some 4) none (.m (.pu (.mv (.t 16))))), (.mk (some 5) none (.m (.pu (.mv (.t 21)))))]) .rt)))
def rv_law22_fails : List (RV × Option Ty) := [((.t 4), some tI), ((.t 5), some .bool)]
def g_law22_fails : G := ⟨TYs, [], 22, EL [(21, sp_lifetime_Fails)], keeps, (fun _ _ => none), IL [], RL []⟩
def r_law22_fails (p0 : Policy) (p1 : Item) : Option (V × List VO) :=
  br ((fineLen p0 p1))
    (br (((FailsI p0 p1).2).1)
      (some (.tu [(.t tI ((FailsI p0 p1).1)), (.t .bool (ieq (((FailsI p0 p1).2).2) 0))], []))
      (some (.tu [(.t tI ((FailsI p0 p1).1)), (.t .bool false)], [])))
    (none)
theorem e_law22_fails (p0 : Policy) (p1 : Item) : runF g_law22_fails tc_law22_fails rv_law22_fails false [.t tyPolicy p0, .t tyItem p1] [] = r_law22_fails p0 p1 := by kernel_rfl
theorem ok_law22_fails : Option.map (trC Try.prog) Try.f14.body = some tc_law22_fails.er := by kernel_rfl
theorem rok_law22_fails : trVs Try.prog Try.f14.results.toList = some (rv_law22_fails.map Prod.fst) := by kernel_rfl
theorem en_law22_fails : Entered Try.prog 14 := .inr ⟨by decide, _, Try.func14, by kernel_rfl, by kernel_rfl⟩
theorem gk_law22_fails : GOk Try.prog g_law22_fails := gok_of _ (by
  intro p hp
  simp only [List.mem_cons, List.not_mem_nil, or_false] at hp
  rcases hp with rfl
  · exact ⟨en_lifetime_Fails, ms_lifetime_Fails⟩)
theorem lk_law22_fails : tc_law22_fails.lok g_law22_fails := by repeat (first | exact trivial | refine ⟨?_, ?_⟩)
theorem s_law22_fails (y : Policy) (i : Item) (h : fineLen y i = true) : r_law22_fails y i = some (.tu [.t tI (failsF y i).1, .t .bool (failsF y i).2], []) := by
  simp only [r_law22_fails, h, br_true, failsF]
  cases (FailsI y i).2.1 <;> rfl
def sp_law22_fails : Ent := spec (.pr tyPolicy (.pr tyItem .nil)) (fun x => (fineLen x.1 x.2.1)) (fun x => (.tu [(.t tI ((failsF x.1 x.2.1).1)), (.t .bool ((failsF x.1 x.2.1).2))]))
theorem ms_law22_fails : Meets Try.prog 14 (strip sp_law22_fails) := by
  obtain ⟨c, hc, hi⟩ := Option.map_eq_some_iff.1 ok_law22_fails
  exact meets_spec (R := runF g_law22_fails tc_law22_fails rv_law22_fails false) (meets_of (by decide) Try.func14 hc hi Try.ntmps14 rok_law22_fails gk_law22_fails lk_law22_fails mixed) fun x hok => (e_law22_fails x.1 x.2.1).trans (s_law22_fails x.1 x.2.1 hok)
-- loop 0: (x6 : Int) (x8 : Int) (y4 : Policy) (y5 : Item); out: ('ret',) (x2 : Bool); ('exit', 0) (y4 : Policy) (y5 : Item)
end Go.Proofs.Ytfehjdaielifiaa.K
