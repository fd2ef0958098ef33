/-
  awake; facts for the laws.
-/
import Derived.Test.YtfldcnhkppgmbaaV12
import Derived.Test.YtfldcnhkppgmbaaM2
set_option linter.unusedSimpArgs false
set_option linter.unusedVariables false
namespace Go.Proofs.Ytfldcnhkppgmbaa.K
open Go.RowKit
/-! awake -/
def awakeT : Bool := true
/-- cipherplan/cipherplanlaw18.awake -/
def tc_law18_awake : TC := (.sq (.reg [(.mk (some 0) none (.m (.pu (.mv (.c (.v (.bool false)))))))]) (.sq (.reg [(.mk (some 8) none (.m (.pu (.bd [(.v (.bool false)), (.v (.int .i64 0)), (.v (.int .i64 0)), (.v (.int .i64 0)), (.v (.int .i64 0)), (.v (.int .i64 0))] [(1, 1, (.c (.v (.int .i64 1)))), (5, 1, (.c (.v (.int .i64 40001))))])))), (.mk (some 9) none (.m (.pu (.bd [(.v (.bool false)), (.v (.int .i64 0)), (.v (.int .i64 0)), (.v (.int .i64 0)), (.v (.int .i64 0)), (.v (.int .i64 0))] [(0, 1, (.c (.v (.bool true)))), (1, 1, (.c (.v (.int .i64 1)))), (5, 1, (.c (.v (.int .i64 9))))])))), (.mk (some 10) none (.m (.bs 56 6 2 [(.v (.bool false)), (.v (.int .i64 0)), (.v (.int .i64 0)), (.v (.int .i64 0)), (.v (.int .i64 0)), (.v (.int .i64 0)), (.v (.bool false)), (.v (.int .i64 0)), (.v (.int .i64 0)), (.v (.int .i64 0)), (.v (.int .i64 0)), (.v (.int .i64 0))] [(0, 6, (.t 8)), (6, 6, (.t 9))]))), (.mk (some 11) none (.m (.pu (.bd [(.v (.slice none 0 0)), (.v (.slice none 0 0))] [(0, 1, (.t 10))])))), (.mk (some 1) none (.m (.new [(.v (.slice none 0 0)), (.v (.slice none 0 0))]))), (.mk none none (.m (.st 2 (.t 1) (.t 11))))]) (.sq (.reg [(.mk (some 12) none (.m (.pu (.bd [(.v (.int .i64 0)), (.v (.int .i64 0))] [(0, 1, (.c (.v (.int .i64 1))))])))), (.mk (some 2) none (.m (.new [(.v (.int .i64 0)), (.v (.int .i64 0))]))), (.mk none none (.m (.st 2 (.t 2) (.t 12))))]) (.sq (.reg [(.mk (some 14) none (.m (.ld true 2 (.t 1)))), (.mk (some 15) none (.m (.ld true 2 (.t 2)))), (.mk (some 16) none (.call 19 [(.t 14), (.t 15), (.c (.v (.int .i64 1)))])), (.mk (some 13) none (.m (.pu (.mv (.t 16))))), (.mk (some 17) none (.m (.pu (.ext 0 (.t 13))))), (.mk (some 18) none (.m (.pu (.ext 1 (.t 13))))), (.mk (some 3) none (.m (.pu (.mv (.t 17))))), (.mk (some 4) none (.m (.pu (.mv (.t 18)))))]) (.sq (.reg [(.mk (some 20) none (.m (.ld true 2 (.t 1)))), (.mk (some 21) none (.m (.ld true 2 (.t 2)))), (.mk (some 22) none (.call 20 [(.t 20), (.t 21), (.c (.v (.int .i64 1)))])), (.mk (some 19) none (.m (.pu (.mv (.t 22))))), (.mk (some 23) none (.m (.pu (.ext 0 (.t 19))))), (.mk (some 24) none (.m (.pu (.ext 1 (.t 19))))), (.mk (some 25) none (.m (.pu (.ext 2 (.t 19))))), (.mk (some 5) none (.m (.pu (.mv (.t 23))))), (.mk (some 6) none (.m (.pu (.mv (.t 24))))), (.mk (some 7) none (.m (.pu (.mv (.t 25)))))]) (.sq (.reg [(.mk (some 26) none (.m (.pu (.mv (.t 4))))), (.mk (some 27) none (.m (.pu (.bin false .eql (.t 26) (.c (.v (.int .i64 0))))))), (.mk (some 28) none (.m (.pu (.mv (.t 27))))), (.mk (some 29) (some (28, true)) (.m (.pu (.mv (.t 7))))), (.mk (some 30) (some (28, true)) (.m (.pu (.bin false .eql (.t 29) (.c (.v (.int .i64 0))))))), (.mk (some 31) none (.m (.pu (.pick (.t 28) (.t 30) (.c (.v (.bool false))))))), (.mk (some 32) none (.m (.pu (.mv (.t 31))))), (.mk (some 33) (some (32, true)) (.m (.pu (.mv (.t 3))))), (.mk (some 34) (some (32, true)) (.m (.pu (.len false (.t 33))))), (.mk (some 35) (some (32, true)) (.m (.pu (.bin false .eql (.t 34) (.c (.v (.int .i64 1))))))), (.mk (some 36) none (.m (.pu (.pick (.t 32) (.t 35) (.c (.v (.bool false))))))), (.mk (some 37) none (.m (.pu (.mv (.t 36))))), (.mk (some 38) (some (37, true)) (.m (.pu (.mv (.t 3))))), (.mk (some 39) (some (37, true)) (.m (.pu (.ix 2 (.t 38) (.c (.v (.int .i64 0))))))), (.mk (some 40) (some (37, true)) (.m (.ld true 2 (.t 39)))), (.mk (some 41) (some (37, true)) (.m (.pu (.bd [(.v (.int .i64 0)), (.v (.int .i64 0))] [(1, 1, (.c (.v (.int .i64 9))))])))), (.mk (some 42) (some (37, true)) (.m (.pu (.eqs false [0, 0] (.t 40) (.t 41))))), (.mk (some 43) none (.m (.pu (.pick (.t 37) (.t 42) (.c (.v (.bool false))))))), (.mk (some 44) none (.m (.pu (.mv (.t 43))))), (.mk (some 45) (some (44, true)) (.m (.pu (.mv (.t 6))))), (.mk (some 46) none (.m (.pu (.pick (.t 44) (.t 45) (.c (.v (.bool false))))))), (.mk (some 47) none (.m (.pu (.mv (.t 46))))), (.mk (some 48) (some (47, true)) (.m (.pu (.mv (.t 5))))), (.mk (some 49) (some (47, true)) (.m (.pu (.bin false .eql (.t 48) (.c (.v (.int .i64 9))))))), (.mk (some 50) none (.m (.pu (.pick (.t 47) (.t 49) (.c (.v (.bool false))))))), (.mk (some 0) none (.m (.pu (.mv (.t 50)))))]) .rt))))))
def rv_law18_awake : List (RV × Option Ty) := [((.t 0), some .bool)]
def g_law18_awake : G := ⟨TYs, [], 51, EL [(19, sp_verdict_Spans), (20, sp_verdict_Falls)], keeps, (fun _ _ => none), IL [], RL []⟩
def r_law18_awake  : Option (V × List VO) :=
  br ((polLen3 ([(false, (1, (0, (0, (0, (40001, ())))))), (true, (1, (0, (0, (0, (9, ()))))))], (([] : List Keep), ())) (1, (0, ())) 1))
    (br ((polLen3 ([(false, (1, (0, (0, (0, (40001, ())))))), (true, (1, (0, (0, (0, (9, ()))))))], (([] : List Keep), ())) (1, (0, ())) 1))
      (br ((ieq ((SpansF ([(false, (1, (0, (0, (0, (40001, ())))))), (true, (1, (0, (0, (0, (9, ()))))))], (([] : List Keep), ())) (1, (0, ())) 1).2) 0))
        (br ((ieq (((FallsF ([(false, (1, (0, (0, (0, (40001, ())))))), (true, (1, (0, (0, (0, (9, ()))))))], (([] : List Keep), ())) (1, (0, ())) 1).2).2) 0))
          (br ((ieq (llen ((SpansF ([(false, (1, (0, (0, (0, (40001, ())))))), (true, (1, (0, (0, (0, (9, ()))))))], (([] : List Keep), ())) (1, (0, ())) 1).1)) 1))
            (br (cIx ((SpansF ([(false, (1, (0, (0, (0, (40001, ())))))), (true, (1, (0, (0, (0, (9, ()))))))], (([] : List Keep), ())) (1, (0, ())) 1).1) 0)
              (br ((and (ieq ((lgt tyKeep ((SpansF ([(false, (1, (0, (0, (0, (40001, ())))))), (true, (1, (0, (0, (0, (9, ()))))))], (([] : List Keep), ())) (1, (0, ())) 1).1) (Int.toNat 0)).1) 0) (and (ieq (((lgt tyKeep ((SpansF ([(false, (1, (0, (0, (0, (40001, ())))))), (true, (1, (0, (0, (0, (9, ()))))))], (([] : List Keep), ())) (1, (0, ())) 1).1) (Int.toNat 0)).2).1) 9) true)))
                (br (((FallsF ([(false, (1, (0, (0, (0, (40001, ())))))), (true, (1, (0, (0, (0, (9, ()))))))], (([] : List Keep), ())) (1, (0, ())) 1).2).1)
                  (some (.t .bool (ieq ((FallsF ([(false, (1, (0, (0, (0, (40001, ())))))), (true, (1, (0, (0, (0, (9, ()))))))], (([] : List Keep), ())) (1, (0, ())) 1).1) 9), []))
                  (some (.t .bool false, [])))
                (some (.t .bool false, [])))
              (none))
            (some (.t .bool false, [])))
          (some (.t .bool false, [])))
        (some (.t .bool false, [])))
      (none))
    (none)
theorem e_law18_awake  : runF g_law18_awake tc_law18_awake rv_law18_awake false [] [] = r_law18_awake  := by kernel_rfl
theorem ok_law18_awake : Option.map (trC Try.prog) Try.f12.body = some tc_law18_awake.er := by kernel_rfl
theorem rok_law18_awake : trVs Try.prog Try.f12.results.toList = some (rv_law18_awake.map Prod.fst) := by kernel_rfl
theorem en_law18_awake : Entered Try.prog 12 := .inr ⟨by decide, _, Try.func12, by kernel_rfl, by kernel_rfl⟩
theorem gk_law18_awake : GOk Try.prog g_law18_awake := gok_of _ (by
  intro p hp
  simp only [List.mem_cons, List.not_mem_nil, or_false] at hp
  rcases hp with rfl | rfl
  · exact ⟨en_verdict_Spans, ms_verdict_Spans⟩
  · exact ⟨en_verdict_Falls, ms_verdict_Falls⟩)
theorem lk_law18_awake : tc_law18_awake.lok g_law18_awake := by repeat (first | exact trivial | refine ⟨?_, ?_⟩)
def awP : Policy := ([(false, (1, (0, (0, (0, (40001, ())))))), (true, (1, (0, (0, (0, (9, ()))))))], (([] : List Keep), ()))
theorem aw_spans : spansF awP (1, (0, ())) 1 = [(0, (9, ()))] := by
  unfold spansF
  rw [cuts_eq]
  rfl
theorem aw_early : earlyF awP (1, (0, ())) 1 0 = 0 := rfl
theorem s_law18_awake : r_law18_awake = some (.t .bool awakeT, []) := by
  have e1 : SpansF awP (1, (0, ())) 1 = ([(0, (9, ()))], 0) := by unfold SpansF; rw [if_pos aw_early, aw_spans]
  have e2 : FallsF awP (1, (0, ())) 1 = (9, true, 0) := by unfold FallsF; rw [if_pos aw_early, aw_spans]; rfl
  simp only [r_law18_awake]
  rw [show ([(false, (1, (0, (0, (0, (40001, ())))))), (true, (1, (0, (0, (0, (9, ()))))))], (([] : List Keep), ())) = awP from rfl, e1, e2]
  rfl
def sp_law18_awake : Ent := spec .nil (fun x => true) (fun x => (.t .bool awakeT))
theorem ms_law18_awake : Meets Try.prog 12 (strip sp_law18_awake) := by
  obtain ⟨c, hc, hi⟩ := Option.map_eq_some_iff.1 ok_law18_awake
  exact meets_spec (R := runF g_law18_awake tc_law18_awake rv_law18_awake false) (meets_of (by decide) Try.func12 hc hi Try.ntmps12 rok_law18_awake gk_law18_awake lk_law18_awake mixed) fun x _ => (e_law18_awake ).trans (s_law18_awake )

/-! facts for the laws -/
theorem ieq_self (a : Int) : ieq a a = true := by simp [ieq]
theorem beqq_self (a : Bool) : beqq a a = true := by cases a <;> rfl
theorem same_self (l : List Keep) : same l l = true := by simp [same]
theorem not_light {l : List Int} (h : (!light l) = false) : dOk (roll l) = true := dOk_roll (by simpa using h)
theorem nextOkI {d : Dice} {n : Int} (h : dOk d = true) (hn : decide (n < 4611686018427387904) = true) : nextOk d n = true := by unfold nextOk; rw [h, hn]; rfl
theorem oneOkI {d : Dice} {n : Int} (h : dOk d = true) (hn : decide (n < 4611686018427387904) = true) (h0 : decide (0 ≤ n) = true) : oneOk d n = true := by unfold oneOk; rw [nextOkI h hn, h0]; rfl
theorem ofOkI {d : Dice} {l : List Int} (h : dOk d = true) (hl : decide (0 < l.length ∧ l.length < 4611686018427387904) = true) : ofOk d l = true := by unfold ofOk; rw [h, hl]; rfl
theorem spans_ok {y : Policy} {u : Keep} {p : Int} {b : List Keep} (h : polLen y = true) : sameOk0 (SpansF y u p).1 b = true := by
  have := spans_len y u p
  simp only [polLen, lenOk5, Bool.and_eq_true, decide_eq_true_eq] at h
  unfold sameOk0 SpansF
  rw [decide_eq_true_eq]
  split
  · simp only; omega
  · simp
theorem pol_lenI (d : Dice) : polLen ((polV d).1, ((polV d).2.1, ())) = true := by
  have := pol_size d
  simp only [polLen, lenOk5, Bool.and_eq_true, decide_eq_true_eq]
  omega
theorem pol_lenA (d : Dice) (r : Rule) : polLen ((polV d).1 ++ [r], ((polV d).2.1, ())) = true := by
  have := pol_size d
  simp only [polLen, lenOk5, Bool.and_eq_true, decide_eq_true_eq, List.length_append, List.length_singleton]
  omega
end Go.Proofs.Ytfldcnhkppgmbaa.K
