/-
  awake of 22.
-/
import Derived.Test.YtfehjdaielifiaaV21
import Derived.Test.YtfehjdaielifiaaKX
set_option linter.unusedSimpArgs false
set_option linter.unusedVariables false
namespace Go.Proofs.Ytfehjdaielifiaa.K
open Go.RowKit
def spl_lifetime_Fails : Ent := lendE sp_lifetime_Fails
theorem msl_lifetime_Fails : Meets Try.prog 21 (strip spl_lifetime_Fails) := meets_lend ms_lifetime_Fails
def awakeT22 : Bool := true
/-- cipherplan/cipherplanlaw22.awake -/
def tc_law22_awake : TC := (.sq (.reg [(.mk (some 0) none (.m (.pu (.mv (.c (.v (.bool false)))))))]) (.sq (.reg [(.mk (some 9) none (.m (.pu (.bd [(.v (.bool false)), (.v (.int .i64 0)), (.v (.int .i64 0)), (.v (.int .i64 0)), (.v (.int .i64 0)), (.v (.int .i64 0))] [(1, 1, (.c (.v (.int .i64 1)))), (4, 1, (.c (.v (.int .i64 9)))), (5, 1, (.c (.v (.int .i64 40001))))])))), (.mk (some 10) none (.m (.bs 51 6 1 [(.v (.bool false)), (.v (.int .i64 0)), (.v (.int .i64 0)), (.v (.int .i64 0)), (.v (.int .i64 0)), (.v (.int .i64 0))] [(0, 6, (.t 9))]))), (.mk (some 11) none (.m (.pu (.bd [(.v (.slice none 0 0)), (.v (.slice none 0 0))] [(0, 1, (.t 10))])))), (.mk (some 1) none (.m (.new [(.v (.slice none 0 0)), (.v (.slice none 0 0))]))), (.mk none none (.m (.st 2 (.t 1) (.t 11))))]) (.sq (.reg [(.mk (some 12) none (.m (.pu (.bd [(.v (.int .i64 0)), (.v (.int .i64 0))] [(0, 1, (.c (.v (.int .i64 1))))])))), (.mk (some 13) none (.m (.pu (.bd [(.v (.int .i64 0)), (.v (.int .i64 0)), (.v (.int .i64 0))] [(0, 2, (.t 12)), (2, 1, (.c (.v (.int .i64 1))))])))), (.mk (some 14) none (.m (.pu (.bd [(.v (.int .i64 0)), (.v (.int .i64 0))] [(0, 1, (.c (.v (.int .i64 3))))])))), (.mk (some 15) none (.m (.pu (.bd [(.v (.int .i64 0)), (.v (.int .i64 0)), (.v (.int .i64 0))] [(0, 2, (.t 14)), (2, 1, (.c (.v (.int .i64 8))))])))), (.mk (some 16) none (.m (.bs 44 3 2 [(.v (.int .i64 0)), (.v (.int .i64 0)), (.v (.int .i64 0)), (.v (.int .i64 0)), (.v (.int .i64 0)), (.v (.int .i64 0))] [(0, 3, (.t 13)), (3, 3, (.t 15))]))), (.mk (some 17) none (.m (.pu (.bd [(.v (.string (ByteArray.mk #[]))), (.v (.int .i64 0)), (.v (.int .i64 0)), (.v (.slice none 0 0)), (.v (.int .i64 0))] [(0, 1, (.c (.v (.string (ByteArray.mk #[100, 101, 101, 100]))))), (1, 1, (.c (.v (.int .i64 2)))), (2, 1, (.c (.v (.int .i64 2)))), (3, 1, (.t 16)), (4, 1, (.c (.v (.int .i64 99))))])))), (.mk (some 2) none (.m (.new [(.v (.string (ByteArray.mk #[]))), (.v (.int .i64 0)), (.v (.int .i64 0)), (.v (.slice none 0 0)), (.v (.int .i64 0))]))), (.mk none none (.m (.st 5 (.t 2) (.t 17))))]) (.sq (.reg [(.mk (some 19) none (.m (.ld true 2 (.t 1)))), (.mk (some 20) none (.m (.ld true 5 (.t 2)))), (.mk (some 21) none (.call 21 [(.t 19), (.t 20)])), (.mk (some 18) none (.m (.pu (.mv (.t 21))))), (.mk (some 22) none (.m (.pu (.ext 0 (.t 18))))), (.mk (some 23) none (.m (.pu (.ext 1 (.t 18))))), (.mk (some 24) none (.m (.pu (.ext 2 (.t 18))))), (.mk (some 3) none (.m (.pu (.mv (.t 22))))), (.mk (some 4) none (.m (.pu (.mv (.t 23))))), (.mk (some 5) none (.m (.pu (.mv (.t 24)))))]) (.sq (.reg [(.mk (some 25) none (.m (.pu (.fa 3 (.t 2))))), (.mk (some 26) none (.m (.ld false 1 (.t 25)))), (.mk (some 27) none (.m (.pu (.ix 3 (.t 26) (.c (.v (.int .i64 1))))))), (.mk (some 28) none (.m (.pu (.fa 2 (.t 27))))), (.mk none none (.m (.st 1 (.t 28) (.c (.v (.int .i64 9))))))]) (.sq (.reg [(.mk (some 30) none (.m (.ld true 2 (.t 1)))), (.mk (some 31) none (.m (.ld true 5 (.t 2)))), (.mk (some 32) none (.call 21 [(.t 30), (.t 31)])), (.mk (some 29) none (.m (.pu (.mv (.t 32))))), (.mk (some 33) none (.m (.pu (.ext 0 (.t 29))))), (.mk (some 34) none (.m (.pu (.ext 1 (.t 29))))), (.mk (some 35) none (.m (.pu (.ext 2 (.t 29))))), (.mk (some 6) none (.m (.pu (.mv (.t 33))))), (.mk (some 7) none (.m (.pu (.mv (.t 34))))), (.mk (some 8) none (.m (.pu (.mv (.t 35)))))]) (.sq (.reg [(.mk (some 36) none (.m (.pu (.mv (.t 5))))), (.mk (some 37) none (.m (.pu (.bin false .eql (.t 36) (.c (.v (.int .i64 0))))))), (.mk (some 38) none (.m (.pu (.mv (.t 37))))), (.mk (some 39) (some (38, true)) (.m (.pu (.mv (.t 8))))), (.mk (some 40) (some (38, true)) (.m (.pu (.bin false .eql (.t 39) (.c (.v (.int .i64 0))))))), (.mk (some 41) none (.m (.pu (.pick (.t 38) (.t 40) (.c (.v (.bool false))))))), (.mk (some 42) none (.m (.pu (.mv (.t 41))))), (.mk (some 43) (some (42, true)) (.m (.pu (.mv (.t 4))))), (.mk (some 44) (some (42, true)) (.m (.pu (.nt (.t 43))))), (.mk (some 45) none (.m (.pu (.pick (.t 42) (.t 44) (.c (.v (.bool false))))))), (.mk (some 46) none (.m (.pu (.mv (.t 45))))), (.mk (some 47) (some (46, true)) (.m (.pu (.mv (.t 7))))), (.mk (some 48) none (.m (.pu (.pick (.t 46) (.t 47) (.c (.v (.bool false))))))), (.mk (some 49) none (.m (.pu (.mv (.t 48))))), (.mk (some 50) (some (49, true)) (.m (.pu (.mv (.t 6))))), (.mk (some 51) (some (49, true)) (.m (.pu (.bin false .eql (.t 50) (.c (.v (.int .i64 9))))))), (.mk (some 52) none (.m (.pu (.pick (.t 49) (.t 51) (.c (.v (.bool false))))))), (.mk (some 0) none (.m (.pu (.mv (.t 52)))))]) .rt)))))))
def rv_law22_awake : List (RV × Option Ty) := [((.t 0), some .bool)]
def g_law22_awake : G := ⟨TYs, [16], 53, EL [(21, spl_lifetime_Fails)], (21 :: keeps), (fun _ _ => none), IL [], RL []⟩
def r_law22_awake  : Option (V × List VO) :=
  br ((fineLen ([(false, (1, (0, (0, (9, (40001, ()))))))], (([] : List Keep), ())) ((ByteArray.mk #[100, 101, 101, 100]), (2, (2, ([((1, (0, ())), (1, ())), ((3, (0, ())), (8, ()))], (99, ())))))))
    (br (cIx ([((1, (0, ())), (1, ())), ((3, (0, ())), (8, ()))]) 1)
      (br (cLd ([((1, (0, ())), (1, ())), ((3, (0, ())), (8, ()))]) (Int.toNat 1))
        (br ((fineLen ([(false, (1, (0, (0, (9, (40001, ()))))))], (([] : List Keep), ())) ((ByteArray.mk #[100, 101, 101, 100]), (2, (2, ((List.set ([((1, (0, ())), (1, ())), ((3, (0, ())), (8, ()))]) (Int.toNat 1) ((lgt tyLink ([((1, (0, ())), (1, ())), ((3, (0, ())), (8, ()))]) (Int.toNat 1)).1, (9, ((lgt tyLink ([((1, (0, ())), (1, ())), ((3, (0, ())), (8, ()))]) (Int.toNat 1)).2).2))), (99, ())))))))
          (br ((ieq (((FailsI ([(false, (1, (0, (0, (9, (40001, ()))))))], (([] : List Keep), ())) ((ByteArray.mk #[100, 101, 101, 100]), (2, (2, ([((1, (0, ())), (1, ())), ((3, (0, ())), (8, ()))], (99, ())))))).2).2) 0))
            (br ((ieq (((FailsI ([(false, (1, (0, (0, (9, (40001, ()))))))], (([] : List Keep), ())) ((ByteArray.mk #[100, 101, 101, 100]), (2, (2, ((List.set ([((1, (0, ())), (1, ())), ((3, (0, ())), (8, ()))]) (Int.toNat 1) ((lgt tyLink ([((1, (0, ())), (1, ())), ((3, (0, ())), (8, ()))]) (Int.toNat 1)).1, (9, ((lgt tyLink ([((1, (0, ())), (1, ())), ((3, (0, ())), (8, ()))]) (Int.toNat 1)).2).2))), (99, ())))))).2).2) 0))
              (br ((!(((FailsI ([(false, (1, (0, (0, (9, (40001, ()))))))], (([] : List Keep), ())) ((ByteArray.mk #[100, 101, 101, 100]), (2, (2, ([((1, (0, ())), (1, ())), ((3, (0, ())), (8, ()))], (99, ())))))).2).1)))
                (br (((FailsI ([(false, (1, (0, (0, (9, (40001, ()))))))], (([] : List Keep), ())) ((ByteArray.mk #[100, 101, 101, 100]), (2, (2, ((List.set ([((1, (0, ())), (1, ())), ((3, (0, ())), (8, ()))]) (Int.toNat 1) ((lgt tyLink ([((1, (0, ())), (1, ())), ((3, (0, ())), (8, ()))]) (Int.toNat 1)).1, (9, ((lgt tyLink ([((1, (0, ())), (1, ())), ((3, (0, ())), (8, ()))]) (Int.toNat 1)).2).2))), (99, ())))))).2).1)
                  (some (.t .bool (ieq ((FailsI ([(false, (1, (0, (0, (9, (40001, ()))))))], (([] : List Keep), ())) ((ByteArray.mk #[100, 101, 101, 100]), (2, (2, ((List.set ([((1, (0, ())), (1, ())), ((3, (0, ())), (8, ()))]) (Int.toNat 1) ((lgt tyLink ([((1, (0, ())), (1, ())), ((3, (0, ())), (8, ()))]) (Int.toNat 1)).1, (9, ((lgt tyLink ([((1, (0, ())), (1, ())), ((3, (0, ())), (8, ()))]) (Int.toNat 1)).2).2))), (99, ())))))).1) 9), []))
                  (some (.t .bool false, [])))
                (some (.t .bool false, [])))
              (some (.t .bool false, [])))
            (some (.t .bool false, [])))
          (none))
        (none))
      (none))
    (none)
theorem e_law22_awake  : runF g_law22_awake tc_law22_awake rv_law22_awake false [] [] = r_law22_awake  := by kernel_rfl
theorem ok_law22_awake : Option.map (trC Try.prog) Try.f8.body = some tc_law22_awake.er := by kernel_rfl
theorem rok_law22_awake : trVs Try.prog Try.f8.results.toList = some (rv_law22_awake.map Prod.fst) := by kernel_rfl
theorem en_law22_awake : Entered Try.prog 8 := .inr ⟨by decide, _, Try.func8, by kernel_rfl, by kernel_rfl⟩
theorem gk_law22_awake : GOk Try.prog g_law22_awake := gok_of _ (by
  intro p hp
  simp only [List.mem_cons, List.not_mem_nil, or_false] at hp
  rcases hp with rfl
  · exact ⟨en_lifetime_Fails, msl_lifetime_Fails⟩)
theorem lk_law22_awake : tc_law22_awake.lok g_law22_awake := by repeat (first | exact trivial | refine ⟨?_, ?_⟩)
def awP2 : Policy := ([(false, (1, (0, (0, (9, (40001, ()))))))], (([] : List Keep), ()))
def awI (n : Int) : Item := (ByteArray.mk #[100, 101, 101, 100], (2, (2, ([((1, (0, ())), (1, ())), ((3, (0, ())), (n, ()))], (99, ())))))
theorem aw2_fine : fineB awP2 (awI 8) = true ∧ fineB awP2 (awI 9) = true := by constructor <;> kernel_rfl
theorem aw2_a : spansF awP2 (1, (0, ())) 2 = [(0, (9, ()))] := by
  unfold spansF
  rw [cuts_eq]
  rfl
theorem aw2_b : spansF awP2 (3, (0, ())) 2 = [(0, (40001, ()))] := by
  unfold spansF
  rw [cuts_eq]
  rfl
theorem aw2_l (n : Int) : lksF awP2 (awI n) = [(1, (9, (true, ()))), (n, (0, (false, ())))] := by
  have e1 : lkF awP2 2 ((1, (0, ())), (1, ())) = (1, (9, (true, ()))) := by unfold lkF; rw [aw2_a]; rfl
  have e2 : lkF awP2 2 ((3, (0, ())), (n, ())) = (n, (0, (false, ()))) := by unfold lkF; rw [aw2_b]; rfl
  show [lkF awP2 2 ((1, (0, ())), (1, ())), lkF awP2 2 ((3, (0, ())), (n, ()))] = _
  rw [e1, e2]
theorem s_law22_awake : r_law22_awake = some (.t .bool awakeT22, []) := by
  have e1 : FailsI awP2 (awI 8) = (0, false, 0) := by
    unfold FailsI failsL
    rw [aw2_fine.1, aw2_l]
    rfl
  have e2 : FailsI awP2 (awI 9) = (9, true, 0) := by
    unfold FailsI failsL
    rw [aw2_fine.2, aw2_l]
    rfl
  have hs : (List.set [((1, (0, ())), (1, ())), ((3, (0, ())), (8, ()))] (Int.toNat 1) ((lgt tyLink [((1, (0, ())), (1, ())), ((3, (0, ())), (8, ()))] (Int.toNat 1)).1, (9, ((lgt tyLink [((1, (0, ())), (1, ())), ((3, (0, ())), (8, ()))] (Int.toNat 1)).2).2)) : List Link) = [((1, (0, ())), (1, ())), ((3, (0, ())), (9, ()))] := rfl
  simp only [r_law22_awake, hs]
  rw [show ((ByteArray.mk #[100, 101, 101, 100], (2, (2, ([((1, (0, ())), (1, ())), ((3, (0, ())), (8, ()))], (99, ()))))) : Item) = awI 8 from rfl, show ((ByteArray.mk #[100, 101, 101, 100], (2, (2, ([((1, (0, ())), (1, ())), ((3, (0, ())), (9, ()))], (99, ()))))) : Item) = awI 9 from rfl, show (([(false, (1, (0, (0, (9, (40001, ()))))))], (([] : List Keep), ())) : Policy) = awP2 from rfl, e1, e2]
  rfl
def sp_law22_awake : Ent := spec .nil (fun x => true) (fun x => (.t .bool awakeT22))
theorem ms_law22_awake : Meets Try.prog 8 (strip sp_law22_awake) := by
  obtain ⟨c, hc, hi⟩ := Option.map_eq_some_iff.1 ok_law22_awake
  exact meets_spec (R := runF g_law22_awake tc_law22_awake rv_law22_awake false) (meets_of (by decide) Try.func8 hc hi Try.ntmps8 rok_law22_awake gk_law22_awake lk_law22_awake mixed) fun x _ => (e_law22_awake ).trans (s_law22_awake )
end Go.Proofs.Ytfehjdaielifiaa.K
