/-
  awake of 22.
-/
import Derived.Test.YtfehjdaielifiaaGreatV21
import Derived.Test.YtfehjdaielifiaaGreatKX
set_option linter.unusedSimpArgs false
set_option linter.unusedVariables false
namespace Go.Proofs.YtfehjdaielifiaaGreat.K
open Go.RowKit
def spl_f18 : Ent := lendE sp_f18
theorem msl_f18 : Meets Tryz.prog 18 (strip spl_f18) := meets_lend ms_f18
def awakeT22 : Bool := true
/-- cipherplan/cipherplanlaw22.awake -/
def tc_f10 : TC := (.sq (.reg [(oP 0 (.mv (cB false)))]) (.sq (.reg [(oP 9 (.bd [(.v (.bool false)), (.v (.int .i64 0)), (.v (.int .i64 0)), (.v (.int .i64 0)), (.v (.int .i64 0)), (.v (.int .i64 0))] [(1, 1, (cI 1)), (4, 1, (cI 9)), (5, 1, (cI 40001))])), (oM 10 (.bs 38 6 1 [(.v (.bool false)), (.v (.int .i64 0)), (.v (.int .i64 0)), (.v (.int .i64 0)), (.v (.int .i64 0)), (.v (.int .i64 0))] [(0, 6, (.t 9))])), (oP 11 (.bd [(.v (.slice none 0 0)), (.v (.slice none 0 0))] [(0, 1, (.t 10))])), (oM 1 (.new [(.v (.slice none 0 0)), (.v (.slice none 0 0))])), (.mk none none (.m (.st 2 (.t 1) (.t 11))))]) (.sq (.reg [(oP 12 (.bd [(.v (.int .i64 0)), (.v (.int .i64 0))] [(0, 1, (cI 1))])), (oP 13 (.bd [(.v (.int .i64 0)), (.v (.int .i64 0)), (.v (.int .i64 0))] [(0, 2, (.t 12)), (2, 1, (cI 1))])), (oP 14 (.bd [(.v (.int .i64 0)), (.v (.int .i64 0))] [(0, 1, (cI 3))])), (oP 15 (.bd [(.v (.int .i64 0)), (.v (.int .i64 0)), (.v (.int .i64 0))] [(0, 2, (.t 14)), (2, 1, (cI 8))])), (oM 16 (.bs 62 3 2 [(.v (.int .i64 0)), (.v (.int .i64 0)), (.v (.int .i64 0)), (.v (.int .i64 0)), (.v (.int .i64 0)), (.v (.int .i64 0))] [(0, 3, (.t 13)), (3, 3, (.t 15))])), (oP 17 (.bd [(.v (.string (ByteArray.mk #[]))), (.v (.int .i64 0)), (.v (.int .i64 0)), (.v (.slice none 0 0)), (.v (.int .i64 0))] [(0, 1, (.c (.v (.string (ByteArray.mk #[100, 101, 101, 100]))))), (1, 1, (cI 2)), (2, 1, (cI 2)), (3, 1, (.t 16)), (4, 1, (cI 99))])), (oM 2 (.new [(.v (.string (ByteArray.mk #[]))), (.v (.int .i64 0)), (.v (.int .i64 0)), (.v (.slice none 0 0)), (.v (.int .i64 0))])), (.mk none none (.m (.st 5 (.t 2) (.t 17))))]) (.sq (.reg [(oM 19 (.ld true 2 (.t 1))), (oM 20 (.ld true 5 (.t 2))), (oC 21 18 [(.t 19), (.t 20)]), (oV 18 21), (oP 22 (.ext 0 (.t 18))), (oP 23 (.ext 1 (.t 18))), (oP 24 (.ext 2 (.t 18))), (oV 3 22), (oV 4 23), (oV 5 24)]) (.sq (.reg [(oP 25 (.fa 3 (.t 2))), (oL 26 25), (oP 27 (.ix 3 (.t 26) (cI 1))), (oP 28 (.fa 2 (.t 27))), (.mk none none (.m (.st 1 (.t 28) (cI 9))))]) (.sq (.reg [(oM 30 (.ld true 2 (.t 1))), (oM 31 (.ld true 5 (.t 2))), (oC 32 18 [(.t 30), (.t 31)]), (oV 29 32), (oP 33 (.ext 0 (.t 29))), (oP 34 (.ext 1 (.t 29))), (oP 35 (.ext 2 (.t 29))), (oV 6 33), (oV 7 34), (oV 8 35)]) (.sq (.reg [(oV 36 5), (oP 37 (.bin false .eql (.t 36) (cI 0))), (oV 38 37), (oQ 39 38 true (.mv (.t 8))), (oQ 40 38 true (.bin false .eql (.t 39) (cI 0))), (oP 41 (.pick (.t 38) (.t 40) (cB false))), (oV 42 41), (oQ 43 42 true (.mv (.t 4))), (oQ 44 42 true (.nt (.t 43))), (oP 45 (.pick (.t 42) (.t 44) (cB false))), (oV 46 45), (oQ 47 46 true (.mv (.t 7))), (oP 48 (.pick (.t 46) (.t 47) (cB false))), (oV 49 48), (oQ 50 49 true (.mv (.t 6))), (oQ 51 49 true (.bin false .eql (.t 50) (cI 9))), (oP 52 (.pick (.t 49) (.t 51) (cB false))), (oV 0 52)]) .rt)))))))
def rv_f10 : List (RV × Option Ty) := [((.t 0), some .bool)]
def g_f10 : G := ⟨TYs, [16], 53, EL [(18, spl_f18)], (18 :: keeps), (fun _ _ => none), IL [], RL []⟩
def r_f10  : Option (V × List VO) :=
  br ((fineLen ([(false, (1, (0, (0, (9, (40001, ()))))))], (([] : List Keep), ())) ((ByteArray.mk #[100, 101, 101, 100]), (2, (2, ([((1, (0, ())), (1, ())), ((3, (0, ())), (8, ()))], (99, ())))))))
    (br (cIx ([((1, (0, ())), (1, ())), ((3, (0, ())), (8, ()))]) 1)
      (br (cLd ([((1, (0, ())), (1, ())), ((3, (0, ())), (8, ()))]) (Int.toNat 1))
        (br ((fineLen ([(false, (1, (0, (0, (9, (40001, ()))))))], (([] : List Keep), ())) ((ByteArray.mk #[100, 101, 101, 100]), (2, (2, ((List.set ([((1, (0, ())), (1, ())), ((3, (0, ())), (8, ()))]) (Int.toNat 1) ((lgt tyLink ([((1, (0, ())), (1, ())), ((3, (0, ())), (8, ()))]) (Int.toNat 1)).1, (9, ((lgt tyLink ([((1, (0, ())), (1, ())), ((3, (0, ())), (8, ()))]) (Int.toNat 1)).2).2))), (99, ())))))))
          (br ((ieq (((FailsI ([(false, (1, (0, (0, (9, (40001, ()))))))], (([] : List Keep), ())) ((ByteArray.mk #[100, 101, 101, 100]), (2, (2, ([((1, (0, ())), (1, ())), ((3, (0, ())), (8, ()))], (99, ())))))).2).2) 0))
            (br ((ieq (((FailsI ([(false, (1, (0, (0, (9, (40001, ()))))))], (([] : List Keep), ())) ((ByteArray.mk #[100, 101, 101, 100]), (2, (2, ((List.set ([((1, (0, ())), (1, ())), ((3, (0, ())), (8, ()))]) (Int.toNat 1) ((lgt tyLink ([((1, (0, ())), (1, ())), ((3, (0, ())), (8, ()))]) (Int.toNat 1)).1, (9, ((lgt tyLink ([((1, (0, ())), (1, ())), ((3, (0, ())), (8, ()))]) (Int.toNat 1)).2).2))), (99, ())))))).2).2) 0))
              (br ((!(((FailsI ([(false, (1, (0, (0, (9, (40001, ()))))))], (([] : List Keep), ())) ((ByteArray.mk #[100, 101, 101, 100]), (2, (2, ([((1, (0, ())), (1, ())), ((3, (0, ())), (8, ()))], (99, ())))))).2).1)))
                (br (((FailsI ([(false, (1, (0, (0, (9, (40001, ()))))))], (([] : List Keep), ())) ((ByteArray.mk #[100, 101, 101, 100]), (2, (2, ((List.set ([((1, (0, ())), (1, ())), ((3, (0, ())), (8, ()))]) (Int.toNat 1) ((lgt tyLink ([((1, (0, ())), (1, ())), ((3, (0, ())), (8, ()))]) (Int.toNat 1)).1, (9, ((lgt tyLink ([((1, (0, ())), (1, ())), ((3, (0, ())), (8, ()))]) (Int.toNat 1)).2).2))), (99, ())))))).2).1)
                  (some (.t .bool (ieq ((FailsI ([(false, (1, (0, (0, (9, (40001, ()))))))], (([] : List Keep), ())) ((ByteArray.mk #[100, 101, 101, 100]), (2, (2, ((List.set ([((1, (0, ())), (1, ())), ((3, (0, ())), (8, ()))]) (Int.toNat 1) ((lgt tyLink ([((1, (0, ())), (1, ())), ((3, (0, ())), (8, ()))]) (Int.toNat 1)).1, (9, ((lgt tyLink ([((1, (0, ())), (1, ())), ((3, (0, ())), (8, ()))]) (Int.toNat 1)).2).2))), (99, ())))))).1) 9), []))
                  (some (.t .bool false, [])))
                (some (.t .bool false, [])))
              (some (.t .bool false, [])))
            (some (.t .bool false, [])))
          (none))
        (none))
      (none))
    (none)
theorem e_f10  : runF g_f10 tc_f10 rv_f10 false [] [] = r_f10  := by kernel_rfl
theorem ok_f10 : Option.map (trC Tryz.prog) Tryz.f10.body = some tc_f10.er := by kernel_rfl
theorem rok_f10 : trVs Tryz.prog Tryz.f10.results.toList = some (rv_f10.map Prod.fst) := by kernel_rfl
theorem en_f10 : Entered Tryz.prog 10 := .inr ⟨by decide, _, Tryz.func10, by kernel_rfl, by kernel_rfl⟩
theorem gk_f10 : GOk Tryz.prog g_f10 := gok_of _ (by
  intro p hp
  simp only [List.mem_cons, List.not_mem_nil, or_false] at hp
  rcases hp with rfl
  · exact ⟨en_f18, msl_f18⟩)
theorem lk_f10 : tc_f10.lok g_f10 := by repeat (first | exact trivial | refine ⟨?_, ?_⟩)
def awP2 : Policy := ([(false, (1, (0, (0, (9, (40001, ()))))))], (([] : List Keep), ()))
def awI (n : Int) : Item := (ByteArray.mk #[100, 101, 101, 100], (2, (2, ([((1, (0, ())), (1, ())), ((3, (0, ())), (n, ()))], (99, ())))))
theorem aw2_fine : fineB awP2 (awI 8) = true ∧ fineB awP2 (awI 9) = true := by constructor <;> kernel_rfl
theorem aw2_a : spansF awP2 (1, (0, ())) 2 = [(0, (9, ()))] := by
  unfold spansF
  rw [cuts_eq]
  rfl
theorem aw2_b : spansF awP2 (3, (0, ())) 2 = [(0, (40001, ()))] := by
  unfold spansF
  rw [cuts_eq]
  rfl
theorem aw2_l (n : Int) : lksF awP2 (awI n) = [(1, (9, (true, ()))), (n, (0, (false, ())))] := by
  have e1 : lkF awP2 2 ((1, (0, ())), (1, ())) = (1, (9, (true, ()))) := by unfold lkF; rw [aw2_a]; rfl
  have e2 : lkF awP2 2 ((3, (0, ())), (n, ())) = (n, (0, (false, ()))) := by unfold lkF; rw [aw2_b]; rfl
  show [lkF awP2 2 ((1, (0, ())), (1, ())), lkF awP2 2 ((3, (0, ())), (n, ()))] = _
  rw [e1, e2]
theorem s_f10 : r_f10 = some (.t .bool awakeT22, []) := by
  have e1 : FailsI awP2 (awI 8) = (0, false, 0) := by
    unfold FailsI failsL
    rw [aw2_fine.1, aw2_l]
    rfl
  have e2 : FailsI awP2 (awI 9) = (9, true, 0) := by
    unfold FailsI failsL
    rw [aw2_fine.2, aw2_l]
    rfl
  have hs : (List.set [((1, (0, ())), (1, ())), ((3, (0, ())), (8, ()))] (Int.toNat 1) ((lgt tyLink [((1, (0, ())), (1, ())), ((3, (0, ())), (8, ()))] (Int.toNat 1)).1, (9, ((lgt tyLink [((1, (0, ())), (1, ())), ((3, (0, ())), (8, ()))] (Int.toNat 1)).2).2)) : List Link) = [((1, (0, ())), (1, ())), ((3, (0, ())), (9, ()))] := rfl
  simp only [r_f10, hs]
  rw [show ((ByteArray.mk #[100, 101, 101, 100], (2, (2, ([((1, (0, ())), (1, ())), ((3, (0, ())), (8, ()))], (99, ()))))) : Item) = awI 8 from rfl, show ((ByteArray.mk #[100, 101, 101, 100], (2, (2, ([((1, (0, ())), (1, ())), ((3, (0, ())), (9, ()))], (99, ()))))) : Item) = awI 9 from rfl, show (([(false, (1, (0, (0, (9, (40001, ()))))))], (([] : List Keep), ())) : Policy) = awP2 from rfl, e1, e2]
  rfl
def sp_f10 : Ent := spec .nil (fun x => true) (fun x => (.t .bool awakeT22))
theorem ms_f10 : Meets Tryz.prog 10 (strip sp_f10) := by
  obtain ⟨c, hc, hi⟩ := Option.map_eq_some_iff.1 ok_f10
  exact meets_spec (R := runF g_f10 tc_f10 rv_f10 false) (meets_of (by decide) Tryz.func10 hc hi Tryz.ntmps10 rok_f10 gk_f10 lk_f10 mixed) fun x _ => (e_f10 ).trans (s_f10 )
end Go.Proofs.YtfehjdaielifiaaGreat.K
