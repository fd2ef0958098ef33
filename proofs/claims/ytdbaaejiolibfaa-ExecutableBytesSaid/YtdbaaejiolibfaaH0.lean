/-
  The law that decoding undoes encoding, both ways round.
-/
import Derived.Test.YtdbaaejiolibfaaG9
set_option linter.unusedSimpArgs false
set_option linter.unusedVariables false
namespace Go.Proofs.Ytdbaaejiolibfaa.K
open Go.RowKit Go.Shelf
noncomputable section
theorem findG_data (s : ByteArray) : findG s = ((((List.range' 0 23).find? fun i : Nat => decide (0 < i) && ((nmT rowsG (i : Int)).data.toList == s.data.toList)).getD 0 : Nat) : Int) := by
  unfold findG findZ
  simp only [seq_data, Nat.sub_zero]
def imgA : Image := ([((ByteArray.mk #[97]), ([7], ()))], ([((ByteArray.mk #[109, 100, 53, 95, 105, 110, 105, 116]), (3, ()))], ()))
theorem bad_A : badX imgA = false := by
  have w1 : wrongF (namesF imgA).1 = false := by decide
  have w2 : wrongF (namesF imgA).2 = false := by decide
  have hw := written_len imgA
  unfold badX
  rw [w1, w2, hw]
  rfl
theorem alg_A : imgA.2.1.flatMap algS = [1] := by
  have e1 : findG (ByteArray.mk #[109, 100, 53, 95, 105, 110, 105, 116]) = 0 := by rw [findG_data]; kernel_rfl
  have e2 : findG (befS (ByteArray.mk #[109, 100, 53, 95, 105, 110, 105, 116])) = 1 := by rw [findG_data]; kernel_rfl
  show ([(ByteArray.mk #[109, 100, 53, 95, 105, 110, 105, 116]), befS (ByteArray.mk #[109, 100, 53, 95, 105, 110, 105, 116])].flatMap algN) ++ [] = [1]
  simp only [List.flatMap_cons, List.flatMap_nil, algN, e1, e2]
  rfl
theorem algX_A : algX imgA = [1] := by
  unfold algX
  rw [alg_A, show sortI [1] = [1] from by simp [sortI]]
  rfl
def awakeL : Bool := true
/-- cipherplan/cipherplanlaw10.awake -/
def tc_f5 : TC := (.sq (.reg [(oP 0 (.mv (cB false)))]) (.sq (.reg [(oM 6 (.bs 5 1 1 [(.v (.int .u8 0))] [(0, 1, (.c (.v (.int .u8 7))))])), (oP 7 (.bd [(.v (.string (ByteArray.mk #[]))), (.v (.slice none 0 0))] [(0, 1, (.c (.v (.string (ByteArray.mk #[97]))))), (1, 1, (.t 6))])), (oM 8 (.bs 44 2 1 [(.v (.string (ByteArray.mk #[]))), (.v (.slice none 0 0))] [(0, 2, (.t 7))])), (oP 9 (.bd [(.v (.string (ByteArray.mk #[]))), (.v (.int .i64 0))] [(0, 1, (.c (.v (.string (ByteArray.mk #[109, 100, 53, 95, 105, 110, 105, 116]))))), (1, 1, (cI 3))])), (oM 10 (.bs 46 2 1 [(.v (.string (ByteArray.mk #[]))), (.v (.int .i64 0))] [(0, 2, (.t 9))])), (oP 11 (.bd [(.v (.slice none 0 0)), (.v (.slice none 0 0))] [(0, 1, (.t 8)), (1, 1, (.t 10))])), (oM 1 (.new [(.v (.slice none 0 0)), (.v (.slice none 0 0))])), (.mk none none (.m (.st 2 (.t 1) (.t 11))))]) (.sq (.reg [(oM 13 (.ld true 2 (.t 1))), (oC 14 15 [(.t 13)]), (oV 12 14), (oP 15 (.ext 0 (.t 12))), (oP 16 (.ext 1 (.t 12))), (oV 2 15), (oV 3 16)]) (.sq (.reg [(oV 18 2), (oC 19 12 [(.t 18)]), (oV 17 19), (oP 20 (.ext 0 (.t 17))), (oP 21 (.ext 1 (.t 17))), (oM 4 (.new [(.v (.slice none 0 0)), (.v (.slice none 0 0))])), (.mk none none (.m (.st 2 (.t 4) (.t 20)))), (oV 5 21)]) (.sq (.reg [(oV 22 3), (oP 23 (.bin false .eql (.t 22) (cI 0))), (oV 24 23), (oQ 25 24 true (.mv (.t 5))), (oQ 26 24 true (.bin false .eql (.t 25) (cI 0))), (oP 27 (.pick (.t 24) (.t 26) (cB false))), (oV 28 27), (oG 29 28 true (.m (.ld true 2 (.t 1)))), (oG 30 28 true (.m (.ld true 2 (.t 4)))), (oG 31 28 true (.call 16 [(.t 29), (.t 30)])), (oP 32 (.pick (.t 28) (.t 31) (cB false))), (oV 33 32), (oQ 34 33 true (.mv (.t 2))), (oQ 35 33 true (.len false (.t 34))), (oQ 36 33 true (.bin false .eql (.t 35) (cI 23))), (oP 37 (.pick (.t 33) (.t 36) (cB false))), (oV 38 37), (oG 39 38 true (.m (.ld true 2 (.t 1)))), (oG 40 38 true (.call 18 [(.t 39)])), (oG 41 38 true (.m (.bs 3 1 1 [(.v (.int .i64 0))] [(0, 1, (cI 1))]))), (oG 42 38 true (.call 17 [(.t 40), (.t 41)])), (oP 43 (.pick (.t 38) (.t 42) (cB false))), (oV 0 43)]) .rt)))))
def rv_f5 : List (RV × Option Ty) := [((.t 0), some .bool)]
def g_f5 : G := ⟨TYs, [], 44, EL [(12, sp_f12), (15, sp_f15), (16, sp_f16), (17, sp_f17), (18, sp_f18)], keeps, (fun _ _ => none), IL [], RL []⟩
def r_f5  : Option (V × List VO) :=
  br ((chkOk ([((ByteArray.mk #[97]), ([7], ()))], ([((ByteArray.mk #[109, 100, 53, 95, 105, 110, 105, 116]), (3, ()))], ()))))
    (br ((decOkX ((encX ([((ByteArray.mk #[97]), ([7], ()))], ([((ByteArray.mk #[109, 100, 53, 95, 105, 110, 105, 116]), (3, ()))], ()))).1)))
      (br ((ieq ((encX ([((ByteArray.mk #[97]), ([7], ()))], ([((ByteArray.mk #[109, 100, 53, 95, 105, 110, 105, 116]), (3, ()))], ()))).2) 0))
        (br ((ieq ((decX ((encX ([((ByteArray.mk #[97]), ([7], ()))], ([((ByteArray.mk #[109, 100, 53, 95, 105, 110, 105, 116]), (3, ()))], ()))).1)).2) 0))
          (br ((sameXOk ([((ByteArray.mk #[97]), ([7], ()))], ([((ByteArray.mk #[109, 100, 53, 95, 105, 110, 105, 116]), (3, ()))], ())) ((decX ((encX ([((ByteArray.mk #[97]), ([7], ()))], ([((ByteArray.mk #[109, 100, 53, 95, 105, 110, 105, 116]), (3, ()))], ()))).1)).1)))
            (br ((sameX ([((ByteArray.mk #[97]), ([7], ()))], ([((ByteArray.mk #[109, 100, 53, 95, 105, 110, 105, 116]), (3, ()))], ())) ((decX ((encX ([((ByteArray.mk #[97]), ([7], ()))], ([((ByteArray.mk #[109, 100, 53, 95, 105, 110, 105, 116]), (3, ()))], ()))).1)).1)))
              (br ((ieq (llen ((encX ([((ByteArray.mk #[97]), ([7], ()))], ([((ByteArray.mk #[109, 100, 53, 95, 105, 110, 105, 116]), (3, ()))], ()))).1)) 23))
                (br ((algOk ([((ByteArray.mk #[97]), ([7], ()))], ([((ByteArray.mk #[109, 100, 53, 95, 105, 110, 105, 116]), (3, ()))], ()))))
                  (br ((sameIOk (algX ([((ByteArray.mk #[97]), ([7], ()))], ([((ByteArray.mk #[109, 100, 53, 95, 105, 110, 105, 116]), (3, ()))], ()))) ([1])))
                    (some (.t .bool (sameI (algX ([((ByteArray.mk #[97]), ([7], ()))], ([((ByteArray.mk #[109, 100, 53, 95, 105, 110, 105, 116]), (3, ()))], ()))) ([1])), []))
                    (none))
                  (none))
                (some (.t .bool false, [])))
              (some (.t .bool false, [])))
            (none))
          (some (.t .bool false, [])))
        (some (.t .bool false, [])))
      (none))
    (none)
theorem e_f5  : runF g_f5 tc_f5 rv_f5 false [] [] = r_f5  := by kernel_rfl
theorem ok_f5 : Option.map (trC Try.prog) Try.f5.body = some tc_f5.er := by kernel_rfl
theorem rok_f5 : trVs Try.prog Try.f5.results.toList = some (rv_f5.map Prod.fst) := by kernel_rfl
theorem en_f5 : Entered Try.prog 5 := .inr ⟨by decide, _, Try.func5, by kernel_rfl, by kernel_rfl⟩
theorem gk_f5 : GOk Try.prog g_f5 := gok_of _ (by
  intro p hp
  simp only [List.mem_cons, List.not_mem_nil, or_false] at hp
  rcases hp with rfl | rfl | rfl | rfl | rfl
  · exact ⟨en_f12, ms_f12⟩
  · exact ⟨en_f15, ms_f15⟩
  · exact ⟨en_f16, ms_f16⟩
  · exact ⟨en_f17, ms_f17⟩
  · exact ⟨en_f18, ms_f18⟩)
theorem lk_f5 : tc_f5.lok g_f5 := by repeat (first | exact trivial | refine ⟨?_, ?_⟩)
theorem enc_ok {x : Image} (h : badX x = false) : encX x = (writtenF x, 0) := by unfold encX; rw [h]; rfl
theorem s_f5 : r_f5 = some (.t .bool awakeL, []) := by
  have e0 := enc_ok bad_A
  have e1 := dec_written bad_A
  have hw := written_len imgA
  have hl : (writtenF imgA).length = 23 := by rw [hw]; rfl
  have e2 : chkOk imgA = true := by decide
  have e3 : decOkX (writtenF imgA) = true := by
    simp only [decOkX, hl, Bool.and_eq_true, decide_eq_true_eq]
    exact ⟨by decide, by omega⟩
  show br (chkOk imgA) (br (decOkX (encX imgA).1) (br (ieq (encX imgA).2 0) (br (ieq (decX (encX imgA).1).2 0) (br (sameXOk imgA (decX (encX imgA).1).1) (br (sameX imgA (decX (encX imgA).1).1) (br (ieq (llen (encX imgA).1) 23) (br (algOk imgA) (br (sameIOk (algX imgA) [1]) (some (V.t .bool (sameI (algX imgA) [1]), ([] : List VO))) none) none) _) _) none) _) _) none) none = _
  rw [e2, br_true, e0, e3, br_true]
  simp only [e1, sameX_self, algX_A, llen, hl]
  rw [show sameXOk imgA imgA = true from by decide, show algOk imgA = true from by decide]
  rfl
def sp_f5 : Ent := spec .nil (fun x => true) (fun x => (.t .bool awakeL))
theorem ms_f5 : Meets Try.prog 5 (strip sp_f5) := by
  obtain ⟨c, hc, hi⟩ := Option.map_eq_some_iff.1 ok_f5
  exact meets_spec (R := runF g_f5 tc_f5 rv_f5 false) (meets_of (by decide) Try.func5 hc hi Try.ntmps5 rok_f5 gk_f5 lk_f5 mixed) fun x _ => (e_f5 ).trans (s_f5 )
end
end Go.Proofs.Ytdbaaejiolibfaa.K
