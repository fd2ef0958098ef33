/-
  The law that decoding undoes encoding, both ways round.
-/
import Derived.Test.YthdichlainehpaaG9
set_option linter.unusedSimpArgs false
set_option linter.unusedVariables false
namespace Go.Proofs.Ythdichlainehpaa.K
open Go.RowKit Go.Shelf
noncomputable section
theorem findG_data (s : ByteArray) : findG s = ((((List.range' 0 23).find? fun i : Nat => decide (0 < i) && ((nmT rowsG (i : Int)).data.toList == s.data.toList)).getD 0 : Nat) : Int) := by
  unfold findG findZ
  simp only [seq_data, Nat.sub_zero]
def imgA : Image := ([((ByteArray.mk #[97]), ([7], ()))], ([((ByteArray.mk #[109, 100, 53, 95, 105, 110, 105, 116]), (3, ()))], ()))
theorem bad_A : badX imgA = false := by
  have w1 : wrongF (namesF imgA).1 = false := by decide
  have w2 : wrongF (namesF imgA).2 = false := by decide
  have hw := written_len imgA
  unfold badX
  rw [w1, w2, hw]
  rfl
theorem alg_A : imgA.2.1.flatMap algS = [1] := by
  have e1 : findG (ByteArray.mk #[109, 100, 53, 95, 105, 110, 105, 116]) = 0 := by rw [findG_data]; kernel_rfl
  have e2 : findG (befS (ByteArray.mk #[109, 100, 53, 95, 105, 110, 105, 116])) = 1 := by rw [findG_data]; kernel_rfl
  show ([(ByteArray.mk #[109, 100, 53, 95, 105, 110, 105, 116]), befS (ByteArray.mk #[109, 100, 53, 95, 105, 110, 105, 116])].flatMap algN) ++ [] = [1]
  simp only [List.flatMap_cons, List.flatMap_nil, algN, e1, e2]
  rfl
theorem algX_A : algX imgA = [1] := by
  unfold algX
  rw [alg_A, show sortI [1] = [1] from by simp [sortI]]
  rfl
def awakeL : Bool := true
/-- cipherplan/cipherplanlaw10.awake -/
def tc_f33 : TC := (.sq (.reg [(oP 0 (.mv (cB false)))]) (.sq (.reg [(oM 6 (.bs 5 1 1 [(.v (.int .u8 0))] [(0, 1, (.c (.v (.int .u8 7))))])), (oP 7 (.bd [(.v (.string (ByteArray.mk #[]))), (.v (.slice none 0 0))] [(0, 1, (.c (.v (.string (ByteArray.mk #[97]))))), (1, 1, (.t 6))])), (oM 8 (.bs 91 2 1 [(.v (.string (ByteArray.mk #[]))), (.v (.slice none 0 0))] [(0, 2, (.t 7))])), (oP 9 (.bd [(.v (.string (ByteArray.mk #[]))), (.v (.int .i64 0))] [(0, 1, (.c (.v (.string (ByteArray.mk #[109, 100, 53, 95, 105, 110, 105, 116]))))), (1, 1, (cI 3))])), (oM 10 (.bs 69 2 1 [(.v (.string (ByteArray.mk #[]))), (.v (.int .i64 0))] [(0, 2, (.t 9))])), (oP 11 (.bd [(.v (.slice none 0 0)), (.v (.slice none 0 0))] [(0, 1, (.t 8)), (1, 1, (.t 10))])), (oM 1 (.new [(.v (.slice none 0 0)), (.v (.slice none 0 0))])), (.mk none none (.m (.st 2 (.t 1) (.t 11))))]) (.sq (.reg [(oM 13 (.ld true 2 (.t 1))), (oC 14 41 [(.t 13)]), (oV 12 14), (oP 15 (.ext 0 (.t 12))), (oP 16 (.ext 1 (.t 12))), (oV 2 15), (oV 3 16)]) (.sq (.reg [(oV 18 2), (oC 19 38 [(.t 18)]), (oV 17 19), (oP 20 (.ext 0 (.t 17))), (oP 21 (.ext 1 (.t 17))), (oM 4 (.new [(.v (.slice none 0 0)), (.v (.slice none 0 0))])), (.mk none none (.m (.st 2 (.t 4) (.t 20)))), (oV 5 21)]) (.sq (.reg [(oV 22 3), (oP 23 (.bin false .eql (.t 22) (cI 0))), (oV 24 23), (oQ 25 24 true (.mv (.t 5))), (oQ 26 24 true (.bin false .eql (.t 25) (cI 0))), (oP 27 (.pick (.t 24) (.t 26) (cB false))), (oV 28 27), (oG 29 28 true (.m (.ld true 2 (.t 1)))), (oG 30 28 true (.m (.ld true 2 (.t 4)))), (oG 31 28 true (.call 42 [(.t 29), (.t 30)])), (oP 32 (.pick (.t 28) (.t 31) (cB false))), (oV 33 32), (oQ 34 33 true (.mv (.t 2))), (oQ 35 33 true (.len false (.t 34))), (oQ 36 33 true (.bin false .eql (.t 35) (cI 23))), (oP 37 (.pick (.t 33) (.t 36) (cB false))), (oV 38 37), (oG 39 38 true (.m (.ld true 2 (.t 1)))), (oG 40 38 true (.call 43 [(.t 39)])), (oG 41 38 true (.m (.bs 3 1 1 [(.v (.int .i64 0))] [(0, 1, (cI 1))]))), (oG 42 38 true (.call 45 [(.t 40), (.t 41)])), (oP 43 (.pick (.t 38) (.t 42) (cB false))), (oV 0 43)]) .rt)))))
def rv_f33 : List (RV × Option Ty) := [((.t 0), some .bool)]
def g_f33 : G := ⟨TYs, [], 44, EL [(38, sp_f38), (41, sp_f41), (42, sp_f42), (43, sp_f43), (45, sp_f45)], keeps, (fun _ _ => none), IL [], RL []⟩
def r_f33  : Option (V × List VO) :=
  br ((chkOk ([((ByteArray.mk #[97]), ([7], ()))], ([((ByteArray.mk #[109, 100, 53, 95, 105, 110, 105, 116]), (3, ()))], ()))))
    (br ((decOkX ((encX ([((ByteArray.mk #[97]), ([7], ()))], ([((ByteArray.mk #[109, 100, 53, 95, 105, 110, 105, 116]), (3, ()))], ()))).1)))
      (br ((ieq ((encX ([((ByteArray.mk #[97]), ([7], ()))], ([((ByteArray.mk #[109, 100, 53, 95, 105, 110, 105, 116]), (3, ()))], ()))).2) 0))
        (br ((ieq ((decX ((encX ([((ByteArray.mk #[97]), ([7], ()))], ([((ByteArray.mk #[109, 100, 53, 95, 105, 110, 105, 116]), (3, ()))], ()))).1)).2) 0))
          (br ((sameXOk ([((ByteArray.mk #[97]), ([7], ()))], ([((ByteArray.mk #[109, 100, 53, 95, 105, 110, 105, 116]), (3, ()))], ())) ((decX ((encX ([((ByteArray.mk #[97]), ([7], ()))], ([((ByteArray.mk #[109, 100, 53, 95, 105, 110, 105, 116]), (3, ()))], ()))).1)).1)))
            (br ((sameX ([((ByteArray.mk #[97]), ([7], ()))], ([((ByteArray.mk #[109, 100, 53, 95, 105, 110, 105, 116]), (3, ()))], ())) ((decX ((encX ([((ByteArray.mk #[97]), ([7], ()))], ([((ByteArray.mk #[109, 100, 53, 95, 105, 110, 105, 116]), (3, ()))], ()))).1)).1)))
              (br ((ieq (llen ((encX ([((ByteArray.mk #[97]), ([7], ()))], ([((ByteArray.mk #[109, 100, 53, 95, 105, 110, 105, 116]), (3, ()))], ()))).1)) 23))
                (br ((algOk ([((ByteArray.mk #[97]), ([7], ()))], ([((ByteArray.mk #[109, 100, 53, 95, 105, 110, 105, 116]), (3, ()))], ()))))
                  (br ((sameIOk (algX ([((ByteArray.mk #[97]), ([7], ()))], ([((ByteArray.mk #[109, 100, 53, 95, 105, 110, 105, 116]), (3, ()))], ()))) ([1])))
                    (some (.t .bool (sameI (algX ([((ByteArray.mk #[97]), ([7], ()))], ([((ByteArray.mk #[109, 100, 53, 95, 105, 110, 105, 116]), (3, ()))], ()))) ([1])), []))
                    (none))
                  (none))
                (some (.t .bool false, [])))
              (some (.t .bool false, [])))
            (none))
          (some (.t .bool false, [])))
        (some (.t .bool false, [])))
      (none))
    (none)
theorem e_f33  : runF g_f33 tc_f33 rv_f33 false [] [] = r_f33  := by kernel_rfl
theorem ok_f33 : Option.map (trC Try.prog) Try.f33.body = some tc_f33.er := by kernel_rfl
theorem rok_f33 : trVs Try.prog Try.f33.results.toList = some (rv_f33.map Prod.fst) := by kernel_rfl
theorem en_f33 : Entered Try.prog 33 := .inr ⟨by decide, _, Try.func33, by kernel_rfl, by kernel_rfl⟩
theorem gk_f33 : GOk Try.prog g_f33 := gok_of _ (by
  intro p hp
  simp only [List.mem_cons, List.not_mem_nil, or_false] at hp
  rcases hp with rfl | rfl | rfl | rfl | rfl
  · exact ⟨en_f38, ms_f38⟩
  · exact ⟨en_f41, ms_f41⟩
  · exact ⟨en_f42, ms_f42⟩
  · exact ⟨en_f43, ms_f43⟩
  · exact ⟨en_f45, ms_f45⟩)
theorem lk_f33 : tc_f33.lok g_f33 := by repeat (first | exact trivial | refine ⟨?_, ?_⟩)
theorem enc_ok {x : Image} (h : badX x = false) : encX x = (writtenF x, 0) := by unfold encX; rw [h]; rfl
theorem s_f33 : r_f33 = some (.t .bool awakeL, []) := by
  have e0 := enc_ok bad_A
  have e1 := dec_written bad_A
  have hw := written_len imgA
  have hl : (writtenF imgA).length = 23 := by rw [hw]; rfl
  have e2 : chkOk imgA = true := by decide
  have e3 : decOkX (writtenF imgA) = true := by
    simp only [decOkX, hl, Bool.and_eq_true, decide_eq_true_eq]
    exact ⟨by decide, by omega⟩
  show br (chkOk imgA) (br (decOkX (encX imgA).1) (br (ieq (encX imgA).2 0) (br (ieq (decX (encX imgA).1).2 0) (br (sameXOk imgA (decX (encX imgA).1).1) (br (sameX imgA (decX (encX imgA).1).1) (br (ieq (llen (encX imgA).1) 23) (br (algOk imgA) (br (sameIOk (algX imgA) [1]) (some (V.t .bool (sameI (algX imgA) [1]), ([] : List VO))) none) none) _) _) none) _) _) none) none = _
  rw [e2, br_true, e0, e3, br_true]
  simp only [e1, sameX_self, algX_A, llen, hl]
  rw [show sameXOk imgA imgA = true from by decide, show algOk imgA = true from by decide]
  rfl
def sp_f33 : Ent := spec .nil (fun x => true) (fun x => (.t .bool awakeL))
theorem ms_f33 : Meets Try.prog 33 (strip sp_f33) := by
  obtain ⟨c, hc, hi⟩ := Option.map_eq_some_iff.1 ok_f33
  exact meets_spec (R := runF g_f33 tc_f33 rv_f33 false) (meets_of (by decide) Try.func33 hc hi Try.ntmps33 rok_f33 gk_f33 lk_f33 mixed) fun x _ => (e_f33 ).trans (s_f33 )
def lawBackG (_ _ : List Int) : Bool := true
def lawBackOk (_ r : List Int) : Bool := r.all isB
/-- cipherplan/cipherplanlaw10.ExecutableBack -/
def tc_f5 : TC := (.sq (.reg [(oP 4 (.mv (cB false)))]) (.sq (.sq (.reg [(oV 16 0), (oC 17 8 [(.t 16)]), (oP 18 (.nt (.t 17))), (oV 19 18), (oQ 20 19 false (.mv (.t 1))), (oQ 21 19 false (.len false (.t 20))), (oQ 22 19 false (.bin false .gtr (.t 21) (cI 2000))), (oP 23 (.pick (.t 19) (cB true) (.t 22)))]) (.cd (.t 23) (.sq (.reg [(oC 24 33 []), (oV 4 24)]) .rt) .sk)) (.sq (.reg [(oV 25 0), (oC 26 10 [(.t 25)]), (oV 5 26)]) (.sq (.reg [(oV 27 5), (oC 28 35 [(.t 27)]), (oM 6 (.new [(.v (.slice none 0 0)), (.v (.slice none 0 0))])), (.mk none none (.m (.st 2 (.t 6) (.t 28))))]) (.sq (.reg [(oM 30 (.ld true 2 (.t 6))), (oC 31 41 [(.t 30)]), (oV 29 31), (oP 32 (.ext 0 (.t 29))), (oP 33 (.ext 1 (.t 29))), (oV 7 32), (oV 8 33)]) (.sq (.reg [(oV 35 7), (oC 36 38 [(.t 35)]), (oV 34 36), (oP 37 (.ext 0 (.t 34))), (oP 38 (.ext 1 (.t 34))), (oM 9 (.new [(.v (.slice none 0 0)), (.v (.slice none 0 0))])), (.mk none none (.m (.st 2 (.t 9) (.t 37)))), (oV 10 38)]) (.sq (.sq (.reg [(oV 39 8), (oP 40 (.bin false .neq (.t 39) (cI 0))), (oV 41 40), (oQ 42 41 false (.mv (.t 10))), (oQ 43 41 false (.bin false .neq (.t 42) (cI 0))), (oP 44 (.pick (.t 41) (cB true) (.t 43))), (oV 45 44), (oG 46 45 false (.m (.ld true 2 (.t 6)))), (oG 47 45 false (.m (.ld true 2 (.t 9)))), (oG 48 45 false (.call 42 [(.t 46), (.t 47)])), (oQ 49 45 false (.nt (.t 48))), (oP 50 (.pick (.t 45) (cB true) (.t 49)))]) (.cd (.t 50) (.sq (.reg [(oP 4 (.mv (cB false)))]) .rt) .sk)) (.sq (.reg [(oM 51 (.bs 5 1 3 [(.v (.int .u8 0)), (.v (.int .u8 0)), (.v (.int .u8 0))] [(0, 1, (.c (.v (.int .u8 88)))), (1, 1, (.c (.v (.int .u8 69)))), (2, 1, (.c (.v (.int .u8 1))))])), (oV 52 1), (oM 53 (.app 5 1 1 (.t 51) (.t 52))), (oV 11 53)]) (.sq (.sq (.reg [(oV 55 11), (oC 56 38 [(.t 55)]), (oV 54 56), (oP 57 (.ext 0 (.t 54))), (oP 58 (.ext 1 (.t 54))), (oM 12 (.new [(.v (.slice none 0 0)), (.v (.slice none 0 0))])), (.mk none none (.m (.st 2 (.t 12) (.t 57)))), (oV 13 58)]) (.sq (.reg [(oV 59 13), (oP 60 (.bin false .eql (.t 59) (cI 0)))]) (.cd (.t 60) (.sq (.reg [(oM 62 (.ld true 2 (.t 12))), (oC 63 41 [(.t 62)]), (oV 61 63), (oP 64 (.ext 0 (.t 61))), (oP 65 (.ext 1 (.t 61))), (oV 14 64), (oV 15 65)]) (.sq (.reg [(oV 66 15), (oP 67 (.bin false .eql (.t 66) (cI 0))), (oV 68 67), (oQ 69 68 true (.mv (.t 14))), (oG 70 68 true (.call 2440624 [(.t 69)])), (oQ 71 68 true (.mv (.t 11))), (oG 72 68 true (.call 2440624 [(.t 71)])), (oQ 73 68 true (.bin false .eql (.t 70) (.t 72))), (oP 74 (.pick (.t 68) (.t 73) (cB false))), (oV 75 74), (oG 76 75 true (.call 33 [])), (oP 77 (.pick (.t 75) (.t 76) (cB false))), (oV 4 77)]) .rt)) .sk))) (.sq (.reg [(oC 78 33 []), (oV 4 78)]) .rt))))))))))
def rv_f5 : List (RV × Option Ty) := [((.t 4), some .bool)]
def g_f5 : G := ⟨TYs, [51], 79, EL [(8, sp_f8), (10, sp_f10), (33, sp_f33), (35, sp_f35), (38, sp_f38), (41, sp_f41), (42, sp_f42), (2440624, sp_op_convert_39_9)], keeps, (fun _ _ => none), IL [], RL []⟩
def r_f5 (p0 : (List Int)) (p1 : (List Int)) : Option (V × List VO) :=
  br ((!(light p0)))
    (some (.t .bool awakeL, []))
    (br ((igt (llen p1) 2000))
      (some (.t .bool awakeL, []))
      (br ((dOk (roll p0)))
        (br ((chkOk (imgV (roll p0))))
          (br ((decOkX ((encX (imgV (roll p0))).1)))
            (br ((ine ((encX (imgV (roll p0))).2) 0))
              (some (.t .bool false, []))
              (br ((ine ((decX ((encX (imgV (roll p0))).1)).2) 0))
                (some (.t .bool false, []))
                (br ((sameXOk (imgV (roll p0)) ((decX ((encX (imgV (roll p0))).1)).1)))
                  (br ((!(sameX (imgV (roll p0)) ((decX ((encX (imgV (roll p0))).1)).1))))
                    (some (.t .bool false, []))
                    (br (cApp ([88, 69, 1]) p1 1)
                      (br ((decOkX (([88, 69, 1]) ++ p1)))
                        (br ((ieq ((decX (([88, 69, 1]) ++ p1)).2) 0))
                          (br ((chkOk ((decX (([88, 69, 1]) ++ p1)).1)))
                            (br ((ieq ((encX ((decX (([88, 69, 1]) ++ p1)).1)).2) 0))
                              (br ((seq (strOf ((encX ((decX (([88, 69, 1]) ++ p1)).1)).1)) (strOf (([88, 69, 1]) ++ p1))))
                                (some (.t .bool awakeL, []))
                                (some (.t .bool false, [])))
                              (some (.t .bool false, [])))
                            (none))
                          (some (.t .bool awakeL, [])))
                        (none))
                      (none)))
                  (none))))
            (none))
          (none))
        (none)))
theorem e_f5 (p0 : (List Int)) (p1 : (List Int)) : runF g_f5 tc_f5 rv_f5 false [.t (.sl tI) p0, .t (.sl (.int .u8)) p1] [] = r_f5 p0 p1 := by kernel_rfl
theorem ok_f5 : Option.map (trC Try.prog) Try.f5.body = some tc_f5.er := by kernel_rfl
theorem rok_f5 : trVs Try.prog Try.f5.results.toList = some (rv_f5.map Prod.fst) := by kernel_rfl
theorem en_f5 : Entered Try.prog 5 := .inr ⟨by decide, _, Try.func5, by kernel_rfl, by kernel_rfl⟩
theorem gk_f5 : GOk Try.prog g_f5 := gok_of _ (by
  intro p hp
  simp only [List.mem_cons, List.not_mem_nil, or_false] at hp
  rcases hp with rfl | rfl | rfl | rfl | rfl | rfl | rfl | rfl
  · exact ⟨en_f8, ms_f8⟩
  · exact ⟨en_f10, ms_f10⟩
  · exact ⟨en_f33, ms_f33⟩
  · exact ⟨en_f35, ms_f35⟩
  · exact ⟨en_f38, ms_f38⟩
  · exact ⟨en_f41, ms_f41⟩
  · exact ⟨en_f42, ms_f42⟩
  · exact ⟨en_op_convert_39_9, ms_op_convert_39_9⟩)
theorem lk_f5 : tc_f5.lok g_f5 := by repeat (first | exact trivial | refine ⟨?_, ?_⟩)
theorem s_f5 (p0 p1 : List Int) (h : lawBackOk p0 p1 = true) : r_f5 p0 p1 = some (.t .bool (lawBackG p0 p1), []) := by
  have h : p1.all isB = true := h
  simp only [r_f5]
  refine br_intro (fun _ => rfl) (fun k1 => br_intro (fun _ => rfl) (fun k2 => ?_))
  have k1 : light p0 = true := by simpa using k1
  have k2 : p1.length ≤ 2000 := by simp only [igt, llen, decide_eq_false_iff_not] at k2; omega
  have hd := dOk_roll k1
  have hb := img_ok (roll p0)
  have hx := img_chk (roll p0)
  have e0 := enc_ok hb
  have e1 := dec_written hb
  have e2 := img_dec (roll p0)
  rw [hd, br_true, hx, br_true, e0, e2, br_true]
  simp only [e1, sameX_self]
  have e3 : sameXOk (imgV (roll p0)) (imgV (roll p0)) = true := by
    simp only [chkOk, wrOk, Bool.and_eq_true] at hx
    exact hx.1
  rw [e3, show ine 0 0 = false from rfl, br_false, br_false, br_true, Bool.not_true, br_false, cAppG (by simp only [List.length_cons, List.length_nil]; omega), br_true]
  have hc : decOkX ([88, 69, 1] ++ p1) = true := by
    simp only [decOkX, List.all_append, h, Bool.and_true, Bool.and_eq_true, decide_eq_true_eq, List.length_append, List.length_cons, List.length_nil]
    exact ⟨rfl, by omega⟩
  rw [hc, br_true]
  refine br_intro (fun k3 => ?_) (fun _ => rfl)
  have k3 : (decX ([88, 69, 1] ++ p1)).2 = 0 := by simpa [ieq] using k3
  obtain ⟨c1, c2⟩ := written_dec hc k3
  have c3 := enc_ok c1
  obtain ⟨h1, h2, h3, h4, h5⟩ := bad_facts c1
  have hw := written_len (decX ([88, 69, 1] ++ p1)).1
  have c4 : chkOk (decX ([88, 69, 1] ++ p1)).1 = true := by
    simp only [chkOk, wrOk, imgOk, Bool.and_eq_true, decide_eq_true_eq]
    omega
  rw [c4, br_true, c3]
  simp only [c2, seq_self]
  rfl
def sp_f5 : Ent := spec (.pr (.sl tI) (.pr (.sl (.int .u8)) .nil)) (fun x => (lawBackOk x.1 x.2.1)) (fun x => (.t .bool (lawBackG x.1 x.2.1)))
theorem ms_f5 : Meets Try.prog 5 (strip sp_f5) := by
  obtain ⟨c, hc, hi⟩ := Option.map_eq_some_iff.1 ok_f5
  exact meets_spec (R := runF g_f5 tc_f5 rv_f5 false) (meets_of (by decide) Try.func5 hc hi Try.ntmps5 rok_f5 gk_f5 lk_f5 mixed) fun x hok => (e_f5 x.1 x.2.1).trans (s_f5 x.1 x.2.1 hok)
theorem okw_ExecutableBack (z0 z1 : List Int) (w0 : Ty.wf (.sl (.int .i64)) z0) (w1 : Ty.wf (.sl (.int .u8)) z1) : lawBackOk z0 z1 = true := by
  refine List.all_eq_true.2 fun x hx => ?_
  have := wf_u8 (w1.2 x hx)
  exact decide_eq_true (by omega)
end
theorem walkExecutableBack (z0 : (List Int)) (z1 : (List Int)) (W : World) (v0 : Value) (v1 : Value) (c0 : C noX W (fun _ => .no) (V.t (.sl tI) z0).d v0) (c1 : C noX W (fun _ => .no) (V.t (.sl (.int .u8)) z1).d v1) (w0 : Ty.wf (.sl tI) z0) (w1 : Ty.wf (.sl (.int .u8)) z1) :
    Calls Try.prog 5 #[v0, v1] W fun r w' => r = .returned (.bool true) ∧ Below W.heap.size W w' :=
  calls_true (by decide) ms_f5 (args := [.t (.sl tI) z0, .t (.sl (.int .u8)) z1]) (strip_spec (x := (z0, z1, ())) rfl (okw_ExecutableBack z0 z1 w0 w1)) (by simp only [V.ds, Cs]; exact ⟨_, _, rfl, c0, _, _, rfl, c1, rfl⟩)
end Go.Proofs.Ythdichlainehpaa.K
