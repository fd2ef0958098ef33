/-
  Plain laws: what is read is written as it was; executables of dice are without fault.
-/
import Derived.Test.YthdichlainehpaaG8
set_option linter.unusedSimpArgs false
set_option linter.unusedVariables false
namespace Go.Proofs.Ythdichlainehpaa.K
open Go.RowKit Go.Shelf
noncomputable section
theorem take_inv {d : Reader} {n : Int} (hn : 0 ≤ n) (h : (takeN d n).2.1 = false) : d.2.1 = false ∧ d.1 = takeV d n ++ (takeN d n).1 ∧ ((takeV d n).length : Int) = n := by
  obtain ⟨b, f, u⟩ := d
  cases hf : rdFail (b, (f, u)) n with
  | true =>
    unfold takeN at h
    rw [hf] at h
    cases h
  | false =>
    have hf' := hf
    simp only [rdFail, Bool.or_eq_false_iff, igt, llen, decide_eq_false_iff_not] at hf'
    unfold takeV takeN
    rw [hf]
    refine ⟨hf'.1, ?_, ?_⟩
    · show b = b.take n.toNat ++ b.drop n.toNat
      rw [List.take_append_drop]
    · show ((b.take n.toNat).length : Int) = n
      rw [List.length_take]
      omega
theorem rnum_inv {d : Reader} (c : Nat) (hc : c ≤ 5) (hd : rdOk d = true) (h : (rnumN d (c : Int)).2.1 = false) : d.2.1 = false ∧ d.1 = numL (rnumV d (c : Int)) c ++ (rnumN d (c : Int)).1 := by
  obtain ⟨h1, h2, h3⟩ := take_inv (n := (c : Int)) (by omega) h
  obtain ⟨k1, _, _⟩ := rnum_ok (c := (c : Int)) hd (by omega)
  have hb := (take_all (n := (c : Int)) hd).1
  have hl : (takeV d (c : Int)).length = c := by omega
  refine ⟨h1, ?_⟩
  rw [rnum_nn k1]
  have := numL_val0 hb (by omega)
  rw [hl] at this
  rw [this]
  exact h2
theorem rname_inv {d : Reader} (hd : rdOk d = true) (h : (rnameN d).2.1 = false) : d.2.1 = false ∧ d.1 = numL (slen (rnameV d)) 1 ++ (bytesL (rnameV d) ++ (rnameN d).1) := by
  obtain ⟨k1, k2, k3⟩ := rnum_ok (c := 1) hd (by omega)
  obtain ⟨h1, h2, h3⟩ := take_inv (d := rnumN d 1) (n := rnumV d 1) k2 h
  obtain ⟨h4, h5⟩ := rnum_inv 1 (by omega) hd h1
  have hb := (take_all (n := rnumV d 1) k3).1
  refine ⟨h4, ?_⟩
  have e1 : bytesL (rnameV d) = takeV (rnumN d 1) (rnumV d 1) := bytes_str hb
  have e2 : slen (rnameV d) = rnumV d 1 := by
    show ((strOf (takeV (rnumN d 1) (rnumV d 1))).size : Int) = _
    rw [strOf_size, h3]
  rw [e1, e2]
  exact h5.trans (congrArg _ h2)
theorem sec_inv {d : Reader} (hd : rdOk d = true) (h : (secN d).2.1 = false) : d.2.1 = false ∧ d.1 = secB (secV d) ++ (secN d).1 := by
  have r1 := rname_ok hd
  obtain ⟨k1, k2, k3⟩ := rnum_ok (c := 2) r1 (by omega)
  obtain ⟨h1, h2, h3⟩ := take_inv (d := rnumN (rnameN d) 2) (n := rnumV (rnameN d) 2) k2 h
  obtain ⟨h4, h5⟩ := rnum_inv 2 (by omega) r1 h1
  obtain ⟨h6, h7⟩ := rname_inv hd h4
  refine ⟨h6, ?_⟩
  have e2 : llen (secV d).2.1 = rnumV (rnameN d) 2 := h3
  simp only [secB, e2, List.append_assoc]
  exact h7.trans (congrArg _ (congrArg _ (h5.trans (congrArg _ h2))))
theorem sym_inv {d : Reader} (hd : rdOk d = true) (h : (symN d).2.1 = false) : d.2.1 = false ∧ d.1 = symB (symV d) ++ (symN d).1 := by
  have r1 := rname_ok hd
  obtain ⟨h4, h5⟩ := rnum_inv (d := rnameN d) 4 (by omega) r1 h
  obtain ⟨h6, h7⟩ := rname_inv hd h4
  refine ⟨h6, ?_⟩
  simp only [symB, List.append_assoc]
  exact h7.trans (congrArg _ (congrArg _ h5))
theorem secs_inv : ∀ (n : Nat) {d : Reader}, rdOk d = true → (secsP n d).2.2.1 = false → d.2.1 = false ∧ d.1 = (secsP n d).1.flatMap secB ++ (secsP n d).2.1 ∧ (secsP n d).1.length = n
  | 0, d, _, h => ⟨h, rfl, rfl⟩
  | n + 1, d, hd, h => by
    unfold secsP at h ⊢
    cases hf : d.2.1 with
    | true =>
      rw [hf] at h
      exact absurd (h.symm.trans hf) (by simp)
    | false =>
      rw [hf] at h
      obtain ⟨h1, h2, h3⟩ := secs_inv n (sec_ok hd) h
      obtain ⟨h4, h5⟩ := sec_inv hd h1
      refine ⟨rfl, ?_, ?_⟩
      · show d.1 = (secV d :: (secsP n (secN d)).1).flatMap secB ++ (secsP n (secN d)).2.1
        rw [List.flatMap_cons, List.append_assoc]
        exact h5.trans (congrArg _ h2)
      · show (secV d :: (secsP n (secN d)).1).length = n + 1
        rw [List.length_cons, h3]
theorem syms_inv : ∀ (n : Nat) {d : Reader}, rdOk d = true → (symsP n d).2.2.1 = false → d.2.1 = false ∧ d.1 = (symsP n d).1.flatMap symB ++ (symsP n d).2.1 ∧ (symsP n d).1.length = n
  | 0, d, _, h => ⟨h, rfl, rfl⟩
  | n + 1, d, hd, h => by
    unfold symsP at h ⊢
    cases hf : d.2.1 with
    | true =>
      rw [hf] at h
      exact absurd (h.symm.trans hf) (by simp)
    | false =>
      rw [hf] at h
      obtain ⟨h1, h2, h3⟩ := syms_inv n (sym_ok hd) h
      obtain ⟨h4, h5⟩ := sym_inv hd h1
      refine ⟨rfl, ?_, ?_⟩
      · show d.1 = (symV d :: (symsP n (symN d)).1).flatMap symB ++ (symsP n (symN d)).2.1
        rw [List.flatMap_cons, List.append_assoc]
        exact h5.trans (congrArg _ h2)
      · show (symV d :: (symsP n (symN d)).1).length = n + 1
        rw [List.length_cons, h3]
theorem seq_iff {a b : ByteArray} : seq a b = true ↔ a = b := by
  simp only [seq, beq_iff_eq, Lib.toList_data]
  constructor
  · intro h
    obtain ⟨⟨l⟩⟩ := a
    obtain ⟨⟨r⟩⟩ := b
    have h : l = r := h
    rw [h]
  · rintro rfl
    rfl
theorem seq_self (a : ByteArray) : seq a a = true := seq_iff.2 rfl
theorem sne_not (a b : ByteArray) : sne a b = !seq a b := rfl
/-- what is read is written as it was -/
theorem written_dec {l : List Int} (h : decOkX l = true) (h0 : (decX l).2 = 0) : badX (decX l).1 = false ∧ writtenF (decX l).1 = l := by
  obtain ⟨r0, r1, r2, r3, r4, r5, n1, n2, hc⟩ := dec_facts h
  unfold decX at h0 ⊢
  cases c1 : decide (4096 < l.length) with
  | true => rw [c1] at h0; cases h0
  | false =>
    rw [c1] at h0
    cases c2 : mgD l with
    | true => rw [c2] at h0; cases h0
    | false =>
      rw [c2] at h0
      cases c3 : (d4D l).2.1 || decide (0 < (d4D l).1.length) with
      | true => rw [c3] at h0; cases h0
      | false =>
        rw [c3] at h0
        cases c4 : badX (imD l) with
        | true => rw [c4] at h0; cases h0
        | false =>
          show badX (imD l) = false ∧ writtenF (imD l) = l
          refine ⟨c4, ?_⟩
          simp only [Bool.or_eq_false_iff, decide_eq_false_iff_not] at c3
          obtain ⟨s1, s2, s3⟩ := syms_inv _ r4 c3.1
          obtain ⟨s4, s5⟩ := rnum_inv (d := d2D l) 1 (by omega) r3 s1
          obtain ⟨s6, s7, s8⟩ := secs_inv _ r2 s4
          obtain ⟨s9, s10⟩ := rnum_inv (d := takeN (d0D l) 3) 1 (by omega) r1 s6
          obtain ⟨s11, s12, _⟩ := take_inv (n := 3) (by omega) s9
          have hm : strOf (takeV (d0D l) 3) = ByteArray.mk #[88, 69, 1] := by
            have : sne (strOf (takeV (d0D l) 3)) (ByteArray.mk #[88, 69, 1]) = false := c2
            rw [sne_not] at this
            exact seq_iff.1 (by simpa using this)
          have ht : takeV (d0D l) 3 = [88, 69, 1] := by
            have := congrArg bytesL hm
            rw [bytes_str (take_all (n := 3) r0).1] at this
            exact this
          have e4 : (d4D l).1 = [] := List.eq_nil_of_length_eq_zero (by omega)
          have p1 : 0 ≤ rnumV (takeN (d0D l) 3) 1 := (rnum_ok (c := 1) r1 (by omega)).2.1
          have p2 : 0 ≤ rnumV (d2D l) 1 := (rnum_ok (c := 1) r3 (by omega)).2.1
          have m1 : llen (imD l).1 = rnumV (takeN (d0D l) 3) 1 := by
            show (((secsP (n1D l) (d1D l)).1.length : Nat) : Int) = _
            rw [s8, n1D]
            omega
          have m2 : llen (imD l).2.1 = rnumV (d2D l) 1 := by
            show (((symsP (n2D l) (d3D l)).1.length : Nat) : Int) = _
            rw [s3, n2D]
            omega
          have g1 : (d3D l).1 = (imD l).2.1.flatMap symB ++ [] := s2.trans (congrArg _ e4)
          have g2 : (d2D l).1 = numL (rnumV (d2D l) 1) 1 ++ (d3D l).1 := s5
          have g3 : (d1D l).1 = (imD l).1.flatMap secB ++ (d2D l).1 := s7
          have g4 : (takeN (d0D l) 3).1 = numL (rnumV (takeN (d0D l) 3) 1) 1 ++ (d1D l).1 := s10
          have g5 : l = takeV (d0D l) 3 ++ (takeN (d0D l) 3).1 := s12
          rw [List.append_nil] at g1
          unfold writtenF
          rw [m1, m2]
          conv => rhs; rw [g5, ht, g4, g3, g2, g1]
          simp only [List.append_assoc]
/-! the same as itself -/
theorem ieq_self (a : Int) : ieq a a = true := by simp [ieq]
theorem zipA_self {α : Type} {p : α → α → Bool} (h : ∀ x, p x x = true) : ∀ l : List α, zipA p l l = true
  | [] => rfl
  | a :: l => by
    show (p a a && zipA p l l) = true
    rw [h a, zipA_self h l]
    rfl
theorem sameX_self (x : Image) : sameX x x = true := by
  unfold sameX eqSecs eqSyms eqL
  rw [zipA_self (fun z => by simp [eqSec, eqB, seq_self]), zipA_self (fun z => by simp [eqSym, seq_self, ieq_self])]
  simp
/-! executables of dice -/
theorem wrong_nodup {l L : List ByteArray} (h : l.Sublist L) (h1 : ∀ s ∈ L, namedG s = true) (h2 : L.Pairwise (fun a b => seq a b = false)) : wrongF l = false := by
  have h2 := h2.sublist h
  refine List.any_eq_false.2 fun j hj => ?_
  have hj : j < l.length := by simpa using hj
  simp only [List.getD_eq_getElem?_getD, List.getElem?_eq_getElem hj, Option.getD_some]
  rw [h1 _ (h.subset (List.getElem_mem hj))]
  simp only [Bool.not_true, Bool.false_or, hasS, Bool.not_eq_true, List.any_eq_false]
  intro x hx
  obtain ⟨i, hi, rfl⟩ := List.getElem_of_mem hx
  rw [List.length_take] at hi
  rw [List.getElem_take, seq_comm]
  simpa using List.pairwise_iff_getElem.1 h2 i j (by omega) hj (by omega)
def namS : List ByteArray := [nmS 0, nmS 1, nmS 2, nmS 3]
theorem secs_names : ∀ (n : Nat) (k : Nat) (d : Dice), k + n ≤ 4 → ((secsG n k d).1.map (·.1)).Sublist (namS.drop k)
  | 0, _, _, _ => List.nil_sublist _
  | n + 1, k, d, h => by
    unfold secsG
    cases ilt (k : Int) (dval d 4) with
    | false => exact List.nil_sublist _
    | true =>
      have hk : k < namS.length := by simp [namS]; omega
      rw [List.drop_eq_getElem_cons hk]
      have e : namS[k] = nmS (k : Int) := by
        match k, hk with
        | 0, _ => rfl
        | 1, _ => rfl
        | 2, _ => rfl
        | 3, _ => rfl
      rw [e]
      show (nmS (k : Int) :: ((secsG n (iadd .i64 (k : Int) 1) (secD d).2).1.map (·.1))).Sublist _
      rw [add1 (by omega)]
      exact (secs_names n (k + 1) _ (by omega)).cons_cons _
theorem secs_bytes : ∀ (n : Nat) (i : Int) (d : Dice), ∀ z ∈ (secsG n i d).1, z.2.1.all isB = true ∧ z.2.1.length ≤ 40
  | 0, _, _, z, h => by cases h
  | n + 1, i, d, z, h => by
    unfold secsG at h
    cases hc : ilt i (dval d 4) with
    | false => rw [hc] at h; cases h
    | true =>
      rw [hc] at h
      rcases List.mem_cons.1 h with rfl | h
      · have hb := dval_lt (d := dnext d 4) (n := 40) (by omega)
        refine ⟨?_, ?_⟩
        · show (secD d).1.all isB = true
          unfold secD
          generalize (dval (dnext d 4) 40).toNat = m
          generalize dnext (dnext d 4) 40 = e
          induction m generalizing e with
          | zero => rfl
          | succ m ih =>
            show (isB (icv .u8 (dof e [0, 1, 2, 103, 230, 9])) && (bytsG m (dofN e [0, 1, 2, 103, 230, 9])).1.all isB) = true
            rw [ih, Bool.and_true]
            show decide (0 ≤ IntKind.u8.wrap _ ∧ IntKind.u8.wrap _ ≤ 255) = true
            rw [IntKind.wrap_u8]
            exact decide_eq_true (by omega)
        · show (secD d).1.length ≤ 40
          rw [secD, byts_len]
          omega
      · exact secs_bytes n _ _ z h
theorem secs_lenG : ∀ (n : Nat) (i : Int) (d : Dice), (secsG n i d).1.length ≤ n
  | 0, _, _ => Nat.le_refl _
  | n + 1, i, d => by
    unfold secsG
    cases ilt i (dval d 4) with
    | false => exact Nat.zero_le _
    | true => exact Nat.succ_le_succ (secs_lenG n _ _)
theorem syms_names : ∀ (l : List ByteArray) (d : Dice), ((symsG l d).1.map (·.1)).Sublist l
  | [], _ => List.nil_sublist _
  | s :: l, d => by
    unfold symsG
    cases done d 2 with
    | true => exact (syms_names l _).cons_cons _
    | false => exact (syms_names l _).cons _
theorem syms_vals : ∀ (l : List ByteArray) (d : Dice), ∀ z ∈ (symsG l d).1, 0 ≤ z.2.1 ∧ z.2.1 < 1048576
  | [], _, z, h => by cases h
  | s :: l, d, z, h => by
    unfold symsG at h
    cases hc : done d 2 with
    | false => rw [hc] at h; exact syms_vals l _ z h
    | true =>
      rw [hc] at h
      rcases List.mem_cons.1 h with rfl | h
      · exact dval_lt (by omega)
      · exact syms_vals l _ z h
theorem seq_data (a b : ByteArray) : seq a b = (a.data.toList == b.data.toList) := by simp only [seq, Lib.toList_data]
theorem named_le {s : ByteArray} (h : namedG s = true) : s.size ≤ 32 := by
  simp only [namedG, Bool.and_eq_true, decide_eq_true_eq] at h
  exact h.2.2
theorem namS_ok : (∀ s ∈ namS, namedG s = true) ∧ namS.Pairwise (fun a b => seq a b = false) := by
  simp only [seq_data]
  exact ⟨by decide, by decide⟩
theorem namesG_ok : (∀ s ∈ namesG, namedG s = true) ∧ namesG.Pairwise (fun a b => seq a b = false) := by
  simp only [seq_data]
  exact ⟨by decide, by decide⟩
theorem img_ok (d : Dice) : badX (imgV d) = false := by
  have a1 : (imgV d).1.length ≤ 4 := secs_lenG 4 0 d
  have t1 := secs_names 4 0 d (by omega)
  have t2 := syms_names namesG (secsG 4 0 d).2
  have a2 : (imgV d).2.1.length ≤ 7 := by
    have := t2.length_le
    rw [List.length_map] at this
    exact this
  have w1 : wrongF (namesF (imgV d)).1 = false := wrong_nodup t1 namS_ok.1 namS_ok.2
  have w2 : wrongF (namesF (imgV d)).2 = false := wrong_nodup t2 namesG_ok.1 namesG_ok.2
  have v1 : (imgV d).2.1.any badV = false := List.any_eq_false.2 fun z hz => by
    have := syms_vals namesG (secsG 4 0 d).2 z hz
    simp only [badV, ilt, ige, Bool.or_eq_true, decide_eq_true_eq, not_or]
    omega
  have b1 := flat_bound secB 80 (imgV d).1 fun z hz => by
    have h1 := named_le (namS_ok.1 z.1 (t1.subset (List.mem_map.2 ⟨z, hz, rfl⟩)))
    have h2 := secs_bytes 4 0 d z hz
    rw [secB_len]
    omega
  have b2 := flat_bound symB 40 (imgV d).2.1 fun z hz => by
    have h1 := named_le (namesG_ok.1 z.1 (t2.subset (List.mem_map.2 ⟨z, hz, rfl⟩)))
    rw [symB_len]
    omega
  have hw := written_len (imgV d)
  unfold badX
  rw [w1, w2, v1, decide_eq_false (by omega), decide_eq_false (by omega), decide_eq_false (by omega)]
  rfl
theorem img_chk (d : Dice) : chkOk (imgV d) = true := by
  obtain ⟨h1, h2, h3, h4, h5⟩ := bad_facts (img_ok d)
  have hw := written_len (imgV d)
  simp only [chkOk, wrOk, imgOk, Bool.and_eq_true, decide_eq_true_eq]
  omega
theorem flat_isB {α : Type} {f : α → List Int} {l : List α} (h : ∀ x ∈ l, (f x).all isB = true) : (l.flatMap f).all isB = true := by
  rw [List.all_eq_true]
  intro b hb
  obtain ⟨x, hx, hbx⟩ := List.mem_flatMap.1 hb
  exact List.all_eq_true.1 (h x hx) b hbx
theorem img_dec (d : Dice) : decOkX (writtenF (imgV d)) = true := by
  obtain ⟨h1, h2, h3, h4, h5⟩ := bad_facts (img_ok d)
  have c1 : ((imgV d).1.flatMap secB).all isB = true := flat_isB fun z hz => by
    simp only [secB, List.all_append, Bool.and_eq_true]
    exact ⟨numL_isB z.1.size 1 (by omega), bytesL_isB _, numL_isB z.2.1.length 2 (by omega), (secs_bytes 4 0 d z hz).1⟩
  have c2 : ((imgV d).2.1.flatMap symB).all isB = true := flat_isB fun z hz => by
    obtain ⟨n, hn⟩ := Int.eq_ofNat_of_zero_le (h4 z hz).2.1
    simp only [symB, List.all_append, Bool.and_eq_true, hn]
    exact ⟨numL_isB z.1.size 1 (by omega), bytesL_isB _, numL_isB n 4 (by omega)⟩
  simp only [decOkX, writtenF, List.all_append, Bool.and_eq_true, decide_eq_true_eq]
  refine ⟨⟨⟨⟨⟨rfl, numL_isB (imgV d).1.length 1 (by omega)⟩, c1⟩, numL_isB (imgV d).2.1.length 1 (by omega)⟩, c2⟩, ?_⟩
  exact decide_eq_true (show (writtenF (imgV d)).length ≤ 100000 from by omega)
end
end Go.Proofs.Ythdichlainehpaa.K
