/-
  Plain laws: what is read is written as it was; executables of dice are without fault.
-/
import Derived.Test.YtdbaaejiolibfaaG8
set_option linter.unusedSimpArgs false
set_option linter.unusedVariables false
namespace Go.Proofs.Ytdbaaejiolibfaa.K
open Go.RowKit Go.Shelf
noncomputable section
theorem seq_iff {a b : ByteArray} : seq a b = true ↔ a = b := by
  simp only [seq, beq_iff_eq, Lib.toList_data]
  constructor
  · intro h
    obtain ⟨⟨l⟩⟩ := a
    obtain ⟨⟨r⟩⟩ := b
    have h : l = r := h
    rw [h]
  · rintro rfl
    rfl
theorem seq_self (a : ByteArray) : seq a a = true := seq_iff.2 rfl
theorem sne_not (a b : ByteArray) : sne a b = !seq a b := rfl
/-! the same as itself -/
theorem ieq_self (a : Int) : ieq a a = true := by simp [ieq]
theorem zipA_self {α : Type} {p : α → α → Bool} (h : ∀ x, p x x = true) : ∀ l : List α, zipA p l l = true
  | [] => rfl
  | a :: l => by
    show (p a a && zipA p l l) = true
    rw [h a, zipA_self h l]
    rfl
theorem sameX_self (x : Image) : sameX x x = true := by
  unfold sameX eqSecs eqSyms eqL
  rw [zipA_self (fun z => by simp [eqSec, eqB, seq_self]), zipA_self (fun z => by simp [eqSym, seq_self, ieq_self])]
  simp
/-! executables of dice -/
theorem wrong_nodup {l L : List ByteArray} (h : l.Sublist L) (h1 : ∀ s ∈ L, namedG s = true) (h2 : L.Pairwise (fun a b => seq a b = false)) : wrongF l = false := by
  have h2 := h2.sublist h
  refine List.any_eq_false.2 fun j hj => ?_
  have hj : j < l.length := by simpa using hj
  simp only [List.getD_eq_getElem?_getD, List.getElem?_eq_getElem hj, Option.getD_some]
  rw [h1 _ (h.subset (List.getElem_mem hj))]
  simp only [Bool.not_true, Bool.false_or, hasS, Bool.not_eq_true, List.any_eq_false]
  intro x hx
  obtain ⟨i, hi, rfl⟩ := List.getElem_of_mem hx
  rw [List.length_take] at hi
  rw [List.getElem_take, seq_comm]
  simpa using List.pairwise_iff_getElem.1 h2 i j (by omega) hj (by omega)
def namS : List ByteArray := [nmS 0, nmS 1, nmS 2, nmS 3]
theorem secs_names : ∀ (n : Nat) (k : Nat) (d : Dice), k + n ≤ 4 → ((secsG n k d).1.map (·.1)).Sublist (namS.drop k)
  | 0, _, _, _ => List.nil_sublist _
  | n + 1, k, d, h => by
    unfold secsG
    cases ilt (k : Int) (dval d 4) with
    | false => exact List.nil_sublist _
    | true =>
      have hk : k < namS.length := by simp [namS]; omega
      rw [List.drop_eq_getElem_cons hk]
      have e : namS[k] = nmS (k : Int) := by
        match k, hk with
        | 0, _ => rfl
        | 1, _ => rfl
        | 2, _ => rfl
        | 3, _ => rfl
      rw [e]
      show (nmS (k : Int) :: ((secsG n (iadd .i64 (k : Int) 1) (secD d).2).1.map (·.1))).Sublist _
      rw [add1 (by omega)]
      exact (secs_names n (k + 1) _ (by omega)).cons_cons _
theorem secs_bytes : ∀ (n : Nat) (i : Int) (d : Dice), ∀ z ∈ (secsG n i d).1, z.2.1.all isB = true ∧ z.2.1.length ≤ 40
  | 0, _, _, z, h => by cases h
  | n + 1, i, d, z, h => by
    unfold secsG at h
    cases hc : ilt i (dval d 4) with
    | false => rw [hc] at h; cases h
    | true =>
      rw [hc] at h
      rcases List.mem_cons.1 h with rfl | h
      · have hb := dval_lt (d := dnext d 4) (n := 40) (by omega)
        refine ⟨?_, ?_⟩
        · show (secD d).1.all isB = true
          unfold secD
          generalize (dval (dnext d 4) 40).toNat = m
          generalize dnext (dnext d 4) 40 = e
          induction m generalizing e with
          | zero => rfl
          | succ m ih =>
            show (isB (icv .u8 (dof e [0, 1, 2, 103, 230, 9])) && (bytsG m (dofN e [0, 1, 2, 103, 230, 9])).1.all isB) = true
            rw [ih, Bool.and_true]
            show decide (0 ≤ IntKind.u8.wrap _ ∧ IntKind.u8.wrap _ ≤ 255) = true
            rw [IntKind.wrap_u8]
            exact decide_eq_true (by omega)
        · show (secD d).1.length ≤ 40
          rw [secD, byts_len]
          omega
      · exact secs_bytes n _ _ z h
theorem secs_lenG : ∀ (n : Nat) (i : Int) (d : Dice), (secsG n i d).1.length ≤ n
  | 0, _, _ => Nat.le_refl _
  | n + 1, i, d => by
    unfold secsG
    cases ilt i (dval d 4) with
    | false => exact Nat.zero_le _
    | true => exact Nat.succ_le_succ (secs_lenG n _ _)
theorem syms_names : ∀ (l : List ByteArray) (d : Dice), ((symsG l d).1.map (·.1)).Sublist l
  | [], _ => List.nil_sublist _
  | s :: l, d => by
    unfold symsG
    cases done d 2 with
    | true => exact (syms_names l _).cons_cons _
    | false => exact (syms_names l _).cons _
theorem syms_vals : ∀ (l : List ByteArray) (d : Dice), ∀ z ∈ (symsG l d).1, 0 ≤ z.2.1 ∧ z.2.1 < 1048576
  | [], _, z, h => by cases h
  | s :: l, d, z, h => by
    unfold symsG at h
    cases hc : done d 2 with
    | false => rw [hc] at h; exact syms_vals l _ z h
    | true =>
      rw [hc] at h
      rcases List.mem_cons.1 h with rfl | h
      · exact dval_lt (by omega)
      · exact syms_vals l _ z h
theorem seq_data (a b : ByteArray) : seq a b = (a.data.toList == b.data.toList) := by simp only [seq, Lib.toList_data]
theorem named_le {s : ByteArray} (h : namedG s = true) : s.size ≤ 32 := by
  simp only [namedG, Bool.and_eq_true, decide_eq_true_eq] at h
  exact h.2.2
theorem namS_ok : (∀ s ∈ namS, namedG s = true) ∧ namS.Pairwise (fun a b => seq a b = false) := by
  simp only [seq_data]
  exact ⟨by decide, by decide⟩
theorem namesG_ok : (∀ s ∈ namesG, namedG s = true) ∧ namesG.Pairwise (fun a b => seq a b = false) := by
  simp only [seq_data]
  exact ⟨by decide, by decide⟩
theorem img_ok (d : Dice) : badX (imgV d) = false := by
  have a1 : (imgV d).1.length ≤ 4 := secs_lenG 4 0 d
  have t1 := secs_names 4 0 d (by omega)
  have t2 := syms_names namesG (secsG 4 0 d).2
  have a2 : (imgV d).2.1.length ≤ 7 := by
    have := t2.length_le
    rw [List.length_map] at this
    exact this
  have w1 : wrongF (namesF (imgV d)).1 = false := wrong_nodup t1 namS_ok.1 namS_ok.2
  have w2 : wrongF (namesF (imgV d)).2 = false := wrong_nodup t2 namesG_ok.1 namesG_ok.2
  have v1 : (imgV d).2.1.any badV = false := List.any_eq_false.2 fun z hz => by
    have := syms_vals namesG (secsG 4 0 d).2 z hz
    simp only [badV, ilt, ige, Bool.or_eq_true, decide_eq_true_eq, not_or]
    omega
  have b1 := flat_bound secB 80 (imgV d).1 fun z hz => by
    have h1 := named_le (namS_ok.1 z.1 (t1.subset (List.mem_map.2 ⟨z, hz, rfl⟩)))
    have h2 := secs_bytes 4 0 d z hz
    rw [secB_len]
    omega
  have b2 := flat_bound symB 40 (imgV d).2.1 fun z hz => by
    have h1 := named_le (namesG_ok.1 z.1 (t2.subset (List.mem_map.2 ⟨z, hz, rfl⟩)))
    rw [symB_len]
    omega
  have hw := written_len (imgV d)
  unfold badX
  rw [w1, w2, v1, decide_eq_false (by omega), decide_eq_false (by omega), decide_eq_false (by omega)]
  rfl
theorem img_chk (d : Dice) : chkOk (imgV d) = true := by
  obtain ⟨h1, h2, h3, h4, h5⟩ := bad_facts (img_ok d)
  have hw := written_len (imgV d)
  simp only [chkOk, wrOk, imgOk, Bool.and_eq_true, decide_eq_true_eq]
  omega
theorem flat_isB {α : Type} {f : α → List Int} {l : List α} (h : ∀ x ∈ l, (f x).all isB = true) : (l.flatMap f).all isB = true := by
  rw [List.all_eq_true]
  intro b hb
  obtain ⟨x, hx, hbx⟩ := List.mem_flatMap.1 hb
  exact List.all_eq_true.1 (h x hx) b hbx
theorem img_dec (d : Dice) : decOkX (writtenF (imgV d)) = true := by
  obtain ⟨h1, h2, h3, h4, h5⟩ := bad_facts (img_ok d)
  have c1 : ((imgV d).1.flatMap secB).all isB = true := flat_isB fun z hz => by
    simp only [secB, List.all_append, Bool.and_eq_true]
    exact ⟨numL_isB z.1.size 1 (by omega), bytesL_isB _, numL_isB z.2.1.length 2 (by omega), (secs_bytes 4 0 d z hz).1⟩
  have c2 : ((imgV d).2.1.flatMap symB).all isB = true := flat_isB fun z hz => by
    obtain ⟨n, hn⟩ := Int.eq_ofNat_of_zero_le (h4 z hz).2.1
    simp only [symB, List.all_append, Bool.and_eq_true, hn]
    exact ⟨numL_isB z.1.size 1 (by omega), bytesL_isB _, numL_isB n 4 (by omega)⟩
  simp only [decOkX, writtenF, List.all_append, Bool.and_eq_true, decide_eq_true_eq]
  refine ⟨⟨⟨⟨⟨rfl, numL_isB (imgV d).1.length 1 (by omega)⟩, c1⟩, numL_isB (imgV d).2.1.length 1 (by omega)⟩, c2⟩, ?_⟩
  exact decide_eq_true (show (writtenF (imgV d)).length ≤ 100000 from by omega)
end
end Go.Proofs.Ytdbaaejiolibfaa.K
