import Derived.Test.YtkngeegkjhipeaaGreatN29
set_option linter.unusedSimpArgs false
set_option linter.unusedVariables false
namespace Go.Proofs.YtkngeegkjhipeaaGreat.K
open Go.RowKit
noncomputable section
theorem QnJ {d : Dice} {i s : ByteArray} {k : Keep} {id g : Int} {a : Bool} (hi : i.size ≤ 1000) (hs : s.size ≤ 1000) : QaB (cerV d i s k id g a) = true := by
 unfold cerV signC
 cases Qmc (cRaw d i s k id a) g with
 | true => rfl
 | false =>
  rw [cond_false]
  have : QaB (cRaw d i s k id a) = true := by
   refine Qg1 hi hs ?_ ?_
   ·unfold cNm
    cases done (cD5 d a) 3 <;> simp
   ·intro t ht
    unfold cNm at ht
    cases hd : done (cD5 d a) 3 with
    | true =>
     rw [hd] at ht
     simp only [cond_true, List.mem_cons, List.not_mem_nil, or_false] at ht
     rcases ht with rfl | rfl
     ·omega
     ·rw [QrK]; show s.size + 1 ≤ _; omega
    | false =>
     rw [hd] at ht
     simp only [cond_false, List.mem_cons, List.not_mem_nil, or_false] at ht
     subst ht
     omega
  exact this
theorem Qtj : ∀ (m i : Nat) (u : Up), u.2.2.1.size ≤ 1000 → u.1.all QaB = true → (abvZ m i u).1.all QaB = true ∧ (abvZ m i u).2.2.1.size ≤ 1000
 | 0, _, u, h, h2 => ⟨h2, h⟩
 | m + 1, i, (ab, d, iss, g), h, h2 => by
  have hs := QoD i
  refine Qtj m (i + 1) _ (show (sSubs.getD i ByteArray.empty).size ≤ 1000 by omega) ?_
  rw [List.all_cons, QnJ h (by omega)]
  exact h2
theorem QFR {d : Dice} {nm : ByteArray} {k : Keep} {id : Int} (hn : nm.size ≤ 1000) (hd : dOk d = true) : QaJ (chnV d nm k id) = true := by
 have hu0 : upOk ([], dnext (dofN d [1, 0, 2]) 2, sRoot, 1 + dval (dofN d [1, 0, 2]) 2) = true := Bool.and_eq_true_iff.2 ⟨Qat (n := 2) (QaZ (l := [1, 0, 2]) hd), rfl⟩
 have hm := Qbx (d := d) (l := [1, 0, 2]) (by decide)
 simp only [List.mem_cons, List.not_mem_nil, or_false] at hm
 obtain ⟨h1, h2⟩ := Qtj (dof d [1, 0, 2]).toNat 0 ([], dnext (dofN d [1, 0, 2]) 2, sRoot, 1 + dval (dofN d [1, 0, 2]) 2) (show sRoot.size ≤ 1000 by decide) rfl
 have hl := (Qti (dof d [1, 0, 2]).toNat 0 _ hu0).2
 simp only [List.length_nil] at hl
 have hl2 : (chU d).1.length ≤ 3 := by
  unfold chU
  omega
 unfold chnV
 simp only [QaJ, Bool.and_eq_true, List.all_cons, List.length_cons, decide_eq_true_eq]
 exact ⟨by omega, QnJ h2 hn, h1⟩
theorem id_len {d : Dice} {nm : ByteArray} (hn : nm.size ≤ 1000) (hd : dOk d = true) : idLen (idV d nm) = true := by
 show QaJ (iCh d nm) = true
 unfold iCh
 cases !done (iD4 d) 9
 ·rfl
 ·exact QFR hn (Qat (n := 9) (Qat (n := 20) (QFM hd)))
theorem QEJ : ∀ (n : Nat) (nm : ByteArray) (d : Dice), nm.size ≤ 1000 → dOk d = true → (idsZ n nm d).1.all idLen = true
 | 0, _, _, _, _ => rfl
 | n + 1, nm, d, hn, hd => by
  simp only [idsZ, List.all_cons, Bool.and_eq_true]
  exact ⟨id_len hn hd, QEJ n nm _ hn (QxL hd)⟩
theorem QI6 {d : Dice} {nm : ByteArray} (hn : nm.size ≤ 1000) (hd : dOk d = true) : (eIdz d nm).1.all idLen = true ∧ (eIdz d nm).1.length ≤ 3 := by
 have k4 := Qat (n := 2) (Qat (n := 2) (Qqz (QaZ (l := [1, 1, 2, 3]) hd)))
 have k6 := Qat (n := 3) (Qat (n := 5 - eL0 d) k4)
 have k7 : dOk (eD7 d) = true := by
  unfold eD7
  cases eB d
  ·exact k6
  ·exact QaZ (l := [3, 4, 2]) k6
 have k8 := QaZ (l := [1, 2, 1, 3, 0]) k7
 have m7 := Qbx (d := eD7 d) (l := [1, 2, 1, 3, 0]) (by decide)
 simp only [List.mem_cons, List.not_mem_nil, or_false] at m7
 refine ⟨QEJ _ _ _ hn k8, ?_⟩
 have := (QwZ (dof (eD7 d) [1, 2, 1, 3, 0]).toNat nm (eD8 d) k8).2
 unfold eIdz
 omega
theorem QEt {l : List (List Int)} (h : ∀ x ∈ l, x.length ≤ 4) (k : Nat) : (lgt (.sl tI) l k).length ≤ 4 := by
 show (l.getD k []).length ≤ 4
 rw [List.getD_eq_getElem?_getD]
 cases hk : l[k]? with
 | none => exact Nat.zero_le _
 | some x => exact h x (List.mem_of_getElem? hk)
theorem QM2 (d : Dice) (nm : ByteArray) : (eAnch (epV d nm)).length ≤ 4 := QEt (by simp) _
theorem QMJ (d : Dice) (nm : ByteArray) : (eHash (epV d nm)).length ≤ 4 := QEt (by simp) _
theorem QE5 {e : Qad} (h1 : e.1.size ≤ 1000) (h2 : (Qao e).length ≤ 1000) (h3 : (eIds e).length ≤ 1000) (h4 : (eAnch e).length ≤ 1000) (h5 : (eHash e).length ≤ 1000) (h6 : (eIds e).all idLen = true) : Qbw e = true := by
 simp only [Qbw, Bool.and_eq_true, decide_eq_true_eq]
 exact ⟨⟨decide_eq_true (by omega), by omega, by omega, by omega, by omega⟩, h6⟩
theorem QpO : ∀ (c s : List Int) (d : Dice), (prZ c s d).1.length ≤ s.length + c.length
 | [], s, d => Nat.le_refl _
 | x :: r, s, d => by
  unfold prZ
  have h1 := QpO r s d
  have h2 := QpO r (s ++ [x]) (dnext d 2)
  have h3 := QpO r s (dnext d 2)
  simp only [List.length_append, List.length_cons, List.length_nil] at h2 ⊢
  split
  ·split
   ·omega
   ·split <;> omega
  ·show s.length ≤ _
   omega
theorem QE3 {d : Dice} {nm : ByteArray} (hn : nm.size ≤ 1000) (hd : dOk d = true) : (eIds (epV d nm)).all idLen = true ∧ (eIds (epV d nm)).length ≤ 3 := QI6 hn hd
theorem Qqu (d : Dice) (nm : ByteArray) : (epV d nm).1 = nm := rfl
theorem QF5 {b : Bool} {x y : List Int} (hx : x.length ≤ 4) (hy : y.length ≤ 4) : (bif b then x else y).length ≤ 4 := by
 cases b
 ·exact hy
 ·exact hx
theorem bif_p {b : Bool} {x y : List Int × Dice} {n : Nat} (hx : x.1.length ≤ n) (hy : y.1.length ≤ n) : (bif b then x else y).1.length ≤ n := by
 cases b
 ·exact hy
 ·exact hx
attribute [local irreducible] epV epN prZ
theorem QNn (d : Dice) : (pAn d).length ≤ 4 := QF5 (by decide) (QM2 d sApp)
theorem QNm (d : Dice) : (pHs d).length ≤ 4 := QF5 (by decide) (QMJ d sApp)
end
end Go.Proofs.YtkngeegkjhipeaaGreat.K
