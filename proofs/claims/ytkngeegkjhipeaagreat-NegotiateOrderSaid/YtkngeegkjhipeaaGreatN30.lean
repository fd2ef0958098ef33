import Derived.Test.YtkngeegkjhipeaaGreatN29
set_option linter.unusedSimpArgs false
set_option linter.unusedVariables false
namespace Go.Proofs.YtkngeegkjhipeaaGreat.K
open Go.RowKit
noncomputable section
theorem QnZ {d : Dice} {i s : ByteArray} {k : Keep} {id g : Int} {a : Bool} (hi : i.size ≤ 1000) (hs : s.size ≤ 1000) : QaA (cerV d i s k id g a) = true := by
 unfold cerV signC
 cases Qml (cRaw d i s k id a) g with
 | true => rfl
 | false =>
  rw [cond_false]
  have : QaA (cRaw d i s k id a) = true := by
   refine Qg2 hi hs ?_ ?_
   ·unfold cNm
    cases done (cD5 d a) 3 <;> simp
   ·intro t ht
    unfold cNm at ht
    cases hd : done (cD5 d a) 3 with
    | true =>
     rw [hd] at ht
     simp only [cond_true, List.mem_cons, List.not_mem_nil, or_false] at ht
     rcases ht with rfl | rfl
     ·omega
     ·rw [Qr2]; show s.size + 1 ≤ _; omega
    | false =>
     rw [hd] at ht
     simp only [cond_false, List.mem_cons, List.not_mem_nil, or_false] at ht
     subst ht
     omega
  exact this
theorem QtK : ∀ (m i : Nat) (u : Up), u.2.2.1.size ≤ 1000 → u.1.all QaA = true → (abvZ m i u).1.all QaA = true ∧ (abvZ m i u).2.2.1.size ≤ 1000
 | 0, _, u, h, h2 => ⟨h2, h⟩
 | m + 1, i, (ab, d, iss, g), h, h2 => by
  have hs := QoU i
  refine QtK m (i + 1) _ (show (sSubs.getD i ByteArray.empty).size ≤ 1000 by omega) ?_
  rw [List.all_cons, QnZ h (by omega)]
  exact h2
theorem QGy {d : Dice} {nm : ByteArray} {k : Keep} {id : Int} (hn : nm.size ≤ 1000) (hd : dOk d = true) : QaJ (chnV d nm k id) = true := by
 have hu0 : upOk ([], dnext (dofN d [1, 0, 2]) 2, sRoot, 1 + dval (dofN d [1, 0, 2]) 2) = true := Bool.and_eq_true_iff.2 ⟨Qat (n := 2) (QaX (l := [1, 0, 2]) hd), rfl⟩
 have hm := Qby (d := d) (l := [1, 0, 2]) (by decide)
 simp only [List.mem_cons, List.not_mem_nil, or_false] at hm
 obtain ⟨h1, h2⟩ := QtK (dof d [1, 0, 2]).toNat 0 ([], dnext (dofN d [1, 0, 2]) 2, sRoot, 1 + dval (dofN d [1, 0, 2]) 2) (show sRoot.size ≤ 1000 by decide) rfl
 have hl := (QtJ (dof d [1, 0, 2]).toNat 0 _ hu0).2
 simp only [List.length_nil] at hl
 have hl2 : (chU d).1.length ≤ 3 := by
  unfold chU
  omega
 unfold chnV
 simp only [QaJ, Bool.and_eq_true, List.all_cons, List.length_cons, decide_eq_true_eq]
 exact ⟨by omega, QnZ h2 hn, h1⟩
theorem id_len {d : Dice} {nm : ByteArray} (hn : nm.size ≤ 1000) (hd : dOk d = true) : idLen (idV d nm) = true := by
 show QaJ (iCh d nm) = true
 unfold iCh
 cases !done (iD4 d) 9
 ·rfl
 ·exact QGy hn (Qat (n := 9) (Qat (n := 20) (QGu hd)))
theorem QFr : ∀ (n : Nat) (nm : ByteArray) (d : Dice), nm.size ≤ 1000 → dOk d = true → (idsZ n nm d).1.all idLen = true
 | 0, _, _, _, _ => rfl
 | n + 1, nm, d, hn, hd => by
  simp only [idsZ, List.all_cons, Bool.and_eq_true]
  exact ⟨id_len hn hd, QFr n nm _ hn (Qyo hd)⟩
theorem QJL {d : Dice} {nm : ByteArray} (hn : nm.size ≤ 1000) (hd : dOk d = true) : (eIdz d nm).1.all idLen = true ∧ (eIdz d nm).1.length ≤ 3 := by
 have k4 := Qat (n := 2) (Qat (n := 2) (QqR (QaX (l := [1, 1, 2, 3]) hd)))
 have k6 := Qat (n := 3) (Qat (n := 5 - eL0 d) k4)
 have k7 : dOk (eD7 d) = true := by
  unfold eD7
  cases eB d
  ·exact k6
  ·exact QaX (l := [3, 4, 2]) k6
 have k8 := QaX (l := [1, 2, 1, 3, 0]) k7
 have m7 := Qby (d := eD7 d) (l := [1, 2, 1, 3, 0]) (by decide)
 simp only [List.mem_cons, List.not_mem_nil, or_false] at m7
 refine ⟨QFr _ _ _ hn k8, ?_⟩
 have := (QxD (dof (eD7 d) [1, 2, 1, 3, 0]).toNat nm (eD8 d) k8).2
 unfold eIdz
 omega
theorem QFa {l : List (List Int)} (h : ∀ x ∈ l, x.length ≤ 4) (k : Nat) : (lgt (.sl tI) l k).length ≤ 4 := by
 show (l.getD k []).length ≤ 4
 rw [List.getD_eq_getElem?_getD]
 cases hk : l[k]? with
 | none => exact Nat.zero_le _
 | some x => exact h x (List.mem_of_getElem? hk)
theorem QNP (d : Dice) (nm : ByteArray) : (eAnch (epV d nm)).length ≤ 4 := QFa (by simp) _
theorem QNu (d : Dice) (nm : ByteArray) : (eHash (epV d nm)).length ≤ 4 := QFa (by simp) _
theorem QFM {e : Qad} (h1 : e.1.size ≤ 1000) (h2 : (Qak e).length ≤ 1000) (h3 : (eIds e).length ≤ 1000) (h4 : (eAnch e).length ≤ 1000) (h5 : (eHash e).length ≤ 1000) (h6 : (eIds e).all idLen = true) : Qa2 e = true := by
 simp only [Qa2, Bool.and_eq_true, decide_eq_true_eq]
 exact ⟨⟨decide_eq_true (by omega), by omega, by omega, by omega, by omega⟩, h6⟩
theorem Qp8 : ∀ (c s : List Int) (d : Dice), (prZ c s d).1.length ≤ s.length + c.length
 | [], s, d => Nat.le_refl _
 | x :: r, s, d => by
  unfold prZ
  have h1 := Qp8 r s d
  have h2 := Qp8 r (s ++ [x]) (dnext d 2)
  have h3 := Qp8 r s (dnext d 2)
  simp only [List.length_append, List.length_cons, List.length_nil] at h2 ⊢
  split
  ·split
   ·omega
   ·split <;> omega
  ·show s.length ≤ _
   omega
theorem QFK {d : Dice} {nm : ByteArray} (hn : nm.size ≤ 1000) (hd : dOk d = true) : (eIds (epV d nm)).all idLen = true ∧ (eIds (epV d nm)).length ≤ 3 := QJL hn hd
theorem QqM (d : Dice) (nm : ByteArray) : (epV d nm).1 = nm := rfl
theorem QGM {b : Bool} {x y : List Int} (hx : x.length ≤ 4) (hy : y.length ≤ 4) : (bif b then x else y).length ≤ 4 := by
 cases b
 ·exact hy
 ·exact hx
theorem bif_p {b : Bool} {x y : List Int × Dice} {n : Nat} (hx : x.1.length ≤ n) (hy : y.1.length ≤ n) : (bif b then x else y).1.length ≤ n := by
 cases b
 ·exact hy
 ·exact hx
attribute [local irreducible] epV epN prZ
theorem QOa (d : Dice) : (pAn d).length ≤ 4 := QGM (by decide) (QNP d sApp)
theorem QN9 (d : Dice) : (pHs d).length ≤ 4 := QGM (by decide) (QNu d sApp)
end
end Go.Proofs.YtkngeegkjhipeaaGreat.K
