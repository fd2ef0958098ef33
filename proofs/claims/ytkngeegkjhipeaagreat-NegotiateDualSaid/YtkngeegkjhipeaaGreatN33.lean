import Derived.Test.YtkngeegkjhipeaaGreatN31
set_option linter.unusedSimpArgs false
set_option linter.unusedVariables false
namespace Go.Proofs.YtkngeegkjhipeaaGreat.K
open Go.RowKit
noncomputable section
theorem Qub (s x : Int) : 0 ≤ stepS s x ∧ stepS s x < 4294967296 := by
 unfold stepS imul
 rw [IntKind.wrap_u32]
 omega
theorem Qn6 : ∀ (b : List Int) (s : Int), (0 ≤ s ∧ s < 4294967296) → 0 ≤ b.foldl stepS s ∧ b.foldl stepS s < 4294967296
 | [], _, h => h
 | x :: r, s, _ => Qn6 r (stepS s x) (Qub s x)
theorem Qyn (b : List Int) : 0 ≤ sumB b ∧ sumB b < 4294967296 := by
 have h := Qn6 b 2166136261 (by omega)
 unfold sumB
 rw [show icv .i64 (b.foldl stepS 2166136261) = b.foldl stepS 2166136261 from Go.IntWalk.i64_in _ (by omega)]
 exact h
theorem QM8 (b : List Int) : sumI (sumB b) = true := by
 have h := Qyn b
 simp only [sumI, Bool.and_eq_true, Bool.not_eq_true', ilt, ige, decide_eq_false_iff_not]
 omega
theorem Qvw {n : Int} (h : 0 ≤ n ∧ n ≤ 2147483648) : keyI n = true := by
 simp only [keyI, Bool.and_eq_true, Bool.not_eq_true', ilt, igt, decide_eq_false_iff_not]
 omega
def subOk (s : ByteArray) : Bool := QaV s && QdB [s] && QdB [s, scat s (ByteArray.mk #[120])]
theorem Qyq : ∀ i, i < 3 → subOk (sSubs.getD i ByteArray.empty) = true := by
 intro i hi
 have : i = 0 ∨ i = 1 ∨ i = 2 := by omega
 rcases this with rfl | rfl | rfl
 ·show subOk (ByteArray.mk #[99, 97]) = true
  kernel_rfl
 ·show subOk (ByteArray.mk #[99, 98]) = true
  kernel_rfl
 ·show subOk (ByteArray.mk #[99, 99]) = true
  kernel_rfl
theorem QqS : subOk sApp = true := by kernel_rfl
theorem QAm : subOk sWeb = true := by kernel_rfl
theorem QyC : QaV sRoot = true := by kernel_rfl
theorem QPz (d : Dice) : kindU (dof d [3, 2, 4, 1], (0, ())) 1 = true := by
 have h1 : kindU (1, (0, ())) 1 = true := by kernel_rfl
 have h2 : kindU (2, (0, ())) 1 = true := by kernel_rfl
 have h3 : kindU (3, (0, ())) 1 = true := by kernel_rfl
 have h4 : kindU (4, (0, ())) 1 = true := by kernel_rfl
 have hm := Qbx (d := d) (l := [3, 2, 4, 1]) (by decide)
 simp only [List.mem_cons, List.not_mem_nil, or_false] at hm
 rcases hm with h | h | h | h
 ·rw [h]; exact h3
 ·rw [h]; exact h2
 ·rw [h]; exact h4
 ·rw [h]; exact h1
theorem Qr1 {d : Dice} {i s : ByteArray} {k : Keep} {id : Int} {a : Bool} {q : Keep} (hi : QaV i = true) (hs : subOk s = true) (hk : kindU k 2 = true) (hd : keyI id = true) (hq : keyI q.1 = true) (hq2 : sumI q.2.1 = true) : QaC (sealC (cRaw d i s k id a) q) = true := by
 simp only [subOk, Bool.and_eq_true] at hs
 have b1 := QbF (d := d) (n := 1000) (by omega)
 have m1 := Qbx (d := cD2 d) (l := [0, 5, 10]) (by decide)
 have m2 := Qbx (d := cD3 d) (l := [1000, 100, 50, 20]) (by decide)
 have m3 := Qbx (d := cD4 d) (l := [3, 0, 1]) (by decide)
 simp only [List.mem_cons, List.not_mem_nil, or_false] at m1 m2 m3
 have hp : 0 ≤ cPath d a ∧ cPath d a ≤ 8 ∧ (a = false → cPath d a = 0) := by
  unfold cPath
  cases a
  ·exact ⟨Int.le_refl 0, show (0 : Int) ≤ 8 by decide, fun _ => rfl⟩
  ·exact ⟨by show 0 ≤ dof _ _; omega, by show dof _ _ ≤ 8; omega, fun h => by cases h⟩
 have hn : QdB (cNm d a s) = true := by
  unfold cNm
  cases done (cD5 d a) 3
  ·exact hs.1.2
  ·exact hs.2
 have h1 : ilt (dval d 1000) 0 = false := decide_eq_false (by omega)
 have h2 : igt (dval d 1000) 1099511627776 = false := decide_eq_false (by omega)
 have h3 : ilt (dof (cD2 d) [0, 5, 10]) 0 = false := decide_eq_false (by omega)
 have h4 : igt (dof (cD2 d) [0, 5, 10]) (dof (cD3 d) [1000, 100, 50, 20]) = false := decide_eq_false (by omega)
 have h5 : igt (dof (cD3 d) [1000, 100, 50, 20]) 40000 = false := decide_eq_false (by omega)
 have h6 : ilt (cPath d a) 0 = false := decide_eq_false (by omega)
 have h7 : igt (cPath d a) 8 = false := decide_eq_false (by omega)
 have h8 : (a || ieq (cPath d a) 0) = true := by
  cases a
  ·rw [hp.2.2 rfl]; rfl
  ·rfl
 show (!ilt (dval d 1000) 0 && (!igt (dval d 1000) 1099511627776 && (QaV i && (QaV s && (QdB (cNm d a s) && (kindU k 2 && (keyI id && (kindU (dof (cD1 d) [3, 2, 4, 1], (0, ())) 1 && (keyI q.1 && (sumI q.2.1 && (!ilt (dof (cD2 d) [0, 5, 10]) 0 && (!igt (dof (cD2 d) [0, 5, 10]) (dof (cD3 d) [1000, 100, 50, 20]) && (!igt (dof (cD3 d) [1000, 100, 50, 20]) 40000 && (!ilt (cPath d a) 0 && (!igt (cPath d a) 8 && (a || ieq (cPath d a) 0)))))))))))))))) = true
 rw [h1, h2, h3, h4, h5, h6, h7, h8, hi, hs.1.1, hn, hk, hd, QPz, hq, hq2]
 rfl
theorem Qtd {d : Dice} {i s : ByteArray} {k : Keep} {id g : Int} {a : Bool} (hi : QaV i = true) (hs : subOk s = true) (hk : kindU k 2 = true) (hd : keyI id = true) (hg : keyI g = true) : cerV d i s k id g a = sealC (cRaw d i s k id a) (g, (sumB (Qbg (unsC (cRaw d i s k id a))).1, ())) ∧ QaC (cerV d i s k id g a) = true := by
 have hb : Qmc (cRaw d i s k id a) g = false := by
  unfold Qmc unsC
  rw [Qr1 hi hs hk hd rfl rfl, Bool.not_true, Bool.false_or]
  simp only [keyI, Bool.and_eq_true, Bool.not_eq_true'] at hg
  rw [hg.1, hg.2]
  rfl
 have he : cerV d i s k id g a = sealC (cRaw d i s k id a) (g, (sumB (Qbg (unsC (cRaw d i s k id a))).1, ())) := by
  unfold cerV signC
  rw [hb]
  rfl
 exact ⟨he, by rw [he]; exact Qr1 hi hs hk hd hg (QM8 _)⟩
theorem QNg : kindU (5, (2048, ())) 2 = true := by kernel_rfl
theorem Qth : ∀ (m i : Nat) (u : Up), i + m ≤ 3 → QaV u.2.2.1 = true → keyI u.2.2.2 = true → u.1.all QaC = true → (abvZ m i u).1.all QaC = true ∧ QaV (abvZ m i u).2.2.1 = true ∧ keyI (abvZ m i u).2.2.2 = true
 | 0, _, u, _, h, h1, h2 => ⟨h2, h, h1⟩
 | m + 1, i, (ab, d, iss, g), hm, h, h1, h2 => by
  have hs := Qyq i (by omega)
  have hn : QaV (sSubs.getD i ByteArray.empty) = true := by
   simp only [subOk, Bool.and_eq_true] at hs
   exact hs.1.1
  have hk : keyI ((11 + i : Nat) : Int) = true := Qvw (by omega)
  refine Qth m (i + 1) _ (by omega) hn hk ?_
  rw [List.all_cons, (Qtd h hs QNg hk h1).2]
  exact h2
theorem QFQ {d : Dice} {nm : ByteArray} {k : Keep} {id : Int} (hs : subOk nm = true) (hk : kindU k 2 = true) (hd : keyI id = true) : (chnV d nm k id).all QaC = true ∧ Qjl k id (chnV d nm k id) = true := by
 have b2 := QbF (d := dofN d [1, 0, 2]) (n := 2) (by omega)
 have hm := Qbx (d := d) (l := [1, 0, 2]) (by decide)
 simp only [List.mem_cons, List.not_mem_nil, or_false] at hm
 obtain ⟨h1, h2, h3⟩ := Qth (dof d [1, 0, 2]).toNat 0 ([], dnext (dofN d [1, 0, 2]) 2, sRoot, 1 + dval (dofN d [1, 0, 2]) 2) (by omega) QyC (Qvw (show 0 ≤ 1 + dval (dofN d [1, 0, 2]) 2 ∧ 1 + dval (dofN d [1, 0, 2]) 2 ≤ 2147483648 by omega)) rfl
 obtain ⟨e, hv⟩ := Qtd (d := (chU d).2.1) (i := (chU d).2.2.1) (s := nm) (k := k) (id := id) (g := (chU d).2.2.2) (a := false) h2 hs hk hd h3
 unfold chnV
 refine ⟨by rw [List.all_cons, hv]; exact h1, ?_⟩
 unfold Qjl
 rw [e]
 have : ∀ (x : Qaa) (l : List Qaa), (x :: l).getD 0 zCert = x := fun _ _ => rfl
 rw [this]
 show (_ || ((k == k) && ieq id id)) = true
 simp [ieq]
theorem QQ3 {d : Dice} {nm : ByteArray} {k : Keep} {id : Int} (hd : dOk d = true) : (chnV d nm k id).length ≤ 4 := by
 have hu0 : upOk ([], dnext (dofN d [1, 0, 2]) 2, sRoot, 1 + dval (dofN d [1, 0, 2]) 2) = true := Bool.and_eq_true_iff.2 ⟨Qat (n := 2) (QaZ (l := [1, 0, 2]) hd), rfl⟩
 have hm := Qbx (d := d) (l := [1, 0, 2]) (by decide)
 simp only [List.mem_cons, List.not_mem_nil, or_false] at hm
 have hl := (Qti (dof d [1, 0, 2]).toNat 0 _ hu0).2
 simp only [List.length_nil] at hl
 have hl2 : (chU d).1.length ≤ 3 := by
  unfold chU
  omega
 unfold chnV
 rw [List.length_cons]
 omega
theorem Qv9 {a : Int} (h : a = 5 ∨ a = 6 ∨ a = 7 ∨ a = 8 ∨ a = 9) (d : Dice) : kindU (a, (sizeV d a, ())) 2 = true := by
 have hv : Qcv (a, (sizeV d a, ())) = true := Qyw (by omega) (by omega)
 unfold kindU
 rw [hv]
 rcases h with rfl | rfl | rfl | rfl | rfl <;> rfl
theorem QID (d : Dice) : kindU (keyV d) 2 = true := by
 have hm := Qbx (d := d) (l := [5, 7, 5, 6, 8, 9]) (by decide)
 simp only [List.mem_cons, List.not_mem_nil, or_false] at hm
 exact Qv9 (a := kAlg d) (by have : kAlg d = dof d [5, 7, 5, 6, 8, 9] := rfl; omega) _
theorem Qnm (d : Dice) : kindU (iKey d) 2 = true := by
 unfold iKey
 cases iB d
 ·exact QID d
 ·have hm := Qbx (d := iD2 d) (l := [5, 7]) (by decide)
  simp only [List.mem_cons, List.not_mem_nil, or_false] at hm
  exact Qv9 (a := iA d) (by have : iA d = dof (iD2 d) [5, 7] := rfl; omega) _
theorem Qwa {k : Keep} {id : Int} {l : List Qaa} (hk : kindU k 2 = true) (hd : keyI id = true) (hl : l.length ≤ 8) (h1 : l.all QaC = true) (h2 : Qjl k id l = true) : Qgv k id l = true := by
 simp only [kindU, Bool.and_eq_true] at hk
 have h8 : igt (llen l) 8 = false := decide_eq_false (by simp only [llen]; omega)
 have hi : ine (kindF k.1) 2 = false := by rw [Qqm, hk.2]; rfl
 unfold Qgv
 rw [hk.1, hi, hd, h8, h1, h2]
 rfl
theorem QIL {d : Dice} {nm : ByteArray} (hs : subOk nm = true) (hd : dOk d = true) : idOk (idV d nm) = true := by
 have b := QbF (d := iD3 d) (n := 20) (by omega)
 have hk : keyI (iId d) = true := Qvw (by unfold iId; omega)
 show Qgv (iKey d) (iId d) (iCh d nm) = true
 unfold iCh
 cases !done (iD4 d) 9
 ·exact Qwa (Qnm d) hk (Nat.zero_le _) rfl rfl
 ·obtain ⟨h1, h2⟩ := QFQ (d := iD5 d) (k := iKey d) (id := iId d) hs (Qnm d) hk
  exact Qwa (Qnm d) hk (Nat.le_trans (QQ3 (Qat (n := 9) (Qat (n := 20) (QFM hd)))) (by decide)) h1 h2
theorem QsN : ∀ (n : Nat) (nm : ByteArray) (d : Dice), subOk nm = true → dOk d = true → (idsZ n nm d).1.all idOk = true
 | 0, _, _, _, _ => rfl
 | n + 1, nm, d, hn, hd => by
  simp only [idsZ, List.all_cons, Bool.and_eq_true]
  exact ⟨QIL hn hd, QsN n nm _ hn (QxL hd)⟩
theorem QG5 {c : Int} (h : 1 ≤ c ∧ c ≤ 16) : ieq (QaA c).2 0 = true := by
 unfold QaA
 rw [if_neg (by omega)]
 rfl
theorem QM9 {l : List Int} (hn : l.Nodup) (hr : ∀ x ∈ l, 1 ≤ x ∧ x ≤ 16) : suitF l = true := by
 have key : ∀ (k : Nat) (hk : k < l.length), (ieq (QaA l[k]).2 0 && !hasF (l.take k) l[k]) = true := by
  intro k hk
  rw [QG5 (hr _ (List.getElem_mem hk)), Bool.true_and, Bool.not_eq_true']
  unfold hasF
  rw [Bool.eq_false_iff]
  intro hc
  have hm := List.contains_iff_mem.1 hc
  obtain ⟨j, hj, he⟩ := List.mem_iff_getElem.1 hm
  rw [List.length_take] at hj
  rw [List.getElem_take] at he
  have := (List.nodup_iff_pairwise_ne.1 hn)
  rw [List.pairwise_iff_getElem] at this
  exact this j k (by omega) hk (by omega) he
 simp only [suitF, QeZ, List.all_eq_true, List.mem_range'_1]
 intro k hk
 have hk2 : k < l.length := by omega
 simp only [List.getD_eq_getElem?_getD, List.getElem?_eq_getElem hk2, Option.getD_some]
 exact key k hk2
def goodS (l : List Int) : Prop := l.Nodup ∧ ∀ x ∈ l, 1 ≤ x ∧ x ≤ 16
theorem Qw1 {l : List Int} {x : Int} (h : goodS l) (hx : 1 ≤ x ∧ x ≤ 16) (hn : hasF l x = false) : goodS (l ++ [x]) := by
 have hm : x ∉ l := fun hc => by
  unfold hasF at hn
  rw [List.contains_iff_mem.2 hc] at hn
  cases hn
 refine ⟨?_, fun y hy => ?_⟩
 ·rw [List.nodup_append]
  refine ⟨h.1, List.nodup_cons.2 ⟨by simp, List.nodup_nil⟩, fun a ha b hb => ?_⟩
  rw [List.mem_singleton] at hb
  rintro rfl
  exact hm (hb ▸ ha)
 ·rw [List.mem_append, List.mem_singleton] at hy
  rcases hy with hy | rfl
  ·exact h.2 y hy
  ·exact hx
theorem Qv4 : ∀ (n : Nat) (l : List Int) (d : Dice), goodS l → goodS (suZ n l d).1
 | 0, _, _, h => h
 | n + 1, l, d, h => by
  have b := QbF (d := d) (n := 16) (by omega)
  unfold suZ
  refine Qv4 n _ _ ?_
  cases hh : hasF l (1 + dval d 16) with
  | true => exact h
  | false => exact Qw1 h (by omega) hh
theorem QEG (l : List Int) (x : Int) : (insS l x).Perm (x :: l) := by
 unfold insS
 rw [List.append_assoc, List.singleton_append]
 refine List.perm_middle.trans ?_
 rw [List.take_append_drop]
theorem Qyv (l : List Int) : (sortS l).Perm l := by
 have key : ∀ (l a : List Int), (l.foldl insS a).Perm (a ++ l) := by
  intro l
  induction l with
  | nil => intro a; rw [List.append_nil]; exact List.Perm.refl _
  | cons x r ih =>
   intro a
   rw [List.foldl_cons]
   refine (ih (insS a x)).trans ?_
   refine ((QEG a x).append_right r).trans ?_
   exact List.perm_middle.symm
 unfold sortS
 have := key l []
 rwa [List.nil_append] at this
theorem QEM {a b : List Int} (h : a.Perm b) (hb : goodS b) : goodS a := ⟨h.nodup_iff.2 hb.1, fun x hx => hb.2 x (h.mem_iff.1 hx)⟩
theorem QG8 (d : Dice) : goodS (suiV d) := by
 have h := Qv4 (2 + dval d 9).toNat [] (dnext d 9) ⟨List.nodup_nil, fun x hx => by cases hx⟩
 unfold suiV
 cases done (suI d).2 4
 ·exact h
 ·exact QEM (Qyv _) h
theorem Qky : ∀ (c s : List Int) (d : Dice), (∀ x ∈ c, 1 ≤ x ∧ x ≤ 16) → goodS s → goodS (prZ c s d).1
 | [], _, _, _, h => h
 | x :: r, s, d, hc, h => by
  have hr : ∀ x ∈ r, 1 ≤ x ∧ x ≤ 16 := fun y hy => hc y (List.mem_cons_of_mem _ hy)
  unfold prZ
  split
  ·split
   ·exact Qky r s d hr h
   ·rename_i hh
    split
    ·exact Qky r _ _ hr (Qw1 h (hc x (List.mem_cons_self ..)) (by simpa using hh))
    ·exact Qky r _ _ hr h
  ·exact h
def anOk (l : List Int) : Bool := !igt (llen l) 16 && (ascF l && l.all keyI)
def hsOk (l : List Int) : Bool := ascF l && l.all hashF
theorem QqN {e : Qad} (hw : wordF e.1 = true) (h1 : 1 ≤ e.2.1) (h2 : e.2.1 ≤ e.2.2.1) (h3 : e.2.2.1 ≤ 4) (hs : goodS (Qao e)) (hi : (eIds e).length ≤ 4) (hv : (eIds e).all idOk = true) (ha : anOk (eAnch e) = true) (hh : hsOk (eHash e) = true) : QaO e = true := by
 simp only [anOk, hsOk, Bool.and_eq_true] at ha hh
 have g1 : ilt e.2.1 1 = false := decide_eq_false (by omega)
 have g2 : igt e.2.1 e.2.2.1 = false := decide_eq_false (by omega)
 have g3 : igt e.2.2.1 4 = false := decide_eq_false (by omega)
 have g4 : igt (llen (eIds e)) 4 = false := decide_eq_false (by simp only [llen]; omega)
 unfold QaO
 rw [hw, g1, g2, g3, QM9 hs.1 hs.2, g4, ha.1, ha.2.1, ha.2.2, hv, hh.1, hh.2]
 rfl
theorem QEu {l : List (List Int)} {p : List Int → Bool} (h : l.all p = true) (h0 : p [] = true) (k : Nat) : p (lgt (.sl tI) l k) = true := by
 show p (l.getD k []) = true
 rw [List.getD_eq_getElem?_getD]
 cases hk : l[k]? with
 | none => exact h0
 | some x => exact List.all_eq_true.1 h x (List.mem_of_getElem? hk)
theorem an_ok (d : Dice) (nm : ByteArray) : anOk (eAnch (epV d nm)) = true := QEu (p := anOk) (by decide) (by decide) _
theorem hs_ok (d : Dice) (nm : ByteArray) : hsOk (eHash (epV d nm)) = true := QEu (p := hsOk) (by kernel_rfl) (by decide) _
theorem ver_ok (d : Dice) : 1 ≤ eLst d ∧ eLst d ≤ eMst d ∧ eMst d ≤ 4 := by
 have m0 := Qbx (d := d) (l := [1, 1, 2, 3]) (by decide)
 have m1 := Qbx (d := eD6 d) (l := [3, 4, 2]) (by decide)
 simp only [List.mem_cons, List.not_mem_nil, or_false] at m0 m1
 have b4 := QbF (d := eD4 d) (n := 5 - eL0 d) (by show 0 < 5 - dof d [1, 1, 2, 3]; omega)
 have e0 : eL0 d = dof d [1, 1, 2, 3] := rfl
 unfold eLst eMst
 cases eB d
 ·show 1 ≤ eL0 d ∧ eL0 d ≤ eL0 d + dval (eD4 d) (5 - eL0 d) ∧ eL0 d + dval (eD4 d) (5 - eL0 d) ≤ 4
  omega
 ·show (1 : Int) ≤ 1 ∧ 1 ≤ dof (eD6 d) [3, 4, 2] ∧ dof (eD6 d) [3, 4, 2] ≤ 4
  omega
theorem QyT {d : Dice} {nm : ByteArray} (hs : subOk nm = true) (hd : dOk d = true) : (eIdz d nm).1.all idOk = true := by
 have k4 := Qat (n := 2) (Qat (n := 2) (Qqz (QaZ (l := [1, 1, 2, 3]) hd)))
 have k6 := Qat (n := 3) (Qat (n := 5 - eL0 d) k4)
 have k7 : dOk (eD7 d) = true := by
  unfold eD7
  cases eB d
  ·exact k6
  ·exact QaZ (l := [3, 4, 2]) k6
 exact QsN _ _ _ hs (QaZ (l := [1, 2, 1, 3, 0]) k7)
theorem QE4 {d : Dice} {nm : ByteArray} (hs : subOk nm = true) (hn : nm.size ≤ 1000) (hd : dOk d = true) : goodS (Qao (epV d nm)) ∧ (eIds (epV d nm)).length ≤ 4 ∧ (eIds (epV d nm)).all idOk = true ∧ (1 ≤ (epV d nm).2.1 ∧ (epV d nm).2.1 ≤ (epV d nm).2.2.1 ∧ (epV d nm).2.2.1 ≤ 4) :=
 ⟨QG8 _, Nat.le_trans (QE3 hn hd).2 (by decide), QyT hs hd, ver_ok d⟩
attribute [local irreducible] epV epN prZ
theorem QGV : wordF sApp = true := by kernel_rfl
theorem QGU : wordF sWeb = true := by kernel_rfl
theorem QM0 {b : Bool} {p : List Int → Bool} {x y : List Int} (hx : p x = true) (hy : p y = true) : p (bif b then x else y) = true := by
 cases b
 ·exact hy
 ·exact hx
theorem QJM {b : Bool} {x y : List Int × Dice} (hx : goodS x.1) (hy : goodS y.1) : goodS (bif b then x else y).1 := by
 cases b
 ·exact hy
 ·exact hx
theorem QC9 {d : Dice} (hd : dOk d = true) : QaO (prC d) = true := by
 obtain ⟨h1, h2, h3, h4, h5, h6⟩ := QE4 (d := d) (nm := sApp) QqS (by decide) hd
 have hn : (epV d sApp).1 = sApp := Qqu d sApp
 have ha : anOk (pAn d) = true := QM0 (p := anOk) (by decide) (an_ok d sApp)
 have hh : hsOk (pHs d) = true := QM0 (p := hsOk) (by kernel_rfl) (hs_ok d sApp)
 exact QqN (e := prC d) (by show wordF (epV d sApp).1 = true; rw [hn]; exact QGV) h4 h5 h6 h1 h2 h3 ha hh
theorem QC8 {d : Dice} (hd : dOk d = true) : QaO (prS d) = true := by
 have k1 := QxM (nm := sApp) hd
 obtain ⟨g1, _⟩ := QE4 (d := d) (nm := sApp) QqS (by decide) hd
 obtain ⟨h1, h2, h3, h4, h5, h6⟩ := QE4 (d := pD1 d) (nm := sWeb) QAm (by decide) k1
 have hn : (epV (pD1 d) sWeb).1 = sWeb := Qqu (pD1 d) sWeb
 have hs : goodS (pSz d).1 := QJM (Qky _ _ _ g1.2 h1) h1
 exact QqN (e := prS d) (by show wordF (epV (pD1 d) sWeb).1 = true; rw [hn]; exact QGU) h4 h5 h6 hs h2 h3 (an_ok (pD1 d) sWeb) (hs_ok (pD1 d) sWeb)
theorem prV1 {d : Dice} (h : dOk d = true) : QaO (prV d).1 = true := QC9 h
theorem prV2 {d : Dice} (h : dOk d = true) : QaO (prV d).2 = true := QC8 h
end
end Go.Proofs.YtkngeegkjhipeaaGreat.K
