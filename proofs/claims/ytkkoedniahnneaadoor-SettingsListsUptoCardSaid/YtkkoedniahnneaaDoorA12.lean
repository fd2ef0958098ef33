/-
 What the program's reading of a line says, in the answer's words.
-/
import Derived.Test.YtkkoedniahnneaaDoorA11
set_option linter.unusedSimpArgs false
set_option linter.unusedVariables false
namespace Go.Proofs.YtkkoedniahnneaaDoor.K
open Go.RowKit
theorem tw_ix : ∀ l : List UInt8, Lib.indexByte l 61 = if (l.takeWhile fun c => !(c == 61)).length < l.length then (((l.takeWhile fun c => !(c == 61)).length : Nat) : Int) else -1
 | [] => rfl
 | b :: l => by
  have ih := tw_ix l
  unfold Lib.indexByte
  rw [List.takeWhile_cons]
  cases hb : b == 61 with
  | true => simp
  | false =>
   simp only [Bool.not_false, if_true, List.length_cons, Bool.false_eq_true, if_false, ih]
   generalize (l.takeWhile fun c => !(c == 61)).length = t
   by_cases h : t < l.length
   ·have h2 : t + 1 < l.length + 1 := by omega
    have h3 : ((t : Int) == -1) = false := beq_eq_false_iff_ne.2 (by omega)
    rw [if_pos h, if_pos h2, h3]
    rfl
   ·have h2 : ¬ t + 1 < l.length + 1 := by omega
    rw [if_neg h, if_neg h2]
    rfl
theorem eqI_tw (s : ByteArray) : eqI s 0 = (((bl s).takeWhile fun c => !(c == 61)).length : Nat) := by
 unfold eqI
 simp
theorem idx_tw (s : ByteArray) : idxO s ⟨#[61]⟩ = if eqI s 0 < s.size then eqI s 0 else -1 := by
 have h := tw_ix (bl s)
 rw [bl_len] at h
 rw [eqI_tw]
 refine Eq.trans h ?_
 by_cases g : ((bl s).takeWhile fun c => !(c == 61)).length < s.size
 ·rw [if_pos g, if_pos (by omega)]
 ·rw [if_neg g, if_neg (by omega)]
theorem cut_yes {s : ByteArray} (h : eqI s 0 < s.size) (hz : s.size ≤ 4000000000) : cutO s ⟨#[61]⟩ = (ssl s 0 (eqI s 0), ssl s (iadd .i64 (eqI s 0) 1) ((ByteArray.size s : Nat) : Int), true) := by
 have h0 := (eqI_rng s (k := 0) (Nat.zero_le _)).1
 unfold cutO
 rw [idx_tw, if_pos h]
 rw [show ige (eqI s 0) 0 = true from decide_eq_true h0]
 rfl
theorem cut_no {s : ByteArray} (h : ¬ eqI s 0 < s.size) : cutO s ⟨#[61]⟩ = (s, (ByteArray.mk #[], false)) := by
 unfold cutO
 rw [idx_tw, if_neg h]
 rfl
theorem tR_take {l : List UInt8} (h : tb l = l) (n : Nat) : tL (tR (l.take n)) = tR (l.take n) := by
 match l, n with
 | [], n => simp [tR, tL]
 | x :: r, 0 => rfl
 | x :: r, n + 1 =>
  have hx := tb_head h
  rw [List.take_succ_cons, tR_cons, if_neg (by rw [hx]; simp), tL_cons, if_neg (by rw [hx]; simp)]
theorem nm_eq {s : ByteArray} (h : tB s = s) : mkB (tR (bl (ssl s 0 (eqI s 0)))) = nmS s := by
 have hb : tb (bl s) = bl s := by rw [← tB_bl, h]
 unfold nmS tB
 rw [bl_ssl, show (0 : Int).toNat = 0 from rfl, List.drop_zero, Nat.sub_zero, tR_take hb]
theorem set_ok {s : ByteArray} (h : tB s = s) (hz : s.size ≤ 4000000000) : setOk s = !(ieq (eqI s 0) (slen s) || !wrdB (nmS s)) := by
 have hr : 0 ≤ eqI s 0 ∧ eqI s 0 ≤ s.size := eqI_rng s (k := 0) (Nat.zero_le _)
 unfold setOk
 by_cases g : eqI s 0 < s.size
 ·rw [cut_yes g hz]
  show (true && wrdB (mkB (tR (bl (ssl s 0 (eqI s 0)))))) = _
  rw [nm_eq h, show ieq (eqI s 0) (slen s) = false by simp only [ieq, slen]; exact beq_eq_false_iff_ne.2 (by omega)]
  simp
 ·rw [cut_no g, show ieq (eqI s 0) (slen s) = true by simp only [ieq, slen]; exact beq_iff_eq.2 (by omega)]
  rfl
theorem wrd_no {s : ByteArray} {r : List UInt8} (h : bl s = 91 :: r) : wrdB s = false := by
 have e : (bytesL s).all letW = false := by
  unfold bytesL
  rw [show s.data.toList = 91 :: r from h, List.map_cons, List.all_cons]
  rw [show letW (((91 : UInt8).toNat : Nat) : Int) = false from rfl]
  rfl
 unfold wrdB
 rw [e]
 rfl
theorem brk_set {s : ByteArray} (hb : brkS s = true) (hz : s.size ≤ 4000000000) : setOk s = false := by
 have hr : 0 ≤ eqI s 0 ∧ eqI s 0 ≤ s.size := eqI_rng s (k := 0) (Nat.zero_le _)
 have h1 : ieq (sgt s 0) 91 = true := (Bool.and_eq_true_iff.1 hb).1
 have h1 : sgt s 0 = 91 := by simpa [ieq] using h1
 unfold setOk
 by_cases g : eqI s 0 < s.size
 ·rw [cut_yes g hz]
  show (true && wrdB (mkB (tR (bl (ssl s 0 (eqI s 0)))))) = false
  cases hl : bl s with
  | nil =>
   have := bl_len s
   rw [hl] at this
   simp at this
   omega
  | cons c r =>
   have hc : c = 91 := by
    have h2 : sgt s ((0 : Nat) : Int) = _ := sgt_bl (show 0 < (bl s).length by rw [hl]; simp)
    have h3 : (((bl s)[0]'(by rw [hl]; simp)).toNat : Int) = 91 := by rw [← h2]; exact h1
    have h4 : (bl s)[0]'(by rw [hl]; simp) = c := by simp [hl]
    rw [h4] at h3
    rw [← UInt8.toNat_inj]
    show c.toNat = 91
    omega
   subst hc
   have he : eqI s 0 = ((((r.takeWhile fun c => !(c == 61)).length + 1 : Nat)) : Int) := by
    rw [eqI_tw, hl, List.takeWhile_cons]
    rfl
   have hw : wrdB (mkB (tR (bl (ssl s 0 (eqI s 0))))) = false := by
    refine wrd_no (r := tR (r.take (r.takeWhile fun c => !(c == 61)).length)) ?_
    rw [bl_mk, bl_ssl, hl, he]
    rw [show (0 : Int).toNat = 0 from rfl, List.drop_zero, Nat.sub_zero, Int.toNat_natCast, List.take_succ_cons, tR_cons, if_neg (by rintro ⟨_, h⟩; exact absurd h (by decide))]
   rw [hw]
   rfl
 ·rw [cut_no g]
  rfl
def csL (s sec : ByteArray) (k : Int) : List Setting := bif empS s then [] else bif bgP s then [] else bif setOk s then [(sec, (nmS s, (vlS s, (k, ()))))] else []
theorem stp_eq {s : ByteArray} (h : tB s = s) (hz : s.size ≤ 4000000000) (sec : ByteArray) (k : Int) (out : List Setting) : stpS s sec k out = bif okP s then some (secP s sec, out ++ csL s sec k) else none := by
 unfold stpS okP secP csL
 cases he : empS s with
 | true => simp
 | false =>
  cases hb : brkS s with
  | true =>
   have h2 := brk_set hb hz
   unfold bgP
   rw [hb, h2]
   cases wrdB (secS s) <;> simp
  | false =>
   have h2 := set_ok h hz
   unfold bgP
   rw [hb, h2]
   cases (ieq (eqI s 0) (slen s) || !wrdB (nmS s)) <;> simp
def setCells (x : Setting) : List Value := [.string x.1, .string x.2.1, .string x.2.2.1, .int .i64 x.2.2.2.1]
theorem cs_eq {s : ByteArray} (h : tB s = s) (hz : s.size ≤ 4000000000) (sec : ByteArray) (k : Int) : csP s sec k = (csL s sec k).flatMap setCells ∧ nP s = (csL s sec k).length := by
 unfold csP csL nP setCs
 cases empS s with
 | true => exact ⟨rfl, rfl⟩
 | false =>
  cases bgP s with
  | true => exact ⟨rfl, rfl⟩
  | false =>
   cases hs : setOk s with
   | false => exact ⟨rfl, rfl⟩
   | true =>
    have h2 := set_ok h hz
    rw [hs] at h2
    have h3 : ieq (eqI s 0) (slen s) = false := by
     cases g : ieq (eqI s 0) (slen s) with
     | false => rfl
     | true => rw [g] at h2; simp at h2
    have hr : 0 ≤ eqI s 0 ∧ eqI s 0 ≤ s.size := eqI_rng s (k := 0) (Nat.zero_le _)
    have g : eqI s 0 < s.size := by
     have : eqI s 0 ≠ s.size := by simpa [ieq, slen] using h3
     omega
    rw [cut_yes g hz]
    simp only [nm_eq h]
    exact ⟨rfl, rfl⟩
theorem jnL_eq (l : List ByteArray) (k : Nat) (x : ByteArray) (hx : l[k]? = some x) :
  (!(rjnF l k).2.2 || !clB (rjnF l k).1) = !(jnL l k x).2.2 ∧ ((jnL l k x).2.2 = true → tB (jnL l k x).1 = (rjnF l k).1 ∧ (((jnL l k x).2.1 : Nat) : Int) = (rjnF l k).2.1) := by
 obtain ⟨hk, rfl⟩ := List.getElem?_eq_some_iff.1 hx
 have e : lgt .str l k = l[k] := lgt_get (y := .str) hk
 obtain ⟨a1, a2, a3⟩ := jnP_eq (l.drop (k + 1)) (tB l[k]) 1
 rw [cl_tB] at a1 a2 a3
 have hr : rjnF l k = bif (jnF (l.drop (k + 1)) (tB l[k]) 1).2.2 then (tB (jnF (l.drop (k + 1)) (tB l[k]) 1).1, (((jnF (l.drop (k + 1)) (tB l[k]) 1).2.1 : Nat) : Int), true) else (ByteArray.mk #[], (((jnF (l.drop (k + 1)) (tB l[k]) 1).2.1 : Nat) : Int), false) := by
  unfold rjnF rjZ
  rw [Int.toNat_natCast, e]
  rfl
 unfold jnL
 rw [a1, a3, hr]
 cases h : (jnF (l.drop (k + 1)) (tB l[k]) 1).2.2 with
 | false => simp
 | true =>
  rw [a2 h]
  simp [cl_tB]
end Go.Proofs.YtkkoedniahnneaaDoor.K
