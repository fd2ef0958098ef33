/-
 What a text means, by the answer: all of it.
-/
import Derived.Test.YtkkoedniahnneaaDoorA4
set_option linter.unusedSimpArgs false
set_option linter.unusedVariables false
namespace Go.Proofs.YtkkoedniahnneaaDoor.K
open Go.RowKit
noncomputable section
def eqI (s : ByteArray) (k : Int) : Int := k + (((((bl s).drop k.toNat).takeWhile fun c => !(c == 61)).length : Nat) : Int)
def empS (s : ByteArray) : Bool := seq s (ByteArray.mk #[]) || (ieq (sgt s 0) 35 || ieq (sgt s 0) 59)
def brkS (s : ByteArray) : Bool := ieq (sgt s 0) 91 && ieq (sgt s (isub .i64 (slen s) 1)) 93
def secS (s : ByteArray) : ByteArray := tB (ssl s 1 (imx 1 (isub .i64 (slen s) 1)))
def nmS (s : ByteArray) : ByteArray := tB (ssl s 0 (eqI s 0))
def vlS (s : ByteArray) : ByteArray := tB (ssl s (iadd .i64 (eqI s 0) 1) ((ByteArray.size s : Nat) : Int))
def stpS (s sec : ByteArray) (line : Int) (out : List Setting) : Option (ByteArray × List Setting) :=
 bif empS s then some (sec, out) else bif brkS s then (bif wrdB (secS s) then some (secS s, out) else none) else bif ieq (eqI s 0) (slen s) || !wrdB (nmS s) then none else some (sec, out ++ [(sec, (nmS s, (vlS s, (line, ()))))])
def pgZ : Nat → List ByteArray → ByteArray → Int → List Setting → List Setting × Int × Bool
 | 0, _, _, _, out => (out, 0, true)
 | n + 1, l, sec, i, out => bif ilt i (llen l) then (bif !(rjnF l i).2.2 || !clB (rjnF l i).1 then (out, i + 1, false) else match stpS (rjnF l i).1 sec (i + 1) out with
  | none => (out, i + 1, false)
  | some p => pgZ n l p.1 (i + (rjnF l i).2.1) p.2) else (out, 0, true)
def pgF (l : List ByteArray) (sec : ByteArray) (i : Int) (out : List Setting) : List Setting × Int × Bool := pgZ (l.length - i.toNat) l sec i out
theorem pgZ_fuel : ∀ (n m : Nat) (l : List ByteArray) (sec : ByteArray) (k : Nat) (out : List Setting), l.length - k ≤ n → l.length - k ≤ m → pgZ n l sec (k : Int) out = pgZ m l sec (k : Int) out
 | 0, 0, _, _, _, _, _, _ => rfl
 | 0, m + 1, l, sec, k, out, h, _ => by
  unfold pgZ
  rw [show ilt (k : Int) (llen l) = false from decide_eq_false (by simp only [llen]; omega)]
  rfl
 | n + 1, 0, l, sec, k, out, _, h => by
  unfold pgZ
  rw [show ilt (k : Int) (llen l) = false from decide_eq_false (by simp only [llen]; omega)]
  rfl
 | n + 1, m + 1, l, sec, k, out, h1, h2 => by
  unfold pgZ
  by_cases hk : k < l.length
  ·obtain ⟨p1, p2⟩ := rjn_pos hk
   obtain ⟨q, hq⟩ := Int.eq_ofNat_of_zero_le (show 0 ≤ (k : Int) + (rjnF l k).2.1 by omega)
   rw [hq]
   cases stpS (rjnF l k).1 sec (k + 1) out with
   | none => rfl
   | some p =>
    show (bif _ then (bif _ then _ else pgZ n l p.1 (q : Int) p.2) else _) = (bif _ then (bif _ then _ else pgZ m l p.1 (q : Int) p.2) else _)
    rw [pgZ_fuel n m l p.1 q p.2 (by omega) (by omega)]
  ·rw [show ilt (k : Int) (llen l) = false from decide_eq_false (by simp only [llen]; omega)]
   rfl
theorem pgF_end {l : List ByteArray} {sec : ByteArray} {k : Nat} {out : List Setting} (h : l.length ≤ k) : pgF l sec k out = (out, 0, true) := by
 unfold pgF
 rw [Int.toNat_natCast, Nat.sub_eq_zero_of_le h]
 rfl
theorem pgF_bad {l : List ByteArray} {sec : ByteArray} {k : Nat} {out : List Setting} (hk : k < l.length) (h : (!(rjnF l k).2.2 || !clB (rjnF l k).1) = true) : pgF l sec k out = (out, (k : Int) + 1, false) := by
 unfold pgF
 rw [Int.toNat_natCast, show l.length - k = (l.length - k - 1) + 1 from by omega]
 unfold pgZ
 rw [show ilt (k : Int) (llen l) = true from decide_eq_true (by simp only [llen]; omega), h]
 rfl
theorem pgF_none {l : List ByteArray} {sec : ByteArray} {k : Nat} {out : List Setting} (hk : k < l.length) (h : (!(rjnF l k).2.2 || !clB (rjnF l k).1) = false) (hs : stpS (rjnF l k).1 sec (k + 1) out = none) : pgF l sec k out = (out, (k : Int) + 1, false) := by
 unfold pgF
 rw [Int.toNat_natCast, show l.length - k = (l.length - k - 1) + 1 from by omega]
 unfold pgZ
 rw [show ilt (k : Int) (llen l) = true from decide_eq_true (by simp only [llen]; omega), h, hs]
 rfl
theorem pgF_some {l : List ByteArray} {sec : ByteArray} {k : Nat} {out : List Setting} {p : ByteArray × List Setting} (hk : k < l.length) (h : (!(rjnF l k).2.2 || !clB (rjnF l k).1) = false) (hs : stpS (rjnF l k).1 sec (k + 1) out = some p) : pgF l sec k out = pgF l p.1 ((k : Int) + (rjnF l k).2.1) p.2 := by
 obtain ⟨p1, p2⟩ := rjn_pos hk
 obtain ⟨q, hq⟩ := Int.eq_ofNat_of_zero_le (show 0 ≤ (k : Int) + (rjnF l k).2.1 by omega)
 unfold pgF
 rw [Int.toNat_natCast, show l.length - k = (l.length - k - 1) + 1 from by omega]
 have e : pgZ ((l.length - k - 1) + 1) l sec k out = pgZ (l.length - k - 1) l p.1 ((k : Int) + (rjnF l k).2.1) p.2 := by
  conv => lhs; unfold pgZ
  rw [show ilt (k : Int) (llen l) = true from decide_eq_true (by simp only [llen]; omega), h, hs]
  rfl
 rw [e, hq, Int.toNat_natCast]
 exact pgZ_fuel _ _ _ _ _ _ (by omega) (Nat.le_refl _)
theorem eqI_rng (s : ByteArray) {k : Nat} (h : k ≤ s.size) : (k : Int) ≤ eqI s k ∧ eqI s k ≤ s.size := by
 have h1 : (((bl s).drop k).takeWhile fun c => !(c == 61)).length ≤ ((bl s).drop k).length := List.Sublist.length_le (List.takeWhile_sublist _)
 rw [List.length_drop, bl_len] at h1
 unfold eqI
 rw [Int.toNat_natCast]
 omega
def parF (s : ByteArray) : List Setting × Int × Int := bif igt (slen s) 8192 || igt (endN s) 200 then ([], 0, 3) else bif (pgF (lnB s) (ByteArray.mk #[]) 0 []).2.2 then ((pgF (lnB s) (ByteArray.mk #[]) 0 []).1, 0, 0) else ([], (pgF (lnB s) (ByteArray.mk #[]) 0 []).2.1, 1)
theorem lnB_ok {s : ByteArray} (h : s.size ≤ 10000) : lnsOk (lnB s) = true := by
 have h1 := lnL_len (bl s)
 have h2 : (bl s).count 10 ≤ (bl s).length := List.count_le_length
 rw [bl_len] at h2
 refine Bool.and_eq_true_iff.2 ⟨decide_eq_true (by unfold lnB; rw [List.length_map]; omega), List.all_eq_true.2 fun x hx => ?_⟩
 obtain ⟨p, hp, rfl⟩ := List.mem_map.1 hx
 have := (lnL_all _ p hp).1
 rw [bl_len] at this
 exact decide_eq_true (by rw [mk_size]; omega)
-- loop 0: (x5 : (List ByteArray)) (x7 : ByteArray) (x8 : Int) (x9 : ByteArray) (x12 : Int) (x13 : Int) (y6 : (List Setting)); out: ('exit', 2) (x5 : (List ByteArray)) (x7 : ByteArray) (x8 : Int) (x9 : ByteArray) (x12 : Int) (x13 : Int) (y6 : (List Setting))
-- loop 1: (x5 : (List ByteArray)) (x7 : ByteArray) (x8 : Int) (y6 : (List Setting)); out: ('ret',) (x3 : Int) (x4 : Int) (y6 : (List Setting)); ('exit', 0) (y6 : (List Setting))
end
end Go.Proofs.YtkkoedniahnneaaDoor.K
