/-
 Open of the program: the decisions with which a string of bytes begins.
-/
import Derived.Test.YtnimpcffagidoaaDecode2
namespace Go.Proofs.Ytnimpcffagidoaa
open Go.RowKit
set_option linter.unusedSimpArgs false
set_option linter.unusedVariables false
def openL : Nat → List UInt8 → List Dec
 | 0, _ => []
 | f + 1, l =>
  if l.length < 12 then [] else
  if vl ((l.take 12).drop 8) ≠ fnv ((l.take 12).take 8) then [] else
  if validB (decOf (l.take 12)) = false then [] else decOf (l.take 12) :: openL f (l.drop 12)
def opens (s : ByteArray) : List Dec := openL (s.size + 1) s.data.toList
theorem decode_step (s : ByteArray) (n : Nat) (w : World) (hn : n ≤ s.size) (hs : s.size < 4611686018427387904) :
  Calls Try.prog 21 #[.string s, .int .i64 n] w fun r w' => ∃ (d : Dec) (x f : Int), r = .returned (.tuple #[d.val, .int .i64 x, .int .i64 f]) ∧ Below w.heap.size w w' ∧
   ((f ≠ 0 ∧ ∀ F, openL F (s.data.toList.drop n) = []) ∨ (f = 0 ∧ x = (n : Int) + 12 ∧ n + 12 ≤ s.size ∧ ∀ F, openL (F + 1) (s.data.toList.drop n) = d :: openL F (s.data.toList.drop (n + 12)))) := by
 have hsz : s.data.toList.length = s.size := by simp
 by_cases h12 : s.size - n < 12
 ·refine (decode_short s n w hn hs h12).mono ?_
  rintro r w' ⟨rfl, hb⟩
  refine ⟨zeroDec, 0, 1, rfl, hb, .inl ⟨by decide, fun F => ?_⟩⟩
  cases F with
  | zero => rfl
  | succ F => unfold openL; rw [if_pos (by simp; omega)]
 ·have hrr : (s.data.toList.drop n).take 12 = rec12 s n := rfl
  refine (decode_full s n w hn hs (by omega)).mono ?_
  rintro r w' ⟨rfl, hb⟩
  have hlen : ¬ (s.data.toList.drop n).length < 12 := by simp; omega
  by_cases h1 : vl ((rec12 s n).drop 8) ≠ fnv ((rec12 s n).take 8)
  ·refine ⟨zeroDec, 0, 58, by unfold decRes; rw [if_pos h1]; rfl, hb, .inl ⟨by decide, fun F => ?_⟩⟩
   cases F with
   | zero => rfl
   | succ F => unfold openL; rw [hrr, if_neg hlen, if_pos h1]
  ·by_cases h2 : validB (decOf (rec12 s n)) = false
   ·refine ⟨zeroDec, 0, 57, by unfold decRes; rw [if_neg h1, if_pos h2]; rfl, hb, .inl ⟨by decide, fun F => ?_⟩⟩
    cases F with
    | zero => rfl
    | succ F => unfold openL; rw [hrr, if_neg hlen, if_neg h1, if_pos h2]
   ·refine ⟨decOf (rec12 s n), (n : Int) + 12, 0, by unfold decRes; rw [if_neg h1, if_neg h2], hb, .inr ⟨rfl, rfl, by omega, fun F => ?_⟩⟩
    conv => lhs; unfold openL
    rw [hrr, if_neg hlen, if_neg h1, if_neg h2, List.drop_drop]
structure OpenAt (w wr : World) (s : ByteArray) (k : Nat) (sv : Value) (ds : List Dec) : Prop where
 len : ds.length = k
 le : 12 * k ≤ s.size
 own : wr.ownsRow w.heap.size 40 5 sv k (decCells ds)
 rest : opens s = ds ++ openL (s.size + 1 - k) (s.data.toList.drop (12 * k))
 below : Below w.heap.size w wr
set_option maxHeartbeats 1000000 in
theorem open_own (s : ByteArray) (w : World) (hs : s.size ≤ 1000000) :
  Calls Try.prog 19 #[.string s] w fun r w' => ∃ sv, r = .returned (.tuple #[sv, .int .i64 ((12 * (opens s).length : Nat) : Int)]) ∧ w'.ownsRow w.heap.size 40 5 sv (opens s).length (decCells (opens s)) ∧ (opens s).length * 12 ≤ s.size ∧ Below w.heap.size w w' := by
 have H0 : OpenAt w w s 0 (.slice none 0 0) [] := ⟨rfl, Nat.zero_le _, World.ownsRow_nil _ _ _ _, rfl, Below.refl _ _⟩
 have HS := Lib.hid hs
 clear hs
 go_enter Try.func19, Try.ntmps19
 go_wp2_with fail
 go_loopw [4, 5] (fun sv av wr => ∃ (k : Nat) (ds : List Dec), av = .int .i64 ((12 * k : Nat) : Int) ∧ OpenAt w wr s k sv ds) (fun _ av _ => s.size + 1 - (intOf av).toNat)
 case atStart => exact ⟨0, [], rfl, H0⟩
 case round =>
  obtain ⟨k, ds, rfl, hr⟩ := hrel
  clear H0
  obtain ⟨A, c, rfl⟩ := own_slice hr.own
  go_wp2_with fail
  refine (decode_step s (12 * k) _ hr.le (by have := HS.out; omega)).mono ?_
  rintro r w1 ⟨⟨d1, d2, d3, d4, d5⟩, x, f, rfl, hb1, hcase⟩
  have HC := Lib.hid hcase
  clear hcase
  unfold Dec.val
  go_upto_region 4 with fail
  have hbx := Blk.new w1 40 #[.int .i64 d1, .int .i64 d2, .int .i64 d3, .int .i64 d4, .int .i64 d5]
  have hown1 := own_grown (own_grown hr.own (only_of_below hb1 none) (fun _ _ e => by cases e)) (only_alloc (World.grownBy.refl w1 none) (.cells #[.int .i64 d1, .int .i64 d2, .int .i64 d3, .int .i64 d4, .int .i64 d5] 40)) (fun _ _ e => by cases e)
  have hbw : Below w.heap.size w (w1.alloc (.cells #[.int .i64 d1, .int .i64 d2, .int .i64 d3, .int .i64 d4, .int .i64 d5] 40)) := (below_step hr.below hb1 hr.below.size).alloc (Nat.le_trans hr.below.size hb1.size) _
  have hlen := hr.len
  have hle := hr.le
  have HR := Lib.hid hr.rest
  have hk1 := hbw.size
  generalize w1.alloc (.cells #[.int .i64 d1, .int .i64 d2, .int .i64 d3, .int .i64 d4, .int .i64 d5] 40) = W at *
  generalize w1.heap.size = bx at *
  clear hr hb1
  rcases HC.out with ⟨hf, hnil⟩ | ⟨rfl, rfl, hle2, hcons⟩
  ·have hop : opens s = ds := by rw [HR.out, hnil, List.append_nil]
   have HO := Lib.hid hop
   have ht : (f != 0) = true := by rw [bne_iff_ne]; exact hf
   have ht2 : (f == 0) = false := by simpa using hf
   have HSL := Lib.hid hown1
   clear hnil hf hop hown1
   go_wp2_with fail
   go_ret2
   rw [HO.out, hlen]
   refine ⟨_, rfl, ?_, by omega, hbw⟩
   exact HSL.out
  ·have hk : k < s.size + 1 := by omega
   have hrest : opens s = (ds ++ [⟨d1, d2, d3, d4, d5⟩]) ++ openL (s.size + 1 - (k + 1)) (s.data.toList.drop (12 * (k + 1))) := by
    rw [HR.out, show s.size + 1 - k = (s.size + 1 - (k + 1)) + 1 from by omega, hcons]
    simp [Nat.mul_add]
   have HRS := Lib.hid hrest
   clear hrest hcons
   have z0 := hbx.cell 0
   have z1 := hbx.cell 1
   have z2 := hbx.cell 2
   have z3 := hbx.cell 3
   have z4 := hbx.cell 4
   simp only [List.getElem?_toArray, List.getElem?_cons_zero, List.getElem?_cons_succ] at z0 z1 z2 z3 z4
   have hsrc := Sl.made W 40 1 5 #[.int .i64 d1, .int .i64 d2, .int .i64 d3, .int .i64 d4, .int .i64 d5] rfl (by simp [maxLen])
   have hsz := HS.out
   go_wp2_with (at_builtin; refine wpList_app elemDec rfl _ _ rfl w.heap.size (.slice A k c) k (decCells ds) rfl (own_grown hown1 (only_alloc (World.grownBy.refl _ none) _) (fun _ _ e => by cases e)) _ _ _ _ rfl hsrc (by simp [Value.oneCell']) (by omega) (by omega) (by simp; omega) ?_; intro v' w4 hown4 hg4 hat4; obtain ⟨A', c', rfl⟩ := own_slice hown4)
   go_roundw
   case measure => simp [intOf]; omega
   case rel =>
    refine ⟨k + 1, ds ++ [⟨d1, d2, d3, d4, d5⟩], by simp [Nat.mul_add], by simp [hlen], by omega, ?_, HRS.out, ?_⟩
    ·rw [decCells_snoc]
     exact hown4
    ·have hob : ∀ b, (Value.slice A k c).ownBlock = some b → w.heap.size ≤ b := fun b hb => (hown1.lt b hb).1
     have hal := hbw.alloc hbw.size (.cells #[.int .i64 d1, .int .i64 d2, .int .i64 d3, .int .i64 d4, .int .i64 d5] 40)
     exact ⟨hg4.os.trans hal.os, hg4.tape.trans hal.tape, hg4.output.trans hal.output, Nat.le_trans hal.size hg4.size, fun i hi => (hg4.block i (Nat.lt_of_lt_of_le hi hal.size) (fun e => by have := hob i e.symm; omega)).trans (hal.block i hi)⟩
theorem open_any (s : ByteArray) (w : World) (hs : s.size ≤ 1000000) :
  Calls Try.prog 19 #[.string s] w fun r w' => ∃ sv, r = .returned (.tuple #[sv, .int .i64 ((12 * (opens s).length : Nat) : Int)]) ∧ Led w' sv (opens s) ∧ (opens s).length * 12 ≤ s.size ∧ Below w.heap.size w w' :=
 (open_own s w hs).mono fun _ _ ⟨sv, h1, h2, h3, h4⟩ => ⟨sv, h1, Sl.of_own h2, h3, h4⟩
end Go.Proofs.Ytnimpcffagidoaa
