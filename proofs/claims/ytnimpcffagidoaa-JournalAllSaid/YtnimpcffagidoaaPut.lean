/-
 Numbers written and read, the highest byte first.
-/
import Derived.Test.YtnimpcffagidoaaRows
import Derived.Test.YtnimpcffagidoaaKA
namespace Go.Proofs.Ytnimpcffagidoaa
open Go.RowKit
set_option linter.unusedSimpArgs false
set_option linter.unusedVariables false
def be : Nat → Nat → List UInt8
 | 0, _ => []
 | k + 1, n => be k (n / 256) ++ [UInt8.ofNat n]
theorem be_len (k n : Nat) : (be k n).length = k := by induction k generalizing n with
 | zero => rfl
 | succ k ih => simp [be, ih]
def bv (c : UInt8) : Value := .int .u8 c.toNat
def bvs (l : List UInt8) : List Value := l.map bv
theorem be_peel (k n : Nat) (h : 0 < k) : be k n = be (k - 1) (n / 256) ++ [UInt8.ofNat n] := by
 obtain ⟨m, rfl⟩ : ∃ m, k = m + 1 := ⟨k - 1, by omega⟩
 rfl
theorem byte_u8 (n : Nat) : bv (UInt8.ofNat n) = .int .u8 ((n : Int) % 256) := by
 unfold bv
 rw [UInt8.toNat_ofNat']
 simp
structure PutAt (w wr : World) (g : Nat) (t : TypeId) (pre mid post : List Value) (k n j mm : Nat) : Prop where
 le : j ≤ k
 lt : mm < 9223372036854775808
 grown : w.grownBy wr (some g)
 done : ∃ tl, be k n = be j mm ++ tl ∧ Blk wr g t (pre ++ mid.take j ++ bvs tl ++ post).toArray
theorem PutAt.cell {w wr : World} {g : Nat} {t : TypeId} {pre mid post : List Value} {k n j mm off : Nat} (h : PutAt w wr g t pre mid post k n (j + 1) mm) (hm : mid.length = k) (hp : pre.length = off) :
  wr.cell? ⟨g, off + j, none⟩ = some (mid.getD j undef) ∧ wr.frozen? ⟨g, off + j, none⟩ = false := by
 obtain ⟨tl, _, hb⟩ := h.done
 have hl := h.le
 refine ⟨?_, hb.frozen _⟩
 rw [hb.cell]
 simp [List.getElem?_append, hp]
 rw [List.getElem?_eq_getElem (by omega)]
 simp
 omega
theorem PutAt.next {w wr : World} {g : Nat} {t : TypeId} {pre mid post : List Value} {k n j mm off : Nat} (h : PutAt w wr g t pre mid post k n (j + 1) mm) (hm : mid.length = k) (hp : pre.length = off) :
  PutAt w (wr.setCell ⟨g, off + j, none⟩ (.int .u8 ((mm : Int) % 256))) g t pre mid post k n j (mm / 256) := by
 obtain ⟨tl, he, hb⟩ := h.done
 have hl := h.le
 have hlt := h.lt
 refine ⟨by omega, by omega, only_setCell h.grown (.inl rfl) _, UInt8.ofNat mm :: tl, ?_, ?_⟩
 ·rw [he, be_peel (j + 1) mm (by omega)]; simp
 ·have := hb.set_ (off + j) (.int .u8 ((mm : Int) % 256))
  rw [List.setIfInBounds_toArray] at this
  have e : (pre ++ mid.take (j + 1) ++ bvs tl ++ post).set (off + j) (.int .u8 ((mm : Int) % 256)) = pre ++ mid.take j ++ bvs (UInt8.ofNat mm :: tl) ++ post := by
   rw [← byte_u8, List.append_assoc, List.append_assoc, List.set_append_right _ _ (by omega), List.take_succ_eq_append_getElem (by omega), List.append_assoc, List.set_append_right _ _ (by simp; omega)]
   simp [bvs, hp, Nat.min_eq_left (show j ≤ mid.length by omega)]
  rwa [e] at this
set_option maxHeartbeats 400000 in
theorem put_any (g off k cap n : Nat) (t : TypeId) (pre mid post : List Value) (w : World) (hk : k ≤ 8) (hn : n < 9223372036854775808) (hpre : pre.length = off) (hmid : mid.length = k)
  (hb : Blk w g t (pre ++ mid ++ post).toArray) :
  Calls Try.prog 66 #[.slice (some ⟨g, off, none⟩) k cap, .int .i64 n] w fun e w' => e = .returned (.tuple #[]) ∧ w.grownBy w' (some g) ∧ Blk w' g t (pre ++ bvs (be k n) ++ post).toArray := by
 have H0 : PutAt w w g t pre mid post k n k n := ⟨Nat.le_refl _, hn, World.grownBy.refl _ _, [], by simp, by simpa [bvs, List.take_of_length_le (Nat.le_of_eq hmid)] using hb⟩
 clear hb
 have HP := Lib.hid hpre
 have HM := Lib.hid hmid
 clear hpre hmid
 go_enter Try.func66, Try.ntmps66
 go_wp2
 go_loopw [1, 4] (fun m i wr => ∃ (j mm : Nat) (x : Int), x = (j : Int) - 1 ∧ i = .int .i64 x ∧ m = .int .i64 mm ∧ PutAt w wr g t pre mid post k n j mm) (fun _ i _ => (intOf i + 1).toNat)
 case atStart => exact ⟨k, n, _, rfl, rfl, rfl, H0⟩
 case round =>
  obtain ⟨j, mm, x, hx, rfl, rfl, hr⟩ := hrel
  have hle := hr.le
  have hlt := hr.lt
  rcases j with _ | j
  ·obtain rfl : x = -1 := by omega
   obtain ⟨tl, he, hbl⟩ := hr.done
   have he' : be k n = tl := by simpa [be] using he
   have HE := Lib.hid he'
   have hgr := hr.grown
   clear he he' hx H0
   go_wp2
   go_end0
   refine ⟨rfl, hgr, ?_⟩
   rw [HE.out]
   simpa using hbl
  ·obtain rfl : x = (j : Int) := by omega
   have hc := hr.cell HM.out HP.out
   have hn' := hr.next HM.out HP.out
   obtain ⟨hc1, hc2⟩ := hc
   clear hx H0
   go_wp2
   go_roundw
   case rel => exact ⟨j, mm / 256, _, rfl, rfl, rfl, hn'⟩
   case measure => simp [intOf]
end Go.Proofs.Ytnimpcffagidoaa
