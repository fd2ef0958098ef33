/-
 The sum of a string, as the program and as the reference reckon it: both are the one fold over its bytes.
-/
import Derived.Test.YtnimpcffagidoaaRows
import Derived.Test.YtnimpcffagidoaaKA
namespace Go.Proofs.Ytnimpcffagidoaa
open Go.RowKit
set_option linter.unusedSimpArgs false
set_option linter.unusedVariables false
def fnvStep (h : Nat) (c : UInt8) : Nat := ((h ^^^ c.toNat) * 16777619) % 4294967296
def fnv (l : List UInt8) : Nat := l.foldl fnvStep 2166136261
theorem fnv_snoc (l : List UInt8) (c : UInt8) : fnv (l ++ [c]) = fnvStep (fnv l) c := by unfold fnv; rw [List.foldl_append, List.foldl_cons, List.foldl_nil]
theorem fnvStep_lt (h : Nat) (c : UInt8) : fnvStep h c < 4294967296 := by unfold fnvStep; omega
theorem fnv_lt (l : List UInt8) : fnv l < 4294967296 := by
 rcases List.eq_nil_or_concat l with rfl | ⟨r, c, rfl⟩
 ·unfold fnv; rw [List.foldl_nil]; omega
 ·rw [List.concat_eq_append, fnv_snoc]; exact fnvStep_lt _ _
theorem byte_lt (c : UInt8) : c.toNat < 256 := c.toNat_lt
theorem xor_lt (h : Nat) (c : UInt8) (hh : h < 4294967296) : h ^^^ c.toNat < 4294967296 :=
 Nat.xor_lt_two_pow (n := 32) hh (Nat.lt_trans (byte_lt c) (by decide))
theorem step_u32 (h : Nat) (c : UInt8) (hh : h < 4294967296) :
  bits .xor .u32 (h : Int) ((c.toNat : Int) % 4294967296) * 16777619 % 4294967296 = (fnvStep h c : Int) := by
 have hc := byte_lt c
 have e : ((c.toNat : Int) % 4294967296) = ((c.toNat : Nat) : Int) := by omega
 rw [e, u32_xor_nat h c.toNat hh (by omega)]
 unfold fnvStep
 omega
set_option maxHeartbeats 400000 in
theorem sum_any (s : ByteArray) (w : World) (hs : s.size ≤ maxLen) :
  Calls Try.prog 13 #[.string s] w fun e w' => e = .returned (.int .i64 (fnv s.data.toList)) ∧ w = w' := by
 unfold maxLen at hs
 go_enter Try.func13, Try.ntmps13
 go_wp2
 go_loop [3, 7] (fun h i => ∃ k : Nat, k ≤ s.size ∧ i = .int .i64 k ∧ h = .int .u32 (fnv (s.data.toList.take k))) (fun _ i => s.size - (intOf i).toNat)
 case atStart => exact ⟨0, Nat.zero_le _, rfl, rfl⟩
 case round =>
  obtain ⟨k, hk, rfl, rfl⟩ := hrel
  have hb := fnv_lt (s.data.toList.take k)
  by_cases hlt : k < s.size
  ·have hst := step_u32 (fnv (s.data.toList.take k)) s[k] hb
   have hts : fnv (s.data.toList.take (k + 1)) = fnvStep (fnv (s.data.toList.take k)) s[k] := by rw [take_snoc s k hlt, fnv_snoc]
   have HS := Lib.hid hst
   have HT := Lib.hid hts
   clear hst hts
   go_wp2
   all_goals
    go_round
    case rel => exact ⟨k + 1, by omega, by go_num, by rw [HT.out, ← HS.out]⟩
    case measure => simp [intOf]; omega
  ·have hfull : s.data.toList.take k = s.data.toList := List.take_of_length_le (by simp; omega)
   have HF := Lib.hid hfull
   clear hfull
   go_wp2
   go_ret
   refine ⟨ret_int ?_, rfl⟩
   rw [HF.out]
end Go.Proofs.Ytnimpcffagidoaa
