/-
 Decisions read out of bytes, as the program does it.
-/
import Derived.Test.YtnimpcffagidoaaEncode
import Derived.Test.YtnimpcffagidoaaMoveLedger2
import Derived.Deep.DeepCutAuto
namespace Go.Proofs.Ytnimpcffagidoaa
open Go.RowKit
set_option linter.unusedSimpArgs false
set_option linter.unusedVariables false
attribute [local go_sem ↓] Go.wp_at_zero Go.wp_at_succ
def vl (l : List UInt8) : Nat := l.foldl (fun n c => n * 256 + c.toNat) 0
theorem vl_snoc (l : List UInt8) (c : UInt8) : vl (l ++ [c]) = vl l * 256 + c.toNat := by simp [vl]
theorem vl_lt (l : List UInt8) : vl l < 256 ^ l.length := by
 induction h : l.length generalizing l with
 | zero => simp [List.eq_nil_of_length_eq_zero h, vl]
 | succ n ih =>
  rcases List.eq_nil_or_concat l with rfl | ⟨r, c, rfl⟩
  ·simp at h
  ·rw [List.concat_eq_append, vl_snoc]
   have := ih r (by simpa using h)
   have := byte_lt c
   rw [Nat.pow_succ]
   omega
theorem or_low (n c : Nat) (hn : n < 1000000000000) (hc : c < 256) : bits .or .i64 ((n : Int) * 256) (c : Int) = ((n * 256 + c : Nat) : Int) := by
 rw [show ((n : Int) * 256) = ((n * 256 : Nat) : Int) from by omega, i64_or_nat _ _ (by omega) (by omega)]
 rw [show n * 256 = 2 ^ 8 * n from by omega, ← Nat.two_pow_add_eq_or_of_lt (by omega)]
set_option maxHeartbeats 400000 in
theorem get_any (g off k cap : Nat) (l : List UInt8) (w : World) (hl : l.length = k) (hk : k ≤ 4) (hc : ∀ j c, l[j]? = some c → w.cell? ⟨g, off + j, none⟩ = some (.int .u8 (c.toNat : Int))) :
  Calls Try.prog 57 #[.slice (some ⟨g, off, none⟩) k cap] w fun r w' => r = .returned (.int .i64 (vl l)) ∧ w = w' := by
 have HC := Lib.hid hc
 have HL := Lib.hid hl
 clear hc hl
 go_enter Try.func57, Try.ntmps57
 go_wp2_with fail
 go_loop [3, 8] (fun m i => ∃ j : Nat, j ≤ k ∧ i = .int .i64 j ∧ m = .int .i64 (vl (l.take j))) (fun _ i => k - (intOf i).toNat)
 case atStart => exact ⟨0, Nat.zero_le _, rfl, rfl⟩
 case round =>
  obtain ⟨j, hj, rfl, rfl⟩ := hrel
  by_cases hlt : j < k
  ·have hll := HL.out
   have hvl := vl_lt (l.take j)
   have hb : vl (l.take j) < 1000000000000 := by
    have : (l.take j).length ≤ 4 := by rw [List.length_take]; omega
    have := Nat.pow_le_pow_right (show 0 < 256 by decide) this
    omega
   obtain ⟨cc, hcc⟩ : ∃ c, l[j]? = some c := ⟨_, List.getElem?_eq_getElem (by omega)⟩
   have hcell := HC.out j cc hcc
   have hcb := byte_lt cc
   have hts : vl (l.take (j + 1)) = vl (l.take j) * 256 + cc.toNat := by
    rw [List.take_add_one, hcc, Option.toList_some, vl_snoc]
   have hor := or_low (vl (l.take j)) cc.toNat hb hcb
   have HT := Lib.hid hts
   clear hts hvl hll hcc
   go_wp2_with fail
   go_round
   case rel => exact ⟨j + 1, by omega, by go_num, by rw [HT.out]; go_num⟩
   case measure => simp [intOf]; omega
  ·have hf : l.take j = l := List.take_of_length_le (by have := HL.out; omega)
   have HF := Lib.hid hf
   clear hf
   go_wp2_with fail
   go_ret
   rw [HF.out]
   exact ⟨rfl, rfl⟩
theorem get_blk (g off k cap : Nat) (t : TypeId) (m : List UInt8) (w : World) (hb : Blk w g t (m.map fun c => Value.int .u8 (c.toNat : Int)).toArray) (h : off + k ≤ m.length) (hk : k ≤ 4) :
  Calls Try.prog 57 #[.slice (some ⟨g, off, none⟩) k cap] w fun r w' => r = .returned (.int .i64 (vl ((m.drop off).take k))) ∧ w = w' :=
 get_any g off k cap _ w (by simp; omega) hk (fun j c hj => by
  rw [hb.cell]
  have hjk : j < k := by
   have := (List.getElem?_eq_some_iff.1 hj).1
   simp at this
   omega
  rw [List.getElem?_take_of_lt hjk, List.getElem?_drop] at hj
  simp [hj])
end Go.Proofs.Ytnimpcffagidoaa
