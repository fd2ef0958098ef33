/-
 The bytes of a decision, as the reference makes them.
-/
import Derived.Test.YtnimpcffagidoaaEncode
import Derived.Test.YtnimpcffagidoaaMoveLedger2
namespace Go.Proofs.Ytnimpcffagidoaa
open Go.RowKit
set_option linter.unusedSimpArgs false
set_option linter.unusedVariables false
attribute [local go_sem ↓] Go.wp_at_zero Go.wp_at_succ
theorem rstep (h : Nat) (c : UInt8) (hh : h < 4294967296) : (wrap64 (bits .xor .i64 (h : Int) (wrap64 (c.toNat : Int)) * 16777619)).tmod 4294967296 = (fnvStep h c : Int) := by
 have hc := byte_lt c
 have hx := xor_lt h c hh
 rw [IntWalk.wrap64_in (c.toNat : Int) (by omega), i64_xor_nat h c.toNat (by omega) (by omega)]
 unfold fnvStep
 generalize h ^^^ c.toNat = x at *
 rw [IntWalk.wrap64_in _ (by omega), Int.tmod_eq_emod_of_nonneg (by omega)]
 omega
set_option maxHeartbeats 400000 in
theorem rsum_any (s : ByteArray) (w : World) (hs : s.size ≤ maxLen) :
  Calls Try.prog 56 #[.string s] w fun e w' => e = .returned (.int .i64 (fnv s.data.toList)) ∧ w = w' := by
 unfold maxLen at hs
 go_enter Try.func56, Try.ntmps56
 go_wp2
 go_loop [3, 4] (fun h i => ∃ k : Nat, k ≤ s.size ∧ i = .int .i64 k ∧ h = .int .i64 (fnv (s.data.toList.take k))) (fun _ i => s.size - (intOf i).toNat)
 case atStart => exact ⟨0, Nat.zero_le _, rfl, rfl⟩
 case round =>
  obtain ⟨k, hk, rfl, rfl⟩ := hrel
  have hb := fnv_lt (s.data.toList.take k)
  by_cases hlt : k < s.size
  ·have hrs := rstep (fnv (s.data.toList.take k)) s[k] hb
   have hts : fnv (s.data.toList.take (k + 1)) = fnvStep (fnv (s.data.toList.take k)) s[k] := by rw [take_snoc s k hlt, fnv_snoc]
   have HS := Lib.hid hrs
   have HT := Lib.hid hts
   clear hrs hts
   go_wp2
   all_goals
    go_round
    case rel => exact ⟨k + 1, by omega, by go_num, by rw [HT.out, ← HS.out]⟩
    case measure => simp [intOf]; omega
  ·have hfull : s.data.toList.take k = s.data.toList := List.take_of_length_le (by simp; omega)
   have HF := Lib.hid hfull
   clear hfull
   go_wp2
   go_ret
   refine ⟨ret_int ?_, rfl⟩
   rw [HF.out]
theorem zs_size (n : Nat) : (zs n).length = n := by simp [zs]
theorem infoU8 : (Try.prog.info? 5).map (fun i => (i.zero, i.size, i.bytes)) = some (some (.int .u8 0), 1, 1) := by kernel_rfl
set_option maxHeartbeats 400000 in
theorem number_any (n k : Nat) (w : World) (hk : k ≤ 8) (hn : n < 9223372036854775808) :
  Calls Try.prog 67 #[.int .i64 n, .int .i64 k] w fun e w' => e = .returned (.string ⟨(be k n).toArray⟩) ∧ Below w.heap.size w w' := by
 have hmk : (Instr.makeSlice 24 (.int .i64 (k : Int)) (.int .i64 (k : Int))).run Try.prog w = .ok (.slice (some ⟨w.heap.size, 0, none⟩) k k) (w.alloc (.cells (zs k).toArray 5)) := by
  obtain ⟨i, hi, h0, h1, h2⟩ := info_parts infoU8
  rw [run_make_rowN (P := Try.prog) 24 5 i (.int .u8 0) (by kernel_rfl) hi h0 .i64 .i64 k k (Nat.le_refl _) (by rw [h2]; omega) (by omega) w, h1]
  congr 3
  simp [madeCells, Value.cells, zs]
  apply Array.ext
  ·simp
  ·intro i h3 h4
   simp [Nat.mod_one]
 go_enter Try.func67, Try.ntmps67
 go_wp2_with fail
 have H0 : PutAt (w.alloc (.cells (zs k).toArray 5)) (w.alloc (.cells (zs k).toArray 5)) w.heap.size 5 [] (zs k) [] k n k n :=
  ⟨Nat.le_refl _, hn, World.grownBy.refl _ _, [], by simp, by simpa [bvs, List.take_of_length_le (Nat.le_of_eq (zs_size k))] using Blk.new w 5 (zs k).toArray⟩
 have hzs : (zs k).length = k := zs_size k
 have HZ := Lib.hid hzs
 generalize hW : w.alloc (.cells (zs k).toArray 5) = W at *
 have hbW : Below w.heap.size w W := by rw [← hW]; exact (Below.refl _ _).alloc (Nat.le_refl _) _
 generalize hg : w.heap.size = g at *
 clear hmk hW hzs
 go_loopw [0, 6] (fun m i wr => ∃ (j mm : Nat) (x : Int), x = (j : Int) - 1 ∧ i = .int .i64 x ∧ m = .int .i64 mm ∧ PutAt W wr g 5 [] (zs k) [] k n j mm) (fun _ i _ => (intOf i + 1).toNat)
 case atStart => exact ⟨k, n, _, rfl, rfl, rfl, H0⟩
 case round =>
  obtain ⟨j, mm, x, hx, rfl, rfl, hr⟩ := hrel
  have hle := hr.le
  have hlt := hr.lt
  rcases j with _ | j
  ·obtain rfl : x = -1 := by omega
   obtain ⟨tl, he, hbl⟩ := hr.done
   have he' : be k n = tl := by simpa [be] using he
   have hgr := hr.grown
   have hcv : (convert 24 9 (.slice (some ⟨g, 0, none⟩) k k)).run Try.prog wr = .ok (.string ⟨tl.toArray⟩) wr :=
    conv_of_blk _ hbl.f (e := 5) (by kernel_rfl) (by kernel_rfl) (by kernel_rfl) (by rw [← he', be_len]) (by
     rw [List.nil_append, List.take_zero, List.nil_append, List.append_nil, List.drop_zero, List.take_of_length_le (by rw [bvs_len, ← he', be_len]; exact Nat.le_refl _)]
     rfl)
   have HE := Lib.hid he'
   clear he he' hx H0 hbl
   go_wp2
   go_ret
   rw [HE.out, hg]
   exact ⟨rfl, below_of_only hbW hgr (Nat.le_refl _) (by have := hbW.size; omega)⟩
  ·obtain rfl : x = (j : Int) := by omega
   have hc := hr.cell HZ.out rfl (off := 0)
   have hand : bits .and .i64 (mm : Int) 255 = (mm : Int) % 256 := by
    have h := i64_and_nat mm 255 hlt (by omega)
    rw [show ((255 : Nat) : Int) = 255 from rfl] at h
    rw [h, show mm &&& 255 = mm % 256 from Nat.and_two_pow_sub_one_eq_mod mm 8]
    rfl
   have hn' := hr.next HZ.out rfl (off := 0)
   obtain ⟨hc1, hc2⟩ := hc
   clear hx H0
   simp only [Nat.zero_add] at hc1 hc2 hn'
   go_wp2
   go_roundw
   case rel => exact ⟨j, mm / 256, _, rfl, rfl, rfl, hn'⟩
   case measure => simp [intOf]
end Go.Proofs.Ytnimpcffagidoaa
