/-
  The walk of the law JournalSums.
-/
import Derived.Test.YtnimpcffagidoaaAwake42
import Derived.Test.YtnimpcffagidoaaSums
import Derived.Deep.DeepCutAuto
namespace Go.Proofs.Ytnimpcffagidoaa
open Go.RowKit

set_option maxHeartbeats 800000 in
theorem sums_short (s : ByteArray) (a b : Int) (w : World) (hs : s.size ≤ maxLen) (h : s.size = 0 ∨ 1000 < s.size) :
    Calls Try.prog 3 #[.string s, .int .u8 a, .int .u8 b] w fun r w' => r = .returned (.bool true) ∧ Below w.heap.size w w' := by
  have h1 := Lib.hid fnv_a
  have h2 := Lib.hid fnv_foobar
  by_cases h0 : s.size = 0
  · have he := str_none h0
    clear h hs
    have h0' := Lib.hid h0
    clear h0
    go_enter Try.func3, Try.ntmps3
    go_wp2_with fail
    refine (sum_any _ _ (by show Array.size _ ≤ _; simp [maxLen])).mono ?_
    rintro r w3 ⟨rfl, rfl⟩
    rw [h1.out]
    go_wp2_with fail
    refine (sum_any _ _ (by show Array.size _ ≤ _; simp [maxLen])).mono ?_
    rintro r w3 ⟨rfl, rfl⟩
    rw [h2.out]
    go_wp2_with fail
    refine (awake42 _).mono ?_
    rintro r w3 ⟨rfl, hb3⟩
    go_wp2_with fail
    go_ret
    exact ⟨rfl, hb3⟩
  · have he := str_some h0
    have h5 : (1000 : Int) < (s.size : Int) := by omega
    clear h
    have h0' := Lib.hid h0
    clear h0
    unfold maxLen at hs
    go_enter Try.func3, Try.ntmps3
    go_wp2_with fail
    refine (sum_any _ _ (by show Array.size _ ≤ _; simp [maxLen])).mono ?_
    rintro r w3 ⟨rfl, rfl⟩
    rw [h1.out]
    go_wp2_with fail
    refine (sum_any _ _ (by show Array.size _ ≤ _; simp [maxLen])).mono ?_
    rintro r w3 ⟨rfl, rfl⟩
    rw [h2.out]
    go_wp2_with fail
    refine (awake42 _).mono ?_
    rintro r w3 ⟨rfl, hb3⟩
    go_wp2_with fail
    go_ret
    exact ⟨rfl, hb3⟩

set_option maxRecDepth 100000 in
set_option maxHeartbeats 800000 in
theorem sums_long (s : ByteArray) (a b : Nat) (ha : a < 256) (hb : b < 256) (w : World) (h0 : s.size ≠ 0) (h5 : s.size ≤ 1000) :
    Calls Try.prog 3 #[.string s, .int .u8 a, .int .u8 b] w fun r w' => r = .returned (.bool true) ∧ Below w.heap.size w w' := by
  have h1 := Lib.hid fnv_a
  have h2 := Lib.hid fnv_foobar
  have he := str_some h0
  have hpos : 0 < s.size := by omega
  have h0' := Lib.hid h0
  clear h0
  obtain ⟨W, cap, kb, hcap, hbW, hzW, hblk⟩ := bytes_of_str (P := Try.prog) w 9 24 5 s (by kernel_rfl) (by kernel_rfl) (by kernel_rfl)
  have hidx : ∃ i, i = a % s.size ∧ i < s.size := ⟨_, rfl, Nat.mod_lt _ hpos⟩
  obtain ⟨i, hi, hil⟩ := hidx
  have hmod : ((a : Int) % (s.size : Int)) = (i : Int) := by rw [hi]; simp
  obtain ⟨c, hcc⟩ : ∃ c, c = s[i] := ⟨_, rfl⟩
  have hcell : W.cell? ⟨w.heap.size, i, none⟩ = some (.int .u8 (c.toNat : Int)) := by
    rw [hcc, hblk.cell, Array.getElem?_append_left (by simpa using hil)]
    simp [hil]
    rfl
  have hfr : W.frozen? ⟨w.heap.size, i, none⟩ = false := hblk.frozen i (by simp; have : s.data.size = s.size := rfl; omega)
  generalize hg : w.heap.size = g at *
  have HM := Lib.hid hmod
  have HC := Lib.hid hcc
  have h5i : decide ((1000 : Int) < (s.size : Int)) = false := by simp; omega
  have h5j : decide (1000 < s.size) = false := by simp; omega
  have h5n := Lib.hid h5
  clear h5
  clear hcc
  have HI := Lib.hid hi
  have HZ := Lib.hid hzW
  clear hi hzW
  go_enter Try.func3, Try.ntmps3
  go_wp2_with fail
  refine (sum_any _ _ (by show Array.size _ ≤ _; simp [maxLen])).mono ?_
  rintro r w3 ⟨rfl, rfl⟩
  rw [h1.out]
  go_wp2_with fail
  refine (sum_any _ _ (by show Array.size _ ≤ _; simp [maxLen])).mono ?_
  rintro r w3 ⟨rfl, rfl⟩
  rw [h2.out]
  go_upto_region 7 with fail
  have hblk2 := hblk.set_ i (.int .u8 (((c.toNat : Int) + (1 + (b : Int) % 255)) % 256))
  generalize hW2 : W.setCell _ _ = W2 at *
  have hbW2 : Below g w W2 := by
    rw [← hW2]
    exact hbW.setCell (Nat.le_refl _) _
  have hne := fnv_set_ne s.data.toList i (UInt8.ofNat (c.toNat + (1 + b % 255))) (by simpa using hil) (by
    rw [show s.data.toList[i]'(by simpa using hil) = c from HC.out.symm]
    exact byte_bump c b hb)
  have hcv : (convert 24 9 (.slice (some ⟨g, 0, none⟩) s.size cap)).run Try.prog W2 = .ok (.string ⟨(s.data.toList.set i (UInt8.ofNat (c.toNat + (1 + b % 255)))).toArray⟩) W2 := by
    rw [← Array.toArray_toList (xs := Array.setIfInBounds _ _ _)] at hblk2
    refine conv_of_blk _ hblk2 (e := 5) (by kernel_rfl) (by kernel_rfl) (by kernel_rfl) (by simp) ?_
    rw [List.drop_zero, Array.toList_setIfInBounds, Array.toList_append, Array.toList_map, List.set_append_left _ _ (by simpa using hil), List.take_left' (by simp), List.map_set]
    rw [show (((c.toNat : Int) + (1 + (b : Int) % 255)) % 256) = ((UInt8.ofNat (c.toNat + (1 + b % 255))).toNat : Int) from by rw [UInt8.toNat_ofNat']; omega]
  have hl1 := fnv_lt s.data.toList
  have hsz : (ByteArray.mk (s.data.toList.set i (UInt8.ofNat (c.toNat + (1 + b % 255)))).toArray).size ≤ maxLen := by
    show Array.size _ ≤ _
    have := h5n.out
    have e : s.data.size = s.size := rfl
    simp [maxLen, e]
    omega
  have hsz2 : s.size ≤ maxLen := by have := h5n.out; unfold maxLen; omega
  have HSZ := Lib.hid hsz
  have HSZ2 := Lib.hid hsz2
  generalize hS2 : ByteArray.mk (s.data.toList.set i (UInt8.ofNat (c.toNat + (1 + b % 255)))).toArray = s2 at *
  have hs2 : s2.data.toList = s.data.toList.set i (UInt8.ofNat (c.toNat + (1 + b % 255))) := by rw [← hS2]
  rw [← hs2] at hne
  clear hs2 hS2 hW2 hblk2 hblk hcell hfr hsz hsz2
  go_wp2_with fail
  refine (sum_any _ _ HSZ.out).mono ?_
  rintro r w3 ⟨rfl, rfl⟩
  go_wp2_with fail
  refine (sum_any _ _ HSZ2.out).mono ?_
  rintro r w3 ⟨rfl, rfl⟩
  have ht1 : (((fnv s2.data.toList : Nat) : Int) != ((fnv s.data.toList : Nat) : Int)) = true := by rw [bne_iff_ne]; omega
  have ht2 : decide (((fnv s.data.toList : Nat) : Int) < 4294967296) = true := by simp; omega
  have ht3 : decide (fnv s.data.toList < 4294967296) = true := by simp; omega
  have ht4 : (fnv s2.data.toList != fnv s.data.toList) = true := by rw [bne_iff_ne]; omega
  generalize fnv s2.data.toList = n2 at *
  generalize hn1 : fnv s.data.toList = n1 at *
  have HN := Lib.hid hn1
  clear hn1 hne
  go_wp2_with fail
  refine (sum_any _ _ HSZ2.out).mono ?_
  rintro r w3 ⟨rfl, rfl⟩
  rw [HN.out]
  go_wp2_with fail
  refine (sum_any _ _ HSZ2.out).mono ?_
  rintro r w3 ⟨rfl, rfl⟩
  rw [HN.out]
  go_wp2_with fail
  refine (awake42 _).mono ?_
  rintro r w3 ⟨rfl, hb3⟩
  go_wp2_with fail
  go_ret
  exact ⟨rfl, below_step hbW2 hb3 (by have := hbW2.size; omega)⟩

theorem walkJournalSums (a0 : ByteArray) (a1 a2 : Int) (w : World) (w0 : a0.size ≤ maxLen) (w1 : (Lit.int .u8 a1).wf = true) (w2 : (Lit.int .u8 a2).wf = true) :
    Calls Try.prog 3 #[.string a0, .int .u8 a1, .int .u8 a2] w fun r w' => r = .returned (.bool true) ∧ Below w.heap.size w w' := by
  by_cases h : a0.size = 0 ∨ 1000 < a0.size
  · exact sums_short a0 a1 a2 w w0 h
  · obtain ⟨x, rfl⟩ := Int.eq_ofNat_of_zero_le (wf_u8 w1).1
    obtain ⟨y, rfl⟩ := Int.eq_ofNat_of_zero_le (wf_u8 w2).1
    have h1 := (wf_u8 w1).2
    have h2 := (wf_u8 w2).2
    exact sums_long a0 x y (by omega) (by omega) w (by omega) (by omega)
end Go.Proofs.Ytnimpcffagidoaa
