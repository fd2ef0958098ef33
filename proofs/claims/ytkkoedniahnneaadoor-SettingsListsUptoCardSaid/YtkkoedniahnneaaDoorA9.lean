/-
 The walks of (*parser).empty, begin, setting.
-/
import Derived.Test.YtkkoedniahnneaaDoorA8
import Derived.Deep.DeepCutAuto
import Derived.Deep.DrawnRows
import Derived.StillTailTactics
set_option linter.unusedSimpArgs false
set_option linter.unusedVariables false
namespace Go.Proofs.YtkkoedniahnneaaDoor.K
open Go.RowKit
attribute [local go_sem ↓] Go.wp_at_zero Go.wp_at_succ
theorem emp_no {s : ByteArray} (h : 0 < s.size) : s.toList.isEmpty = false := by
 rw [ByteArray.toList_eq]
 have e : (bl s).length = s.size := bl_len s
 cases he : s.data.toList with
 | nil => exact absurd (show (bl s).length = 0 by rw [show bl s = [] from he]; rfl) (by omega)
 | cons a l => rfl
theorem sgt_at {s : ByteArray} {k : Nat} (h : k < s.size) : sgt s k = ((s[k]'h).toNat : Int) := sgt_bl (show k < (bl s).length by rw [bl_len]; exact h)
theorem emp_ne {s : ByteArray} (h : 0 < s.size) : seq s ⟨#[]⟩ = false := by
 rw [seq_dec, decide_eq_false_iff_not]
 rintro rfl
 exact absurd h (by decide)
set_option maxHeartbeats 1000000 in
theorem empty_any (b : Nat) (s : ByteArray) (k : Int) (w : World) (h : s.size ≤ 4000000000) :
  Calls Tryd.prog 64 #[.pointer (some ⟨b, 0, none⟩), .string s, .int .i64 k] w fun e w' => e = .returned (.bool (empS s)) ∧ w' = w := by
 rcases Nat.eq_zero_or_pos s.size with h0 | h0
 ·obtain rfl : s = ⟨#[]⟩ := bl_ext (by rw [List.eq_nil_of_length_eq_zero (show (bl s).length = 0 by rw [bl_len]; exact h0)])
  go_enter Tryd.func64, Tryd.ntmps64
  go_wp2_with fail
  go_ret
  refine ⟨?_, rfl⟩
  rw [show empS ⟨#[]⟩ = true by unfold empS; rw [seq_dec]; simp]
  rfl
 ·have hi : (0 : Int) < (s.size : Int) := by omega
  have he := emp_no h0
  have q0 := sgt_at h0
  have q1 := emp_ne h0
  have e : empS s = (((s[0]'h0).toNat : Int) == 35 || ((s[0]'h0).toNat : Int) == 59) := by
   unfold empS
   rw [q1, show sgt s 0 = ((s[0]'h0).toNat : Int) from q0]
   rfl
  have E := Lib.hid e
  clear e q0 q1
  go_enter Tryd.func64, Tryd.ntmps64
  go_wp2_with fail
  all_goals (go_ret; refine ⟨?_, rfl⟩; rw [E.out]; first | rfl | (simp_all; done) | skip)
  all_goals trace_state
theorem brk_small {s : ByteArray} (h : s.size < 2) : brkS s = false := by
 rcases Nat.eq_zero_or_pos s.size with h0 | h0
 ·obtain rfl : s = ⟨#[]⟩ := bl_ext (by rw [List.eq_nil_of_length_eq_zero (show (bl s).length = 0 by rw [bl_len]; exact h0)])
  rfl
 ·have e : isub .i64 (slen s) 1 = 0 := by rw [isub_in (by simp only [slen]; omega)]; simp only [slen]; omega
  unfold brkS
  rw [e]
  cases h1 : ieq (sgt s 0) 91 with
  | false => rfl
  | true =>
   have : sgt s 0 = 91 := by simpa [ieq] using h1
   rw [this]
   rfl
theorem brk_big {s : ByteArray} (h : s.size ≤ 4000000000) (h0 : 0 < s.size) (h2 : s.size - 1 < s.size) : brkS s = ((((s[0]'h0).toNat : Nat) : Int) == 91 && (((s[s.size - 1]'h2).toNat : Nat) : Int) == 93) := by
 have e : isub .i64 (slen s) 1 = ((s.size - 1 : Nat) : Int) := by rw [isub_in (by simp only [slen]; omega)]; simp only [slen]; omega
 unfold brkS
 rw [e, show sgt s 0 = _ from sgt_at h0, sgt_at h2]
theorem sec_eq {s : ByteArray} (hs : s.size ≤ 4000000000) (h : 2 ≤ s.size) : secS s = tB (s.extract 1 (s.size - 1)) := by
 have e : isub .i64 (slen s) 1 = ((s.size - 1 : Nat) : Int) := by rw [isub_in (by simp only [slen]; omega)]; simp only [slen]; omega
 have e2 : imx 1 ((s.size - 1 : Nat) : Int) = ((s.size - 1 : Nat) : Int) := by unfold imx; split <;> omega
 unfold secS
 rw [e, e2]
 rfl
theorem ext_size (s : ByteArray) (a b : Nat) : (s.extract a b).size ≤ s.size := by
 rw [ByteArray.size_extract]
 omega
theorem PB.sec_ {u : World} {b : Nat} {L o : Value} {j : Int} {sec : ByteArray} (h : PB u b L j sec o) (t : ByteArray) : PB (u.setCell ⟨b, 2, none⟩ (.string t)) b L j t o := h.set_ 2 (.string t)
set_option maxHeartbeats 2000000 in
theorem begin_any (b : Nat) (s : ByteArray) (k : Int) (w : World) (h : s.size ≤ 4000000000) {L o : Value} {at' : Int} {sec : ByteArray} (hb : PB w b L at' sec o) :
  Calls Tryd.prog 65 #[.pointer (some ⟨b, 0, none⟩), .string s, .int .i64 k] w fun e w' => e = .returned (.bool (brkS s && wrdB (secS s))) ∧ PB w' b L at' (bif brkS s && wrdB (secS s) then secS s else sec) o ∧ w.grownBy w' (some b) := by
 have HB := Lib.hid hb
 clear hb
 by_cases h1 : s.size < 2
 ·have e := brk_small h1
  have hi : (s.size : Int) < 2 := by omega
  rw [e]
  go_enter Tryd.func65, Tryd.ntmps65
  go_wp2_with fail
  go_ret
  exact ⟨rfl, HB.out, World.grownBy.refl w _⟩
 ·have hi : ¬ (s.size : Int) < 2 := by omega
  have h0 : (0 : Int) < (s.size : Int) := by omega
  have h0' : 0 < s.size := by omega
  have h2 : s.size - 1 < s.size := by omega
  have q1 : IntKind.i64.wrap ((s.size : Int) - 1) = (s.size : Int) - 1 := IntWalk.i64_in _ (by omega)
  have q2 : ((s.size : Int) - 1).toNat = s.size - 1 := by omega
  have q3 : (0 : Int) ≤ (s.size : Int) - 1 := by omega
  have q4 : (s.size : Int) - 1 < (s.size : Int) := by omega
  have q5 : (s.size : Int) - 1 ≤ (s.size : Int) := by omega
  have q6 : (1 : Int) ≤ (s.size : Int) - 1 := by omega
  have E := Lib.hid (brk_big h h0' h2)
  have E2 := Lib.hid (sec_eq h (by omega))
  have hx1 : (s.extract 1 (s.size - 1)).size ≤ 4000000000 := Nat.le_trans (ext_size _ _ _) h
  have hx2 : (tB (s.extract 1 (s.size - 1))).size ≤ 4000000000 := Nat.le_trans (tB_size _) hx1
  generalize hx : s[0]'h0' = x at *
  generalize hy : s[s.size - 1]'h2 = y at *
  by_cases g1 : ((x.toNat : Nat) : Int) = 91
  ·by_cases g2 : ((y.toNat : Nat) : Int) = 93
   ·have fz := HB.out.frozen 2
    cases hw : wrdB (tB (s.extract 1 (s.size - 1))) with
    | false =>
     go_enter Tryd.func65, Tryd.ntmps65
     go_wp2_with (first | (go_at_call 107; refine (trim_calls _ _ (by omega)).mono ?_; rintro e w1 ⟨rfl, hb1⟩) | (go_at_call 103; refine (word_calls _ _ (by omega)).mono ?_; rintro e w2 ⟨rfl, hb2⟩))
     go_ret
     rw [E2.out, hw, Bool.and_false]
     exact ⟨rfl, (HB.out.bel hb1).bel hb2, grown_bel (grown_bel (World.grownBy.refl w _) hb1) hb2⟩
    | true =>
     go_enter Tryd.func65, Tryd.ntmps65
     go_wp2_with (first | (go_at_call 107; refine (trim_calls _ _ (by omega)).mono ?_; rintro e w1 ⟨rfl, hb1⟩) | (go_at_call 103; refine (word_calls _ _ (by omega)).mono ?_; rintro e w2 ⟨rfl, hb2⟩; have hP := (HB.out.bel hb1).bel hb2; have fz2 := hP.frozen 2; have z2 := hP.z2; have HP := Lib.hid hP; clear hP))
     go_ret
     rw [E2.out, hw, E.out, g1, g2]
     exact ⟨rfl, HP.out.sec_ _, grown_set (grown_bel (grown_bel (World.grownBy.refl w _) hb1) hb2) 2 _⟩
   ·go_enter Tryd.func65, Tryd.ntmps65
    go_wp2_with fail
    go_ret
    have : brkS s = false := by rw [E.out]; simp [g2]
    rw [this]
    exact ⟨rfl, HB.out, World.grownBy.refl w _⟩
  ·go_enter Tryd.func65, Tryd.ntmps65
   go_wp2_with fail
   go_ret
   have : brkS s = false := by rw [E.out]; simp [g1]
   rw [this]
   exact ⟨rfl, HB.out, World.grownBy.refl w _⟩
end Go.Proofs.YtkkoedniahnneaaDoor.K
