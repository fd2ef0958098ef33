/-
  Equality of ledgers by the reference.
-/
import Derived.Test.YtnimpcffagidoaaDiffer
namespace Go.Proofs.Ytnimpcffagidoaa
open Go.RowKit
set_option linter.unusedSimpArgs false
set_option linter.unusedVariables false

theorem led_slice {w : World} {sv : Value} {ds : List Dec} (h : Led w sv ds) : ∃ A c, sv = .slice A ds.length c ∧ ds.length ≤ c ∧ c ≤ maxLen := by
  obtain ⟨_, A, c, h1, h2, h3, _⟩ := h
  exact ⟨A, c, h1, h2, h3⟩

set_option maxHeartbeats 400000 in
theorem rsame_any (sa sb : Value) (xs ys : List Dec) (w : World) (ha : Led w sa xs) (hb : Led w sb ys) (hn : xs.length ≤ 100000 ∧ ys.length ≤ 100000) :
    Calls Try.prog 31 #[.agg #[sa], .agg #[sb]] w fun r w' => r = .returned (.bool (decide (xs = ys))) ∧ Below w.heap.size w w' := by
  obtain ⟨A, c, hsa, _⟩ := led_slice ha
  obtain ⟨A', c', hsb, _⟩ := led_slice hb
  have HA := Lib.hid ((ha.alloc (.cells #[sa] 31)).alloc (.cells #[sb] 31))
  have HB := Lib.hid ((hb.alloc (.cells #[sa] 31)).alloc (.cells #[sb] 31))
  subst hsa hsb
  clear ha hb
  go_enter Try.func31, Try.ntmps31
  go_wp2_with fail
  refine (rdiffer_any _ _ xs ys _ HA.out HB.out hn).mono ?_
  rintro r w1 ⟨⟨i, b, hd, rfl⟩, hb1⟩
  have hbf : Below w.heap.size w w1 := below_step (((Below.refl _ _).alloc (Nat.le_refl _) _).alloc (by simp) _) hb1 (by simp; omega)
  have hbb : (!b) = decide (xs = ys) := by
    rcases hd with ⟨rfl, h1, h2⟩ | ⟨rfl, _, h⟩
    · have : xs ≠ ys := fun e => h2 (by rw [e])
      simp [this]
    · simp [h]
  have HBB := Lib.hid hbb
  clear hbb hd
  go_wp2_with fail
  go_ret
  rw [HBB.out]
  exact ⟨rfl, hbf⟩

set_option maxHeartbeats 400000 in
theorem samedec_any (sa sb : Value) (xs ys : List Dec) (w : World) (ha : Led w sa xs) (hb : Led w sb ys) (hn : xs.length ≤ 100000 ∧ ys.length ≤ 100000) :
    Calls Try.prog 22 #[sa, sb] w fun r w' => r = .returned (.bool (decide (xs = ys))) ∧ Below w.heap.size w w' := by
  obtain ⟨A, c, hsa, _⟩ := led_slice ha
  obtain ⟨A', c', hsb, _⟩ := led_slice hb
  have HA := Lib.hid ha
  have HB := Lib.hid hb
  subst hsa hsb
  clear ha hb
  go_enter Try.func22, Try.ntmps22
  go_wp2_with fail
  refine (rsame_any _ _ xs ys _ HA.out HB.out hn).mono ?_
  rintro r w1 ⟨rfl, hb1⟩
  generalize hq : decide (xs = ys) = q
  have HQ := Lib.hid hq
  clear hq
  go_wp2_with fail
  go_ret
  rw [HQ.out]
  exact ⟨rfl, hb1⟩

theorem samedec_eq (sa sb : Value) (xs : List Dec) (w : World) (ha : Led w sa xs) (hb : Led w sb xs) (hn : xs.length ≤ 100000) :
    Calls Try.prog 22 #[sa, sb] w fun r w' => r = .returned (.bool true) ∧ Below w.heap.size w w' :=
  (samedec_any sa sb xs xs w ha hb ⟨hn, hn⟩).mono fun _ _ ⟨h1, h2⟩ => ⟨by rw [h1]; simp, h2⟩
end Go.Proofs.Ytnimpcffagidoaa
