/-
 Decode of the program where the place is none.
-/
import Derived.Test.YtnimpcffagidoaaDecode2
namespace Go.Proofs.Ytnimpcffagidoaa
open Go.RowKit
set_option linter.unusedSimpArgs false
set_option linter.unusedVariables false
attribute [local go_sem ↓] Go.wp_at_zero Go.wp_at_succ
set_option maxHeartbeats 800000 in
theorem decode_neg (s : ByteArray) (n : Int) (w : World) (h : n < 0) :
  Calls Try.prog 21 #[.string s, .int .i64 n] w fun r w' => r = .returned (.tuple #[noDec, .int .i64 0, .int .i64 2]) ∧ Below w.heap.size w w' := by
 have ht1 : decide (n < 0) = true := by simp; omega
 go_enter Try.func21, Try.ntmps21
 go_wp2_with fail
 have hb : Blk (w.alloc (.cells #[.int .i64 0, .int .i64 0, .int .i64 0, .int .i64 0, .int .i64 0] 40)) w.heap.size 40 #[.int .i64 0, .int .i64 0, .int .i64 0, .int .i64 0, .int .i64 0] := Blk.new w _ _
 have q0 := hb.cell 0
 have q1 := hb.cell 1
 have q2 := hb.cell 2
 have q3 := hb.cell 3
 have q4 := hb.cell 4
 simp only [List.getElem?_toArray, List.getElem?_cons_zero, List.getElem?_cons_succ] at q0 q1 q2 q3 q4
 exact bodyPost_ret (by simp [results, Try.results21, go_sem, q0, q1, q2, q3, q4]; rfl) rfl ⟨rfl, (Below.refl _ _).alloc (Nat.le_refl _) _⟩
set_option maxHeartbeats 800000 in
theorem decode_far (s : ByteArray) (n : Nat) (w : World) (h : s.size < n) :
  Calls Try.prog 21 #[.string s, .int .i64 n] w fun r w' => r = .returned (.tuple #[noDec, .int .i64 0, .int .i64 2]) ∧ Below w.heap.size w w' := by
 have ht1 : decide ((s.size : Int) < (n : Int)) = true := by simp; omega
 have ht2 : decide (s.size < n) = true := by simp; omega
 go_enter Try.func21, Try.ntmps21
 go_wp2_with fail
 have hb : Blk (w.alloc (.cells #[.int .i64 0, .int .i64 0, .int .i64 0, .int .i64 0, .int .i64 0] 40)) w.heap.size 40 #[.int .i64 0, .int .i64 0, .int .i64 0, .int .i64 0, .int .i64 0] := Blk.new w _ _
 have q0 := hb.cell 0
 have q1 := hb.cell 1
 have q2 := hb.cell 2
 have q3 := hb.cell 3
 have q4 := hb.cell 4
 simp only [List.getElem?_toArray, List.getElem?_cons_zero, List.getElem?_cons_succ] at q0 q1 q2 q3 q4
 exact bodyPost_ret (by simp [results, Try.results21, go_sem, q0, q1, q2, q3, q4]; rfl) rfl ⟨rfl, (Below.refl _ _).alloc (Nat.le_refl _) _⟩
end Go.Proofs.Ytnimpcffagidoaa
