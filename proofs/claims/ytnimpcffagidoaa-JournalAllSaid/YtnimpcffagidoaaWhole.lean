/-
 Whole of the program: the bytes of the whole decisions.
-/
import Derived.Test.YtnimpcffagidoaaOpen
namespace Go.Proofs.Ytnimpcffagidoaa
open Go.RowKit
set_option linter.unusedSimpArgs false
set_option linter.unusedVariables false
set_option maxHeartbeats 400000 in
theorem whole_any (s : ByteArray) (w : World) (hs : s.size ≤ 1000000) :
  Calls Try.prog 23 #[.string s] w fun r w' => r = .returned (.string (s.extract 0 (12 * (opens s).length))) ∧ Below w.heap.size w w' := by
 have HS := Lib.hid hs
 clear hs
 go_enter Try.func23, Try.ntmps23
 go_wp2_with fail
 refine (open_any s _ HS.out).mono ?_
 rintro r w1 ⟨sv, rfl, hsl, hle, hb⟩
 obtain ⟨A, c, rfl, _⟩ := hsl.2
 have HSL := Lib.hid hsl
 clear hsl
 have hle' : 12 * (opens s).length ≤ s.size := by omega
 generalize hqq : 12 * (opens s).length = q at *
 have HQ := Lib.hid hqq
 clear hqq hle
 have hq : (q : Int) ≤ (s.size : Int) := by omega
 have hsz := HS.out
 have hsz' : (s.size : Int) ≤ 1000000 := by omega
 go_wp2_with fail
 go_ret
 rw [HQ.out]
 exact ⟨rfl, hb⟩
end Go.Proofs.Ytnimpcffagidoaa
