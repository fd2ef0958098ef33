/-
 The sanity check of the journal's laws.
-/
import Derived.Test.YtnimpcffagidoaaEncode
namespace Go.Proofs.Ytnimpcffagidoaa
open Go.RowKit
set_option linter.unusedSimpArgs false
set_option linter.unusedVariables false
set_option maxHeartbeats 800000 in
theorem awake42 (w : World) :
  Calls Try.prog 14 #[] w fun r w' => r = .returned (.bool true) ∧ Below w.heap.size w w' := by
 go_enter Try.func14, Try.ntmps14
 go_wp2_with fail
 refine (encode_yes 0 0 1 0 0 _ (by decide)).mono ?_
 rintro r w1 ⟨rfl, hb1⟩
 have hs : (ByteArray.size ⟨(Dec.mk 0 0 1 0 0).bytes.toArray⟩ : Nat) = 12 := by
  show Array.size _ = _
  simp [Dec.bytes_len]
 generalize (⟨(Dec.mk 0 0 1 0 0).bytes.toArray⟩ : ByteArray) = s at *
 go_wp2_with fail
 refine (encode_no ⟨0, 0, 0, 0, 0⟩ _ (by decide)).mono ?_
 rintro r w2 ⟨rfl, hb2⟩
 go_wp2_with fail
 refine (sum_any _ _ (by show Array.size _ ≤ _; simp [maxLen])).mono ?_
 rintro r w3 ⟨rfl, rfl⟩
 go_wp2_with fail
 go_ret
 exact ⟨rfl, below_step hb1 hb2 hb1.size⟩
end Go.Proofs.Ytnimpcffagidoaa
