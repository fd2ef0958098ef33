/-
  The sanity check of the ledger's laws.
-/
import Derived.Test.YtnimpcffagidoaaLatest
import Derived.Test.YtnimpcffagidoaaAdd
namespace Go.Proofs.Ytnimpcffagidoaa
open Go.RowKit
set_option linter.unusedSimpArgs false
set_option linter.unusedVariables false

theorem led_nil (w : World) : Led w (.slice none 0 0) [] := ⟨rfl, none, 0, rfl, Nat.le_refl _, Nat.zero_le _, fun h => absurd h (by simp)⟩
theorem days_one (d : Dec) : Days [d] := by
  intro i j x y hij hx hy
  have h1 := (List.getElem?_eq_some_iff.1 hx).1
  have h2 := (List.getElem?_eq_some_iff.1 hy).1
  simp at h1 h2
  subst h1 h2
  simp at hx hy
  subst hx hy
  omega

set_option maxHeartbeats 800000 in
theorem awake41 (w : World) :
    Calls Try.prog 24 #[] w fun r w' => r = .returned (.bool true) ∧ Below w.heap.size w w' := by
  go_enter Try.func24, Try.ntmps24
  go_wp2_with fail
  refine (add_any none 0 [] 0 0 0 0 0 _ (led_nil _) (by simp)).mono ?_
  rintro r w1 ⟨sv, rfl, ho1, hb1⟩
  have e1 : addR [] ⟨0, 0, 0, 0, 0⟩ = 57 := by decide
  rw [e1]
  obtain ⟨A1, c1, rfl⟩ := own_slice ho1
  generalize (addL [] ⟨0, 0, 0, 0, 0⟩).length = n1 at *
  clear ho1
  go_wp2_with fail
  have b2 : Below w.heap.size w (w1.alloc (.cells #[.slice A1 n1 c1] 31)) := hb1.alloc hb1.size _
  clear hb1
  generalize w1.alloc (.cells #[.slice A1 n1 c1] 31) = w2 at *
  refine (add_any none 0 [] 3 0 4 0 1 _ (led_nil _) (by simp)).mono ?_
  rintro r w3 ⟨sv2, rfl, ho3, hb3⟩
  have e2 : addR [] ⟨3, 0, 4, 0, 1⟩ = 0 := by decide
  have e3 : addL [] ⟨3, 0, 4, 0, 1⟩ = [⟨3, 0, 4, 0, 1⟩] := by simp [addL, e2]
  rw [e3] at ho3
  rw [e2]
  have b3 := below_step b2 hb3 b2.size
  obtain ⟨A, c, rfl⟩ := own_slice ho3
  have b4 : Below w.heap.size w (w3.alloc (.cells #[.slice A [Dec.mk 3 0 4 0 1].length c] 31)) := b3.alloc b3.size _
  have hL : Led (w3.alloc (.cells #[.slice A [Dec.mk 3 0 4 0 1].length c] 31)) (.slice A [Dec.mk 3 0 4 0 1].length c) [⟨3, 0, 4, 0, 1⟩] := Sl.alloc (Sl.of_own ho3) _
  clear ho3 hb3 b2 b3
  go_wp2_with fail
  generalize w3.alloc (.cells #[.slice A [Dec.mk 3 0 4 0 1].length c] 31) = w4 at *
  refine (latest_any A c _ 4 0 3 w4 hL (days_one _) (by simp)).mono ?_
  rintro r w5 ⟨rfl, hb5⟩
  have e4 : latestR [⟨3, 0, 4, 0, 1⟩] 4 0 3 = some ⟨3, 0, 4, 0, 1⟩ := by simp [latestR, cnt, isOn]
  rw [e4]
  have b5 := below_step b4 hb5 b4.size
  have b6 : Below w.heap.size w (w5.alloc (.cells #[.int .i64 3, .int .i64 0, .int .i64 4, .int .i64 0, .int .i64 1] 40)) := b5.alloc b5.size _
  clear hb5 b5 b4 hL
  simp only [Option.getD_some, Dec.val, Option.isSome_some]
  go_wp2_with fail
  go_ret
  exact ⟨rfl, b6⟩
end Go.Proofs.Ytnimpcffagidoaa
