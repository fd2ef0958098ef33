/-
 slices.Clone of decisions.
-/
import Derived.Test.YtnimpcffagidoaaFollows
namespace Go.Proofs.Ytnimpcffagidoaa
open Go.RowKit
set_option linter.unusedSimpArgs false
set_option linter.unusedVariables false
abbrev Own (w : World) (B : Nat) (sv : Value) (ds : List Dec) : Prop := w.ownsRow B 40 5 sv ds.length (decCells ds)
theorem decCells_one (ds : List Dec) : ∀ u ∈ decCells ds, u.oneCell' = true := by
 intro u hu
 simp only [decCells, List.mem_flatMap] at hu
 obtain ⟨d, _, hd⟩ := hu
 simp only [Dec.cells, List.mem_cons, List.not_mem_nil, or_false] at hd
 rcases hd with rfl | rfl | rfl | rfl | rfl <;> rfl
theorem eql_slice_nil {P : Program} (w : World) (t e : TypeId) (a : Option Addr) (l c : Nat) (h : P.underlying t = some (.slice e)) : (binOp .eql t (.slice a l c) (.slice none 0 0)).run P w = .ok (.bool a.isNone) w := by
 simp [binOp, run_equal_slice_nil w t e a l c h]
set_option maxHeartbeats 400000 in
theorem clone_any (A : Option Addr) (c : Nat) (ds : List Dec) (w : World) (h : Led w (.slice A ds.length c) ds) (hn : ds.length ≤ 100000) :
  Calls Try.prog 59 #[.slice A ds.length c] w fun r w' => ∃ sv, r = .returned sv ∧ Own w' w.heap.size sv ds ∧ Below w.heap.size w w' := by
 have he := eql_slice_nil (P := Try.prog) w 29 40 A ds.length c (by kernel_rfl)
 rcases A with _ | ad
 ·have hnil : ds = [] := by
   obtain ⟨_, A', c', hv, _, _, h3⟩ := h
   injection hv with e1 _ _
   subst e1
   rcases ds with _ | ⟨d, l⟩
   ·rfl
   ·obtain ⟨b, off, e, _⟩ := h3 (by simp)
    cases e
  subst hnil
  clear h
  simp only [List.length_nil, Option.isNone_none] at he
  go_enter Try.func59, Try.ntmps59
  go_wp2_with fail
  go_ret
  exact ⟨_, rfl, World.ownsRow_nil _ _ _ _, Below.refl _ _⟩
 ·simp only [Option.isNone_some] at he
  have hown := World.ownsRow_made w #[] (size := 5) (e := 40) 0 (Nat.le_refl _) (by simp [maxLen]) rfl
  have hsrc := h.alloc (.cells #[] 40)
  have HSRC := Lib.hid hsrc
  clear h hsrc
  go_enter Try.func59, Try.ntmps59
  go_wp2_with (at_builtin; refine wpList_app elemDec rfl _ _ rfl w.heap.size (.slice (some ⟨w.heap.size, 0, none⟩) 0 0) 0 [] rfl hown (some ad) ds.length c (decCells ds) rfl HSRC.out (decCells_one ds) (by omega) (by omega) (by simp) ?_; intro v' w4 hown4 hg4 hat4)
  go_ret
  refine ⟨v', rfl, by simpa using hown4, ?_⟩
  have hal := (Below.refl w.heap.size w).alloc (Nat.le_refl _) (.cells #[] 40)
  exact below_of_only hal hg4 (Nat.le_refl _) hal.size
end Go.Proofs.Ytnimpcffagidoaa
