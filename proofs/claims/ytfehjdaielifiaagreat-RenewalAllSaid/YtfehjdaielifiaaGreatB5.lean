/-
 slices.Clone at links.
-/
import Derived.Test.YtfehjdaielifiaaGreatV20
import Derived.Test.YtfehjdaielifiaaGreatKY
set_option linter.unusedSimpArgs false
set_option linter.unusedVariables false
namespace Go.Proofs.YtfehjdaielifiaaGreat.K
open Go.RowKit
def cloneL (l : List Link) : List Link := l
def sp_f53 : Ent := specO (.pr (.sl tyLink) .nil) (fun x => (lenOk5 x.1)) (fun x => (.ms 50000)) (fun x => [.arr 62 tyLink (cloneL x.1)])
theorem en_f53 : Entered Tryz.prog 53 := .inr ⟨by decide, _, Tryz.func53, by kernel_rfl, by kernel_rfl⟩
theorem elemLink : ElemOk Tryz.prog 23 62 3 24 := ElemOk.of (.agg #[.int .i64 0, .int .i64 0, .int .i64 0]) (by kernel_rfl) (by kernel_rfl) (by kernel_rfl) (by decide)
theorem eql_slice_nil {P : Program} (w : World) (t e : TypeId) (a : Option Addr) (l c : Nat) (h : P.underlying t = some (.slice e)) : (binOp .eql t (.slice a l c) (.slice none 0 0)).run P w = .ok (.bool a.isNone) w := by
 simp [binOp, run_equal_slice_nil w t e a l c h]
set_option maxHeartbeats 400000 in
theorem clone_link (A : Option Addr) (c n : Nat) (cells : List Value) (w : World) (h : Sl w (.slice A n c) 3 n cells) (h1 : ∀ u ∈ cells, u.oneCell' = true) (hn : n ≤ 100000) :
  Calls Tryz.prog 53 #[.slice A n c] w fun r w' => ∃ sv, r = .returned sv ∧ w'.ownsRow w.heap.size 62 3 sv n cells ∧ Below w.heap.size w w' := by
 have he := eql_slice_nil (P := Tryz.prog) w 23 62 A n c (by kernel_rfl)
 rcases A with _ | ad
 ·have hnil : n = 0 := Classical.byContradiction fun h0 => by
   obtain ⟨_, A', c', hv, _, _, h3⟩ := h
   obtain ⟨b, off, e, _⟩ := h3 (by omega)
   rw [e] at hv
   simp at hv
  subst hnil
  have hc : cells = [] := List.eq_nil_of_length_eq_zero (by rw [h.1, Nat.zero_mul])
  subst hc
  clear h
  simp only [Option.isNone_none] at he
  go_enter Tryz.func53, Tryz.ntmps53
  go_wp2_with fail
  go_ret
  exact ⟨_, rfl, World.ownsRow_nil _ _ _ _, Below.refl _ _⟩
 ·simp only [Option.isNone_some] at he
  have hown := World.ownsRow_made w #[] (size := 3) (e := 62) 0 (Nat.le_refl _) (Nat.zero_le _) rfl
  have hsrc := h.alloc (.cells #[] 62)
  have HSRC := Lib.hid hsrc
  clear h hsrc
  go_enter Tryz.func53, Tryz.ntmps53
  go_wp2_with (at_builtin; refine wpList_app elemLink rfl _ _ rfl w.heap.size (.slice (some ⟨w.heap.size, 0, none⟩) 0 0) 0 [] rfl hown (some ad) n c cells rfl HSRC.out h1 (by omega) (by omega) (by simp) ?_; intro v' w4 hown4 hg4 hat4)
  go_ret
  refine ⟨v', rfl, by simpa using hown4, ?_⟩
  have hal := (Below.refl w.heap.size w).alloc (Nat.le_refl _) (.cells #[] 62)
  exact below_of_only hal hg4 (Nat.le_refl _) hal.size
theorem ms_f53 : Meets Tryz.prog 53 (strip sp_f53) :=
 meets_clone (e := 62) (y := tyLink) (by decide) (fun x hx => of_decide_eq_true hx) fun A c n cells w h h1 hn => clone_link A c n cells w h h1 hn
end Go.Proofs.YtfehjdaielifiaaGreat.K
