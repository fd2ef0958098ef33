/-
  The dice of the statements: numbers out of a list, one after the other.
-/
import Derived.Test.YtnimpcffagidoaaRows
import Derived.Test.YtnimpcffagidoaaKA
import Derived.Deep.RegionHeld3
import Derived.Deep.DrawnRows
import Derived.Deep.RegionWith
import Derived.BigQuiet
namespace Go.Proofs.Ytnimpcffagidoaa
open Go.RowKit
set_option linter.unusedSimpArgs false
set_option linter.unusedVariables false
attribute [local go_sem ↓] Go.wp_at_zero Go.wp_at_succ

set_option maxHeartbeats 400000 in
theorem light_any (A : Option Addr) (len cap : Nat) (w : World) :
    Calls Try.prog 15 #[.slice A len cap] w fun e w' => e = .returned (.bool (decide (len ≤ 400))) ∧ w = w' := by
  by_cases h : len ≤ 400
  all_goals
    go_enter Try.func15, Try.ntmps15
    go_wp2
    go_ret
    exact ⟨by simp; omega, rfl⟩

theorem emod_mod (n k : Int) : (Int.tmod n k + k) % k = n % k := by
  rw [Int.add_emod_right, Int.tmod_def, Int.sub_mul_emod_self_left]

set_option maxHeartbeats 400000 in
theorem mod_any (n k : Int) (w : World) (hk : 0 < k) (hk2 : k ≤ 4611686018427387904) :
    Calls Try.prog 20 #[.int .i64 n, .int .i64 k] w fun e w' => e = .returned (.int .i64 (n % k)) ∧ w = w' := by
  have h1 := Int.tmod_lt_of_pos n hk
  have h2 : -k < Int.tmod n k := by
    have := Int.lt_tmod_of_pos n hk
    omega
  have he := Lib.hid (emod_mod n k)
  go_enter Try.func20, Try.ntmps20
  go_wp2
  go_ret
  exact ⟨ret_int he.out, rfl⟩

/-- dice in block g: the numbers are never written, the place p never passes their end; all of it lies below block B -/
def DiceOk (B : Nat) (w : World) (g : Nat) : Prop :=
  g < B ∧ B ≤ w.heap.size ∧ ∃ (A : Option Addr) (len cap p : Nat) (zs : List Int), Blk w g 79 #[.slice A len cap, .int .i64 p] ∧ p ≤ len ∧ len ≤ 400 ∧ len ≤ zs.length ∧
    ∀ i, i < len → ∃ b off, A = some ⟨b, off, none⟩ ∧ b ≠ g ∧ b < B ∧ w.cell? ⟨b, off + i, none⟩ = some (.int .i64 (zs.getD i 0))

theorem DiceOk.keep {B : Nat} {w w' : World} {g : Nat} (h : DiceOk B w g) (hb : ∀ i, i < B → w'.heap[i]? = w.heap[i]?) (hz : w.heap.size ≤ w'.heap.size) : DiceOk B w' g := by
  obtain ⟨hg, hB, A, len, cap, p, zs, h1, h2, h3, h4, h5⟩ := h
  refine ⟨hg, by omega, A, len, cap, p, zs, (hb g hg).trans h1, h2, h3, h4, fun i hi => ?_⟩
  obtain ⟨b, off, e, hne, hlt, hc⟩ := h5 i hi
  exact ⟨b, off, e, hne, hlt, (World.cell?_of_block (hb b hlt)).trans hc⟩
theorem DiceOk.more {B B' : Nat} {w : World} {g : Nat} (h : DiceOk B w g) (hB : B ≤ B') (hB' : B' ≤ w.heap.size) : DiceOk B' w g := by
  obtain ⟨hg, _, A, len, cap, p, zs, h1, h2, h3, h4, h5⟩ := h
  refine ⟨by omega, hB', A, len, cap, p, zs, h1, h2, h3, h4, fun i hi => ?_⟩
  obtain ⟨b, off, e, hne, hlt, hc⟩ := h5 i hi
  exact ⟨b, off, e, hne, by omega, hc⟩
theorem DiceOk.below {B B' : Nat} {w w' : World} {g : Nat} (h : DiceOk B w g) (hb : Below B' w w') (hB : B ≤ B') : DiceOk B w' g := h.keep (fun i hi => hb.block i (by omega)) hb.size
theorem DiceOk.drew {B : Nat} {w : World} {g : Nat} (h : DiceOk B w g) : DiceOk B w.drew g := h
theorem DiceOk.drewN {B : Nat} {w : World} {g : Nat} (h : DiceOk B w g) (n : Nat) : DiceOk B (w.drewN n) g := h
theorem DiceOk.alloc {B : Nat} {w : World} {g : Nat} (h : DiceOk B w g) (o : Obj) : DiceOk B (w.alloc o) g := h.below ((Below.refl _ _).alloc h.2.1 _) (Nat.le_refl _)
theorem DiceOk.setCell {B : Nat} {w : World} {g : Nat} (h : DiceOk B w g) {p : Addr} (hp : B ≤ p.block) (u : Value) : DiceOk B (w.setCell p u) g :=
  h.keep (fun i hi => Below.heap_setCell w p u i (by omega)) (by simp [World.setCell])
theorem DiceOk.grown {B : Nat} {w w' : World} {g r : Nat} (h : DiceOk B w g) (hg : w.grownBy w' (some r)) (hr : B ≤ r) : DiceOk B w' g :=
  h.keep (fun i hi => hg.block i (by have := h.2.1; omega) (fun e => by injection e; omega)) hg.size

set_option maxHeartbeats 400000 in
theorem next_any (B g : Nat) (n : Int) (w : World) (hd : DiceOk B w g) (hn : 0 < n) (hn2 : n ≤ 1000000000) :
    Calls Try.prog 25 #[.pointer (some ⟨g, 0, none⟩), .int .i64 n] w fun e w' => ∃ v : Int, 0 ≤ v ∧ v < n ∧ e = .returned (.int .i64 v) ∧ w.grownBy w' (some g) ∧ DiceOk B w' g := by
  have HD := Lib.hid hd
  obtain ⟨hg, hB, A, len, cap, p, zs, hb, hp, hl, hz, hc⟩ := hd
  have c0 := hb.cell 0
  have c1 := hb.cell 1
  have f1 := hb.frozen 1
  have hv0 := Int.emod_nonneg (zs.getD p 0) (show n ≠ 0 by omega)
  have hv1 := Int.emod_lt_of_pos (zs.getD p 0) hn
  by_cases hlt : p < len
  · obtain ⟨b, off, rfl, hne, hbs, hci⟩ := hc p hlt
    have hs := hb.set_ 1 (.int .i64 ((p : Int) + 1))
    have hbl : (w.setCell ⟨g, 1, none⟩ (.int .i64 ((p : Int) + 1))).cell? ⟨b, off + p, none⟩ = some (.int .i64 (zs.getD p 0)) := by
      rw [World.cell?_setCell_other _ _ _ _ (by simp [hne])]; exact hci
    have hlast : DiceOk B (w.setCell ⟨g, 1, none⟩ (.int .i64 ((p : Int) + 1))) g := by
      refine ⟨hg, by simpa [World.setCell] using hB, _, len, cap, p + 1, zs, by simpa using hs, by omega, hl, hz, fun i hi => ?_⟩
      obtain ⟨b', off', e, h1, h2, h3⟩ := hc i hi
      refine ⟨b', off', e, h1, h2, ?_⟩
      rw [World.cell?_setCell_other _ _ _ _ (by simp [h1])]; exact h3
    have HL := Lib.hid hlast
    have HV0 := Lib.hid hv0
    have HV1 := Lib.hid hv1
    generalize hz0 : zs.getD p 0 = z at *
    clear hc hs hlast hz0 hv0 hv1
    go_enter Try.func25, Try.ntmps25
    go_wp2_with fail
    go_quiet (fail)
    go_wp2_with fail
    have hgr : w.grownBy ((w.drewN nq).setCell ⟨g, 1, none⟩ (.int .i64 ((p : Int) + 1))) (some g) := only_setCell (only_drewN (World.grownBy.refl _ _) _) (.inl rfl) _
    have hd2 : DiceOk B ((w.drewN nq).setCell ⟨g, 1, none⟩ (.int .i64 ((p : Int) + 1))) g := HL.out
    have k0 : ((w.drewN nq).setCell ⟨g, 1, none⟩ (.int .i64 ((p : Int) + 1))).cell? ⟨g, 0, none⟩ = some (.slice (some ⟨b, off, none⟩) len cap) := by
      rw [World.cell?_setCell_other _ _ _ _ (by simp)]; exact c0
    have k1 : ((w.drewN nq).setCell ⟨g, 1, none⟩ (.int .i64 ((p : Int) + 1))).cell? ⟨g, 1, none⟩ = some (.int .i64 ((p : Int) + 1)) := by
      obtain ⟨_, h⟩ := cell?_setCell_some (w := w.drewN nq) (p := ⟨g, 1, none⟩) (x := .int .i64 ((p : Int) + 1)) (q := ⟨g, 1, none⟩) (v := .int .i64 p) c1
      simpa [World.setCell, World.cell?] using (show _ from hb.set_ 1 (.int .i64 ((p : Int) + 1))).cell 1
    have kb : ((w.drewN nq).setCell ⟨g, 1, none⟩ (.int .i64 ((p : Int) + 1))).cell? ⟨b, off + p, none⟩ = some (.int .i64 z) := hbl
    generalize (w.drewN nq).setCell ⟨g, 1, none⟩ (.int .i64 ((p : Int) + 1)) = W2 at *
    clear c0 c1 f1 hci hbl hb
    go_quiet ((go_at_call 20; exact quiet_left (mod_any z n _ hn (by omega))))
    go_wp2
    go_ret
    exact ⟨z % n, HV0.out, HV1.out, rfl, only_drewN hgr _, hd2.drewN _⟩
  · clear hc hv0 hv1
    go_enter Try.func25, Try.ntmps25
    go_wp2_with fail
    go_quiet (fail)
    go_wp2
    go_ret
    exact ⟨0, Int.le_refl _, hn, rfl, only_drewN (World.grownBy.refl _ _) _, HD.out.drewN _⟩
end Go.Proofs.Ytnimpcffagidoaa
