/-
  The generators of decisions and ledgers: what they make is valid, whatever the dice.
-/
import Derived.Test.YtnimpcffagidoaaDice
import Derived.Test.YtnimpcffagidoaaValid
import Derived.StillTailTactics
namespace Go.Proofs.Ytnimpcffagidoaa
open Go.RowKit
set_option linter.unusedSimpArgs false
set_option linter.unusedVariables false
attribute [local go_sem ↓] Go.wp_at_zero Go.wp_at_succ

theorem roll_any (A : Option Addr) (len cap : Nat) (w : World) :
    Calls Try.prog 17 #[.slice A len cap] w fun e w' => e = .returned (.pointer (some ⟨w.heap.size, 0, none⟩)) ∧ w' = w.alloc (.cells #[.slice A len cap, .int .i64 0] 79) := by
  go_enter Try.func17, Try.ntmps17
  go_wp2
  go_ret
  exact ⟨rfl, rfl⟩
theorem DiceOk.new_ {w : World} {a : Option Addr} {len cap : Nat} {zs : List Int} (h : IsRow .i64 w a len cap zs) (hl : len ≤ 400) (hlt : ∀ x, a = some x → 0 < len → x.block < w.heap.size) :
    DiceOk (w.heap.size + 1) (w.alloc (.cells #[.slice a len cap, .int .i64 0] 79)) w.heap.size := by
  refine ⟨by omega, by simp, a, len, cap, 0, zs, Blk.new _ _ _, by omega, hl, ?_, fun i hi => ?_⟩
  · rcases h with ⟨_, rfl, _, rfl⟩ | ⟨x, _, h1, _, h2, _⟩
    · simp
    · omega
  · rcases h with ⟨_, rfl, _, rfl⟩ | ⟨x, rfl, h1, _, h2, h3, _⟩
    · omega
    · have hx := hlt x rfl (by omega)
      have hc := h3 i (by omega)
      obtain ⟨b, off, spot⟩ := x
      have hspot : spot = none := by
        have := h3 0 (by omega)
        simpa [Addr.add] using World.cell?_spot this
      subst hspot
      refine ⟨b, off, rfl, by simp at hx; omega, by simp at hx; omega, ?_⟩
      have hadd : (Addr.mk b off none).add i = ⟨b, off + i, none⟩ := by
        unfold Addr.add
        by_cases h0 : i = 0 <;> simp [h0]
      rw [hadd] at hc
      rw [World.cell?_alloc_lt _ _ _ (by simpa using hx)]
      exact hc

theorem grown_cell {b o g g2 : Nat} {w w' : World} {t : TypeId} {cs : Array Value} {u : Value} (hg : w.grownBy w' (some g)) (hB : Blk w g2 t cs) (hb : b ≤ g2) (hne : b ≠ g) (hc : w.cell? ⟨b, o, none⟩ = some u) : w'.cell? ⟨b, o, none⟩ = some u :=
  (World.cell?_of_block (hg.block b (by have := hB.lt; omega) (fun e => hne (by injection e)))).trans hc

theorem store5 {w : World} {g : Nat} {t : TypeId} {a b c d e : Value} (h : Blk w g t #[a, b, c, d, e]) (x0 x1 x2 x3 x4 : Value) :
    Blk (((((w.setCell ⟨g, 0, none⟩ x0).setCell ⟨g, 1, none⟩ x1).setCell ⟨g, 2, none⟩ x2).setCell ⟨g, 3, none⟩ x3).setCell ⟨g, 4, none⟩ x4) g t #[x0, x1, x2, x3, x4] :=
  ((((h.set_ 0 x0).set_ 1 x1).set_ 2 x2).set_ 3 x3).set_ 4 x4
theorem grown5 {a w : World} {g k : Nat} (h : a.grownBy w (some k)) (hg : a.heap.size ≤ g) (x0 x1 x2 x3 x4 : Value) :
    a.grownBy (((((w.setCell ⟨g, 0, none⟩ x0).setCell ⟨g, 1, none⟩ x1).setCell ⟨g, 2, none⟩ x2).setCell ⟨g, 3, none⟩ x3).setCell ⟨g, 4, none⟩ x4) (some k) :=
  only_setCell (only_setCell (only_setCell (only_setCell (only_setCell h (.inr hg) _) (.inr hg) _) (.inr hg) _) (.inr hg) _) (.inr hg) _
theorem only5 (w : World) (g : Nat) (x0 x1 x2 x3 x4 : Value) :
    w.grownBy (((((w.setCell ⟨g, 0, none⟩ x0).setCell ⟨g, 1, none⟩ x1).setCell ⟨g, 2, none⟩ x2).setCell ⟨g, 3, none⟩ x3).setCell ⟨g, 4, none⟩ x4) (some g) :=
  have h0 := World.grownBy.refl w (some g)
  have h1 := only_setCell h0 (p := ⟨g, 0, none⟩) (.inl rfl) x0
  have h2 := only_setCell h1 (p := ⟨g, 1, none⟩) (.inl rfl) x1
  have h3 := only_setCell h2 (p := ⟨g, 2, none⟩) (.inl rfl) x2
  have h4 := only_setCell h3 (p := ⟨g, 3, none⟩) (.inl rfl) x3
  only_setCell h4 (p := ⟨g, 4, none⟩) (.inl rfl) x4
theorem dice5 {B : Nat} {w : World} {g k : Nat} (h : DiceOk B w k) (hg : B ≤ g) (x0 x1 x2 x3 x4 : Value) :
    DiceOk B (((((w.setCell ⟨g, 0, none⟩ x0).setCell ⟨g, 1, none⟩ x1).setCell ⟨g, 2, none⟩ x2).setCell ⟨g, 3, none⟩ x3).setCell ⟨g, 4, none⟩ x4) k :=
  (((((h.setCell (p := ⟨g, 0, none⟩) hg _).setCell (p := ⟨g, 1, none⟩) hg _).setCell (p := ⟨g, 2, none⟩) hg _).setCell (p := ⟨g, 3, none⟩) hg _).setCell (p := ⟨g, 4, none⟩) hg _)

/-- a decision that may follow another one, as the generator draws it -/
def Follows (a d : Dec) : Prop :=
  a.day ≤ d.day ∧ d.day ≤ a.day + 2 ∧ a.known ≤ d.known ∧ d.known ≤ a.known + 1 ∧ 1 ≤ d.kind ∧ d.kind ≤ 5 ∧ 0 ≤ d.subject ∧ d.subject ≤ 2 ∧ 0 ≤ d.value ∧ d.value ≤ 1

def Made (w : World) (B g : Nat) (P : Value → Prop) (e : Ending) (w' : World) : Prop := ∃ v, P v ∧ e = .returned v ∧ w.grownBy w' (some g) ∧ DiceOk B w' g

set_option maxHeartbeats 1000000 in
theorem decision_any (B g : Nat) (a : Dec) (w : World) (hd : DiceOk B w g) (ha : 0 ≤ a.day ∧ a.day ≤ 100000 ∧ 0 ≤ a.known ∧ a.known ≤ 100000) :
    Calls Try.prog 29 #[.pointer (some ⟨g, 0, none⟩), a.val] w (Made w B g fun v => ∃ d : Dec, Follows a d ∧ v = d.val) := by
  obtain ⟨a1, a2, a3, a4, a5⟩ := a
  obtain ⟨h1, h2, h3, h4⟩ := ha
  simp only [] at h1 h2 h3 h4
  unfold Dec.val
  have HD := Lib.hid hd
  have hBw := hd.2.1
  have hgB := hd.1
  clear hd
  go_enter Try.func29, Try.ntmps29
  go_wp2_with fail
  generalize hW : (w.alloc _).alloc _ = W
  have hz : w.heap.size + 2 ≤ W.heap.size := by rw [← hW]; simp
  have hgr : w.grownBy W (some g) := by rw [← hW]; exact only_alloc (only_alloc (World.grownBy.refl _ _) _) _
  have hd0 : DiceOk B W g := by rw [← hW]; exact (HD.out.alloc _).alloc _
  have c0 : W.cell? ⟨w.heap.size, 0, none⟩ = some (.int .i64 a1) := by rw [← hW]; exact (((Blk.new w _ _).alloc _).cell 0)
  have c1 : W.cell? ⟨w.heap.size, 1, none⟩ = some (.int .i64 a2) := by rw [← hW]; exact (((Blk.new w _ _).alloc _).cell 1)
  have hb : Blk W (w.heap.size + 1) 40 #[.int .i64 0, .int .i64 0, .int .i64 0, .int .i64 0, .int .i64 0] := by
    rw [← hW]
    have := Blk.new (w.alloc (.cells #[.int .i64 a1, .int .i64 a2, .int .i64 a3, .int .i64 a4, .int .i64 a5] 40)) 40 #[.int .i64 0, .int .i64 0, .int .i64 0, .int .i64 0, .int .i64 0]
    simpa using this
  have hne : w.heap.size ≠ g := by omega
  have hne1 : w.heap.size + 1 ≠ g := by omega
  generalize hbx : w.heap.size = bx at *
  clear hW
  have hgr' := only_drew hgr
  have hb' := hb.drew
  have hd0' := hd0.drew
  go_region_held3 (fun w' => w'.cell? ⟨bx, 0, none⟩ = some (.int .i64 a1) ∧ w'.cell? ⟨bx, 1, none⟩ = some (.int .i64 a2)) (first | go_keep | exact ⟨by assumption, by assumption⟩)
    ((go_at_call 25; refine (next_any B g _ _ (by assumption) (by omega) (by omega)).mono ?_; rintro e w1 ⟨v, hv0, hv1, rfl, hg1, hd1⟩; have k0 := grown_cell hg1 (by assumption : Blk _ (bx + 1) _ _) (by omega) hne (by assumption : _ = some (Value.int .i64 a1)); have k1 := grown_cell hg1 (by assumption : Blk _ (bx + 1) _ _) (by omega) hne (by assumption : _ = some (Value.int .i64 a2))
      have hgr1 := only_trans (by assumption : w.grownBy _ (some g)) hg1
      have hb1 := Blk.grown (by assumption : Blk _ (bx + 1) _ _) hg1 (fun e => hne1 (by injection e))
      have z0 := hb1.cell 0; have z1 := hb1.cell 1; have z2 := hb1.cell 2; have z3 := hb1.cell 3; have z4 := hb1.cell 4
      have y0 := hb1.frozen 0; have y1 := hb1.frozen 1; have y2 := hb1.frozen 2; have y3 := hb1.frozen 3; have y4 := hb1.frozen 4))
  go_wp2
  have hd2 := hd1.2.1
  generalize hW5 : ((((World.setCell w1 ⟨bx + 1, 0, none⟩ _).setCell ⟨bx + 1, 1, none⟩ _).setCell ⟨bx + 1, 2, none⟩ _).setCell ⟨bx + 1, 3, none⟩ _).setCell ⟨bx + 1, 4, none⟩ _ = W5
  have hfin := hW5 ▸ store5 hb1 _ _ _ _ _
  have hgf : w.grownBy W5 (some g) := hW5 ▸ grown5 hgr1 (by omega) _ _ _ _ _
  have hdf : DiceOk B W5 g := hW5 ▸ dice5 hd1 (by omega) _ _ _ _ _
  simp (disch := omega) only [IntWalk.i64_in] at hfin
  have q0 := hfin.cell 0
  have q1 := hfin.cell 1
  have q2 := hfin.cell 2
  have q3 := hfin.cell 3
  have q4 := hfin.cell 4
  refine bodyPost_ret (by simp [results, Try.results29, go_sem, q0, q1, q2, q3, q4]; rfl) rfl ?_
  refine ⟨_, ⟨⟨_, _, _, _, _⟩, ?_, rfl⟩, rfl, hgf, hdf⟩
  simp only [Follows]
  omega
end Go.Proofs.Ytnimpcffagidoaa
