/-
 The walk of settings.Set.
-/
import Derived.Test.YtkkoedniahnneaaDoorA34
set_option linter.unusedSimpArgs false
set_option linter.unusedVariables false
namespace Go.Proofs.YtkkoedniahnneaaDoor.K
open Go.RowKit
theorem insert_any (B : Nat) (v : Value) (n i vb : Nat) (cells xs : List Value) (w : World) (ho : w.ownsRow B 45 4 v n cells) (hn : n ≤ 100000) (hi : i ≤ n) (hB : B ≤ w.heap.size)
  (hx : w.heap[vb]? = some (.cells xs.toArray 45 (0, 0))) (hxl : xs.length = 4) (h1c : ∀ u ∈ cells, u.oneCell' = true) (h1x : ∀ u ∈ xs, u.oneCell' = true) (hvb : v.ownBlock ≠ some vb) :
  Calls Tryd.prog 85 #[v, .int .i64 i, .slice (some ⟨vb, 0, none⟩) 1 1] w fun e w' => ∃ v', e = .returned v' ∧ w'.ownsRow B 45 4 v' (n + 1) (cells.take (i * 4) ++ xs ++ cells.drop (i * 4)) ∧ Below B w w' := by
 have hcl : cells.length = n * 4 := ho.1
 by_cases hin : i = n
 ·subst hin
  refine (ins_end B v i vb cells xs w ho hn hB hx hxl h1x).mono ?_
  rintro e w' ⟨v', rfl, h1, h2⟩
  refine ⟨v', rfl, ?_, ?_⟩
  ·rw [List.take_of_length_le (by omega), List.drop_eq_nil_of_le (by omega), List.append_nil]
   exact h1
  ·rcases ho.2 with ⟨rfl, _⟩ | ⟨g, cap, cur, rfl, g1, _⟩
   ·exact ⟨h2.os, h2.tape, h2.output, h2.size, fun k hk => h2.block k (by omega) (by simp [Value.ownBlock])⟩
   ·exact below_of_only' h2 g1 hB
 ·rcases ho.2 with ⟨_, rfl⟩ | ⟨g, cap, cur, rfl, g1, g2, g3, g4, g5, g6⟩
  ·omega
  have hvg : vb ≠ g := fun e => hvb (by rw [e]; rfl)
  by_cases hc : n + 1 ≤ cap
  ·refine (ins_shift g n cap i vb cells xs cur w (by omega) hc (by unfold maxLen at g4; omega) hvg g2 g5 g6 hx hxl h1c h1x).mono ?_
   rintro e w' ⟨rfl, rfl⟩
   have h0 : w.drew.heap[g]? = some (.cells cur 45 (0, 0)) := g2
   refine ⟨_, rfl, ⟨?_, .inr ⟨g, cap, _, rfl, g1, setRow_heap w.drew g cur _ _ _ h0, hc, g4, ?_, ?_⟩⟩, below_setRow (Below.refl _ _).drew g1 _⟩
   ·simp only [List.length_append, List.length_take, List.length_drop, hcl, hxl]
    omega
   ·simp only [List.size_toArray, List.length_append, List.length_take, List.length_drop, hcl, hxl, Array.length_toList, g5]
    omega
   ·rw [List.toList_toArray, List.take_left' (by simp only [List.length_append, List.length_take, List.length_drop, hcl, hxl]; omega)]
  ·obtain rfl : cap = n := by omega
   refine (ins_grow g cap i vb cells xs cur w (by omega) hn hvg g2 g5 g6 hx hxl h1c h1x).mono ?_
   rintro e w' ⟨G, row, rfl, r1, r2, r3, r4, r5, r6⟩
   refine ⟨_, rfl, ⟨?_, .inr ⟨w.heap.size, G, row, rfl, hB, r1, r2, r3, r4, r5⟩⟩, r6.mono hB⟩
   simp only [List.length_append, List.length_take, List.length_drop, hcl, hxl]
   omega
theorem own_store {w : World} {B : Nat} {g n cap k : Nat} {cells : List Value} {u : Value} (h : w.ownsRow B 45 4 (.slice (some ⟨g, 0, none⟩) n cap) n cells) (hk : k < n * 4) : (w.setCell ⟨g, k, none⟩ u).ownsRow B 45 4 (.slice (some ⟨g, 0, none⟩) n cap) n (cells.set k u) ∧ (w.cell? ⟨g, k, none⟩).isSome = true ∧ w.frozen? ⟨g, k, none⟩ = false ∧ B ≤ g := by
 rcases h.2 with ⟨h0, _⟩ | ⟨g', cap', cur, h0, g1, g2, g3, g4, g5, g6⟩
 ·cases h0
 ·injection h0 with e1 _ e2
  injection e1 with e1
  injection e1 with e1 _ _
  subst e1 e2
  refine ⟨⟨by rw [List.length_set]; exact h.1, .inr ⟨g, cap, cur.setIfInBounds k u, rfl, g1, ?_, g3, g4, by simpa using g5, ?_⟩⟩, ?_, by simp [World.frozen?, g2], g1⟩
  ·rw [setCell_eq_setRow w g k cur _ _ u g2]
   exact setRow_heap w g cur _ _ _ g2
  ·rw [Array.toList_setIfInBounds, List.take_set, g6]
  ·rw [Lib.cell_of_heap g2]
   have : k < cur.size := by
    have : n * 4 ≤ cap * 4 := Nat.mul_le_mul_right 4 g3
    omega
   simp [this]
theorem flat_put (pre post : List Setting) (m : Setting) (v : ByteArray) : ((pre ++ m :: post).flatMap setCells).set (pre.length * 4 + 2) (.string v) = (pre ++ putV v m :: post).flatMap setCells := by
 have hl : (pre.flatMap setCells).length = pre.length * 4 := set_len pre
 rw [List.flatMap_append, List.flatMap_append, List.flatMap_cons, List.flatMap_cons, List.set_append_right _ _ (by omega), hl, Nat.add_sub_cancel_left]
 rfl
theorem flat_ins (l : List Setting) (x : Setting) (k : Nat) (hk : k ≤ l.length) : (l.flatMap setCells).take (k * 4) ++ setCells x ++ (l.flatMap setCells).drop (k * 4) = (l.take k ++ x :: l.drop k).flatMap setCells := by
 have e : l.flatMap setCells = (l.take k).flatMap setCells ++ (l.drop k).flatMap setCells := by rw [← List.flatMap_append, List.take_append_drop]
 have hl : ((l.take k).flatMap setCells).length = k * 4 := by rw [set_len, List.length_take]; omega
 rw [e, List.take_left' hl, List.drop_left' hl, List.flatMap_append, List.flatMap_cons, List.append_assoc]
theorem set_oneC (l : List Setting) : ∀ u ∈ l.flatMap setCells, u.oneCell' = true := set_one l
end Go.Proofs.YtkkoedniahnneaaDoor.K
