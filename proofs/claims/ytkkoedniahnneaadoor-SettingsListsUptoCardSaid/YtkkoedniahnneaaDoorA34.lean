/-
 slices.Clone and slices.Insert at settings.
-/
import Derived.Test.YtkkoedniahnneaaDoorA33
import Derived.Shelf.Spec.SlicesInsertGrow
set_option linter.unusedSimpArgs false
set_option linter.unusedVariables false
namespace Go.Proofs.YtkkoedniahnneaaDoor.K
open Go.RowKit
theorem eql_sl_nil {P : Program} (w : World) (t e : TypeId) (a : Option Addr) (l c : Nat) (h : P.underlying t = some (.slice e)) : (binOp .eql t (.slice a l c) (.slice none 0 0)).run P w = .ok (.bool a.isNone) w := by
 simp [binOp, run_equal_slice_nil w t e a l c h]
set_option maxHeartbeats 400000 in
theorem clone_Set (A : Option Addr) (c n : Nat) (cells : List Value) (w : World) (h : Sl w (.slice A n c) 4 n cells) (h1 : ∀ u ∈ cells, u.oneCell' = true) (hn : n ≤ 100000) :
  Calls Tryd.prog 81 #[.slice A n c] w fun r w' => ∃ sv, r = .returned sv ∧ w'.ownsRow w.heap.size 45 4 sv n cells ∧ Below w.heap.size w w' := by
 have he := eql_sl_nil (P := Tryd.prog) w 43 45 A n c (by kernel_rfl)
 rcases A with _ | ad
 ·have hnil : n = 0 := Classical.byContradiction fun h0 => by
   obtain ⟨_, A', c', hv, _, _, h3⟩ := h
   obtain ⟨b, off, e, _⟩ := h3 (by omega)
   rw [e] at hv
   simp at hv
  subst hnil
  have hc : cells = [] := List.eq_nil_of_length_eq_zero (by rw [h.1, Nat.zero_mul])
  subst hc
  clear h
  simp only [Option.isNone_none] at he
  go_enter Tryd.func81, Tryd.ntmps81
  go_wp2_with fail
  go_ret
  exact ⟨_, rfl, ⟨rfl, .inl ⟨rfl, rfl⟩⟩, Below.refl _ _⟩
 ·simp only [Option.isNone_some] at he
  have hown := World.ownsRow_made w #[] (size := 4) (e := 45) 0 (Nat.le_refl _) (Nat.zero_le _) rfl
  have hsrc := h.alloc (.cells #[] 45)
  have HSRC := Lib.hid hsrc
  clear h hsrc
  go_enter Tryd.func81, Tryd.ntmps81
  go_wp2_with (at_builtin; refine wpList_app elemSet rfl _ _ rfl w.heap.size (.slice (some ⟨w.heap.size, 0, none⟩) 0 0) 0 [] rfl hown (some ad) n c cells rfl HSRC.out h1 (by omega) (by omega) (by simp) ?_; intro v' w4 hown4 hg4 hat4)
  go_ret
  refine ⟨v', rfl, by simpa using hown4, ?_⟩
  have hal := (Below.refl w.heap.size w).alloc (Nat.le_refl _) (.cells #[] 45)
  exact below_of_only hal hg4 (Nat.le_refl _) hal.size
theorem run_copy_rowN {P : Program} (w : World) (dT sT ty elem : TypeId) (g o dLen dCap : Nat) (a : Addr) (sLen sCap sz : Nat) (cur : Array Value) (t : TypeId) (cs : List Value)
  (hu : P.underlying dT = some (.slice elem)) (hs : (P.info? elem).map (·.size) = some sz)
  (hg : w.heap[g]? = some (.cells cur t (0, 0))) (hn : cs.length = Nat.min sLen dLen * sz)
  (hsrc : ∀ j v, cs[j]? = some v → w.cell? (a.add j) = some v) (hfit : o + cs.length ≤ cur.size) (h1 : ∀ v ∈ cs, v.oneCell' = true) :
  (Builtin.copy_ #[dT, sT] ty #[.slice (some ⟨g, o, none⟩) dLen dCap, .slice (some a) sLen sCap]).run P w =
   .ok (goInt (Nat.min sLen dLen)) (w.setRow g (cur.toList.take o ++ cs ++ cur.toList.drop (o + cs.length)).toArray) := by
 have hl := run_loadCells_list (P := P) w a cs hsrc
 have hst := run_storeCells_at P g o t cs 0 cur w hg (by simpa using hfit) h1
 cases hq : P.info? elem with
 | none => simp [hq] at hs
 | some i =>
  have hi : i.size = sz := by simpa [hq] using hs
  simp [Builtin.copy_, run_underlying hu, Builtin.lenOf, Builtin.firstCells, sizeOf, typeInfo, hq, hi, ← hn, hl, hst]
theorem below_setRow {B g : Nat} {w w' : World} (h : Below B w w') (hg : B ≤ g) (row : Array Value) : Below B w (w'.setRow g row) :=
 ⟨h.os, h.tape, h.output, by simpa [World.setRow] using h.size, fun k hk => by
  have hne : ¬ g = k := by omega
  simp only [World.setRow, Array.getElem?_modify, if_neg hne]
  exact h.block k hk⟩
theorem ins_list {α : Type} {L cells xs : List α} {i n : Nat} (hi : i < n) (hL : (n + 1) * 4 ≤ L.length) (ht : L.take (n * 4) = cells) (hx : xs.length = 4) :
  (L.take ((i + 1) * 4) ++ cells.drop (i * 4) ++ L.drop ((i + 1) * 4 + (cells.drop (i * 4)).length)).take (i * 4) ++ xs ++ (L.take ((i + 1) * 4) ++ cells.drop (i * 4) ++ L.drop ((i + 1) * 4 + (cells.drop (i * 4)).length)).drop (i * 4 + xs.length) = cells.take (i * 4) ++ xs ++ cells.drop (i * 4) ++ L.drop ((n + 1) * 4) := by
 have hcl : cells.length = n * 4 := by rw [← ht, List.length_take]; omega
 have h1 : (L.take ((i + 1) * 4)).length = i * 4 + 4 := by rw [List.length_take]; omega
 have e1 : (L.take ((i + 1) * 4) ++ cells.drop (i * 4) ++ L.drop ((i + 1) * 4 + (cells.drop (i * 4)).length)).take (i * 4) = cells.take (i * 4) := by
  rw [List.append_assoc, List.take_append_of_le_length (by omega), List.take_take, ← ht, List.take_take]
  congr 1
  omega
 have e2 : (L.take ((i + 1) * 4) ++ cells.drop (i * 4) ++ L.drop ((i + 1) * 4 + (cells.drop (i * 4)).length)).drop (i * 4 + xs.length) = cells.drop (i * 4) ++ L.drop ((n + 1) * 4) := by
  rw [hx, List.append_assoc, List.drop_left' h1, List.length_drop, hcl]
  congr 2
  omega
 rw [e1, e2, List.append_assoc, List.append_assoc, List.append_assoc]
set_option maxRecDepth 100000 in
set_option maxHeartbeats 4000000 in
theorem ins_shift (g n c i vb : Nat) (cells xs : List Value) (cur : Array Value) (w : World) (hi : i < n) (hroom : n + 1 ≤ c) (hc63 : c ≤ 9223372036854775807) (hvb : vb ≠ g)
  (hg : w.heap[g]? = some (.cells cur 45 (0, 0))) (hcs : cur.size = c * 4) (htk : cur.toList.take (n * 4) = cells)
  (hx : w.heap[vb]? = some (.cells xs.toArray 45 (0, 0))) (hxl : xs.length = 4) (h1c : ∀ u ∈ cells, u.oneCell' = true) (h1x : ∀ u ∈ xs, u.oneCell' = true) :
  Calls Tryd.prog 85 #[.slice (some ⟨g, 0, none⟩) n c, .int .i64 i, .slice (some ⟨vb, 0, none⟩) 1 1] w fun e w' =>
   e = .returned (.slice (some ⟨g, 0, none⟩) (n + 1) c) ∧ w' = w.drew.setRow g (cells.take (i * 4) ++ xs ++ cells.drop (i * 4) ++ cur.toList.drop ((n + 1) * 4)).toArray := by
 have hmx := mixed
 have hz2 : ¬ ((i : Int) = (n : Int)) := by omega
 have hov : ∀ o lb cb, (callFunc 120 #[.slice (some ⟨vb, 0, none⟩) 1 1, .slice (some ⟨g, o, none⟩) lb cb]).run Tryd.prog w = .ok (.value (.bool false)) w := fun o lb cb => by
  rw [run_callFunc_extern Tryd.func120 (by kernel_rfl) (by kernel_rfl) (by kernel_rfl) (e := Extern.SlicesOverlaps.overlaps #[43, 43] #[4]) (by kernel_rfl),
   Lib.run_overlaps_apart w 43 4 45 (by kernel_rfl) 4 (fun w => by rfl) ⟨vb, 0, none⟩ ⟨g, o, none⟩ 1 1 lb cb hvb 45 45 4 (c * 4) (by simp [World.shape?, hx, hxl]) (by simp [World.shape?, hg, hcs]) (by omega) (by simp [World.frozen?, hx]) (by simp [World.frozen?, hx])]
  rfl
 have hw1 : IntKind.i64.wrap ((i : Int) + 1) = (i : Int) + 1 := by rw [IntKind.wrap_i64]; omega
 have hb1 : (0 : Int) ≤ (i : Int) + 1 := by omega
 have hin : i ≤ n := by omega
 have htn : ((i : Int) + 1).toNat = i + 1 := by omega
 have hb2 : ¬ (c = i + 1) := by omega
 have hb3 : (i : Int) ≤ (n : Int) + 1 := by omega
 have hb4 : ¬ (c = i) := by omega
 have hcl : cells.length = n * 4 := by rw [← htk, List.length_take, Array.length_toList]; omega
 have hdl : (cells.drop (i * 4)).length = (n - i) * 4 := by rw [List.length_drop, hcl]; omega
 have hsz : (Tryd.prog.info? 45).map (·.size) = some 4 := by kernel_rfl
 have hg1 : w.drew.heap[g]? = some (.cells cur 45 (0, 0)) := hg
 have hcp1 : ∀ ty dc sc, (Builtin.copy_ #[43, 43] ty #[.slice (some ⟨g, (i + 1) * 4, none⟩) (n - i) dc, .slice (some ⟨g, i * 4, none⟩) (n + 1 - i) sc]).run Tryd.prog w.drew = .ok (goInt (Nat.min (n + 1 - i) (n - i))) (w.drew.setRow g (cur.toList.take ((i + 1) * 4) ++ cells.drop (i * 4) ++ cur.toList.drop ((i + 1) * 4 + (cells.drop (i * 4)).length)).toArray) := fun ty dc sc =>
  run_copy_rowN w.drew _ _ ty 45 g ((i + 1) * 4) (n - i) dc ⟨g, i * 4, none⟩ (n + 1 - i) sc 4 cur 45 (cells.drop (i * 4)) (by kernel_rfl) hsz hg1
   (by rw [hdl]; simp only [Nat.min_def]; split <;> omega)
   (fun j v hj => by
    rw [Addr.add_lit, Lib.cell_of_heap hg1]
    rw [List.getElem?_drop, ← htk, List.getElem?_take] at hj
    split at hj
    ·rw [← Array.getElem?_toList]
     exact hj
    ·cases hj)
   (by rw [hdl]; omega) (fun v hv => h1c v (List.mem_of_mem_drop hv))
 obtain ⟨C1, hC1⟩ : ∃ C1 : List Value, C1 = cur.toList.take ((i + 1) * 4) ++ cells.drop (i * 4) ++ cur.toList.drop ((i + 1) * 4 + (cells.drop (i * 4)).length) := ⟨_, rfl⟩
 have hC1l : C1.length = c * 4 := by
  rw [hC1]
  simp only [List.length_append, List.length_take, List.length_drop, Array.length_toList]
  omega
 have hg2 : (w.drew.setRow g C1.toArray).heap[g]? = some (.cells C1.toArray 45 (0, 0)) := setRow_heap w.drew g cur C1.toArray _ _ hg1
 have hx2 : ∀ j v, xs[j]? = some v → (w.drew.setRow g C1.toArray).cell? ⟨vb, j, none⟩ = some v := fun j v hj => by
  have : (w.drew.setRow g C1.toArray).heap[vb]? = some (.cells xs.toArray 45 (0, 0)) := by
   have h0 : w.drew.heap[vb]? = some (.cells xs.toArray 45 (0, 0)) := hx
   rw [← h0]
   simp only [World.setRow, Array.getElem?_modify, if_neg (fun e : g = vb => hvb e.symm)]
  rw [Lib.cell_of_heap this]
  simpa using hj
 have hcp2 : ∀ (W : World), W = w.drew.setRow g C1.toArray → ∀ ty dc, (Builtin.copy_ #[43, 43] ty #[.slice (some ⟨g, i * 4, none⟩) (n + 1 - i) dc, .slice (some ⟨vb, 0, none⟩) 1 1]).run Tryd.prog W = .ok (goInt (Nat.min 1 (n + 1 - i))) (W.setRow g (C1.take (i * 4) ++ xs ++ C1.drop (i * 4 + xs.length)).toArray) := fun W hW ty dc => by
  subst hW
  exact run_copy_rowN _ _ _ ty 45 g (i * 4) (n + 1 - i) dc ⟨vb, 0, none⟩ 1 1 4 C1.toArray 45 xs (by kernel_rfl) hsz hg2
   (by rw [hxl]; simp only [Nat.min_def]; split <;> omega) (fun j v hj => by rw [Addr.add_lit, Nat.zero_add]; exact hx2 j v hj) (by rw [hxl]; simp [hC1l]; omega) h1x
 have HFIN := Lib.hid (show C1.take (i * 4) ++ xs ++ C1.drop (i * 4 + xs.length) = cells.take (i * 4) ++ xs ++ cells.drop (i * 4) ++ cur.toList.drop ((n + 1) * 4) by rw [hC1]; exact ins_list hi (by rw [Array.length_toList]; omega) htk hxl)
 rw [← hC1] at hcp1
 have HCP1 := Lib.hid hcp1
 have HCP2 := Lib.hid hcp2
 clear hg hx htk hcp1 hcp2 hC1 hg1 hg2 hx2 hC1l hdl hcl hsz
 go_enter Tryd.func85, Tryd.ntmps85
 go_wp2_with (simp only [hov])
 have hcp1 := HCP1.out
 go_region_law_o (refine step_copy_runI rfl _ _ 43 43 rfl _ _ (by simp [Act.eval, Act.put]) (by simp [Act.eval, Act.put]) (HCP1.out _ _ _) ?_)
 have hcp2 := HCP2.out _ rfl
 go_wp2_with fail
 go_ret
 refine ⟨rfl, ?_⟩
 have hf : C1.take (i * 4) ++ (xs ++ C1.drop (i * 4 + 4)) = cells.take (i * 4) ++ xs ++ cells.drop (i * 4) ++ cur.toList.drop ((n + 1) * 4) := by rw [← List.append_assoc, ← HFIN.out, hxl]
 rw [hf, setRow_setRow]
set_option maxRecDepth 100000 in
set_option maxHeartbeats 4000000 in
theorem ins_grow (g n i vb : Nat) (cells xs : List Value) (cur : Array Value) (w : World) (hi : i < n) (hn : n ≤ 100000) (hvb : vb ≠ g)
  (hg : w.heap[g]? = some (.cells cur 45 (0, 0))) (hcs : cur.size = n * 4) (htk : cur.toList.take (n * 4) = cells)
  (hx : w.heap[vb]? = some (.cells xs.toArray 45 (0, 0))) (hxl : xs.length = 4) (h1c : ∀ u ∈ cells, u.oneCell' = true) (h1x : ∀ u ∈ xs, u.oneCell' = true) :
  Calls Tryd.prog 85 #[.slice (some ⟨g, 0, none⟩) n n, .int .i64 i, .slice (some ⟨vb, 0, none⟩) 1 1] w fun e w' =>
   ∃ G row, e = .returned (.slice (some ⟨w.heap.size, 0, none⟩) (n + 1) G) ∧ w'.heap[w.heap.size]? = some (.cells row 45 (0, 0)) ∧ n + 1 ≤ G ∧ G ≤ maxLen ∧ row.size = G * 4 ∧ row.toList.take ((n + 1) * 4) = cells.take (i * 4) ++ xs ++ cells.drop (i * 4) ∧ Below w.heap.size w w' := by
 have hmx := mixed
 have hz2 : ¬ ((i : Int) = (n : Int)) := by omega
 have hw1 : IntKind.i64.wrap ((i : Int) + 1) = (i : Int) + 1 := by rw [IntKind.wrap_i64]; omega
 have hb1 : (0 : Int) ≤ (i : Int) + 1 := by omega
 have hin : i ≤ n := by omega
 have htn : ((i : Int) + 1).toNat = i + 1 := by omega
 have hni : ¬ (n = i) := by omega
 have hcl : cells.length = n * 4 := by rw [← htk, List.length_take, Array.length_toList]; omega
 have hkk : (n : Int) + 1 - (i : Int) = ((n + 1 - i : Nat) : Int) := by omega
 have hik : i + (n + 1 - i) = n + 1 := by omega
 obtain ⟨inf, z, k1, k2, k3, k4, k5, k6, k7⟩ := elemSet.has
 have hg1 : w.drew.heap[g]? = some (.cells cur 45 (0, 0)) := hg
 have hgl : g < w.heap.size := (Array.getElem?_eq_some_iff.1 hg).1
 have hxlt : vb < w.heap.size := (Array.getElem?_eq_some_iff.1 hx).1
 have htl : (cells.take (i * 4)).length = i * 4 := by rw [List.length_take, hcl]; omega
 have hold : (Builtin.firstCells inf.size i (.slice (some ⟨g, 0, none⟩) i n)).run Tryd.prog w.drew = .ok (cells.take (i * 4)).toArray w.drew := by
  rw [k4]
  exact run_firstCells_some w.drew 4 i ⟨g, 0, none⟩ i n (cells.take (i * 4)) htl (fun j v hj => by
   rw [Addr.add_lit, Lib.cell_of_heap hg1, Nat.zero_add]
   rw [List.getElem?_take] at hj
   split at hj
   ·rw [← htk, List.getElem?_take] at hj
    split at hj
    ·rw [← Array.getElem?_toList]
     exact hj
    ·cases hj
   ·cases hj)
 have hrz : ∀ ty, (Builtin.append_ #[43, 3] ty #[.slice (some ⟨g, 0, none⟩) i n, .int .i64 ((n + 1 - i : Nat) : Int)]).run Tryd.prog w =
   .ok (.slice (some ⟨w.heap.size, 0, none⟩) (n + 1) (grownCap w (n + 1) n 45)) (w.drew.alloc (.cells ((cells.take (i * 4)).toArray ++ Builtin.zeroCells z.cells (n + 1 - i) ++ Builtin.zeroCells z.cells (grownCap w (n + 1) n 45 - (n + 1))) 45)) := fun ty => by
  have h := Lib.run_append_grow_zeros w 43 3 ty 45 inf z .i64 .i64 k1 (by kernel_rfl) k2 k3 (some ⟨g, 0, none⟩) i n (cells.take (i * 4)) hold (n + 1 - i) (by omega) (by omega) (by omega) (by omega) (by rw [k5]; omega) (by rw [k5, hik]; exact growslice_fits (by omega) (by omega))
  rw [hik] at h
  exact h
 obtain ⟨G, hG⟩ : ∃ G, G = grownCap w (n + 1) n 45 := ⟨_, rfl⟩
 obtain ⟨ROW, hROW⟩ : ∃ ROW : Array Value, ROW = (cells.take (i * 4)).toArray ++ Builtin.zeroCells z.cells (n + 1 - i) ++ Builtin.zeroCells z.cells (G - (n + 1)) := ⟨_, rfl⟩
 have hGn : n + 1 ≤ G := by rw [hG]; exact grownCap_ge w _ _ _
 have hGm : G ≤ maxLen := by rw [hG]; exact grownCap_le_maxLen w (n + 1) n 45 (by unfold maxLen; omega)
 rw [← hG] at hrz
 rw [← hROW] at hrz
 have hRl : ROW.size = G * 4 := by
  rw [hROW]
  simp [Builtin.zeroCells, k6, htl]
  omega
 have hRt : ROW.toList.take (i * 4) = cells.take (i * 4) := by
  rw [hROW, Array.toList_append, Array.toList_append, List.append_assoc, List.take_append_of_le_length (by rw [List.toList_toArray, htl]; exact Nat.le_refl _), List.toList_toArray, List.take_of_length_le (by rw [htl]; exact Nat.le_refl _)]
 have hG63 : G ≤ 9223372036854775807 := by unfold maxLen at hGm; omega
 have hGi : ¬ (G = i) := by omega
 have hGi1 : ¬ (G = i + 1) := by omega
 clear hG
 obtain ⟨N, hN⟩ : ∃ N, N = w.heap.size := ⟨_, rfl⟩
 obtain ⟨W1, hW1⟩ : ∃ W1, W1 = (w.alloc (.cells ROW 45)).drew := ⟨_, rfl⟩
 have hN1 : W1.heap[N]? = some (.cells ROW 45 (0, 0)) := by rw [hW1, hN]; exact Go.Proofs.YtkkoedniahnneaaDoor.Blk.new w 45 ROW
 have hx1 : W1.heap[vb]? = some (.cells xs.toArray 45 (0, 0)) := by rw [hW1]; exact (Lib.alloc_old w _ vb hxlt).trans hx
 have hgW : W1.heap[g]? = some (.cells cur 45 (0, 0)) := by rw [hW1]; exact (Lib.alloc_old w _ g hgl).trans hg
 have hbel : Below w.heap.size w W1 := by rw [hW1]; exact ((Below.refl _ _).alloc (Nat.le_refl _) _).drew
 have hsz : (Tryd.prog.info? 45).map (·.size) = some 4 := by kernel_rfl
 have hdl : (cells.drop (i * 4)).length = (n - i) * 4 := by rw [List.length_drop, hcl]; omega
 have hcp1 : ∀ ty dc, (Builtin.copy_ #[43, 43] ty #[.slice (some ⟨N, i * 4, none⟩) (n + 1 - i) dc, .slice (some ⟨vb, 0, none⟩) 1 1]).run Tryd.prog W1 = .ok (goInt (Nat.min 1 (n + 1 - i))) (W1.setRow N (ROW.toList.take (i * 4) ++ xs ++ ROW.toList.drop (i * 4 + xs.length)).toArray) := fun ty dc =>
  run_copy_rowN W1 _ _ ty 45 N (i * 4) (n + 1 - i) dc ⟨vb, 0, none⟩ 1 1 4 ROW 45 xs (by kernel_rfl) hsz hN1
   (by rw [hxl]; simp only [Nat.min_def]; split <;> omega) (fun j v hj => by rw [Addr.add_lit, Nat.zero_add, Lib.cell_of_heap hx1]; simpa using hj) (by rw [hxl, hRl]; omega) h1x
 obtain ⟨R2, hR2⟩ : ∃ R2 : List Value, R2 = ROW.toList.take (i * 4) ++ xs ++ ROW.toList.drop (i * 4 + xs.length) := ⟨_, rfl⟩
 have hR2l : R2.length = G * 4 := by
  rw [hR2]
  simp only [List.length_append, List.length_take, List.length_drop, Array.length_toList, hxl, hRl]
  omega
 have hR2t : R2.take ((i + 1) * 4) = cells.take (i * 4) ++ xs := by
  rw [hR2, hRt, List.take_left' (by rw [List.length_append, htl, hxl]; omega)]
 obtain ⟨W2, hW2⟩ : ∃ W2, W2 = (W1.setRow N R2.toArray).drew := ⟨_, rfl⟩
 have hN2 : W2.heap[N]? = some (.cells R2.toArray 45 (0, 0)) := by rw [hW2]; exact setRow_heap W1 N ROW R2.toArray _ _ hN1
 have hgN : ¬ N = g := by omega
 have hg2 : W2.heap[g]? = some (.cells cur 45 (0, 0)) := by
  rw [hW2, ← hgW]
  show (W1.setRow N R2.toArray).heap[g]? = _
  simp only [World.setRow, Array.getElem?_modify, if_neg hgN]
 have hbel2 : Below w.heap.size w W2 := by rw [hW2]; exact (below_setRow hbel (by omega) _).drew
 have hcp2 : ∀ ty dc sc, (Builtin.copy_ #[43, 43] ty #[.slice (some ⟨N, (i + 1) * 4, none⟩) (n - i) dc, .slice (some ⟨g, i * 4, none⟩) (n - i) sc]).run Tryd.prog W2 = .ok (goInt (Nat.min (n - i) (n - i))) (W2.setRow N (R2.take ((i + 1) * 4) ++ cells.drop (i * 4) ++ R2.drop ((i + 1) * 4 + (cells.drop (i * 4)).length)).toArray) := fun ty dc sc =>
  run_copy_rowN W2 _ _ ty 45 N ((i + 1) * 4) (n - i) dc ⟨g, i * 4, none⟩ (n - i) sc 4 R2.toArray 45 (cells.drop (i * 4)) (by kernel_rfl) hsz hN2
   (by rw [hdl]; simp only [Nat.min_def]; split <;> omega)
   (fun j v hj => by
    rw [Addr.add_lit, Lib.cell_of_heap hg2]
    rw [List.getElem?_drop, ← htk, List.getElem?_take] at hj
    split at hj
    ·rw [← Array.getElem?_toList]
     exact hj
    ·cases hj)
   (by rw [hdl]; simp [hR2l]; omega) (fun v hv => h1c v (List.mem_of_mem_drop hv))
 obtain ⟨R3, hR3⟩ : ∃ R3 : List Value, R3 = R2.take ((i + 1) * 4) ++ cells.drop (i * 4) ++ R2.drop ((i + 1) * 4 + (cells.drop (i * 4)).length) := ⟨_, rfl⟩
 have hR3l : R3.length = G * 4 := by
  rw [hR3]
  simp only [List.length_append, List.length_take, List.length_drop, hcl, hR2l]
  omega
 have hR3t : R3.take ((n + 1) * 4) = cells.take (i * 4) ++ xs ++ cells.drop (i * 4) := by
  rw [hR3, hR2t, List.take_left' (by rw [List.length_append, List.length_append, htl, hxl, hdl]; omega)]
 have hend : ∃ row, (W2.setRow N R3.toArray).heap[N]? = some (.cells row 45 (0, 0)) ∧ row.size = G * 4 ∧ row.toList.take ((n + 1) * 4) = cells.take (i * 4) ++ xs ++ cells.drop (i * 4) ∧ Below w.heap.size w (W2.setRow N R3.toArray) :=
  ⟨R3.toArray, setRow_heap W2 N R2.toArray R3.toArray _ _ hN2, by simpa using hR3l, by simpa using hR3t, below_setRow hbel2 (by omega) _⟩
 rw [← hR2] at hcp1
 rw [← hR3] at hcp2
 have HCP1 := Lib.hid hcp1
 have HCP2 := Lib.hid hcp2
 have HEND := Lib.hid hend
 rw [← hN] at hrz
 have hal : w.drew.alloc (.cells ROW 45) = W1 := hW1.symm
 rw [hal] at hrz
 clear hcp1 hcp2 hend hR3 hR3l hR3t hR2 hR2l hR2t hN1 hN2 hx1 hgW hbel hbel2 hg2 hsz hdl hal
 have HRZ := Lib.hid hrz
 have H1 := Lib.hid hRl
 have H2 := Lib.hid hRt
 clear hrz hold hROW hRl hRt hg1
 clear hg hx htk hW1
 rw [← hN]
 have HNN := Lib.hid hN
 clear hN
 have hcp1 := HCP1.out
 go_enter Tryd.func85, Tryd.ntmps85
 go_wp2_with (at_builtin; refine Lib.wpList_append_run _ rfl _ _ _ _ rfl _ _ rfl rfl _ _ (HRZ.out _) ?_)
 have hcp2 := HCP2.out
 rw [hW2] at hcp2
 go_region_law_o (refine step_copy_runI rfl _ _ 43 43 rfl _ _ (by simp [Act.eval, Act.put]) (by simp [Act.eval, Act.put]) (hcp2 _ _ _) ?_)
 go_wp2_with fail
 go_ret
 obtain ⟨row, r1, r2, r3, r4⟩ := HEND.out
 rw [hW2] at r1 r4
 rw [← HNN.out] at r4
 exact ⟨G, row, rfl, r1, hGn, hGm, r2, r3, r4⟩
set_option maxHeartbeats 1000000 in
/-- slices.Insert at the end -/
theorem ins_end (B : Nat) (v : Value) (n vb : Nat) (cells xs : List Value) (w : World) (ho : w.ownsRow B 45 4 v n cells) (hn : n ≤ 100000) (hB : B ≤ w.heap.size)
  (hx : w.heap[vb]? = some (.cells xs.toArray 45 (0, 0))) (hxl : xs.length = 4) (h1x : ∀ u ∈ xs, u.oneCell' = true) :
  Calls Tryd.prog 85 #[v, .int .i64 n, .slice (some ⟨vb, 0, none⟩) 1 1] w fun e w' => ∃ v', e = .returned v' ∧ w'.ownsRow B 45 4 v' (n + 1) (cells ++ xs) ∧ w.grownBy w' v.ownBlock := by
 have hsl : Sl w (.slice (some ⟨vb, 0, none⟩) 1 1) 4 1 xs := ⟨by rw [hxl], _, 1, rfl, Nat.le_refl _, by unfold maxLen; omega, fun _ => ⟨vb, 0, rfl, (Array.getElem?_eq_some_iff.1 hx).1, fun j u hj => by rw [Nat.zero_add, Lib.cell_of_heap hx]; simpa using hj⟩⟩
 have HO := Lib.hid ho
 have HS := Lib.hid hsl
 rcases ho.2 with ⟨rfl, rfl⟩ | ⟨g, cap, cur, rfl, h1, h2, h3, h4, h5, h6⟩
 ·clear ho hsl hx
  go_enter Tryd.func85, Tryd.ntmps85
  go_wp2_with (at_builtin; refine wpList_app elemSet rfl _ _ rfl B (.slice none 0 0) 0 cells rfl HO.out (some ⟨vb, 0, none⟩) 1 1 xs rfl HS.out h1x (by omega) (by omega) hB ?_; intro v' w4 hown4 hg4 hat4)
  go_ret
  exact ⟨v', rfl, hown4, hg4⟩
 ·clear ho hsl hx h2 h6
  have hc63 : cap ≤ 9223372036854775807 := by unfold maxLen at h4; omega
  go_enter Tryd.func85, Tryd.ntmps85
  go_wp2_with (at_builtin; refine wpList_app elemSet rfl _ _ rfl B (.slice (some ⟨g, 0, none⟩) n cap) n cells rfl HO.out (some ⟨vb, 0, none⟩) 1 1 xs rfl HS.out h1x (by omega) (by omega) hB ?_; intro v' w4 hown4 hg4 hat4)
  all_goals (go_ret; exact ⟨v', rfl, hown4, hg4⟩)
end Go.Proofs.YtkkoedniahnneaaDoor.K
