/-
 slices.Backward over settings, for a walk by hand.
-/
import Derived.Test.YtkkoedniahnneaaDoorA17
import Derived.RangeFuncNested
import Derived.RangeFuncBound
import Derived.RangeFuncCalls
import Derived.RangeFuncLeaves
import Derived.RangeFuncBox
import Derived.Shelf.Abstract
import Derived.Shelf.RegionOpen
import Derived.OwnWalkIn
import Derived.TacticsInMore
import Derived.LoopNIn
import Derived.LoopIn
set_option linter.unusedSimpArgs false
set_option linter.unusedVariables false
namespace Go.Proofs.YtkkoedniahnneaaDoor.K
open Go.RowKit Go.Shelf
attribute [local go_sem] Oper.semAt_some
abbrev zSet : Setting := Ty.zero tySetting
abbrev setV (x : Setting) : Value := .agg #[.string x.1, .string x.2.1, .string x.2.2.1, .int .i64 x.2.2.2.1]
def SetAt (w : World) (v : Value) (l : List Setting) : Prop := Sl w v 4 l.length (l.flatMap setCells)
theorem SetAt.ext {w w' : World} {v : Value} {l : List Setting} (h : SetAt w v l) (hb : Below w.heap.size w w') : SetAt w' v l := Sl.ext h hb
theorem set_flat (l : List Setting) (q : Nat) (x : Setting) (h : l[q]? = some x) (i : Nat) (hi : i < 4) : (l.flatMap setCells)[q * 4 + i]? = (setCells x)[i]? := by
 induction l generalizing q with
 | nil => simp at h
 | cons y l ih =>
  cases q with
  | zero =>
   simp only [List.getElem?_cons_zero, Option.some.injEq] at h
   subst h
   rw [List.flatMap_cons, List.getElem?_append_left (by simp [setCells]; omega), Nat.zero_mul, Nat.zero_add]
  | succ q =>
   rw [List.flatMap_cons, List.getElem?_append_right (by simp [setCells]; omega)]
   rw [← ih q (by simpa using h)]
   congr 1
   simp [setCells]
   omega
theorem sl_set {w : World} {A : Option Addr} {c : Nat} {l : List Setting} {q : Nat} {x : Setting} (h : SetAt w (.slice A l.length c) l) (hx : l[q]? = some x) : ∃ b off, A = some ⟨b, off, none⟩ ∧ b < w.heap.size ∧
  w.cell? ⟨b, off + q * 4, none⟩ = some (.string x.1) ∧ w.cell? ⟨b, off + q * 4 + 1, none⟩ = some (.string x.2.1) ∧ w.cell? ⟨b, off + q * 4 + 2, none⟩ = some (.string x.2.2.1) ∧ w.cell? ⟨b, off + q * 4 + 3, none⟩ = some (.int .i64 x.2.2.2.1) := by
 obtain ⟨_, A', c', hv, _, _, h4⟩ := h
 injection hv with e1 _ e2
 subst e1 e2
 have hq : q < l.length := (List.getElem?_eq_some_iff.1 hx).1
 obtain ⟨b, off, rfl, hb, hc⟩ := h4 (by omega)
 have f := fun i hi => set_flat l q x hx i hi
 refine ⟨b, off, rfl, hb, ?_, ?_, ?_, ?_⟩
 ·exact hc (q * 4 + 0) _ (f 0 (by omega))
 ·exact hc (q * 4 + 1) _ (f 1 (by omega))
 ·exact hc (q * 4 + 2) _ (f 2 (by omega))
 ·exact hc (q * 4 + 3) _ (f 3 (by omega))
def backs (ds : List Setting) (k : Nat) : List (Nat × Setting) := (List.range k).map fun j => (ds.length - 1 - j, ds[ds.length - 1 - j]?.getD zSet)
theorem backs_succ (ds : List Setting) (k : Nat) : backs ds (k + 1) = backs ds k ++ [(ds.length - 1 - k, ds[ds.length - 1 - k]?.getD zSet)] := by simp [backs, List.range_succ]
theorem backs_length (ds : List Setting) (k : Nat) : (backs ds k).length = k := by simp [backs]
set_option maxRecDepth 100000 in
set_option maxHeartbeats 1000000 in
theorem back1_in (F : Fence) (n : Nat) (h69 : F.fn 145) (hro : F.round = none) (hn : 1 ≤ n) (l Bs c : Nat) (A : Option Addr) (ds : List Setting) (hr : ds.length ≤ 100000) (w0 : World) (hL : SetAt w0 (.slice A ds.length c) ds)
  (J Jx : List (Nat × Setting) → World → Prop)
  (hY : ∀ pre x W, J pre W → pre.length < ds.length → YieldAt F (n - 1) Tryd.prog l #[.int .i64 (x.1 : Int), setV x.2] W fun e W' =>
   (e = .returned (.bool true) ∧ J (pre ++ [x]) W' ∧ Below w0.heap.size W W') ∨ (e = .returned (.bool false) ∧ Jx (pre ++ [x]) W'))
  (W : World) (hW : Below w0.heap.size w0 W) (hBs : W.cell? ⟨Bs, 0, none⟩ = some (.slice A ds.length c)) (hBl : Bs < w0.heap.size) (h0 : J [] W) :
  CallsIn F n Tryd.prog 145 #[.func (.yield l) #[] #[], .pointer (some ⟨Bs, 0, none⟩)] W fun e W' => (∃ v, e = .returned v) ∧
   ((∃ ys, ys = backs ds ds.length ∧ J ys W') ∨ (∃ pre, (∃ k, k ≤ ds.length ∧ pre = backs ds k) ∧ Jx pre W')) := by
 have HL := Lib.hid hL
 clear hL
 refine callsIn_of_wp Tryd.func145 rfl h69 ?_ hro
 simp only [Tryd.ntmps145, List.size_toArray, List.length_cons, List.length_nil, Nat.reduceAdd, Nat.reduceSub, Array.replicate_succ, Array.replicate_zero, List.push_toArray, List.append_toArray, List.nil_append, List.cons_append]
 gi_wp2
 gi_loopw [3] (fun i wr => ∃ k : Nat, k ≤ ds.length ∧ i = .int .i64 ((ds.length : Int) - 1 - k) ∧ J (backs ds k) wr ∧ Below w0.heap.size w0 wr)
  (fun i _ => (intOf i + 1).toNat)
 case atStart => exact ⟨0, Nat.zero_le _, by simp, h0, hW⟩
 case round =>
  obtain ⟨k, hk, rfl, hJs, hnx⟩ := hrel
  have hbx : wr.cell? ⟨Bs, 0, none⟩ = some (.slice A ds.length c) := (hnx.cell (p := ⟨Bs, 0, none⟩) hBl).trans ((hW.cell (p := ⟨Bs, 0, none⟩) hBl).symm.trans hBs)
  by_cases hlt : k < ds.length
  ·obtain ⟨q, hq⟩ : ∃ q, q + k + 1 = ds.length := ⟨ds.length - 1 - k, by omega⟩
   have e1 : (ds.length : Int) - 1 - k = (q : Int) := by omega
   have e2 : ds.length - 1 - k = q := by omega
   obtain ⟨d, hd⟩ : ∃ d, ds[q]? = some d := ⟨_, List.getElem?_eq_getElem (by omega)⟩
   obtain ⟨fn, tmps, assign, body, hy, hR⟩ := hY _ (q, d) wr hJs (by rw [backs_length]; exact hlt)
   obtain ⟨b, off, rfl, hbl, c0, c1, c2, c3⟩ := sl_set (SetAt.ext HL.out hnx) hd
   obtain ⟨d1, d2, d3, d4, d5⟩ := d
   simp only [setV] at c0 c1 c2 c3 hy
   rw [e1]
   gi_wp2
   refine hR.mono ?_
   rintro e W3 (⟨rfl, hJ3, hk3⟩ | ⟨rfl, hJx3⟩)
   ·gi_wp2
    go_roundw
    case rel => exact ⟨k + 1, by omega, by simp; omega, by rw [backs_succ, e2, hd]; exact hJ3, hnx.trans hk3⟩
    case measure => simp [intOf]
   ·gi_wp2
    refine bodyPost_ret (results_none rfl _ _ _) rfl ?_
    exact ⟨⟨_, rfl⟩, .inr ⟨_, ⟨k + 1, by omega, rfl⟩, by rw [backs_succ, e2, hd]; exact hJx3⟩⟩
  ·obtain rfl : k = ds.length := by omega
   gi_wp2
   go_end0
   exact ⟨⟨_, rfl⟩, .inl ⟨_, rfl, hJs⟩⟩
set_option maxHeartbeats 1000000 in
theorem back_in (F : Fence) (n : Nat) (h61 : F.fn 119) (hro : F.round = none) (a : Option Addr) (len cap : Nat) (w : World) :
  CallsIn F n Tryd.prog 119 #[.slice a len cap] w fun e w' => e = .returned (.func (.func 145) #[] #[.pointer (some ⟨w.heap.size, 0, none⟩)]) ∧ w' = w.alloc (.cells #[.slice a len cap] 43) := by
 refine callsIn_of_wp Tryd.func119 rfl h61 ?_ hro
 simp only [Tryd.ntmps119, List.size_toArray, List.length_cons, List.length_nil, Nat.reduceAdd, Nat.reduceSub, Array.replicate_succ, Array.replicate_zero, List.push_toArray, List.append_toArray, List.nil_append, List.cons_append]
 gi_wp2
 go_ret
 exact ⟨rfl, rfl⟩
theorem back_stops (F : Fence) (n : Nat) (h69 : F.fn 145) (hro : F.round = none) (hn : 1 ≤ n) (Bs c : Nat) (A : Option Addr) (ds : List Setting) (hr : ds.length ≤ 100000) (w : World) (hBs : Bs < w.heap.size)
  (hc : w.cell? ⟨Bs, 0, none⟩ = some (.slice A ds.length c)) (hL : SetAt w (.slice A ds.length c) ds) :
  SeqStopsK F n Tryd.prog 145 #[.pointer (some ⟨Bs, 0, none⟩)] (fun x : Nat × Setting => #[Value.int .i64 (x.1 : Int), setV x.2]) (Below w.heap.size) (fun ys => ys = backs ds ds.length)
   (fun pre => ∃ k, k ≤ ds.length ∧ pre = backs ds k) ds.length w := fun l J Jx W hW _ _ hY h0 =>
 back1_in F n h69 hro hn l Bs c A ds hr w hL J Jx hY W hW ((hW.cell (p := ⟨Bs, 0, none⟩) hBs).trans hc) hBs h0
end Go.Proofs.YtkkoedniahnneaaDoor.K
