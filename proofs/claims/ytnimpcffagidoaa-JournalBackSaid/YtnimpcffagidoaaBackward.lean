/-
  slices.Backward over a ledger's decisions, and Latest of the program.
-/
import Derived.Test.YtnimpcffagidoaaKnown
import Derived.RangeFuncNested
import Derived.RangeFuncBound
import Derived.RangeFuncCalls
import Derived.RangeFuncLeaves
import Derived.RangeFuncBox
import Derived.Shelf.Abstract
import Derived.Shelf.RegionOpen
import Derived.OwnWalkIn
import Derived.TacticsInMore
import Derived.LoopNIn
import Derived.LoopIn
namespace Go.Proofs.Ytnimpcffagidoaa
open Go.RowKit Go.Shelf

attribute [local go_sem] Oper.semAt_some

/-- what has come when k rounds from the end are over -/
def backs (ds : List Dec) (k : Nat) : List (Nat × Dec) := (List.range k).map fun j => (ds.length - 1 - j, ds[ds.length - 1 - j]?.getD zeroDec)
theorem backs_succ (ds : List Dec) (k : Nat) : backs ds (k + 1) = backs ds k ++ [(ds.length - 1 - k, ds[ds.length - 1 - k]?.getD zeroDec)] := by simp [backs, List.range_succ]
theorem backs_length (ds : List Dec) (k : Nat) : (backs ds k).length = k := by simp [backs]

set_option maxRecDepth 100000 in
set_option maxHeartbeats 1000000 in
theorem back1_in (F : Fence) (n : Nat) (h69 : F.fn 69) (hro : F.round = none) (hn : 1 ≤ n) (l Bs c : Nat) (A : Option Addr) (ds : List Dec) (hr : ds.length ≤ 100000) (w0 : World) (hL : Led w0 (.slice A ds.length c) ds)
    (J Jx : List (Nat × Dec) → World → Prop)
    (hY : ∀ pre x W, J pre W → pre.length < ds.length → YieldAt F (n - 1) Try.prog l #[.int .i64 (x.1 : Int), x.2.val] W fun e W' =>
      (e = .returned (.bool true) ∧ J (pre ++ [x]) W' ∧ Below w0.heap.size W W') ∨ (e = .returned (.bool false) ∧ Jx (pre ++ [x]) W'))
    (W : World) (hW : Below w0.heap.size w0 W) (hBs : W.cell? ⟨Bs, 0, none⟩ = some (.slice A ds.length c)) (hBl : Bs < w0.heap.size) (h0 : J [] W) :
    CallsIn F n Try.prog 69 #[.func (.yield l) #[] #[], .pointer (some ⟨Bs, 0, none⟩)] W fun e W' => (∃ v, e = .returned v) ∧
      ((∃ ys, ys = backs ds ds.length ∧ J ys W') ∨ (∃ pre, (∃ k, k ≤ ds.length ∧ pre = backs ds k) ∧ Jx pre W')) := by
  have HL := Lib.hid hL
  clear hL
  refine callsIn_of_wp Try.func69 rfl h69 ?_ hro
  simp only [Try.ntmps69, List.size_toArray, List.length_cons, List.length_nil, Nat.reduceAdd, Nat.reduceSub, Array.replicate_succ, Array.replicate_zero, List.push_toArray, List.append_toArray, List.nil_append, List.cons_append]
  gi_wp2
  gi_loopw [3] (fun i wr => ∃ k : Nat, k ≤ ds.length ∧ i = .int .i64 ((ds.length : Int) - 1 - k) ∧ J (backs ds k) wr ∧ Below w0.heap.size w0 wr)
    (fun i _ => (intOf i + 1).toNat)
  case atStart => exact ⟨0, Nat.zero_le _, by simp, h0, hW⟩
  case round =>
    obtain ⟨k, hk, rfl, hJs, hnx⟩ := hrel
    have hbx : wr.cell? ⟨Bs, 0, none⟩ = some (.slice A ds.length c) := (hnx.cell (p := ⟨Bs, 0, none⟩) hBl).trans ((hW.cell (p := ⟨Bs, 0, none⟩) hBl).symm.trans hBs)
    by_cases hlt : k < ds.length
    · obtain ⟨q, hq⟩ : ∃ q, q + k + 1 = ds.length := ⟨ds.length - 1 - k, by omega⟩
      have e1 : (ds.length : Int) - 1 - k = (q : Int) := by omega
      have e2 : ds.length - 1 - k = q := by omega
      obtain ⟨d, hd⟩ : ∃ d, ds[q]? = some d := ⟨_, List.getElem?_eq_getElem (by omega)⟩
      obtain ⟨fn, tmps, assign, body, hy, hR⟩ := hY _ (q, d) wr hJs (by rw [backs_length]; exact hlt)
      obtain ⟨b, off, c', hsv, hbl, _, _, c0, c1, c2, c3, c4⟩ := sl_dec (HL.out.ext hnx) hd
      injection hsv with f1 _ f2
      subst f1 f2
      obtain ⟨d1, d2, d3, d4, d5⟩ := d
      simp only [Dec.val] at c0 c1 c2 c3 c4 hy
      rw [e1]
      gi_wp2
      refine hR.mono ?_
      rintro e W3 (⟨rfl, hJ3, hk3⟩ | ⟨rfl, hJx3⟩)
      · gi_wp2
        go_roundw
        case rel => exact ⟨k + 1, by omega, by simp; omega, by rw [backs_succ, e2, hd]; exact hJ3, hnx.trans hk3⟩
        case measure => simp [intOf]
      · gi_wp2
        refine bodyPost_ret (results_none rfl _ _ _) rfl ?_
        exact ⟨⟨_, rfl⟩, .inr ⟨_, ⟨k + 1, by omega, rfl⟩, by rw [backs_succ, e2, hd]; exact hJx3⟩⟩
    · obtain rfl : k = ds.length := by omega
      gi_wp2
      go_end0
      exact ⟨⟨_, rfl⟩, .inl ⟨_, rfl, hJs⟩⟩

set_option maxHeartbeats 1000000 in
theorem back_in (F : Fence) (n : Nat) (h61 : F.fn 61) (hro : F.round = none) (a : Option Addr) (len cap : Nat) (w : World) :
    CallsIn F n Try.prog 61 #[.slice a len cap] w fun e w' => e = .returned (.func (.func 69) #[] #[.pointer (some ⟨w.heap.size, 0, none⟩)]) ∧ w' = w.alloc (.cells #[.slice a len cap] 29) := by
  refine callsIn_of_wp Try.func61 rfl h61 ?_ hro
  simp only [Try.ntmps61, List.size_toArray, List.length_cons, List.length_nil, Nat.reduceAdd, Nat.reduceSub, Array.replicate_succ, Array.replicate_zero, List.push_toArray, List.append_toArray, List.nil_append, List.cons_append]
  gi_wp2
  go_ret
  exact ⟨rfl, rfl⟩

/-- slices.Backward over a ledger's decisions hands back a value that may be ranged over -/
theorem back_stops (F : Fence) (n : Nat) (h69 : F.fn 69) (hro : F.round = none) (hn : 1 ≤ n) (Bs c : Nat) (A : Option Addr) (ds : List Dec) (hr : ds.length ≤ 100000) (w : World) (hBs : Bs < w.heap.size)
    (hc : w.cell? ⟨Bs, 0, none⟩ = some (.slice A ds.length c)) (hL : Led w (.slice A ds.length c) ds) :
    SeqStopsK F n Try.prog 69 #[.pointer (some ⟨Bs, 0, none⟩)] (fun x : Nat × Dec => #[Value.int .i64 (x.1 : Int), x.2.val]) (Below w.heap.size) (fun ys => ys = backs ds ds.length)
      (fun pre => ∃ k, k ≤ ds.length ∧ pre = backs ds k) ds.length w := fun l J Jx W hW _ _ hY h0 =>
  back1_in F n h69 hro hn l Bs c A ds hr w hL J Jx hY W hW ((hW.cell (p := ⟨Bs, 0, none⟩) hBs).trans hc) hBs h0
end Go.Proofs.Ytnimpcffagidoaa
