/-
 copy out of a string into a whole block.
-/
import Derived.Test.YtnimpcffagidoaaKA
import Derived.Lib.BufferWrite
namespace Go.Proofs.Ytnimpcffagidoaa
open Go.RowKit
set_option linter.unusedSimpArgs false
set_option linter.unusedVariables false
open Go.Lib
theorem copy_str {P : Program} (w : World) (dT sT ty elem : TypeId) (g n : Nat) (s : ByteArray) (cur : Array Value) (t : TypeId)
  (hu : P.underlying dT = some (.slice elem)) (hs : (P.info? elem).map (·.size) = some 1) (hg : Blk w g t cur) (hn : cur.size = n) :
  ∃ W', (Builtin.copy_ #[dT, sT] ty #[.slice (some ⟨g, 0, none⟩) n n, .string s]).run P w = .ok (.int .i64 (min s.size n : Nat)) W' ∧ w.grownBy W' (some g) ∧
   Blk W' g t ((s.data.toList.take n).map (fun c => Value.int .u8 (c.toNat : Int)) ++ cur.toList.drop s.size).toArray := by
 have hlen : ((s.data.toList.take n).map (fun c => Value.int .u8 (c.toNat : Int))).length = min s.size n := by
  rw [List.length_map, List.length_take, size_eq, Nat.min_comm]
 have hst := run_storeCells_at P g 0 t ((s.data.toList.take n).map (fun c => Value.int .u8 (c.toNat : Int))) 0 cur w hg (by rw [hlen]; omega) (by
  intro v hv
  simp only [List.mem_map] at hv
  obtain ⟨b, _, rfl⟩ := hv
  rfl)
 rw [hlen] at hst
 refine ⟨w.setRow g (cur.toList.take (0 + 0) ++ (s.data.toList.take n).map (fun c => Value.int .u8 (c.toNat : Int)) ++ cur.toList.drop (0 + 0 + min s.size n)).toArray, ?_, ?_, ?_⟩
 ·cases hq : P.info? elem with
  | none => simp [hq] at hs
  | some i =>
   have hi : i.size = 1 := by simpa [hq] using hs
   simp [Builtin.copy_, run_underlying hu, Builtin.lenOf, Builtin.firstCells, sizeOf, typeInfo, hq]
   have e : List.take (s.size.min n) (List.map (fun b : UInt8 => Value.int IntKind.u8 (b.toNat : Int)) s.data.toList) = (s.data.toList.take n).map (fun c => Value.int .u8 (c.toNat : Int)) := by
    rw [← List.map_take]
    congr 1
    rcases Nat.le_total s.size n with h | h
    ·rw [show s.size.min n = s.size from Nat.min_eq_left h, List.take_of_length_le (show s.data.toList.length ≤ s.size from by rw [← size_eq]; exact Nat.le_refl _), List.take_of_length_le (show s.data.toList.length ≤ n from by rw [← size_eq]; exact h)]
    ·rw [show s.size.min n = n from Nat.min_eq_right h]
   rw [e, hst]
   simp [Result.andThen]
   rfl
 ·exact ⟨rfl, rfl, rfl, by simp, fun k hk hne => setRow_other _ _ _ _ (fun e => hne (by rw [e]))⟩
 ·have := setRow_heap w g cur ((cur.toList.take (0 + 0) ++ (s.data.toList.take n).map (fun c => Value.int .u8 (c.toNat : Int)) ++ cur.toList.drop (0 + 0 + min s.size n)).toArray) t (0, 0) hg
  unfold Blk
  rw [this]
  congr 3
  simp
  omega
end Go.Proofs.Ytnimpcffagidoaa
