/-
  The bytes of a ledger, as the reference writes them.
-/
import Derived.Test.YtnimpcffagidoaaRefEncode2
namespace Go.Proofs.Ytnimpcffagidoaa
open Go.RowKit
set_option linter.unusedSimpArgs false
set_option linter.unusedVariables false

def bytesOf (ds : List Dec) : List UInt8 := ds.flatMap Dec.bytes
theorem bytesOf_len (ds : List Dec) : (bytesOf ds).length = 12 * ds.length := by
  induction ds with
  | nil => rfl
  | cons d l ih => simp [bytesOf, Dec.bytes_len] at ih ⊢; omega
theorem bytesOf_snoc (ds : List Dec) (d : Dec) : bytesOf (ds ++ [d]) = bytesOf ds ++ d.bytes := by simp [bytesOf]
theorem take_snoc' {α : Type} {l : List α} {k : Nat} {d : α} (h : l[k]? = some d) : l.take (k + 1) = l.take k ++ [d] := by
  rw [List.take_add_one, h]; rfl

set_option maxHeartbeats 400000 in
theorem rappend_yes (l : List UInt8) (a b c d e : Int) (w : World) (hv : validB ⟨a, b, c, d, e⟩ = true) (hl : l.length + 12 ≤ 65536) :
    Calls Try.prog 48 #[.string ⟨l.toArray⟩, .agg #[.int .i64 a, .int .i64 b, .int .i64 c, .int .i64 d, .int .i64 e]] w fun r w' =>
      r = .returned (.tuple #[.string ⟨(l ++ (Dec.mk a b c d e).bytes).toArray⟩, .int .i64 0]) ∧ Below w.heap.size w w' := by
  have h12 := Dec.bytes_len ⟨a, b, c, d, e⟩
  have HV := Lib.hid hv
  clear hv
  have kc := cat_run (P := Try.prog) l (Dec.mk a b c d e).bytes (by omega)
  have hs1 : ByteArray.size ⟨l.toArray⟩ = l.length := by show Array.size _ = _; simp
  have hs2 : ByteArray.size ⟨(Dec.mk a b c d e).bytes.toArray⟩ = 12 := by show Array.size _ = _; simp [h12]
  have ht1 : decide ((65536 : Int) < (l.length : Int) + 12) = false := by simp; omega
  have ht2 : decide (65536 < l.length + 12) = false := by simp; omega
  have H12 := Lib.hid h12
  have HLl := Lib.hid hl
  clear h12
  go_enter Try.func48, Try.ntmps48
  go_wp2_with fail
  refine (rencode_yes a b c d e _ HV.out).mono ?_
  rintro r w1 ⟨rfl, hb1⟩
  generalize hS : (Dec.mk a b c d e).bytes = S at *
  have HS := Lib.hid hS
  clear hS
  go_wp2_with fail
  go_ret2
  rw [HS.out]
  exact ⟨rfl, below_step ((Below.refl _ _).alloc (Nat.le_refl _) _) hb1 (by simp)⟩

set_option maxHeartbeats 400000 in
theorem written_any (sv : Value) (ds : List Dec) (w : World) (hs : Led w sv ds) (hv : ∀ d ∈ ds, validB d = true) (hn : ds.length ≤ 1000) :
    Calls Try.prog 18 #[.agg #[sv]] w fun r w' => r = .returned (.string ⟨(bytesOf ds).toArray⟩) ∧ Below w.heap.size w w' := by
  have hs1 := hs
  obtain ⟨_, A, c, hsv, hc1, hc2, _⟩ := hs1
  have HSV := Lib.hid hs
  have HV := Lib.hid hv
  subst hsv
  clear hs hv
  go_enter Try.func18, Try.ntmps18
  go_wp2_with fail
  go_loopw [3, 9] (fun sv iv wr => ∃ k : Nat, k ≤ ds.length ∧ iv = .int .i64 k ∧ sv = .string ⟨(bytesOf (ds.take k)).toArray⟩ ∧ Below w.heap.size w wr) (fun _ iv _ => ds.length - (intOf iv).toNat)
  case atStart => exact ⟨0, Nat.zero_le _, rfl, rfl, (Below.refl _ _).alloc (Nat.le_refl _) _⟩
  case round =>
    obtain ⟨k, hk, rfl, rfl, hb⟩ := hrel
    by_cases hlt : k < ds.length
    · obtain ⟨d, hd⟩ : ∃ d, ds[k]? = some d := ⟨_, List.getElem?_eq_getElem hlt⟩
      have hvd := HV.out d (List.mem_of_getElem? hd)
      have hts := take_snoc' hd
      obtain ⟨b, off, c', hsv, hbl, _, _, c0, c1, c2, c3, c4⟩ := sl_dec (HSV.out.ext hb) hd
      injection hsv with h1 _ h2
      subst h1 h2
      obtain ⟨d1, d2, d3, d4, d5⟩ := d
      simp only [] at c0 c1 c2 c3 c4
      have hln : (bytesOf (ds.take k)).length = 12 * k := by rw [bytesOf_len, List.length_take, Nat.min_eq_left hk]
      have HT := Lib.hid hts
      have HVD := Lib.hid hvd
      have HLN := Lib.hid hln
      clear hts hvd hln hd
      go_wp2_with fail
      refine (rappend_yes _ d1 d2 d3 d4 d5 _ HVD.out (by rw [HLN.out]; omega)).mono ?_
      rintro r w1 ⟨rfl, hb1⟩
      go_wp2_with fail
      go_roundw
      case rel => exact ⟨k + 1, by omega, by go_num, by rw [HT.out, bytesOf_snoc], below_step (hb.alloc hb.size _) hb1 (by have := hb.size; simp; omega)⟩
      case measure => simp [intOf]; omega
    · have hf : ds.take k = ds := List.take_of_length_le (by omega)
      have HF := Lib.hid hf
      clear hf
      go_wp2_with fail
      go_ret
      rw [HF.out]
      exact ⟨rfl, hb⟩
end Go.Proofs.Ytnimpcffagidoaa
