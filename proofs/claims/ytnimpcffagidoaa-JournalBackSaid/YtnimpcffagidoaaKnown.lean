/-
  Known of the program.
-/
import Derived.Test.YtnimpcffagidoaaThen
namespace Go.Proofs.Ytnimpcffagidoaa
open Go.RowKit
set_option linter.unusedSimpArgs false
set_option linter.unusedVariables false


theorem take_snoc3 {α : Type} {l : List α} {k : Nat} {d : α} (h : l[k]? = some d) : l.take (k + 1) = l.take k ++ [d] := by
  rw [List.take_add_one, h]; rfl
def maxK (ds : List Dec) : Int := ds.foldl (fun n d => max n d.known) 0
theorem maxK_snoc (ds : List Dec) (d : Dec) : maxK (ds ++ [d]) = max (maxK ds) d.known := by simp [maxK]

set_option maxHeartbeats 400000 in
theorem known_any (A : Option Addr) (c : Nat) (ds : List Dec) (day : Int) (w : World) (h : Led w (.slice A ds.length c) ds) (hs : Days ds) (hn : ds.length ≤ 100000) :
    Calls Try.prog 28 #[.agg #[.slice A ds.length c], .int .i64 day] w fun r w' => r = .returned (.int .i64 (maxK (ds.take (cnt ds day)))) ∧ Below w.heap.size w w' := by
  have hcl := cnt_le ds day
  have HL := Lib.hid (h.alloc (.cells #[.slice A ds.length c] 31))
  have HS := Lib.hid hs
  clear h hs
  go_enter Try.func28, Try.ntmps28
  go_wp2_with fail
  refine (until_any A c ds day _ HL.out HS.out hn).mono ?_
  rintro r w1 ⟨rfl, hb1⟩
  have HL1 := Lib.hid (HL.out.ext hb1)
  have hbw := below_step ((Below.refl _ _).alloc (Nat.le_refl _) _) hb1 (by simp)
  obtain ⟨q, hq⟩ : ∃ q, q = cnt ds day := ⟨_, rfl⟩
  rw [← hq] at hcl ⊢
  have HQ := Lib.hid hq
  clear hq hb1
  go_wp2_with fail
  go_loopw [5, 12] (fun nv iv wr => ∃ k : Nat, k ≤ q ∧ iv = .int .i64 k ∧ nv = .int .i64 (maxK (ds.take k)) ∧ Below w1.heap.size w1 wr) (fun _ iv _ => q - (intOf iv).toNat)
  case atStart => exact ⟨0, Nat.zero_le _, rfl, rfl, Below.refl _ _⟩
  case round =>
    obtain ⟨k, hk, rfl, rfl, hb⟩ := hrel
    by_cases hlt : k < q
    · obtain ⟨d, hd⟩ : ∃ d, ds[k]? = some d := ⟨_, List.getElem?_eq_getElem (by omega)⟩
      have hts := take_snoc3 hd
      obtain ⟨b, off, c', hsv, hbl, _, _, c0, c1, c2, c3, c4⟩ := sl_dec (HL1.out.ext hb) hd
      injection hsv with e1 _ e2
      subst e1 e2
      obtain ⟨d1, d2, d3, d4, d5⟩ := d
      simp only [] at c0 c1 c2 c3 c4
      have HT := Lib.hid hts
      clear hts hd
      go_wp2_with fail
      go_roundw
      case rel => exact ⟨k + 1, by omega, by go_num, by rw [HT.out, maxK_snoc]; congr 1; show _ = max (maxK (ds.take k)) d2; rw [Int.max_def]; split <;> split <;> omega, hb.alloc hb.size _⟩
      case measure => simp [intOf]; omega
    · obtain rfl : k = q := by omega
      go_wp2_with fail
      go_ret
      rw [← HQ.out]
      exact ⟨rfl, below_step hbw hb hbw.size⟩
end Go.Proofs.Ytnimpcffagidoaa
