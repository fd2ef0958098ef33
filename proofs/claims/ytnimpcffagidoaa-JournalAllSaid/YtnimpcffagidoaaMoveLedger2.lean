/-
 The generator of ledgers.
-/
import Derived.Test.YtnimpcffagidoaaMoveLedger
import Derived.Test.YtnimpcffagidoaaKA
import Derived.LoopN
import Derived.Deep.DeepCutAuto
namespace Go.Proofs.Ytnimpcffagidoaa
open Go.RowKit
set_option linter.unusedSimpArgs false
set_option linter.unusedVariables false
def zeroDec : Dec := ⟨0, 0, 0, 0, 0⟩
def Gen : Dec → List Dec → Prop
 | _, [] => True
 | a, d :: l => Follows a d ∧ Gen d l
def lastD (a : Dec) (l : List Dec) : Dec := l.getLastD a
def decCells (l : List Dec) : List Value := l.flatMap Dec.cells
theorem decCells_snoc (l : List Dec) (d : Dec) : decCells (l ++ [d]) = decCells l ++ d.cells := by simp [decCells]
theorem decCells_at {ds : List Dec} {k : Nat} {d : Dec} (h : ds[k]? = some d) (j : Nat) (hj : j < 5) : (decCells ds)[k * 5 + j]? = d.cells[j]? := by
 induction ds generalizing k with
 | nil => simp at h
 | cons x l ih =>
  have e : decCells (x :: l) = x.cells ++ decCells l := by simp [decCells]
  rw [e]
  have hx : x.cells.length = 5 := rfl
  rcases k with _ | k
  ·simp only [List.getElem?_cons_zero, Option.some.injEq] at h
   subst h
   rw [Nat.zero_mul, Nat.zero_add, List.getElem?_append_left (by omega)]
  ·rw [List.getElem?_cons_succ] at h
   rw [List.getElem?_append_right (by omega), hx, show (k + 1) * 5 + j - 5 = k * 5 + j from by omega]
   exact ih h
abbrev Led (w : World) (sv : Value) (ds : List Dec) : Prop := Sl w sv 5 ds.length (decCells ds)
theorem sl_dec {w : World} {sv : Value} {ds : List Dec} {k : Nat} {d : Dec} (h : Sl w sv 5 ds.length (decCells ds)) (hk : ds[k]? = some d) :
  ∃ b off c, sv = .slice (some ⟨b, off, none⟩) ds.length c ∧ b < w.heap.size ∧ ds.length ≤ c ∧ c ≤ maxLen ∧ w.cell? ⟨b, off + k * 5, none⟩ = some (.int .i64 d.day) ∧ w.cell? ⟨b, off + k * 5 + 1, none⟩ = some (.int .i64 d.known) ∧
   w.cell? ⟨b, off + k * 5 + 2, none⟩ = some (.int .i64 d.kind) ∧ w.cell? ⟨b, off + k * 5 + 3, none⟩ = some (.int .i64 d.subject) ∧ w.cell? ⟨b, off + k * 5 + 4, none⟩ = some (.int .i64 d.value) := by
 obtain ⟨_, A, c, rfl, h1, h2, h3⟩ := h
 have hl : k < ds.length := (List.getElem?_eq_some_iff.1 hk).1
 obtain ⟨b, off, rfl, hb, hc⟩ := h3 (by omega)
 refine ⟨b, off, c, rfl, hb, h1, h2, ?_, ?_, ?_, ?_, ?_⟩
 ·have := hc (k * 5 + 0) (.int .i64 d.day) (by rw [decCells_at hk 0 (by decide)]; rfl)
  simpa using this
 ·have := hc (k * 5 + 1) (.int .i64 d.known) (by rw [decCells_at hk 1 (by decide)]; rfl)
  simpa [Nat.add_assoc] using this
 ·have := hc (k * 5 + 2) (.int .i64 d.kind) (by rw [decCells_at hk 2 (by decide)]; rfl)
  simpa [Nat.add_assoc] using this
 ·have := hc (k * 5 + 3) (.int .i64 d.subject) (by rw [decCells_at hk 3 (by decide)]; rfl)
  simpa [Nat.add_assoc] using this
 ·have := hc (k * 5 + 4) (.int .i64 d.value) (by rw [decCells_at hk 4 (by decide)]; rfl)
  simpa [Nat.add_assoc] using this
theorem Sl.take {w : World} {A : Option Addr} {n c size : Nat} {xs : List Value} (h : Sl w (.slice A n c) size n xs) (k : Nat) (hk : k ≤ n) : Sl w (.slice A k c) size k (xs.take (k * size)) := by
 obtain ⟨h1, A', c', hv, h2, h3, h4⟩ := h
 injection hv with e1 _ e2
 subst e1 e2
 have hm : k * size ≤ n * size := Nat.mul_le_mul_right _ hk
 refine ⟨by rw [List.length_take, h1, Nat.min_eq_left hm], _, _, rfl, by omega, h3, fun hp => ?_⟩
 obtain ⟨b, off, e, hb, hc⟩ := h4 (by omega)
 refine ⟨b, off, e, hb, fun j u hu => hc j u ?_⟩
 have hj : j < k * size := by
  have := (List.getElem?_eq_some_iff.1 hu).1
  simp at this
  omega
 rwa [List.getElem?_take_of_lt hj] at hu
theorem decCells_take (ds : List Dec) (k : Nat) : decCells (ds.take k) = (decCells ds).take (k * 5) := by
 induction ds generalizing k with
 | nil => simp [decCells]
 | cons d l ih =>
  rcases k with _ | k
  ·simp [decCells]
  ·have e : decCells (d :: l) = d.cells ++ decCells l := by simp [decCells]
   have e2 : decCells (d :: l.take k) = d.cells ++ decCells (l.take k) := by simp [decCells]
   have hx : d.cells.length = 5 := rfl
   rw [List.take_succ_cons, e, e2, ih, show (k + 1) * 5 = 5 + k * 5 from by omega, List.take_append, hx, List.take_of_length_le (l := d.cells) (by omega), show 5 + k * 5 - 5 = k * 5 from by omega]
theorem Led.take {w : World} {A : Option Addr} {c : Nat} {ds : List Dec} (h : Led w (.slice A ds.length c) ds) (k : Nat) (hk : k ≤ ds.length) : Led w (.slice A k c) (ds.take k) := by
 have hl : (ds.take k).length = k := by rw [List.length_take, Nat.min_eq_left hk]
 show Sl w (.slice A k c) 5 (ds.take k).length _
 rw [hl, decCells_take]
 exact Sl.take h k hk
theorem elemDec : ElemOk Try.prog 29 40 5 40 :=
 ElemOk.of (.agg #[.int .i64 0, .int .i64 0, .int .i64 0, .int .i64 0, .int .i64 0]) (by kernel_rfl) (by kernel_rfl) rfl (by decide)
structure LedgerAt (w0 w : World) (B g b most : Nat) (k : Nat) (sv : Value) (ds : List Dec) : Prop where
 len : ds.length + k ≤ most
 gen : Gen zeroDec ds
 res : Blk w b 31 #[.slice none 0 0]
 led : Blk w (b + 1) 31 #[sv]
 las : Blk w (b + 1 + 1) 40 (lastD zeroDec ds).cells.toArray
 own : w.ownsRow (b + 3) 40 5 sv ds.length (decCells ds)
 grown : w0.grownBy w (some g)
 dice : DiceOk B w g
end Go.Proofs.Ytnimpcffagidoaa
