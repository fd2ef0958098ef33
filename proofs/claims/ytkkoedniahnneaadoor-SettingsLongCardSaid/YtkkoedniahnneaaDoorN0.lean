/-
 Plain tools: ranges of any length, the first that is so; what a name is; words out of dice.
-/
import Derived.Test.YtkkoedniahnneaaDoorM1
import Derived.Test.YtkkoedniahnneaaDoorKD
set_option linter.unusedSimpArgs false
set_option linter.unusedVariables false
namespace Go.Proofs.YtkkoedniahnneaaDoor.K
open Go.RowKit
noncomputable section
def rngG {α : Type} (l : List α) (n i : Int) : Bool := decide (n = l.length ∧ 0 ≤ i ∧ i ≤ n ∧ l.length ≤ 9223372036854775807)
theorem rngG_k {α : Type} {l : List α} {n i : Int} (h : rngG l n i = true) : n = l.length ∧ l.length ≤ 9223372036854775807 ∧ ∃ k : Nat, i = k ∧ k ≤ l.length := by
 simp only [rngG, decide_eq_true_eq] at h
 obtain ⟨h1, h2, h3, h4⟩ := h
 exact ⟨h1, h4, i.toNat, by omega, by omega⟩
theorem rngG_0 {α : Type} {l : List α} (h : l.length ≤ 9223372036854775807) : rngG l (llen l) 0 = true := by
 simp only [rngG, decide_eq_true_eq, llen]
 exact ⟨trivial, by omega, by omega, h⟩
theorem add1G {k : Nat} (h : k < 9223372036854775807) : iadd .i64 (k : Int) 1 = ((k + 1 : Nat) : Int) := by rw [iadd_in (by omega)]; omega
theorem bytesG_len (s : ByteArray) : (bytesL s).length = s.size := by simp [bytesL]
-- loop 0: (x0 : (List ByteArray)) (x1 : ByteArray) (x7 : Int) (x8 : Int); out: ('ret',) (x4 : Int); ('exit', 0)
def nameG (s : ByteArray) : Bool := decide (s.size ≤ 9223372036854775807)
theorem sgt_get {s : ByteArray} {k : Nat} (h : k < s.size) : sgt s (k : Int) = (bytesL s)[k]'(by rw [bytesG_len]; exact h) := by
 have hl : k < s.data.toList.length := by simpa using h
 simp only [sgt, bytesL, Int.toNat_natCast, List.getElem_map, List.getD_eq_getElem?_getD, List.getElem?_eq_getElem hl, Option.getD_some]
end
end Go.Proofs.YtkkoedniahnneaaDoor.K
