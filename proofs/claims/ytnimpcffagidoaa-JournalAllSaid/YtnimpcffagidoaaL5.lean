/-
 The law LedgerLatest.
-/
import Derived.Test.YtnimpcffagidoaaL4
import Derived.KernelRfl
set_option linter.unusedSimpArgs false
set_option linter.unusedVariables false
namespace Go.Proofs.Ytnimpcffagidoaa.K
open Go.RowKit
noncomputable section
open Classical in
-- loop 0: (x9 : Int) (x10 : Int) (x15 : Int) (x17 : Bool) (x18 : Int) (x20 : Bool) (x22 : Bool) (x91 : (List Decision)) (x92 : Int) (x93 : Int) (y8 : Ledger) (y13 : Decision) (y16 : Decision) (y19 : Decision) (y21 : Decision); out: ('exit', 2) (x9 : Int) (x10 : Int) (x15 : Int) (x17 : Bool) (x18 : Int) (x20 : Bool) (x22 : Bool) (y8 : Ledger) (y13 : Decision) (y16 : Decision) (y19 : Decision) (y21 : Decision)
-- loop 1: (x9 : Int) (x10 : Int) (x15 : Int) (x17 : Bool) (x18 : Int) (y8 : Ledger) (y13 : Decision) (y16 : Decision); out: ('ret',) (x6 : Bool); ('exit', 0) (x15 : Int) (x17 : Bool) (y13 : Decision) (y16 : Decision)
theorem genL_gen : ∀ (k : Nat) (d : Dice) (a : Decision), Gen (dec a) (decs (genL k d a)) ∧ (genL k d a).length = k
 | 0, _, _ => ⟨trivial, rfl⟩
 | k + 1, d, a => ⟨⟨dec_follows, (genL_gen k _ _).1⟩, by simp [genL, (genL_gen k _ _).2]⟩
theorem dOk_gen : ∀ (k : Nat) (d : Dice) (a : Decision), dOk d = true → dOk (genD k d a) = true
 | 0, _, _, h => h
 | k + 1, _, _, h => dOk_gen k _ _ (dOk_dec h)
theorem led_facts {d : Dice} {n : Int} (h : dOk d = true) (hn : 0 ≤ n ∧ n ≤ 100) : Gen zeroDec (decs (ledV d n).1) ∧ (ledV d n).1.length ≤ n.toNat ∧ dOk (ledN d n) = true := by
 have b := dval_lt (d := d) (n := n + 1) (by omega)
 have g := genL_gen (dval d (n + 1)).toNat (adv d) zeroT
 exact ⟨g.1, by show (genL _ _ _).length ≤ _; rw [g.2]; omega, dOk_gen _ _ _ (dOk_next h)⟩
end
end Go.Proofs.Ytnimpcffagidoaa.K
