/-
 The generators of decisions and ledgers: what they make is valid, whatever the dice.
-/
import Derived.Test.YtnimpcffagidoaaDice
import Derived.Test.YtnimpcffagidoaaValid
import Derived.StillTailTactics
namespace Go.Proofs.Ytnimpcffagidoaa
open Go.RowKit
set_option linter.unusedSimpArgs false
set_option linter.unusedVariables false
attribute [local go_sem ↓] Go.wp_at_zero Go.wp_at_succ
theorem store5 {w : World} {g : Nat} {t : TypeId} {a b c d e : Value} (h : Blk w g t #[a, b, c, d, e]) (x0 x1 x2 x3 x4 : Value) :
  Blk (((((w.setCell ⟨g, 0, none⟩ x0).setCell ⟨g, 1, none⟩ x1).setCell ⟨g, 2, none⟩ x2).setCell ⟨g, 3, none⟩ x3).setCell ⟨g, 4, none⟩ x4) g t #[x0, x1, x2, x3, x4] :=
 ((((h.set_ 0 x0).set_ 1 x1).set_ 2 x2).set_ 3 x3).set_ 4 x4
theorem only5 (w : World) (g : Nat) (x0 x1 x2 x3 x4 : Value) :
  w.grownBy (((((w.setCell ⟨g, 0, none⟩ x0).setCell ⟨g, 1, none⟩ x1).setCell ⟨g, 2, none⟩ x2).setCell ⟨g, 3, none⟩ x3).setCell ⟨g, 4, none⟩ x4) (some g) :=
 have h0 := World.grownBy.refl w (some g)
 have h1 := only_setCell h0 (p := ⟨g, 0, none⟩) (.inl rfl) x0
 have h2 := only_setCell h1 (p := ⟨g, 1, none⟩) (.inl rfl) x1
 have h3 := only_setCell h2 (p := ⟨g, 2, none⟩) (.inl rfl) x2
 have h4 := only_setCell h3 (p := ⟨g, 3, none⟩) (.inl rfl) x3
 only_setCell h4 (p := ⟨g, 4, none⟩) (.inl rfl) x4
def Follows (a d : Dec) : Prop :=
 a.day ≤ d.day ∧ d.day ≤ a.day + 2 ∧ a.known ≤ d.known ∧ d.known ≤ a.known + 1 ∧ 1 ≤ d.kind ∧ d.kind ≤ 5 ∧ 0 ≤ d.subject ∧ d.subject ≤ 2 ∧ 0 ≤ d.value ∧ d.value ≤ 1
def Made (w : World) (B g : Nat) (P : Value → Prop) (e : Ending) (w' : World) : Prop := ∃ v, P v ∧ e = .returned v ∧ w.grownBy w' (some g) ∧ DiceOk B w' g
end Go.Proofs.Ytnimpcffagidoaa
