/-
  Two own slices that are handed to a function which only reads them.
-/
import Derived.Test.YtfehjdaielifiaaGreatKX
set_option linter.unusedSimpArgs false
set_option linter.unusedVariables false
namespace Go.Proofs.YtfehjdaielifiaaGreat.K
open Go.RowKit
/-- the word with two own slices among the arguments, which are only read -/
def lendE2 (E : Ent) : Ent := fun args objs => match objs with
  | [.arr e y l, .arr e2 y2 l2] => match E (V.fzs 50001 y2 l2 (V.fzs 50000 y l args)) [] with
    | some (ok, r, []) => if r.plain then some (ok, r, [.arr e y l, .arr e2 y2 l2]) else none
    | _ => none
  | objs => lendE E args objs
section
variable {P : Program}
theorem meets_lend2 {f : FuncId} {E : Ent} (h : Meets P f (strip E)) : Meets P f (strip (lendE2 E)) := by
  intro args objs r os hF X w σ vs hfin hl hc
  unfold strip lendE2 at hF
  split at hF
  · rename_i r' os' hq
    simp only [Option.some.injEq, Prod.mk.injEq] at hF
    obtain ⟨rfl, rfl⟩ := hF
    split at hq
    · rename_i e y l e2 y2 l2
      split at hq
      · rename_i ok r2 hE
        split at hq
        · rename_i hp
          simp only [Option.some.injEq, Prod.mk.injEq] at hq
          obtain ⟨rfl, rfl, rfl⟩ := hq
          have hat := (hl.at_ 0 _ rfl).1
          have hat2 := (hl.at_ 1 _ rfl).1
          have hap : ∀ b, (σ 50000).blk = some b → (σ 50001).blk ≠ some b := fun b hb => hl.apart 0 1 b (by omega) (by simp) (by simp) hb
          let X1 : Nat → Nat → Prop := fun b q => X b q ∧ (σ 50000).blk ≠ some b
          let X2 : Nat → Nat → Prop := fun b q => X1 b q ∧ (σ 50001).blk ≠ some b
          have ex1 : Ext X w X1 w := ⟨Nat.le_refl _, fun b q _ hx => ⟨fun hx' => hx hx'.1, rfl⟩, fun _ _ _ => rfl⟩
          have ex2 : Ext X1 w X2 w := ⟨Nat.le_refl _, fun b q _ hx => ⟨fun hx' => hx hx'.1, rfl⟩, fun _ _ _ => rfl⟩
          have hX1 : ∀ u b, σ 50000 = .arr u → u.ownBlock = some b → ∀ q, ¬ X1 b q := fun u b h1 h2 q hx => hx.2 (by rw [h1]; exact h2)
          have hX2 : ∀ u b, σ 50001 = .arr u → u.ownBlock = some b → ∀ q, ¬ X2 b q := fun u b h1 h2 q hx => hx.2 (by rw [h1]; exact h2)
          have hat2' : OAt X1 w σ 50001 (.arr e2 y2 l2) := hat2.ext ex1 rfl (fun _ _ => rfl) fun b hb => ⟨rfl, fun q hq => ⟨hq, fun h0 => hap b h0 hb⟩⟩
          have hc1 := fz_cs hat ex1 hX1 args vs hc
          have hc2 := fz_cs hat2' ex2 hX2 _ vs hc1
          have hs : strip E (V.fzs 50001 y2 l2 (V.fzs 50000 y l args)) [] = some (r2, []) := by simp [strip, hE]
          refine (h _ _ _ _ hs X2 w σ vs (fun b q hx => hfin b q hx.1.1) ⟨fun j o hj => by simp at hj, fun i j b _ hi => by simp at hi⟩ hc2).mono ?_
          rintro e' w' ⟨u, X', σ', rfl, hcr, hE'⟩
          have hk : ∀ b, b < w.heap.size → w'.heap[b]? = w.heap[b]? := fun b hb => hE'.fr.keep b hb (by simp [lentB])
          let X3 : Nat → Nat → Prop := fun b q => (b < w.heap.size ∧ X b q) ∨ (w.heap.size ≤ b ∧ X' b q)
          have ex3 : Ext X w X3 w' := ⟨hE'.fr.size, fun b q hb hx => ⟨fun hx' => by
            rcases hx' with hx' | hx'
            · exact hx hx'.2
            · omega, World.cell?_of_block (w := w) (a := ⟨b, q, none⟩) (hk b hb)⟩, fun b hb _ => hk b hb⟩
          have put : ∀ (k : Nat) (e : Nat) (y : Ty) (l : List y.T), OAt X w σ k (.arr e y l) → OAt X3 w' σ k (.arr e y l) := fun k e y l hat => by
            refine hat.ext ex3 rfl (fun _ _ => rfl) fun b hb => ?_
            obtain ⟨u2, xs, h1, h2, h3, h4, h5⟩ := hat
            have hb2 : u2.ownBlock = some b := by rw [h1] at hb; exact hb
            have hlt : b < w.heap.size := hfin b 0 (h5 b hb2 0)
            exact ⟨hk b hlt, fun q hq => .inl ⟨hlt, hq⟩⟩
          refine ⟨u, X3, σ, rfl, plain_c _ _ hp hcr, ⟨fun b q hq => ?_, fun j o hj => ?_, fun i j b hij hi hj n1 n2 hb => hl.apart i j b hij (by simpa using hi) (by simpa using hj) hb, by simp, fun _ _ => rfl, fun j b hj hl => by simp at hj hl; omega, ⟨hE'.fr.os, hE'.fr.tape, hE'.fr.output, hE'.fr.size, fun b hb _ => hk b hb⟩, fun b q hb hq => ?_, fun b q hb _ hq => .inl ⟨hb, hq⟩⟩⟩
          · rcases hq with hq | hq
            · exact Nat.lt_of_lt_of_le hq.1 hE'.fr.size
            · exact hE'.fin b q hq.2
          · match j with
            | 0 =>
              simp only [List.getElem?_cons_zero, Option.some.injEq] at hj
              subst hj
              exact ⟨put _ _ _ _ hat, fun h => absurd h (by simp)⟩
            | 1 =>
              simp only [List.getElem?_cons_succ, List.getElem?_cons_zero, Option.some.injEq] at hj
              subst hj
              exact ⟨put _ _ _ _ hat2, fun h => absurd h (by simp)⟩
            | j + 2 => simp at hj
          · rcases hq with hq | hq
            · exact hq.2
            · omega
        · cases hq
      · cases hq
    · exact meets_lend h _ _ _ _ (by rw [strip, hq]) X w σ vs hfin hl hc
  · cases hF
end
end Go.Proofs.YtfehjdaielifiaaGreat.K
