/-
 Own slices that are handed to a function which only reads them: a word in types serves.
-/
import Derived.Test.YtkkoedniahnneaaDoorKD
set_option linter.unusedSimpArgs false
set_option linter.unusedVariables false
namespace Go.Proofs.YtkkoedniahnneaaDoor.K
open Go.RowKit
mutual
def V.plain : V → Bool
 | .t (.int _) _ => true
 | .t .bool _ => true
 | .tu vs => V.plains vs
 | _ => false
def V.plains : List V → Bool
 | [] => true
 | v :: vs => v.plain && V.plains vs
end
section
variable {X X' : Nat → Nat → Prop} {w w' : World} {σ σ' : Pl}
mutual
theorem plain_c : ∀ (v : V) (u : Value), v.plain = true → C X w σ v.d u → C X' w' σ' v.d u
 | .t (.int _) x, u, _, h => by simpa only [V.d, Ty.d, C] using h
 | .t .bool x, u, _, h => by simpa only [V.d, Ty.d, C] using h
 | .tu vs, u, hp, h => by
  simp only [V.plain] at hp
  simp only [V.d, C] at h ⊢
  obtain ⟨us, h1, h2⟩ := h
  exact ⟨us, h1, plain_cs vs us hp h2⟩
theorem plain_cs : ∀ (vs : List V) (us : List Value), V.plains vs = true → Cs X w σ (V.ds vs) us → Cs X' w' σ' (V.ds vs) us
 | [], us, _, h => by simpa only [V.ds, Cs] using h
 | v :: vs, us, hp, h => by
  simp only [V.plains, Bool.and_eq_true] at hp
  simp only [V.ds, Cs] at h ⊢
  obtain ⟨u, us', h1, h2, h3⟩ := h
  exact ⟨u, us', h1, plain_c v u hp.1 h2, plain_cs vs us' hp.2 h3⟩
end
end
def lendE (E : Ent) : Ent := fun args objs => match objs with
 | [.arr e y l] => match E (V.fzs 50000 y l args) [] with
  | some (ok, r, []) => if r.plain then some (ok, r, [.arr e y l]) else none
  | _ => none
 | objs => E args objs
section
variable {P : Program}
theorem meets_lend {f : FuncId} {E : Ent} (h : Meets P f (strip E)) : Meets P f (strip (lendE E)) := by
 intro args objs r os hF X w σ vs hfin hl hc
 unfold strip lendE at hF
 split at hF
 ·rename_i r' os' hq
  simp only [Option.some.injEq, Prod.mk.injEq] at hF
  obtain ⟨rfl, rfl⟩ := hF
  split at hq
  ·rename_i e y l
   split at hq
   ·rename_i ok r2 hE
    split at hq
    ·rename_i hp
     simp only [Option.some.injEq, Prod.mk.injEq] at hq
     obtain ⟨rfl, rfl, rfl⟩ := hq
     have hat := (hl.at_ 0 _ rfl).1
     let X2 : Nat → Nat → Prop := fun b q => X b q ∧ (σ 50000).blk ≠ some b
     have ex : Ext X w X2 w := ⟨Nat.le_refl _, fun b q _ hx => ⟨fun hx' => hx hx'.1, rfl⟩, fun _ _ _ => rfl⟩
     have hX : ∀ u b, σ 50000 = .arr u → u.ownBlock = some b → ∀ q, ¬ X2 b q := fun u b h1 h2 q hx => hx.2 (by rw [h1]; exact h2)
     have hc2 := fz_cs hat ex hX args vs hc
     have hs : strip E (V.fzs 50000 y l args) [] = some (r2, []) := by simp [strip, hE]
     refine (h _ _ _ _ hs X2 w σ vs (fun b q hx => hfin b q hx.1) ⟨fun j o hj => by simp at hj, fun i j b _ hi => by simp at hi⟩ hc2).mono ?_
     rintro e' w' ⟨u, X', σ', rfl, hcr, hE'⟩
     have hk : ∀ b, b < w.heap.size → w'.heap[b]? = w.heap[b]? := fun b hb => hE'.fr.keep b hb (by simp [lentB])
     let X3 : Nat → Nat → Prop := fun b q => (b < w.heap.size ∧ X b q) ∨ (w.heap.size ≤ b ∧ X' b q)
     have ex3 : Ext X w X3 w' := ⟨hE'.fr.size, fun b q hb hx => ⟨fun hx' => by
      rcases hx' with hx' | hx'
      ·exact hx hx'.2
      ·omega, World.cell?_of_block (w := w) (a := ⟨b, q, none⟩) (hk b hb)⟩, fun b hb _ => hk b hb⟩
     refine ⟨u, X3, σ, rfl, plain_c _ _ hp hcr, ⟨fun b q hq => ?_, fun j o hj => ?_, fun i j b hij hi hj => by simp at hi hj; omega, by simp, fun _ _ => rfl, fun j b hj hl => by simp at hj hl; omega, ⟨hE'.fr.os, hE'.fr.tape, hE'.fr.output, hE'.fr.size, fun b hb _ => hk b hb⟩, fun b q hb hq => ?_, fun b q hb _ hq => .inl ⟨hb, hq⟩⟩⟩
     ·rcases hq with hq | hq
      ·exact Nat.lt_of_lt_of_le hq.1 hE'.fr.size
      ·exact hE'.fin b q hq.2
     ·cases j with
      | zero =>
       simp only [List.getElem?_cons_zero, Option.some.injEq] at hj
       subst hj
       refine ⟨hat.ext ex3 rfl (fun _ _ => rfl) fun b hb => ?_, fun h => absurd h (by simp)⟩
       obtain ⟨u2, xs, h1, h2, h3, h4, h5⟩ := hat
       have hb2 : u2.ownBlock = some b := by rw [h1] at hb; exact hb
       have hlt : b < w.heap.size := hfin b 0 (h5 b hb2 0)
       exact ⟨hk b hlt, fun q hq => .inl ⟨hlt, hq⟩⟩
      | succ j => simp at hj
     ·rcases hq with hq | hq
      ·exact hq.2
      ·omega
    ·cases hq
   ·cases hq
  ·exact h _ _ _ _ (by rw [strip, hq]) X w σ vs hfin hl hc
 ·cases hF
end
end Go.Proofs.YtkkoedniahnneaaDoor.K
