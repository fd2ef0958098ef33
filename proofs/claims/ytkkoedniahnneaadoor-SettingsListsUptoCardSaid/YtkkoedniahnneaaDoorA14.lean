/-
 settings.Parse as a word.
-/
import Derived.Test.YtkkoedniahnneaaDoorA13
set_option linter.unusedSimpArgs false
set_option linter.unusedVariables false
namespace Go.Proofs.YtkkoedniahnneaaDoor.K
open Go.RowKit
noncomputable section
theorem own_cG {X : Nat → Nat → Prop} {w : World} {σ : Pl} {B e : Nat} {y : Ty} {l : List y.T} {cells : List Value} {sv : Value} (h : w.ownsRow B e y.sz sv l.length cells) (hc : Cs X w nowhere (l.flatMap y.cells) cells) (h1 : ∀ u ∈ cells, u.oneCell' = true) (hX : ∀ b q, X b q → b < B) : C X w σ (V.t (.sl y) l).d sv := by
 obtain ⟨g, A, c, rfl, h2, h3, h4⟩ := Sl.of_own h
 have hlt := h.lt
 show C X w σ (.sl l.length (l.flatMap y.cells)) _
 simp only [C]
 refine ⟨A, c, rfl, h2, h3, fun h0 => ?_, fun h0 => ?_⟩
 ·have : l = [] := List.eq_nil_of_length_eq_zero h0
  rw [this]
  rfl
 ·obtain ⟨b, off, rfl, g1, g2⟩ := h4 h0
  refine ⟨b, off, cells, rfl, hc, g1, fun q _ hq => ?_, fun j u hu => g2 j u hu, h1⟩
  have := hX b _ hq
  have := (hlt b rfl).1
  omega
theorem set_cs {X : Nat → Nat → Prop} {w : World} : ∀ l : List Setting, Cs X w nowhere (l.flatMap tySetting.cells) (l.flatMap setCells)
 | [] => by simp [Cs]
 | x :: l => by
  show Cs X w nowhere (D.v (.string x.1) :: D.v (.string x.2.1) :: D.v (.string x.2.2.1) :: D.v (.int .i64 x.2.2.2.1) :: l.flatMap tySetting.cells) (.string x.1 :: .string x.2.1 :: .string x.2.2.1 :: .int .i64 x.2.2.2.1 :: l.flatMap setCells)
  simp only [Cs, C]
  exact ⟨_, _, rfl, ⟨rfl, rfl⟩, _, _, rfl, ⟨rfl, rfl⟩, _, _, rfl, ⟨rfl, rfl⟩, _, _, rfl, ⟨rfl, rfl⟩, set_cs l⟩
theorem set_one (l : List Setting) : ∀ u ∈ l.flatMap setCells, u.oneCell' = true := by
 intro u hu
 obtain ⟨x, _, hx⟩ := List.mem_flatMap.1 hu
 simp only [setCells, List.mem_cons, List.not_mem_nil, or_false] at hx
 rcases hx with rfl | rfl | rfl | rfl <;> rfl
def sp_f29 : Ent := spec (.pr .str .nil) (fun x => true) (fun x => (.tu [(.t (.sl tySetting) ((parF x.1).1)), (.t tI (((parF x.1).2).1)), (.t tI (((parF x.1).2).2))]))
theorem en_f29 : Entered Tryd.prog 29 := .inr ⟨by decide, _, Tryd.func29, by kernel_rfl, by kernel_rfl⟩
theorem ms_f29 : Meets Tryd.prog 29 (strip sp_f29) := by
 unfold sp_f29
 refine meets_calls (fun x hok X w σ vs hfin hc => ?_)
 obtain ⟨s, u⟩ := x
 simp only [Ty.canon, V.ds, V.d, Ty.d, Cs, C] at hc
 obtain ⟨v1, r1, rfl, ⟨rfl, _⟩, rfl⟩ := hc
 refine (parse_any s w).mono ?_
 rintro e w' ⟨v, rfl, B, hB, ho, hb⟩
 refine ⟨_, rfl, ?_, hb⟩
 have hv : C X w' σ (V.t (.sl tySetting) (parF s).1).d v := own_cG ho (set_cs _) (set_one _) (fun b q hq => Nat.lt_of_lt_of_le (hfin b q hq) hB)
 show C X w' σ (.tu [(V.t (.sl tySetting) (parF s).1).d, .v (.int .i64 (parF s).2.1), .v (.int .i64 (parF s).2.2)]) _
 simp only [C, Cs]
 exact ⟨_, rfl, _, _, rfl, hv, _, _, rfl, ⟨rfl, rfl⟩, _, _, rfl, ⟨rfl, rfl⟩, rfl⟩
end
end Go.Proofs.YtkkoedniahnneaaDoor.K
