/-
 Own slices that are handed to a function which only reads them: a word in types serves.
-/
import Derived.Test.YtkkoedniahnneaaDoorKD
set_option linter.unusedSimpArgs false
set_option linter.unusedVariables false
namespace Go.Proofs.YtkkoedniahnneaaDoor.K
open Go.RowKit
mutual
def V.plain : V → Bool
 | .t (.int _) _ => true
 | .t .bool _ => true
 | .tu vs => V.plains vs
 | _ => false
def V.plains : List V → Bool
 | [] => true
 | v :: vs => v.plain && V.plains vs
end
section
variable {X X' : Nat → Nat → Prop} {w w' : World} {σ σ' : Pl}
mutual
theorem plain_c : ∀ (v : V) (u : Value), v.plain = true → C X w σ v.d u → C X' w' σ' v.d u
 | .t (.int _) x, u, _, h => by simpa only [V.d, Ty.d, C] using h
 | .t .bool x, u, _, h => by simpa only [V.d, Ty.d, C] using h
 | .tu vs, u, hp, h => by
  simp only [V.plain] at hp
  simp only [V.d, C] at h ⊢
  obtain ⟨us, h1, h2⟩ := h
  exact ⟨us, h1, plain_cs vs us hp h2⟩
theorem plain_cs : ∀ (vs : List V) (us : List Value), V.plains vs = true → Cs X w σ (V.ds vs) us → Cs X' w' σ' (V.ds vs) us
 | [], us, _, h => by simpa only [V.ds, Cs] using h
 | v :: vs, us, hp, h => by
  simp only [V.plains, Bool.and_eq_true] at hp
  simp only [V.ds, Cs] at h ⊢
  obtain ⟨u, us', h1, h2, h3⟩ := h
  exact ⟨u, us', h1, plain_c v u hp.1 h2, plain_cs vs us' hp.2 h3⟩
end
end
section
variable {P : Program}
end
end Go.Proofs.YtkkoedniahnneaaDoor.K
