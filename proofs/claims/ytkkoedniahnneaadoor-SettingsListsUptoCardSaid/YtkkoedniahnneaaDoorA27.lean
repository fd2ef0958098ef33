/-
 The last setting of a kind, and a list in which a setting has a value: plain facts.
-/
import Derived.Test.YtkkoedniahnneaaDoorA24
set_option linter.unusedSimpArgs false
set_option linter.unusedVariables false
namespace Go.Proofs.YtkkoedniahnneaaDoor.K
open Go.RowKit
noncomputable section
def idxP (p : Setting → Bool) (l : List Setting) : Option Nat := ((backs l l.length).find? fun q => p q.2).map (·.1)
theorem backs_snoc (r : List Setting) (x : Setting) : backs (r ++ [x]) (r ++ [x]).length = (r.length, x) :: backs r r.length := by
 rw [List.length_append, List.length_singleton]
 unfold backs
 rw [List.range_succ_eq_map, List.map_cons, List.map_map]
 refine congr (congrArg List.cons ?_) (List.map_congr_left fun j hj => ?_)
 ·simp
 ·have hj := List.mem_range.1 hj
  have h1 : (r ++ [x]).length - 1 - (j + 1) = r.length - 1 - j := by simp; omega
  show ((r ++ [x]).length - 1 - (j + 1), (r ++ [x])[(r ++ [x]).length - 1 - (j + 1)]?.getD zSet) = _
  rw [h1, List.getElem?_append_left (by omega)]
theorem idxP_snoc (p : Setting → Bool) (r : List Setting) (x : Setting) : idxP p (r ++ [x]) = if p x then some r.length else idxP p r := by
 unfold idxP
 rw [backs_snoc, List.find?_cons]
 cases p x <;> rfl
theorem idxP_cases (p : Setting → Bool) : ∀ (n : Nat) (l : List Setting), l.length = n → (idxP p l = none ∧ ∀ x ∈ l, p x = false) ∨ ∃ pre m post, l = pre ++ m :: post ∧ p m = true ∧ (∀ x ∈ post, p x = false) ∧ idxP p l = some pre.length
 | 0, l, h => by
  rw [List.eq_nil_of_length_eq_zero h]
  exact .inl ⟨rfl, fun x hx => absurd hx List.not_mem_nil⟩
 | n + 1, l, h => by
  rcases List.eq_nil_or_concat l with rfl | ⟨r, x, rfl⟩
  ·cases h
  ·rw [List.concat_eq_append] at h ⊢
   rw [List.length_append, List.length_singleton] at h
   rw [idxP_snoc]
   cases hx : p x with
   | true =>
    rw [if_pos rfl]
    exact .inr ⟨r, x, [], rfl, hx, fun y hy => absurd hy List.not_mem_nil, rfl⟩
   | false =>
    rw [if_neg (by simp)]
    rcases idxP_cases p n r (by omega) with ⟨h1, h2⟩ | ⟨pre, m, post, h1, h2, h3, h4⟩
    ·refine .inl ⟨h1, fun y hy => ?_⟩
     rcases List.mem_append.1 hy with hy | hy
     ·exact h2 y hy
     ·rw [List.mem_singleton.1 hy]
      exact hx
    ·refine .inr ⟨pre, m, post ++ [x], by rw [h1]; simp, h2, fun y hy => ?_, h4⟩
     rcases List.mem_append.1 hy with hy | hy
     ·exact h3 y hy
     ·rw [List.mem_singleton.1 hy]
      exact hx
theorem idxP_dec (p : Setting → Bool) (l : List Setting) : (idxP p l = none ∧ ∀ x ∈ l, p x = false) ∨ ∃ pre m post, l = pre ++ m :: post ∧ p m = true ∧ (∀ x ∈ post, p x = false) ∧ idxP p l = some pre.length := idxP_cases p _ l rfl
theorem idxP_lt {p : Setting → Bool} {l : List Setting} {i : Nat} (h : idxP p l = some i) : i < l.length := by
 rcases idxP_dec p l with ⟨h1, _⟩ | ⟨pre, m, post, rfl, _, _, h1⟩
 ·rw [h1] at h; cases h
 ·rw [h1] at h
  obtain rfl := Option.some.inj h
  simp
def lastI (p : Setting → Bool) (l : List Setting) : Int := match idxP p l with
 | some i => (i : Int)
 | none => -1
theorem lastX_I (l : List Setting) (a b : ByteArray) : lastX l a b = lastI (fun x => isSN x a b) l := by
 unfold lastX lastI idxP
 cases (backs l l.length).find? fun q => isSN q.2 a b <;> rfl
theorem getF_I (l : List Setting) (a b : ByteArray) : getF l a b = match idxP (fun x => isSN x a b) l with
  | some i => ((l[i]?.getD zSet).2.2.1, true)
  | none => (eB, false) := by
 unfold getF idxP
 cases h : (backs l l.length).find? fun q => isSN q.2 a b with
 | none => rfl
 | some q =>
  have := backs_mem (List.mem_of_find?_eq_some h)
  simp only [Option.map_some, this, Option.getD_some]
def newS (a b v : ByteArray) : Setting := (a, (b, (v, (0, ()))))
def putV (v : ByteArray) (x : Setting) : Setting := (x.1, (x.2.1, (v, (x.2.2.2.1, ()))))
def posS (l : List Setting) (a : ByteArray) : Nat := match idxP (fun x => seq x.1 a) l with
 | some i => i + 1
 | none => l.length
def setL (l : List Setting) (a b v : ByteArray) : List Setting := match idxP (fun x => isSN x a b) l with
 | some i => l.take i ++ putV v (l[i]?.getD zSet) :: l.drop (i + 1)
 | none => l.take (posS l a) ++ newS a b v :: l.drop (posS l a)
def setF (l : List Setting) (a b v : ByteArray) : List Setting × Int := bif rgtB (newS a b v) then (setL l a b v, 0) else ([], 1)
theorem posS_le (l : List Setting) (a : ByteArray) : posS l a ≤ l.length := by
 unfold posS
 cases h : idxP (fun x => seq x.1 a) l with
 | none => exact Nat.le_refl _
 | some i => exact idxP_lt h
theorem setL_len (l : List Setting) (a b v : ByteArray) : (setL l a b v).length = l.length ∨ (setL l a b v).length = l.length + 1 := by
 unfold setL
 cases h : idxP (fun x => isSN x a b) l with
 | some i =>
  have := idxP_lt h
  left
  simp
  omega
 | none =>
  have := posS_le l a
  right
  simp
  omega
def hitP (p : Setting → Bool) (l : List Setting) : Option Setting := (idxP p l).map fun i => l[i]?.getD zSet
theorem hitP_snoc (p : Setting → Bool) (r : List Setting) (x : Setting) : hitP p (r ++ [x]) = if p x then some x else hitP p r := by
 unfold hitP
 rw [idxP_snoc]
 cases hx : p x with
 | true => simp
 | false =>
  simp only [Bool.false_eq_true, if_false]
  cases h : idxP p r with
  | none => rfl
  | some i =>
   have := idxP_lt h
   simp [List.getElem?_append_left this]
theorem getF_hit (l : List Setting) (a b : ByteArray) : getF l a b = match hitP (fun x => isSN x a b) l with
  | some x => (x.2.2.1, true)
  | none => (eB, false) := by
 rw [getF_I]
 unfold hitP
 cases idxP (fun x => isSN x a b) l <;> rfl
end
end Go.Proofs.YtkkoedniahnneaaDoor.K
