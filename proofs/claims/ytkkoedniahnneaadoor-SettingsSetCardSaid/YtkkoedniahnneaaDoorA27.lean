/-
 The last setting of a kind, and a list in which a setting has a value: plain facts.
-/
import Derived.Test.YtkkoedniahnneaaDoorA24
set_option linter.unusedSimpArgs false
set_option linter.unusedVariables false
namespace Go.Proofs.YtkkoedniahnneaaDoor.K
open Go.RowKit
noncomputable section
def idxP (p : Setting → Bool) (l : List Setting) : Option Nat := ((backs l l.length).find? fun q => p q.2).map (·.1)
theorem backs_snoc (r : List Setting) (x : Setting) : backs (r ++ [x]) (r ++ [x]).length = (r.length, x) :: backs r r.length := by
 rw [List.length_append, List.length_singleton]
 unfold backs
 rw [List.range_succ_eq_map, List.map_cons, List.map_map]
 refine congr (congrArg List.cons ?_) (List.map_congr_left fun j hj => ?_)
 ·simp
 ·have hj := List.mem_range.1 hj
  have h1 : (r ++ [x]).length - 1 - (j + 1) = r.length - 1 - j := by simp; omega
  show ((r ++ [x]).length - 1 - (j + 1), (r ++ [x])[(r ++ [x]).length - 1 - (j + 1)]?.getD zSet) = _
  rw [h1, List.getElem?_append_left (by omega)]
theorem idxP_snoc (p : Setting → Bool) (r : List Setting) (x : Setting) : idxP p (r ++ [x]) = if p x then some r.length else idxP p r := by
 unfold idxP
 rw [backs_snoc, List.find?_cons]
 cases p x <;> rfl
theorem idxP_cases (p : Setting → Bool) : ∀ (n : Nat) (l : List Setting), l.length = n → (idxP p l = none ∧ ∀ x ∈ l, p x = false) ∨ ∃ pre m post, l = pre ++ m :: post ∧ p m = true ∧ (∀ x ∈ post, p x = false) ∧ idxP p l = some pre.length
 | 0, l, h => by
  rw [List.eq_nil_of_length_eq_zero h]
  exact .inl ⟨rfl, fun x hx => absurd hx List.not_mem_nil⟩
 | n + 1, l, h => by
  rcases List.eq_nil_or_concat l with rfl | ⟨r, x, rfl⟩
  ·cases h
  ·rw [List.concat_eq_append] at h ⊢
   rw [List.length_append, List.length_singleton] at h
   rw [idxP_snoc]
   cases hx : p x with
   | true =>
    rw [if_pos rfl]
    exact .inr ⟨r, x, [], rfl, hx, fun y hy => absurd hy List.not_mem_nil, rfl⟩
   | false =>
    rw [if_neg (by simp)]
    rcases idxP_cases p n r (by omega) with ⟨h1, h2⟩ | ⟨pre, m, post, h1, h2, h3, h4⟩
    ·refine .inl ⟨h1, fun y hy => ?_⟩
     rcases List.mem_append.1 hy with hy | hy
     ·exact h2 y hy
     ·rw [List.mem_singleton.1 hy]
      exact hx
    ·refine .inr ⟨pre, m, post ++ [x], by rw [h1]; simp, h2, fun y hy => ?_, h4⟩
     rcases List.mem_append.1 hy with hy | hy
     ·exact h3 y hy
     ·rw [List.mem_singleton.1 hy]
      exact hx
theorem idxP_dec (p : Setting → Bool) (l : List Setting) : (idxP p l = none ∧ ∀ x ∈ l, p x = false) ∨ ∃ pre m post, l = pre ++ m :: post ∧ p m = true ∧ (∀ x ∈ post, p x = false) ∧ idxP p l = some pre.length := idxP_cases p _ l rfl
theorem idxP_lt {p : Setting → Bool} {l : List Setting} {i : Nat} (h : idxP p l = some i) : i < l.length := by
 rcases idxP_dec p l with ⟨h1, _⟩ | ⟨pre, m, post, rfl, _, _, h1⟩
 ·rw [h1] at h; cases h
 ·rw [h1] at h
  obtain rfl := Option.some.inj h
  simp
def lastI (p : Setting → Bool) (l : List Setting) : Int := match idxP p l with
 | some i => (i : Int)
 | none => -1
theorem lastX_I (l : List Setting) (a b : ByteArray) : lastX l a b = lastI (fun x => isSN x a b) l := by
 unfold lastX lastI idxP
 cases (backs l l.length).find? fun q => isSN q.2 a b <;> rfl
theorem getF_I (l : List Setting) (a b : ByteArray) : getF l a b = match idxP (fun x => isSN x a b) l with
  | some i => ((l[i]?.getD zSet).2.2.1, true)
  | none => (eB, false) := by
 unfold getF idxP
 cases h : (backs l l.length).find? fun q => isSN q.2 a b with
 | none => rfl
 | some q =>
  have := backs_mem (List.mem_of_find?_eq_some h)
  simp only [Option.map_some, this, Option.getD_some]
def newS (a b v : ByteArray) : Setting := (a, (b, (v, (0, ()))))
def putV (v : ByteArray) (x : Setting) : Setting := (x.1, (x.2.1, (v, (x.2.2.2.1, ()))))
def posS (l : List Setting) (a : ByteArray) : Nat := match idxP (fun x => seq x.1 a) l with
 | some i => i + 1
 | none => l.length
def setL (l : List Setting) (a b v : ByteArray) : List Setting := match idxP (fun x => isSN x a b) l with
 | some i => l.take i ++ putV v (l[i]?.getD zSet) :: l.drop (i + 1)
 | none => l.take (posS l a) ++ newS a b v :: l.drop (posS l a)
def setF (l : List Setting) (a b v : ByteArray) : List Setting × Int := bif rgtB (newS a b v) then (setL l a b v, 0) else ([], 1)
theorem posS_le (l : List Setting) (a : ByteArray) : posS l a ≤ l.length := by
 unfold posS
 cases h : idxP (fun x => seq x.1 a) l with
 | none => exact Nat.le_refl _
 | some i => exact idxP_lt h
theorem setL_len (l : List Setting) (a b v : ByteArray) : (setL l a b v).length = l.length ∨ (setL l a b v).length = l.length + 1 := by
 unfold setL
 cases h : idxP (fun x => isSN x a b) l with
 | some i =>
  have := idxP_lt h
  left
  simp
  omega
 | none =>
  have := posS_le l a
  right
  simp
  omega
def hitP (p : Setting → Bool) (l : List Setting) : Option Setting := (idxP p l).map fun i => l[i]?.getD zSet
theorem hitP_snoc (p : Setting → Bool) (r : List Setting) (x : Setting) : hitP p (r ++ [x]) = if p x then some x else hitP p r := by
 unfold hitP
 rw [idxP_snoc]
 cases hx : p x with
 | true => simp
 | false =>
  simp only [Bool.false_eq_true, if_false]
  cases h : idxP p r with
  | none => rfl
  | some i =>
   have := idxP_lt h
   simp [List.getElem?_append_left this]
theorem hitP_app (p : Setting → Bool) : ∀ (n : Nat) (a b : List Setting), b.length = n → hitP p (a ++ b) = (hitP p b).or (hitP p a)
 | 0, a, b, h => by
  rw [List.eq_nil_of_length_eq_zero h, List.append_nil]
  rfl
 | n + 1, a, b, h => by
  rcases List.eq_nil_or_concat b with rfl | ⟨r, x, rfl⟩
  ·cases h
  ·rw [List.concat_eq_append] at h ⊢
   rw [List.length_append, List.length_singleton] at h
   rw [← List.append_assoc, hitP_snoc, hitP_snoc, hitP_app p n a r (by omega)]
   cases p x <;> rfl
theorem hitP_one (p : Setting → Bool) (x : Setting) : hitP p [x] = if p x then some x else none := hitP_snoc p [] x
theorem hitP_cons (p : Setting → Bool) (x : Setting) (b : List Setting) : hitP p (x :: b) = (hitP p b).or (if p x then some x else none) := by
 rw [← hitP_one, ← hitP_app p _ [x] b rfl]
 rfl
theorem hitP_none {p : Setting → Bool} {l : List Setting} (h : ∀ x ∈ l, p x = false) : hitP p l = none := by
 induction l with
 | nil => rfl
 | cons x l ih =>
  rw [hitP_cons, ih (fun y hy => h y (List.mem_cons_of_mem _ hy)), h x List.mem_cons_self]
  rfl
theorem hitP_some {p : Setting → Bool} {l : List Setting} {x : Setting} (hm : x ∈ l) (hp : p x = true) : (hitP p l).isSome = true := by
 induction l with
 | nil => exact absurd hm List.not_mem_nil
 | cons y l ih =>
  rw [hitP_cons]
  rcases List.mem_cons.1 hm with rfl | hm
  ·rw [hp]
   cases hitP p l <;> rfl
  ·have := ih hm
   cases h : hitP p l with
   | none => rw [h] at this; cases this
   | some z => rfl
theorem getF_hit (l : List Setting) (a b : ByteArray) : getF l a b = match hitP (fun x => isSN x a b) l with
  | some x => (x.2.2.1, true)
  | none => (eB, false) := by
 rw [getF_I]
 unfold hitP
 cases idxP (fun x => isSN x a b) l <;> rfl
theorem isSN_iff {x : Setting} {a b : ByteArray} : isSN x a b = true ↔ x.1 = a ∧ x.2.1 = b := by
 unfold isSN
 rw [Bool.and_eq_true, seq_iff', seq_iff']
theorem setL_parts (l : List Setting) (a b v : ByteArray) : ∃ pre m post, setL l a b v = pre ++ m :: post ∧ isSN m a b = true ∧ m.2.2.1 = v ∧ ((l = pre ++ post) ∨ ∃ m', l = pre ++ m' :: post ∧ isSN m' a b = true) ∧ (∀ x ∈ post, isSN x a b = false) := by
 unfold setL
 rcases idxP_dec (fun x => isSN x a b) l with ⟨h1, h2⟩ | ⟨pre, m, post, rfl, h2, h3, h1⟩
 ·rw [h1]
  refine ⟨_, _, _, rfl, isSN_iff.2 ⟨rfl, rfl⟩, rfl, .inl (List.take_append_drop _ _).symm, fun x hx => h2 x (List.mem_of_mem_drop hx)⟩
 ·rw [h1]
  have e1 : (pre ++ m :: post).take pre.length = pre := List.take_left' rfl
  have e2 : (pre ++ m :: post).drop (pre.length + 1) = post := by
   rw [show pre ++ m :: post = (pre ++ [m]) ++ post by simp, List.drop_left' (by simp)]
  have e3 : (pre ++ m :: post)[pre.length]?.getD zSet = m := by simp
  simp only [e1, e2, e3]
  exact ⟨pre, putV v m, post, rfl, isSN_iff.2 (isSN_iff.1 h2), rfl, .inr ⟨m, rfl, h2⟩, h3⟩
theorem get_set (l : List Setting) (a b v : ByteArray) : getF (setL l a b v) a b = (v, true) := by
 obtain ⟨pre, m, post, e, h1, h2, _, h4⟩ := setL_parts l a b v
 rw [getF_hit, e, hitP_app _ _ _ _ rfl, hitP_cons, hitP_none h4, h1]
 simp [h2]
theorem get_other (l : List Setting) (a b v : ByteArray) {c d : ByteArray} (h : ¬ (c = a ∧ d = b)) : getF (setL l a b v) c d = getF l c d := by
 obtain ⟨pre, m, post, e, h1, _, h3, _⟩ := setL_parts l a b v
 have no : ∀ x : Setting, isSN x a b = true → isSN x c d = false := fun x hx => by
  cases hc : isSN x c d with
  | false => rfl
  | true =>
   obtain ⟨e1, e2⟩ := isSN_iff.1 hx
   obtain ⟨e3, e4⟩ := isSN_iff.1 hc
   exact absurd ⟨e3 ▸ e1, e4 ▸ e2⟩ h
 rw [getF_hit, getF_hit, e, hitP_app _ _ _ _ rfl, hitP_cons, no m h1]
 rcases h3 with e2 | ⟨m', e2, h5⟩
 ·rw [e2, hitP_app _ _ _ _ rfl]
  cases hitP (fun x => isSN x c d) post <;> rfl
 ·rw [e2, hitP_app _ _ _ _ rfl, hitP_cons, no m' h5]
  rfl
theorem get_there {l : List Setting} {x : Setting} (hm : x ∈ l) : (getF l x.1 x.2.1).2 = true := by
 have := hitP_some (p := fun y => isSN y x.1 x.2.1) hm (isSN_iff.2 ⟨rfl, rfl⟩)
 rw [getF_hit]
 cases h : hitP (fun y => isSN y x.1 x.2.1) l with
 | none => rw [h] at this; cases this
 | some z => rfl
end
end Go.Proofs.YtkkoedniahnneaaDoor.K
