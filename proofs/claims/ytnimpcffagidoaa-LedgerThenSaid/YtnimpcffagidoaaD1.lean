/-
  Values without addresses ('D'), and what they stand for in a world: the base of the walks by values.
-/
import Derived.Test.YtnimpcffagidoaaAppend
import Derived.Deep.MidRow
namespace Go.Proofs.Ytnimpcffagidoaa
open Go.RowKit
set_option linter.unusedSimpArgs false
set_option linter.unusedVariables false

/-- a value as a walk by values sees it: a plain one; a slice whose elements nobody writes any more (with a mark: it may be appended to); a struct or an array; a tuple; the address of a cell of one of the call's own variables; the address of cells that nobody writes any more; what is known only under a condition; anything -/
inductive D where
  | v (x : Value)
  | sl (tok : Option (Nat × Nat)) (n : Nat) (cs : List D)
  | ag (cs : List D)
  | tu (cs : List D)
  | bx (k off : Nat)
  | el (cs : List D)
  | gd (p : Bool) (d : D)
  | any
  deriving Inhabited

abbrev D.i (n : Int) : D := .v (.int .i64 n)
abbrev D.b (b : Bool) : D := .v (.bool b)

/-- where a thing of the call's own lies: a variable's block; a slice that may be appended to: how often it was, and its value -/
inductive SC where
  | box (b : Nat)
  | tok (g : Nat) (u : Value)
/-- cells that lie in block b from off on, and that nobody writes any more -/
structure Fix (X : Nat → Nat → Prop) (w : World) (b off : Nat) (vs : List Value) : Prop where
  lt : b < w.heap.size
  nx : ∀ j, j < vs.length → ¬ X b (off + j)
  at_ : w.rangeAt b off vs
  one : ∀ v ∈ vs, v.oneCell' = true
mutual
/-- the value u stands for d in the world w; X: the cells that somebody may still write; σ: where the call's own things lie -/
def C (X : Nat → Nat → Prop) (w : World) (σ : List SC) : D → Value → Prop
  | .v x, u => u = x ∧ x.oneCell' = true
  | .sl tok n cs, u => (∃ A c, u = .slice A n c ∧ n ≤ c ∧ c ≤ maxLen ∧ (n = 0 → cs = []) ∧
      (0 < n → ∃ b off vs, A = some ⟨b, off, none⟩ ∧ Cs X w [] cs vs ∧ Fix X w b off vs)) ∧
      (∀ k g, tok = some (k, g) → ∃ g' u', σ[k]? = some (.tok g' u') ∧ g ≤ g' ∧ (g = g' → u' = u))
  | .ag cs, u => ∃ vs, u = .agg vs.toArray ∧ Cs X w σ cs vs
  | .tu cs, u => ∃ vs, u = .tuple vs.toArray ∧ Cs X w σ cs vs
  | .bx k off, u => ∃ b, σ[k]? = some (.box b) ∧ u = .pointer (some ⟨b, off, none⟩)
  | .el cs, u => ∃ b off vs, u = .pointer (some ⟨b, off, none⟩) ∧ Cs X w [] cs vs ∧ Fix X w b off vs
  | .gd p d, u => (p = true → C X w σ d u) ∧ (p = false → u = undef)
  | .any, _ => True
def Cs (X : Nat → Nat → Prop) (w : World) (σ : List SC) : List D → List Value → Prop
  | [], vs => vs = []
  | d :: ds, vs => ∃ u us, vs = u :: us ∧ C X w σ d u ∧ Cs X w σ ds us
end

/-- the world w' (with X', σ') goes on from w: what nobody wrote any more stands, and the variables lie where they lay -/
structure Ext (X : Nat → Nat → Prop) (w : World) (σ : List SC) (X' : Nat → Nat → Prop) (w' : World) (σ' : List SC) : Prop where
  size : w.heap.size ≤ w'.heap.size
  keep : ∀ b o, b < w.heap.size → ¬ X b o → ¬ X' b o ∧ w'.cell? ⟨b, o, none⟩ = w.cell? ⟨b, o, none⟩
  vars : ∀ (k b : Nat), σ[k]? = some (.box b) → σ'[k]? = some (.box b)
  toks : ∀ (k g : Nat) (u : Value), σ[k]? = some (.tok g u) → ∃ g' u', σ'[k]? = some (.tok g' u') ∧ g ≤ g' ∧ (g = g' → u' = u)

theorem Ext.refl (X : Nat → Nat → Prop) (w : World) (σ : List SC) : Ext X w σ X w σ := ⟨Nat.le_refl _, fun _ _ _ h => ⟨h, rfl⟩, fun _ _ h => h, fun _ g u h => ⟨g, u, h, Nat.le_refl _, fun _ => rfl⟩⟩
theorem Ext.trans {X X' X'' : Nat → Nat → Prop} {w w' w'' : World} {σ σ' σ'' : List SC} (h : Ext X w σ X' w' σ') (k : Ext X' w' σ' X'' w'' σ'') : Ext X w σ X'' w'' σ'' :=
  ⟨Nat.le_trans h.size k.size, fun b o hb hx => by
    have h1 := h.keep b o hb hx
    have h2 := k.keep b o (Nat.lt_of_lt_of_le hb h.size) h1.1
    exact ⟨h2.1, h2.2.trans h1.2⟩, fun i b hi => k.vars i b (h.vars i b hi), fun i g u hi => by
    obtain ⟨g1, u1, a1, a2, a3⟩ := h.toks i g u hi
    obtain ⟨g2, u2, b1, b2, b3⟩ := k.toks i g1 u1 a1
    refine ⟨g2, u2, b1, Nat.le_trans a2 b2, fun e => ?_⟩
    have e1 : g = g1 := by omega
    have e2 : g1 = g2 := by omega
    exact (b3 e2).trans (a3 e1)⟩
theorem Ext.nil {X X' : Nat → Nat → Prop} {w w' : World} {σ σ' : List SC} (h : Ext X w σ X' w' σ') (τ : List SC) : Ext X w [] X' w' τ := ⟨h.size, h.keep, fun k b hk => by simp at hk, fun k g u hk => by simp at hk⟩
theorem Fix.ext {X X' : Nat → Nat → Prop} {w w' : World} {σ σ' : List SC} {b off : Nat} {vs : List Value} (h : Fix X w b off vs) (e : Ext X w σ X' w' σ') : Fix X' w' b off vs :=
  ⟨Nat.lt_of_lt_of_le h.lt e.size, fun j hj => (e.keep b _ h.lt (h.nx j hj)).1, (fun j v hv => by
    have hj : j < vs.length := (List.getElem?_eq_some_iff.1 hv).1
    rw [(e.keep b _ h.lt (h.nx j hj)).2]
    exact h.at_ j v hv), h.one⟩
theorem Fix.drop_ {X : Nat → Nat → Prop} {w : World} {b off : Nat} {vs : List Value} (h : Fix X w b off vs) (n : Nat) : Fix X w b (off + n) (vs.drop n) :=
  ⟨h.lt, fun j hj => by rw [Nat.add_assoc]; exact h.nx (n + j) (by simp at hj; omega), (fun j v hv => by
    rw [List.getElem?_drop] at hv
    rw [Nat.add_assoc]
    exact h.at_ _ v hv), fun v hv => h.one v (List.mem_of_mem_drop hv)⟩
theorem Fix.take_ {X : Nat → Nat → Prop} {w : World} {b off : Nat} {vs : List Value} (h : Fix X w b off vs) (n : Nat) : Fix X w b off (vs.take n) :=
  ⟨h.lt, fun j hj => h.nx j (by simp at hj; omega), (fun j v hv => by
    rw [List.getElem?_take] at hv
    split at hv
    · exact h.at_ _ v hv
    · cases hv), fun v hv => h.one v (List.mem_of_mem_take hv)⟩

section
variable {X X' : Nat → Nat → Prop} {w w' : World}
mutual
theorem C.ext {σ σ' : List SC} (e : Ext X w σ X' w' σ') : ∀ (d : D) (u : Value), C X w σ d u → C X' w' σ' d u
  | .v x, u, h => by simpa only [C] using h
  | .sl tok n cs, u, h => by
    simp only [C] at h ⊢
    obtain ⟨⟨A, c, h1, h2, h3, h4, h5⟩, h6⟩ := h
    refine ⟨⟨A, c, h1, h2, h3, h4, fun hn => ?_⟩, fun k g hk => ?_⟩
    · obtain ⟨b, off, vs, g1, g4, g5⟩ := h5 hn
      exact ⟨b, off, vs, g1, Cs.ext (e.nil []) cs vs g4, g5.ext e⟩
    · obtain ⟨g1, u1, a1, a2, a3⟩ := h6 k g hk
      obtain ⟨g2, u2, b1, b2, b3⟩ := e.toks k g1 u1 a1
      refine ⟨g2, u2, b1, Nat.le_trans a2 b2, fun q => ?_⟩
      have e1 : g = g1 := by omega
      have e2 : g1 = g2 := by omega
      exact (b3 e2).trans (a3 e1)
  | .ag cs, u, h => by
    simp only [C] at h ⊢
    obtain ⟨vs, h1, h2⟩ := h
    exact ⟨vs, h1, Cs.ext e cs vs h2⟩
  | .tu cs, u, h => by
    simp only [C] at h ⊢
    obtain ⟨vs, h1, h2⟩ := h
    exact ⟨vs, h1, Cs.ext e cs vs h2⟩
  | .bx k off, u, h => by
    simp only [C] at h ⊢
    obtain ⟨b, h1, h2⟩ := h
    exact ⟨b, e.vars k b h1, h2⟩
  | .el cs, u, h => by
    simp only [C] at h ⊢
    obtain ⟨b, off, vs, g1, g4, g5⟩ := h
    exact ⟨b, off, vs, g1, Cs.ext (e.nil []) cs vs g4, g5.ext e⟩
  | .gd p d, u, h => by
    simp only [C] at h ⊢
    exact ⟨fun hp => C.ext e d u (h.1 hp), h.2⟩
  | .any, u, h => by simp only [C]
theorem Cs.ext {σ σ' : List SC} (e : Ext X w σ X' w' σ') : ∀ (ds : List D) (us : List Value), Cs X w σ ds us → Cs X' w' σ' ds us
  | [], us, h => by simpa only [Cs] using h
  | d :: ds, us, h => by
    simp only [Cs] at h ⊢
    obtain ⟨u, us', h1, h2, h3⟩ := h
    exact ⟨u, us', h1, C.ext e d u h2, Cs.ext e ds us' h3⟩
end
end

section
variable {X : Nat → Nat → Prop} {w : World} {σ : List SC}
theorem Cs.up {ds : List D} {us : List Value} (h : Cs X w [] ds us) : Cs X w σ ds us := Cs.ext ((Ext.refl X w []).nil σ) ds us h
theorem C.up {d : D} {u : Value} (h : C X w [] d u) : C X w σ d u := C.ext ((Ext.refl X w []).nil σ) d u h
theorem Cs.len {ds : List D} {us : List Value} (h : Cs X w σ ds us) : us.length = ds.length := by
  induction ds generalizing us with
  | nil => simp only [Cs] at h; simp [h]
  | cons d ds ih =>
    simp only [Cs] at h
    obtain ⟨u, us', rfl, _, h3⟩ := h
    simp [ih h3]
theorem Cs.at_ {ds : List D} {us : List Value} (h : Cs X w σ ds us) {i : Nat} {d : D} (hd : ds[i]? = some d) : ∃ u, us[i]? = some u ∧ C X w σ d u := by
  induction ds generalizing us i with
  | nil => simp at hd
  | cons d' ds ih =>
    simp only [Cs] at h
    obtain ⟨u, us', rfl, h2, h3⟩ := h
    rcases i with _ | i
    · simp at hd; subst hd; exact ⟨u, by simp, h2⟩
    · simp at hd ⊢; exact ih h3 hd
theorem Cs.set_ {ds : List D} {us : List Value} (h : Cs X w σ ds us) (i : Nat) {d : D} {u : Value} (hd : C X w σ d u) : Cs X w σ (ds.set i d) (us.set i u) := by
  induction ds generalizing us i with
  | nil => simp only [Cs] at h; subst h; simp [Cs]
  | cons d' ds ih =>
    simp only [Cs] at h
    obtain ⟨u', us', rfl, h2, h3⟩ := h
    rcases i with _ | i
    · simp only [List.set_cons_zero, Cs]; exact ⟨u, us', rfl, hd, h3⟩
    · simp only [List.set_cons_succ, Cs]; exact ⟨u', _, rfl, h2, ih h3 i⟩
theorem Cs.app {xs ys : List D} {us vs : List Value} (h : Cs X w σ xs us) (k : Cs X w σ ys vs) : Cs X w σ (xs ++ ys) (us ++ vs) := by
  induction xs generalizing us with
  | nil => simp only [Cs] at h; subst h; simpa using k
  | cons d ds ih =>
    simp only [Cs] at h
    obtain ⟨u, us', rfl, h2, h3⟩ := h
    simp only [List.cons_append, Cs]
    exact ⟨u, us' ++ vs, rfl, h2, ih h3⟩
theorem Cs.take_ {ds : List D} {us : List Value} (h : Cs X w σ ds us) (n : Nat) : Cs X w σ (ds.take n) (us.take n) := by
  induction ds generalizing us n with
  | nil => simp only [Cs] at h; subst h; simp [Cs]
  | cons d' ds ih =>
    simp only [Cs] at h
    obtain ⟨u', us', rfl, h2, h3⟩ := h
    rcases n with _ | n
    · simp [Cs]
    · simp only [List.take_succ_cons, Cs]; exact ⟨u', _, rfl, h2, ih h3 n⟩
theorem Cs.drop_ {ds : List D} {us : List Value} (h : Cs X w σ ds us) (n : Nat) : Cs X w σ (ds.drop n) (us.drop n) := by
  induction ds generalizing us n with
  | nil => simp only [Cs] at h; subst h; simp [Cs]
  | cons d' ds ih =>
    simp only [Cs] at h
    obtain ⟨u', us', rfl, h2, h3⟩ := h
    rcases n with _ | n
    · simp only [List.drop_zero, Cs]; exact ⟨u', us', rfl, h2, h3⟩
    · simp only [List.drop_succ_cons]; exact ih h3 n
theorem Cs.split {xs ys : List D} {us : List Value} (h : Cs X w σ (xs ++ ys) us) : ∃ us1 us2, us = us1 ++ us2 ∧ Cs X w σ xs us1 ∧ Cs X w σ ys us2 :=
  ⟨us.take xs.length, us.drop xs.length, (List.take_append_drop _ _).symm, by simpa using h.take_ xs.length, by simpa using h.drop_ xs.length⟩
theorem Cs.one {d : D} {us : List Value} (h : Cs X w σ [d] us) : ∃ u, us = [u] ∧ C X w σ d u := by
  simp only [Cs] at h
  obtain ⟨u, us', rfl, h2, rfl⟩ := h
  exact ⟨u, rfl, h2⟩
theorem Cs.plain {vs : List Value} (h : ∀ u ∈ vs, u.oneCell' = true) : Cs X w σ (vs.map D.v) vs := by
  induction vs with
  | nil => simp [Cs]
  | cons u us ih =>
    simp only [List.map_cons, Cs, C]
    exact ⟨u, us, rfl, ⟨rfl, h u (by simp)⟩, ih fun x hx => h x (by simp [hx])⟩
end
end Go.Proofs.Ytnimpcffagidoaa
