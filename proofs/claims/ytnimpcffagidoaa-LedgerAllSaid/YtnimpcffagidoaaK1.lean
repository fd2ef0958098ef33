/-
  Values without addresses ('D'), and what they stand for in a world: the base of the runs by values.
-/
import Derived.Test.YtnimpcffagidoaaAppend
import Derived.Deep.MidRow
namespace Go.Proofs.Ytnimpcffagidoaa.K
open Go.RowKit
set_option linter.unusedSimpArgs false
set_option linter.unusedVariables false

/-- a value as a run by values sees it: a plain one; a slice whose elements nobody writes any more; a struct or an array; a tuple; the address of a cell of one of the call's own variables; the address of cells that nobody writes any more; a slice of the call's own, which may be written and appended to; the address of a cell of such a slice; a function with what it captured; a value of an interface's type; what is known only under a condition; anything -/
inductive D where
  | v (x : Value)
  | sl (n : Nat) (cs : List D)
  | ag (cs : List D)
  | tu (cs : List D)
  | bx (k off : Nat)
  | el (cs : List D)
  | ms (k : Nat)
  | ba (k off : Nat)
  | fn (f : Nat) (cs : List D)
  | ifc (t : Nat) (d : D)
  | gd (p : Bool) (d : D)
  | any
  deriving Inhabited

abbrev D.i (n : Int) : D := .v (.int .i64 n)
abbrev D.b (b : Bool) : D := .v (.bool b)

/-- where a thing of the call's own lies: nowhere; a variable's block; a slice, with its value -/
inductive SC where
  | no
  | box (b : Nat)
  | arr (u : Value)
abbrev Pl := Nat → SC
def nowhere : Pl := fun _ => .no
/-- cells that lie in block b from off on, and that nobody writes any more -/
structure Fix (X : Nat → Nat → Prop) (w : World) (b off : Nat) (vs : List Value) : Prop where
  lt : b < w.heap.size
  nx : ∀ j, j < vs.length → ¬ X b (off + j)
  at_ : w.rangeAt b off vs
  one : ∀ v ∈ vs, v.oneCell' = true
mutual
/-- the value u stands for d in the world w; X: the cells that somebody may still write; σ: where the call's own things lie -/
def C (X : Nat → Nat → Prop) (w : World) (σ : Pl) : D → Value → Prop
  | .v x, u => u = x ∧ x.oneCell' = true
  | .sl n cs, u => ∃ A c, u = .slice A n c ∧ n ≤ c ∧ c ≤ maxLen ∧ (n = 0 → cs = []) ∧
      (0 < n → ∃ b off vs, A = some ⟨b, off, none⟩ ∧ Cs X w nowhere cs vs ∧ Fix X w b off vs)
  | .ag cs, u => ∃ vs, u = .agg vs.toArray ∧ Cs X w σ cs vs
  | .tu cs, u => ∃ vs, u = .tuple vs.toArray ∧ Cs X w σ cs vs
  | .bx k off, u => ∃ b, σ k = .box b ∧ u = .pointer (some ⟨b, off, none⟩)
  | .el cs, u => ∃ b off vs, u = .pointer (some ⟨b, off, none⟩) ∧ Cs X w nowhere cs vs ∧ Fix X w b off vs
  | .ms k, u => σ k = .arr u ∧ u.oneCell' = true
  | .ba k off, u => ∃ s b, σ k = .arr s ∧ s.ownBlock = some b ∧ u = .pointer (some ⟨b, off, none⟩)
  | .fn f cs, u => ∃ vs, u = .func (.func f) #[] vs.toArray ∧ Cs X w σ cs vs
  | .ifc t d, u => ∃ x, u = .iface t x ∧ C X w σ d x
  | .gd p d, u => (p = true → C X w σ d u) ∧ (p = false → u = undef)
  | .any, _ => True
def Cs (X : Nat → Nat → Prop) (w : World) (σ : Pl) : List D → List Value → Prop
  | [], vs => vs = []
  | d :: ds, vs => ∃ u us, vs = u :: us ∧ C X w σ d u ∧ Cs X w σ ds us
end

mutual
/-- the things of the call's own that a value speaks of -/
def D.refs : D → List Nat
  | .bx k _ | .ms k | .ba k _ => [k]
  | .ag cs => D.refss cs
  | .tu cs => D.refss cs
  | .fn _ cs => D.refss cs
  | .ifc _ d => d.refs
  | .gd _ d => d.refs
  | .v _ | .sl _ _ | .el _ | .any => []
def D.refss : List D → List Nat
  | [] => []
  | d :: ds => d.refs ++ D.refss ds
end

/-- the world w' (with X') goes on from w: what nobody wrote any more stands -/
structure Ext (X : Nat → Nat → Prop) (w : World) (X' : Nat → Nat → Prop) (w' : World) : Prop where
  size : w.heap.size ≤ w'.heap.size
  keep : ∀ b o, b < w.heap.size → ¬ X b o → ¬ X' b o ∧ w'.cell? ⟨b, o, none⟩ = w.cell? ⟨b, o, none⟩

theorem Ext.refl (X : Nat → Nat → Prop) (w : World) : Ext X w X w := ⟨Nat.le_refl _, fun _ _ _ h => ⟨h, rfl⟩⟩
theorem Ext.trans {X X' X'' : Nat → Nat → Prop} {w w' w'' : World} (h : Ext X w X' w') (k : Ext X' w' X'' w'') : Ext X w X'' w'' :=
  ⟨Nat.le_trans h.size k.size, fun b o hb hx => by
    have h1 := h.keep b o hb hx
    have h2 := k.keep b o (Nat.lt_of_lt_of_le hb h.size) h1.1
    exact ⟨h2.1, h2.2.trans h1.2⟩⟩
theorem Fix.ext {X X' : Nat → Nat → Prop} {w w' : World} {b off : Nat} {vs : List Value} (h : Fix X w b off vs) (e : Ext X w X' w') : Fix X' w' b off vs :=
  ⟨Nat.lt_of_lt_of_le h.lt e.size, fun j hj => (e.keep b _ h.lt (h.nx j hj)).1, (fun j v hv => by
    have hj : j < vs.length := (List.getElem?_eq_some_iff.1 hv).1
    rw [(e.keep b _ h.lt (h.nx j hj)).2]
    exact h.at_ j v hv), h.one⟩
theorem Fix.drop_ {X : Nat → Nat → Prop} {w : World} {b off : Nat} {vs : List Value} (h : Fix X w b off vs) (n : Nat) : Fix X w b (off + n) (vs.drop n) :=
  ⟨h.lt, fun j hj => by rw [Nat.add_assoc]; exact h.nx (n + j) (by simp at hj; omega), (fun j v hv => by
    rw [List.getElem?_drop] at hv
    rw [Nat.add_assoc]
    exact h.at_ _ v hv), fun v hv => h.one v (List.mem_of_mem_drop hv)⟩
theorem Fix.take_ {X : Nat → Nat → Prop} {w : World} {b off : Nat} {vs : List Value} (h : Fix X w b off vs) (n : Nat) : Fix X w b off (vs.take n) :=
  ⟨h.lt, fun j hj => h.nx j (by simp at hj; omega), (fun j v hv => by
    rw [List.getElem?_take] at hv
    split at hv
    · exact h.at_ _ v hv
    · cases hv), fun v hv => h.one v (List.mem_of_mem_take hv)⟩

section
variable {X X' : Nat → Nat → Prop} {w w' : World}
mutual
theorem C.ext {σ σ' : Pl} (e : Ext X w X' w') : ∀ (d : D) (u : Value), (∀ k ∈ d.refs, σ' k = σ k) → C X w σ d u → C X' w' σ' d u
  | .v x, u, _, h => by simpa only [C] using h
  | .sl n cs, u, _, h => by
    simp only [C] at h ⊢
    obtain ⟨A, c, h1, h2, h3, h4, h5⟩ := h
    refine ⟨A, c, h1, h2, h3, h4, fun hn => ?_⟩
    obtain ⟨b, off, vs, g1, g4, g5⟩ := h5 hn
    exact ⟨b, off, vs, g1, Cs.ext e cs vs (fun _ _ => rfl) g4, g5.ext e⟩
  | .ag cs, u, r, h => by
    simp only [C] at h ⊢
    obtain ⟨vs, h1, h2⟩ := h
    exact ⟨vs, h1, Cs.ext e cs vs (fun k hk => r k (by simpa only [D.refs] using hk)) h2⟩
  | .tu cs, u, r, h => by
    simp only [C] at h ⊢
    obtain ⟨vs, h1, h2⟩ := h
    exact ⟨vs, h1, Cs.ext e cs vs (fun k hk => r k (by simpa only [D.refs] using hk)) h2⟩
  | .bx k off, u, r, h => by
    simp only [C] at h ⊢
    obtain ⟨b, h1, h2⟩ := h
    exact ⟨b, (r k (by simp [D.refs])).trans h1, h2⟩
  | .el cs, u, _, h => by
    simp only [C] at h ⊢
    obtain ⟨b, off, vs, g1, g4, g5⟩ := h
    exact ⟨b, off, vs, g1, Cs.ext e cs vs (fun _ _ => rfl) g4, g5.ext e⟩
  | .ms k, u, r, h => by
    simp only [C] at h ⊢
    exact ⟨(r k (by simp [D.refs])).trans h.1, h.2⟩
  | .ba k off, u, r, h => by
    simp only [C] at h ⊢
    obtain ⟨s, b, h1, h2⟩ := h
    exact ⟨s, b, (r k (by simp [D.refs])).trans h1, h2⟩
  | .fn f cs, u, r, h => by
    simp only [C] at h ⊢
    obtain ⟨vs, h1, h2⟩ := h
    exact ⟨vs, h1, Cs.ext e cs vs (fun k hk => r k (by simpa only [D.refs] using hk)) h2⟩
  | .ifc t d, u, r, h => by
    simp only [C] at h ⊢
    obtain ⟨x, h1, h2⟩ := h
    exact ⟨x, h1, C.ext e d x (fun k hk => r k (by simpa only [D.refs] using hk)) h2⟩
  | .gd p d, u, r, h => by
    simp only [C] at h ⊢
    exact ⟨fun hp => C.ext e d u (fun k hk => r k (by simpa only [D.refs] using hk)) (h.1 hp), h.2⟩
  | .any, u, _, h => by simp only [C]
theorem Cs.ext {σ σ' : Pl} (e : Ext X w X' w') : ∀ (ds : List D) (us : List Value), (∀ k ∈ D.refss ds, σ' k = σ k) → Cs X w σ ds us → Cs X' w' σ' ds us
  | [], us, _, h => by simpa only [Cs] using h
  | d :: ds, us, r, h => by
    simp only [Cs] at h ⊢
    obtain ⟨u, us', h1, h2, h3⟩ := h
    exact ⟨u, us', h1, C.ext e d u (fun k hk => r k (by simp only [D.refss, List.mem_append]; exact .inl hk)) h2, Cs.ext e ds us' (fun k hk => r k (by simp only [D.refss, List.mem_append]; exact .inr hk)) h3⟩
end
mutual
/-- what holds nowhere holds anywhere -/
theorem C.up {σ : Pl} : ∀ (d : D) (u : Value), C X w nowhere d u → C X w σ d u
  | .v x, u, h => by simpa only [C] using h
  | .sl n cs, u, h => by simpa only [C] using h
  | .ag cs, u, h => by
    simp only [C] at h ⊢
    obtain ⟨vs, h1, h2⟩ := h
    exact ⟨vs, h1, Cs.up cs vs h2⟩
  | .tu cs, u, h => by
    simp only [C] at h ⊢
    obtain ⟨vs, h1, h2⟩ := h
    exact ⟨vs, h1, Cs.up cs vs h2⟩
  | .bx k off, u, h => by
    simp only [C, nowhere] at h
    obtain ⟨b, h1, _⟩ := h
    cases h1
  | .el cs, u, h => by simpa only [C] using h
  | .ms k, u, h => by
    simp only [C, nowhere] at h
    cases h.1
  | .ba k off, u, h => by
    simp only [C, nowhere] at h
    obtain ⟨s, b, h1, _⟩ := h
    cases h1
  | .fn f cs, u, h => by
    simp only [C] at h ⊢
    obtain ⟨vs, h1, h2⟩ := h
    exact ⟨vs, h1, Cs.up cs vs h2⟩
  | .ifc t d, u, h => by
    simp only [C] at h ⊢
    obtain ⟨x, h1, h2⟩ := h
    exact ⟨x, h1, C.up d x h2⟩
  | .gd p d, u, h => by
    simp only [C] at h ⊢
    exact ⟨fun hp => C.up d u (h.1 hp), h.2⟩
  | .any, u, h => by simp only [C]
theorem Cs.up {σ : Pl} : ∀ (ds : List D) (us : List Value), Cs X w nowhere ds us → Cs X w σ ds us
  | [], us, h => by simpa only [Cs] using h
  | d :: ds, us, h => by
    simp only [Cs] at h ⊢
    obtain ⟨u, us', h1, h2, h3⟩ := h
    exact ⟨u, us', h1, C.up d u h2, Cs.up ds us' h3⟩
end
end

section
variable {X : Nat → Nat → Prop} {w : World} {σ : Pl}
theorem C.any_ (u : Value) : C X w σ .any u := by simp only [C]
theorem Cs.len {ds : List D} {us : List Value} (h : Cs X w σ ds us) : us.length = ds.length := by
  induction ds generalizing us with
  | nil => simp only [Cs] at h; simp [h]
  | cons d ds ih =>
    simp only [Cs] at h
    obtain ⟨u, us', rfl, _, h3⟩ := h
    simp [ih h3]
theorem Cs.at_ {ds : List D} {us : List Value} (h : Cs X w σ ds us) {i : Nat} {d : D} (hd : ds[i]? = some d) : ∃ u, us[i]? = some u ∧ C X w σ d u := by
  induction ds generalizing us i with
  | nil => simp at hd
  | cons d' ds ih =>
    simp only [Cs] at h
    obtain ⟨u, us', rfl, h2, h3⟩ := h
    rcases i with _ | i
    · simp at hd; subst hd; exact ⟨u, by simp, h2⟩
    · simp at hd ⊢; exact ih h3 hd
theorem Cs.set_ {ds : List D} {us : List Value} (h : Cs X w σ ds us) (i : Nat) {d : D} {u : Value} (hd : C X w σ d u) : Cs X w σ (ds.set i d) (us.set i u) := by
  induction ds generalizing us i with
  | nil => simp only [Cs] at h; subst h; simp [Cs]
  | cons d' ds ih =>
    simp only [Cs] at h
    obtain ⟨u', us', rfl, h2, h3⟩ := h
    rcases i with _ | i
    · simp only [List.set_cons_zero, Cs]; exact ⟨u, us', rfl, hd, h3⟩
    · simp only [List.set_cons_succ, Cs]; exact ⟨u', _, rfl, h2, ih h3 i⟩
theorem Cs.app {xs ys : List D} {us vs : List Value} (h : Cs X w σ xs us) (k : Cs X w σ ys vs) : Cs X w σ (xs ++ ys) (us ++ vs) := by
  induction xs generalizing us with
  | nil => simp only [Cs] at h; subst h; simpa using k
  | cons d ds ih =>
    simp only [Cs] at h
    obtain ⟨u, us', rfl, h2, h3⟩ := h
    simp only [List.cons_append, Cs]
    exact ⟨u, us' ++ vs, rfl, h2, ih h3⟩
theorem Cs.take_ {ds : List D} {us : List Value} (h : Cs X w σ ds us) (n : Nat) : Cs X w σ (ds.take n) (us.take n) := by
  induction ds generalizing us n with
  | nil => simp only [Cs] at h; subst h; simp [Cs]
  | cons d' ds ih =>
    simp only [Cs] at h
    obtain ⟨u', us', rfl, h2, h3⟩ := h
    rcases n with _ | n
    · simp [Cs]
    · simp only [List.take_succ_cons, Cs]; exact ⟨u', _, rfl, h2, ih h3 n⟩
theorem Cs.drop_ {ds : List D} {us : List Value} (h : Cs X w σ ds us) (n : Nat) : Cs X w σ (ds.drop n) (us.drop n) := by
  induction ds generalizing us n with
  | nil => simp only [Cs] at h; subst h; simp [Cs]
  | cons d' ds ih =>
    simp only [Cs] at h
    obtain ⟨u', us', rfl, h2, h3⟩ := h
    rcases n with _ | n
    · simp only [List.drop_zero, Cs]; exact ⟨u', us', rfl, h2, h3⟩
    · simp only [List.drop_succ_cons]; exact ih h3 n
theorem Cs.split {xs ys : List D} {us : List Value} (h : Cs X w σ (xs ++ ys) us) : ∃ us1 us2, us = us1 ++ us2 ∧ Cs X w σ xs us1 ∧ Cs X w σ ys us2 :=
  ⟨us.take xs.length, us.drop xs.length, (List.take_append_drop _ _).symm, by simpa using h.take_ xs.length, by simpa using h.drop_ xs.length⟩
theorem Cs.one {d : D} {us : List Value} (h : Cs X w σ [d] us) : ∃ u, us = [u] ∧ C X w σ d u := by
  simp only [Cs] at h
  obtain ⟨u, us', rfl, h2, rfl⟩ := h
  exact ⟨u, rfl, h2⟩
theorem Cs.mk1 {d : D} {u : Value} (h : C X w σ d u) : Cs X w σ [d] [u] := by
  simp only [Cs]
  exact ⟨u, [], rfl, h, rfl⟩
theorem Cs.cons {d : D} {u : Value} {ds : List D} {us : List Value} (h : C X w σ d u) (k : Cs X w σ ds us) : Cs X w σ (d :: ds) (u :: us) := by
  simp only [Cs]
  exact ⟨u, us, rfl, h, k⟩
theorem Cs.plain {vs : List Value} (h : ∀ u ∈ vs, u.oneCell' = true) : Cs X w σ (vs.map D.v) vs := by
  induction vs with
  | nil => simp [Cs]
  | cons u us ih =>
    simp only [List.map_cons, Cs, C]
    exact ⟨u, us, rfl, ⟨rfl, h u (by simp)⟩, ih fun x hx => h x (by simp [hx])⟩
end
end Go.Proofs.Ytnimpcffagidoaa.K
