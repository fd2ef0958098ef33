/-
  The plain operations on typed values do what the program's do.
-/
import Derived.Test.YtnimpcffagidoaaK4
namespace Go.Proofs.Ytnimpcffagidoaa.K
open Go.RowKit
set_option linter.unusedSimpArgs false
set_option linter.unusedVariables false

/-- an own thing lies in the world -/
def OAt (X : Nat → Nat → Prop) (w : World) (σ : Pl) (k : Nat) : VO → Prop
  | .no => True
  | .box v => ∃ b ty vs, σ k = .box b ∧ w.heap[b]? = some (.cells (List.toArray vs) ty (0, 0)) ∧ Cs X w σ v.d.cells vs ∧ ∀ o, X b o
  | .arr e y l => ∃ u xs, σ k = .arr u ∧ w.ownsRow 0 e y.sz u (List.length l) xs ∧ Cs X w nowhere (List.flatMap y.cells l) xs ∧ (∀ x ∈ xs, x.oneCell' = true) ∧ (∀ b, u.ownBlock = some b → ∀ o, X b o)

/-- the slots hold what is known of them -/
structure Rel (X : Nat → Nat → Prop) (w : World) (σ : Pl) (n : Nat) (e : Env) (us : List Value) : Prop where
  len : us.length = n
  at_ : ∀ i u, us[i]? = some u → C X w σ (e i).d u
  out : ∀ i, n ≤ i → e i = .un
def dts (n : Nat) (e : Env) : List D := (List.range n).map fun i => (e i).d

section
variable {X : Nat → Nat → Prop} {w : World} {σ : Pl} {n : Nat} {e : Env} {us : List Value}
theorem cs_of : ∀ {ds : List D} {us : List Value}, ds.length = us.length → (∀ (i : Nat) d u, ds[i]? = some d → us[i]? = some u → C X w σ d u) → Cs X w σ ds us
  | [], us, hl, _ => by simp only [Cs]; exact List.eq_nil_of_length_eq_zero (by simpa using hl.symm)
  | d :: ds, [], hl, _ => by simp at hl
  | d :: ds, u :: us, hl, h => by
    simp only [Cs]
    exact ⟨u, us, rfl, h 0 d u rfl rfl, cs_of (by simpa using hl) fun i d' u' h1 h2 => h (i + 1) d' u' (by simpa using h1) (by simpa using h2)⟩
theorem Rel.cs (h : Rel X w σ n e us) : Cs X w σ (dts n e) us := by
  refine cs_of (by simp [dts, h.len]) fun i d u h1 h2 => ?_
  simp only [dts, List.getElem?_map, Option.map_eq_some_iff] at h1
  obtain ⟨j, hj, rfl⟩ := h1
  rw [List.getElem?_range (by have := (List.getElem?_eq_some_iff.1 h2).1; have := h.len; omega)] at hj
  injection hj with hj
  subst hj
  exact h.at_ _ u h2
theorem ofV_d (x : Value) : (ofV x).d = .v x := by cases x <;> rfl
theorem V.good_val {v : V} (h : v.good = true) : (∀ p d, v.d ≠ .gd p d) ∧ v.d ≠ .any := by
  cases v with
  | t y x => cases y <;> exact ⟨fun p d => by simp [V.d, Ty.d], by simp [V.d, Ty.d]⟩
  | un => cases h
  | ud => cases h
  | _ => exact ⟨fun p d => by simp [V.d], by simp [V.d]⟩
theorem xv_val {x : AX} (h : (x.xv e).good = true) (ho : ∀ i, n ≤ i → e i = .un) : x.val (dts n e) = some ((x.xv e).d, True) := by
  cases x with
  | t i =>
    simp only [AX.xv] at h ⊢
    have hi : i < n := by
      rcases Nat.lt_or_ge i n with hi | hi
      · exact hi
      · rw [ho i hi] at h; cases h
    have hg : (dts n e)[i]? = some (e i).d := by simp [dts, List.getElem?_range hi]
    simp only [AX.val, hg]
    obtain ⟨h1, h2⟩ := V.good_val h
    generalize (e i).d = d at h1 h2
    cases d <;> first | rfl | exact absurd rfl (h1 _ _) | exact absurd rfl h2
  | c d =>
    simp only [AX.xv] at h ⊢
    cases d with
    | v x => simp only [AX.val, ofD, ofV_d]
    | _ => cases h
theorem xv_sound {o : Operand} {x : AX} (hx : trX o = some x) (h : (x.xv e).good = true) (hr : Rel X w σ n e us) : C X w σ (x.xv e).d (Act.eval ⟨us.toArray, []⟩ o) :=
  val_sound hx (xv_val h hr.out) hr.cs trivial
theorem xv_t {x : AX} {y : Ty} {z : y.T} (h : x.xv e = .t y z) (ho : ∀ i, n ≤ i → e i = .un) : x.val (dts n e) = some (y.d z, True) := by
  have := xv_val (n := n) (x := x) (e := e) (by rw [h]; rfl) ho
  rw [this, h]
  rfl
theorem xv_is {x : AX} {v : V} (h : x.xv e = v) (hv : v.good = true) (ho : ∀ i, n ≤ i → e i = .un) : x.val (dts n e) = some (v.d, True) := by
  subst h
  exact xv_val hv ho
theorem flat_len (y : Ty) : ∀ l : List y.T, (l.flatMap y.cells).length = l.length * y.sz
  | [] => by simp
  | x :: l => by rw [List.flatMap_cons, List.length_append, flat_len y l, y.cells_len, List.length_cons, Nat.add_mul, Nat.one_mul, Nat.add_comm]
theorem flat_drop (y : Ty) : ∀ (l : List y.T) (j : Nat), (l.flatMap y.cells).drop (j * y.sz) = (l.drop j).flatMap y.cells
  | l, 0 => by simp
  | [], j + 1 => by simp
  | x :: l, j + 1 => by
    rw [List.flatMap_cons, List.drop_succ_cons, ← flat_drop y l j, List.drop_append, List.drop_eq_nil_of_le (by rw [y.cells_len, Nat.add_mul, Nat.one_mul]; omega), List.nil_append, y.cells_len]
    congr 1
    rw [Nat.add_mul, Nat.one_mul]
    omega
theorem flat_take (y : Ty) : ∀ (l : List y.T) (j : Nat), (l.flatMap y.cells).take (j * y.sz) = (l.take j).flatMap y.cells
  | l, 0 => by simp
  | [], j + 1 => by simp
  | x :: l, j + 1 => by
    rw [List.flatMap_cons, List.take_succ_cons, List.flatMap_cons, ← flat_take y l j, List.take_append, List.take_of_length_le (by rw [y.cells_len, Nat.add_mul, Nat.one_mul]; omega), y.cells_len]
    congr 2
    rw [Nat.add_mul, Nat.one_mul]
    omega
theorem bndV_val {d : Int} {x : Option AX} {j : Int} (h : bndV e d x = some j) (ho : ∀ i, n ≤ i → e i = .un) : bndD (dts n e) d x = some (j, True) := by
  cases x with
  | none => simp only [bndV, Option.some.injEq] at h; subst h; rfl
  | some x =>
    simp only [bndV] at h
    split at h
    · rename_i k z hz
      simp only [Option.some.injEq] at h
      subst h
      simp only [bndD, xv_t hz ho, Ty.d]
    · cases h
theorem fillV_val : ∀ {parts : List (Nat × Nat × AX)} {cells vs : List V}, fillV e cells parts = some vs → (∀ i, n ≤ i → e i = .un) → ∃ φ : Prop, fillD (dts n e) (V.ds cells) parts = some (V.ds vs, φ) ∧ φ
  | [], cells, vs, h, ho => by
    simp only [fillV, Option.some.injEq] at h
    subst h
    exact ⟨True, rfl, trivial⟩
  | (off, sz, x) :: r, cells, vs, h, ho => by
    simp only [fillV] at h
    split at h
    · rename_i hc
      simp only [Bool.and_eq_true, beq_iff_eq, decide_eq_true_eq] at hc
      obtain ⟨h1, h2, h3, h4⟩ := hc
      obtain ⟨φ, q1, q2⟩ := fillV_val h ho
      have hs : V.ds (setFrom cells off (x.xv e).cells) = setFrom (V.ds cells) off (x.xv e).d.cells := by
        rw [← V.cells_ds]
        generalize (x.xv e).cells = zs
        have : ∀ (zs cells : List V) (off : Nat), V.ds (setFrom cells off zs) = setFrom (V.ds cells) off (V.ds zs) := by
          intro zs
          induction zs with
          | nil => intro cells off; rfl
          | cons z zs ih => intro cells off; simp only [setFrom, V.ds, ih]; congr 1; simp [V.ds_eq, List.map_set]
        exact this zs cells off
      rw [hs] at q1
      refine ⟨(True ∧ (x.xv e).d.cellable = true ∧ (x.xv e).d.cells.length = sz ∧ off + sz ≤ (V.ds cells).length) ∧ φ, by simp only [fillD, xv_val h1 ho, q1], ⟨trivial, V.cellable_d _ h2, ?_, ?_⟩, q2⟩
      · rw [← V.cells_ds, V.ds_eq, List.length_map, h3]
      · simpa [V.ds_eq] using h4
    · cases h
end

theorem tr_ix {P : Program} {op : Op} {sz : Nat} {x i : AX} (h : tr P op = some (.ix sz x i)) : ∃ t o j e inf, op = .indexAddr t o j ∧ P.underlying t = some (.slice e) ∧ trX o = some x ∧ trX j = some i ∧ P.info? e = some inf ∧ inf.size = sz := by
  cases op with
  | indexAddr t o j =>
    simp only [tr] at h
    split at h
    · rename_i e ax ai h1 h2 h3
      simp only [Option.map_eq_some_iff] at h
      obtain ⟨inf, h4, h5⟩ := h
      injection h5 with h5 h6 h7
      subst h5 h6 h7
      exact ⟨t, o, j, e, inf, rfl, h1, h2, h3, h4, rfl⟩
    all_goals (repeat' split at h)
    all_goals cases h
  | call c =>
    simp only [tr, trCall] at h
    repeat' split at h
    all_goals cases h
  | build t ps =>
    simp only [tr] at h
    repeat' split at h
    all_goals cases h
  | slice t a b c d =>
    simp only [tr] at h
    repeat' split at h
    all_goals first | cases h | (simp only [Option.map_eq_some_iff] at h; obtain ⟨_, _, h⟩ := h; cases h)
  | unOp o t x =>
    cases o <;> simp [tr] at h
  | binOp o t x y t2 =>
    simp only [tr] at h
    repeat' split at h
    all_goals first | cases h | (simp only [Option.map_eq_some_iff] at h; obtain ⟨_, _, h⟩ := h; cases h)
  | _ =>
    simp only [tr] at h
    first
    | cases h
    | (simp only [Option.map_eq_some_iff] at h; obtain ⟨_, _, h⟩ := h; cases h)
    | (repeat' split at h
       all_goals cases h)
theorem tr_pick {P : Program} {op : Op} {c a b : AX} (h : tr P op = some (.pick c a b)) : ∃ c' a' b', op = .pick c' a' b' ∧ trX c' = some c ∧ trX a' = some a ∧ trX b' = some b := by
  cases op with
  | pick c' a' b' =>
    simp only [tr] at h
    split at h
    · rename_i h1 h2 h3
      simp only [Option.some.injEq, AO.pick.injEq] at h
      obtain ⟨rfl, rfl, rfl⟩ := h
      exact ⟨_, _, _, rfl, h1, h2, h3⟩
    · cases h
  | call c =>
    simp only [tr, trCall] at h
    repeat' split at h
    all_goals cases h
  | build t ps =>
    simp only [tr] at h
    repeat' split at h
    all_goals cases h
  | slice t a b c d =>
    simp only [tr] at h
    repeat' split at h
    all_goals first | cases h | (simp only [Option.map_eq_some_iff] at h; obtain ⟨_, _, h⟩ := h; cases h)
  | unOp o t x =>
    cases o <;> simp [tr] at h
  | binOp o t x y t2 =>
    simp only [tr] at h
    repeat' split at h
    all_goals first | cases h | (simp only [Option.map_eq_some_iff] at h; obtain ⟨_, _, h⟩ := h; cases h)
  | _ =>
    simp only [tr] at h
    first
    | cases h
    | (simp only [Option.map_eq_some_iff] at h; obtain ⟨_, _, h⟩ := h; cases h)
    | (repeat' split at h
       all_goals first | cases h | (simp only [Option.map_eq_some_iff] at h; obtain ⟨_, _, h⟩ := h; cases h))
theorem tr_len {P : Program} {op : Op} {x : AX} (h : tr P op = some (.len false x)) : ∃ o t e, op = .call ⟨.builtin .len, #[o], #[t]⟩ ∧ P.underlying t = some (.slice e) ∧ trX o = some x := by
  cases op with
  | call c =>
    obtain ⟨cal, args, tys⟩ := c
    obtain ⟨args⟩ := args
    obtain ⟨tys⟩ := tys
    simp only [tr, trCall] at h
    split at h
    · split at h
      · rename_i x' t'
        split at h
        · cases h
        · rename_i e ax h1 h2
          simp only [Option.some.injEq, AO.len.injEq, true_and] at h
          subst h
          exact ⟨_, _, e, rfl, h1, h2⟩
        · cases h
      · cases h
    · repeat' split at h
      all_goals cases h
    · repeat' split at h
      all_goals cases h
    · cases h
  | build t ps =>
    simp only [tr] at h
    repeat' split at h
    all_goals cases h
  | slice t a b c d =>
    simp only [tr] at h
    repeat' split at h
    all_goals first | cases h | (simp only [Option.map_eq_some_iff] at h; obtain ⟨_, _, h⟩ := h; cases h)
  | unOp o t x =>
    cases o <;> simp [tr] at h
  | binOp o t x y t2 =>
    simp only [tr] at h
    repeat' split at h
    all_goals first | cases h | (simp only [Option.map_eq_some_iff] at h; obtain ⟨_, _, h⟩ := h; cases h)
  | _ =>
    simp only [tr] at h
    first
    | cases h
    | (simp only [Option.map_eq_some_iff] at h; obtain ⟨_, _, h⟩ := h; cases h)
    | (repeat' split at h
       all_goals first | cases h | (simp only [Option.map_eq_some_iff] at h; obtain ⟨_, _, h⟩ := h; cases h))
end Go.Proofs.Ytnimpcffagidoaa.K
