/-
  Typed values: reading values as values of a type, writing into variables, and the state of a run.
-/
import Derived.Test.YtnimpcffagidoaaK6
import Derived.Great.BuildSlice
namespace Go.Proofs.Ytnimpcffagidoaa.K
open Go.RowKit
set_option linter.unusedSimpArgs false
set_option linter.unusedVariables false

section
variable {X X' : Nat → Nat → Prop} {w w' : World} {σ σ' : Pl}
theorem Ty.up {y : Ty} {x : y.T} {u : Value} (h : C X w σ (y.d x) u) : C X w nowhere (y.d x) u :=
  C.ext (Ext.refl X w) _ _ (fun k hk => by rw [y.refs_d] at hk; cases hk) h
theorem Ty.cs_up {y : Ty} {x : y.T} {us : List Value} (h : Cs X w σ (y.cells x) us) : Cs X w σ' (y.cells x) us :=
  Cs.ext (Ext.refl X w) _ _ (fun k hk => by rw [y.refs_cells] at hk; cases hk) h
theorem Ty.rd1_spec {y : Ty} {v : V} {x : y.T} {u : Value} (h : y.rd1 v = some x) (hc : C X w σ v.d u) : C X w nowhere (y.d x) u := by
  unfold Ty.rd1 at h
  split at h
  · split at h
    · rename_i hy
      subst hy
      simp only [Option.some.injEq] at h
      subst h
      exact Ty.up hc
    · cases h
  · have hu := (C.v hc).1
    subst hu
    cases y with
    | sl e =>
      simp only [Ty.nilOf, Option.some.injEq] at h
      subst h
      simp only [Ty.d, C]
      exact ⟨none, 0, rfl, Nat.le_refl _, by simp [maxLen], fun _ => rfl, fun q => absurd q (by simp)⟩
    | _ => cases h
  · cases h
theorem Ty.rdS_spec {y : Ty} {vs rest : List V} {x : y.T} {us : List Value} (hr : y.row = false) (h : y.rdS vs = some (x, rest)) (hc : Cs X w σ (V.ds vs) us) : ∃ us1 us2, us = us1 ++ us2 ∧ Cs X w nowhere (y.cells x) us1 ∧ Cs X w σ (V.ds rest) us2 := by
  cases vs with
  | nil => simp only [Ty.rdS] at h; cases h
  | cons v vs =>
    simp only [Ty.rdS] at h
    split at h
    · rename_i x' h1
      simp only [Option.some.injEq, Prod.mk.injEq] at h
      obtain ⟨rfl, rfl⟩ := h
      simp only [V.ds, Cs] at hc
      obtain ⟨u, us', rfl, q1, q2⟩ := hc
      refine ⟨[u], us', rfl, ?_, q2⟩
      rw [y.d_one _ hr]
      exact Cs.mk1 (Ty.rd1_spec h1 q1)
    · cases h
/-- cells read as a value of a type stand for it -/
theorem Ty.rd_spec : ∀ {y : Ty} {vs rest : List V} {x : y.T} {us : List Value}, y.rd vs = some (x, rest) → Cs X w σ (V.ds vs) us → ∃ us1 us2, us = us1 ++ us2 ∧ Cs X w nowhere (y.cells x) us1 ∧ Cs X w σ (V.ds rest) us2
  | .nil, vs, rest, x, us, h, hc => by
    simp only [Ty.rd, Option.some.injEq, Prod.mk.injEq] at h
    obtain ⟨_, rfl⟩ := h
    exact ⟨[], us, rfl, by simp [Ty.cells, Cs], hc⟩
  | .pr f r, vs, rest, x, us, h, hc => by
    simp only [Ty.rd] at h
    split at h
    · rename_i x1 vs1 h1
      split at h
      · rename_i z1 vs2 h2
        simp only [Option.some.injEq, Prod.mk.injEq] at h
        obtain ⟨rfl, rfl⟩ := h
        obtain ⟨us1, us2, rfl, q1, q2⟩ := Ty.rd_spec h1 hc
        obtain ⟨us3, us4, rfl, q3, q4⟩ := Ty.rd_spec h2 q2
        exact ⟨us1 ++ us3, us4, by simp, by simp only [Ty.cells]; exact q1.app q3, q4⟩
      · cases h
    · cases h
  | .int k, vs, rest, x, us, h, hc => Ty.rdS_spec rfl h hc
  | .bool, vs, rest, x, us, h, hc => Ty.rdS_spec rfl h hc
  | .str, vs, rest, x, us, h, hc => Ty.rdS_spec rfl h hc
  | .sl e, vs, rest, x, us, h, hc => Ty.rdS_spec rfl h hc
theorem Ty.rds_spec {y : Ty} : ∀ {n : Nat} {vs : List V} {l : List y.T} {us : List Value}, y.rds n vs = some l → Cs X w σ (V.ds vs) us → Cs X w nowhere (l.flatMap y.cells) us ∧ l.length = n
  | 0, [], l, us, h, hc => by
    simp only [Ty.rds, Option.some.injEq] at h
    subst h
    simp only [V.ds, Cs] at hc
    subst hc
    exact ⟨by simp [Cs], rfl⟩
  | 0, _ :: _, l, us, h, hc => by simp only [Ty.rds] at h; cases h
  | n + 1, vs, l, us, h, hc => by
    simp only [Ty.rds] at h
    split at h
    · rename_i x vs1 h1
      split at h
      · rename_i l1 h2
        simp only [Option.some.injEq] at h
        subst h
        obtain ⟨us1, us2, rfl, q1, q2⟩ := Ty.rd_spec h1 hc
        obtain ⟨q3, q4⟩ := Ty.rds_spec h2 q2
        exact ⟨by rw [List.flatMap_cons]; exact q1.app q3, by simp [q4]⟩
      · cases h
    · cases h
theorem Ty.full_spec {y : Ty} {vs : List V} {x : y.T} {us : List Value} (h : y.full vs = some x) (hc : Cs X w σ (V.ds vs) us) : Cs X w nowhere (y.cells x) us := by
  unfold Ty.full at h
  split at h
  · rename_i x' h1
    simp only [Option.some.injEq] at h
    subst h
    obtain ⟨us1, us2, rfl, q1, q2⟩ := Ty.rd_spec h1 hc
    simp only [V.ds, Cs] at q2
    subst q2
    simpa using q1
  · cases h
theorem V.as_spec {y : Ty} {v : V} {x : y.T} {u : Value} (h : v.as y = some x) (hc : C X w σ v.d u) : C X w nowhere (y.d x) u := by
  unfold V.as at h
  split at h
  · rename_i y' z
    split at h
    · rename_i hy
      subst hy
      simp only [Option.some.injEq] at h
      subst h
      exact Ty.up hc
    · split at h
      · rename_i hr
        simp only [Bool.and_eq_true] at hr
        simp only [V.d, Ty.d_row _ _ hr.1, C] at hc
        obtain ⟨us, rfl, q⟩ := hc
        rw [← Ty.vs_ds] at q
        simp only [Ty.d_row _ _ hr.2, C]
        exact ⟨us, rfl, Ty.full_spec h q⟩
      · cases h
  · split at h
    · rename_i hr
      simp only [V.d, C] at hc
      obtain ⟨us, rfl, q⟩ := hc
      simp only [Ty.d_row _ _ hr, C]
      exact ⟨us, rfl, Ty.full_spec h q⟩
    · cases h
  · split at h
    · cases h
    · exact Ty.rd1_spec h hc
theorem setFrom_app {α : Type} : ∀ (s a b : List α) (o : Nat), o + s.length ≤ a.length → setFrom (a ++ b) o s = setFrom a o s ++ b
  | [], a, b, o, _ => rfl
  | v :: s, a, b, o, h => by
    simp only [List.length_cons] at h
    rw [setFrom, setFrom, List.set_append_left _ _ (by omega), setFrom_app s _ b (o + 1) (by simp; omega)]
theorem setFrom_app_right {α : Type} : ∀ (s a b : List α) (o : Nat), a.length ≤ o → setFrom (a ++ b) o s = a ++ setFrom b (o - a.length) s
  | [], a, b, o, _ => rfl
  | v :: s, a, b, o, h => by
    rw [setFrom, setFrom, List.set_append_right _ _ h, setFrom_app_right s a _ (o + 1) (by omega)]
    congr 2
    omega
theorem setFrom_all {α : Type} (s a : List α) (h : s.length = a.length) : setFrom a 0 s = s := by
  have key : ∀ (s p a : List α), s.length = a.length → setFrom (p ++ a) p.length s = p ++ s := by
    intro s
    induction s with
    | nil => intro p a h; rw [List.eq_nil_of_length_eq_zero h.symm]; rfl
    | cons v s ih =>
      intro p a h
      cases a with
      | nil => simp at h
      | cons b a =>
        rw [setFrom]
        have h1 : (p ++ b :: a).set p.length v = (p ++ [v]) ++ a := by simp
        have h2 := ih (p ++ [v]) a (by simpa using h)
        rw [h1]
        simpa using h2
  simpa using key s [] a h
theorem C.cells_len {d : D} {u : Value} (h : C X w σ d u) (h1 : d.cellable = true) : u.cells.toList.length = d.cells.length := (h.cells h1).1.len
theorem Ty.cs_cells {y : Ty} {x : y.T} {u : Value} (h : C X w σ (y.d x) u) : Cs X w nowhere (y.cells x) u.cells.toList := by
  have := (C.cells (Ty.up h) (V.cellable_d (.t y x) rfl)).1
  rwa [y.d_cells] at this
theorem Ty.put_spec : ∀ {y : Ty} {x z : y.T} {o : Nat} {v : V} {u : Value} {vs : List Value}, y.put x o v = some z → C X w σ v.d u → Cs X w nowhere (y.cells x) vs →
    Cs X w nowhere (y.cells z) (setFrom vs o u.cells.toList) ∧ o + u.cells.toList.length ≤ y.sz
  | .pr f r, x, z, o, v, u, vs, h, hc, hv => by
    simp only [Ty.put] at h
    simp only [Ty.cells] at hv
    obtain ⟨vs1, vs2, rfl, k1, k2⟩ := hv.split
    have l1 := k1.len
    rw [f.cells_len] at l1
    split at h
    · rename_i hlt
      split at h
      · rename_i z1 hz
        simp only [Option.some.injEq] at h
        subst h
        split at hz
        · rename_i h0
          subst h0
          have q := V.as_spec hz hc
          have q1 := Ty.cs_cells q
          have l2 := q1.len
          rw [f.cells_len] at l2
          refine ⟨?_, by simp only [Ty.sz]; omega⟩
          rw [setFrom_app _ _ _ _ (by omega), setFrom_all _ _ (by omega)]
          simp only [Ty.cells]
          exact q1.app k2
        · cases hz
      · split at h
        · rename_i z1 hz
          simp only [Option.some.injEq] at h
          subst h
          obtain ⟨q1, q2⟩ := Ty.put_spec hz hc k1
          refine ⟨?_, by simp only [Ty.sz]; omega⟩
          rw [setFrom_app _ _ _ _ (by omega)]
          simp only [Ty.cells]
          exact q1.app k2
        · cases h
    · rename_i hge
      split at h
      · rename_i z1 hz
        simp only [Option.some.injEq] at h
        subst h
        obtain ⟨q1, q2⟩ := Ty.put_spec hz hc k2
        refine ⟨?_, by simp only [Ty.sz]; omega⟩
        rw [setFrom_app_right _ _ _ _ (by omega), l1]
        simp only [Ty.cells]
        exact k1.app q1
      · cases h
  | .nil, _, _, _, _, _, _, h, _, _ => by simp only [Ty.put] at h; cases h
  | .int _, _, _, _, _, _, _, h, _, _ => by simp only [Ty.put] at h; cases h
  | .bool, _, _, _, _, _, _, h, _, _ => by simp only [Ty.put] at h; cases h
  | .str, _, _, _, _, _, _, h, _, _ => by simp only [Ty.put] at h; cases h
  | .sl _, _, _, _, _, _, _, h, _, _ => by simp only [Ty.put] at h; cases h
theorem ds_setFrom : ∀ (zs cells : List V) (off : Nat), V.ds (setFrom cells off zs) = setFrom (V.ds cells) off (V.ds zs) := by
  intro zs
  induction zs with
  | nil => intro cells off; rfl
  | cons z zs ih => intro cells off; simp only [setFrom, V.ds, ih]; congr 1; simp [V.ds_eq, List.map_set]
/-- a value written into a variable -/
theorem V.put_spec {c c' v : V} {o n : Nat} {u : Value} {vs : List Value} (h : c.put o n v = some c') (hc : C X w σ v.d u) (hv : Cs X w σ c.d.cells vs) :
    Cs X w σ c'.d.cells (setFrom vs o u.cells.toList) ∧ o + n ≤ vs.length ∧ u.cells.toList.length = n ∧ (∀ x ∈ u.cells.toList, x.oneCell' = true) := by
  unfold V.put at h
  split at h
  · rename_i hcond
    simp only [Bool.and_eq_true, beq_iff_eq, decide_eq_true_eq] at hcond
    obtain ⟨p1, p2, p3⟩ := hcond
    have hcd := V.cellable_d v p1
    obtain ⟨e1, e2⟩ := hc.cells hcd
    have e3 := e1.len
    have e4 : v.d.cells.length = n := by rw [← V.cells_ds, V.ds_eq, List.length_map, p2]
    have e5 := hv.len
    have e6 : c.d.cells.length = c.cells.length := by rw [← V.cells_ds, V.ds_eq, List.length_map]
    refine ⟨?_, by omega, by omega, e2⟩
    split at h
    · rename_i hw
      simp only [Bool.and_eq_true, beq_iff_eq] at hw
      simp only [Option.some.injEq] at h
      subst h
      rw [hw.1, setFrom_all _ _ (by omega)]
      exact e1
    · split at h
      · rename_i y x
        split at h
        · rename_i z hz
          simp only [Option.some.injEq] at h
          subst h
          simp only [V.d, Ty.d_cells] at hv ⊢
          exact Ty.cs_up (Ty.put_spec hz hc (Ty.cs_up hv)).1
        · simp only [Option.some.injEq] at h
          subst h
          simp only [V.d, Ty.d_cells] at hv
          simp only [V.d, D.cells, ds_setFrom, V.cells_ds, Ty.vs_ds]
          exact Cs.setFrom_ o e1 hv
      · simp only [Option.some.injEq] at h
        subst h
        simp only [V.d, D.cells, ds_setFrom, V.cells_ds]
        exact Cs.setFrom_ o e1 hv
  · cases h
end
end Go.Proofs.Ytnimpcffagidoaa.K
