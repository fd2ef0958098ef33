/-
  The plain operations on typed values do what the program's do.
-/
import Derived.Test.YtnimpcffagidoaaK3
namespace Go.Proofs.Ytnimpcffagidoaa.K
open Go.RowKit
set_option linter.unusedSimpArgs false
set_option linter.unusedVariables false

theorem Ty.cells_len : ∀ (y : Ty) (x : y.T), (y.cells x).length = y.sz
  | .int _, _ => rfl
  | .bool, _ => rfl
  | .str, _ => rfl
  | .sl _, _ => rfl
  | .nil, _ => rfl
  | .pr f r, x => by simp only [Ty.cells, List.length_append, Ty.cells_len f, Ty.cells_len r, Ty.sz]
theorem V.ds_eq : ∀ (vs : List V), V.ds vs = vs.map V.d
  | [] => rfl
  | v :: vs => by simp only [V.ds, V.ds_eq vs, List.map_cons]
theorem V.refss_eq : ∀ (vs : List V), V.refss vs = vs.flatMap V.refs
  | [] => rfl
  | v :: vs => by simp only [V.refss, V.refss_eq vs, List.flatMap_cons]
theorem V.ds_app (a b : List V) : V.ds (a ++ b) = V.ds a ++ V.ds b := by simp [V.ds_eq]
theorem Ty.vs_ds : ∀ (y : Ty) (x : y.T), V.ds (y.vs x) = y.cells x
  | .int _, _ => rfl
  | .bool, _ => rfl
  | .str, _ => rfl
  | .sl _, _ => rfl
  | .nil, _ => rfl
  | .pr f r, x => by simp only [Ty.vs, V.ds_app, Ty.vs_ds f, Ty.vs_ds r, Ty.cells]
theorem Ty.d_cells : ∀ (y : Ty) (x : y.T), (y.d x).cells = y.cells x
  | .int _, _ => rfl
  | .bool, _ => rfl
  | .str, _ => rfl
  | .sl _, _ => rfl
  | .nil, _ => rfl
  | .pr f r, x => rfl
theorem Ty.d_row : ∀ (y : Ty) (x : y.T), y.row = true → y.d x = .ag (y.cells x)
  | .int _, _, h => by cases h
  | .bool, _, h => by cases h
  | .str, _, h => by cases h
  | .sl _, _, h => by cases h
  | .nil, _, _ => rfl
  | .pr f r, x, _ => rfl
theorem Ty.d_one : ∀ (y : Ty) (x : y.T), y.row = false → y.cells x = [y.d x]
  | .int _, _, _ => rfl
  | .bool, _, _ => rfl
  | .str, _, _ => rfl
  | .sl _, _, _ => rfl
  | .nil, _, h => by cases h
  | .pr f r, x, h => by cases h
theorem Ty.cells_cell1 : ∀ (y : Ty) (x : y.T), (y.cells x).all D.cell1 = true
  | .int _, _ => rfl
  | .bool, _ => rfl
  | .str, _ => rfl
  | .sl _, _ => rfl
  | .nil, _ => rfl
  | .pr f r, x => by simp only [Ty.cells, List.all_append, Ty.cells_cell1 f, Ty.cells_cell1 r, Bool.and_self]
theorem Ty.refs_cells : ∀ (y : Ty) (x : y.T), D.refss (y.cells x) = []
  | .int _, _ => rfl
  | .bool, _ => rfl
  | .str, _ => rfl
  | .sl _, _ => rfl
  | .nil, _ => rfl
  | .pr f r, x => by
    have h : ∀ a b : List D, D.refss (a ++ b) = D.refss a ++ D.refss b := by
      intro a b
      induction a with
      | nil => rfl
      | cons d a ih => simp only [List.cons_append, D.refss, ih, List.append_assoc]
    simp only [Ty.cells, h, Ty.refs_cells f, Ty.refs_cells r, List.append_nil]
theorem Ty.refs_d (y : Ty) (x : y.T) : (y.d x).refs = [] := by
  cases hr : y.row with
  | true => rw [y.d_row x hr]; simp only [D.refs, y.refs_cells x]
  | false =>
    have h := y.refs_cells x
    rw [y.d_one x hr] at h
    simpa only [D.refss, List.append_nil] using h
mutual
theorem V.refs_d : ∀ v : V, v.d.refs = v.refs
  | .t y x => by simp only [V.d, Ty.refs_d, V.refs]
  | .c x => rfl
  | .ptr k o => rfl
  | .pa sz k i o => rfl
  | .el y x o => rfl
  | .ms k => rfl
  | .ag vs => by simp only [V.d, D.refs, V.refs, V.refss_d vs]
  | .tu vs => by simp only [V.d, D.refs, V.refs, V.refss_d vs]
  | .fn f vs => by simp only [V.d, D.refs, V.refs, V.refss_d vs]
  | .ifc n x => by simp only [V.d, D.refs, V.refs, V.refs_d x]
  | .ud => rfl
  | .un => rfl
theorem V.refss_d : ∀ vs : List V, D.refss (V.ds vs) = V.refss vs
  | [] => rfl
  | v :: vs => by simp only [V.ds, D.refss, V.refss, V.refs_d v, V.refss_d vs]
end
theorem V.cells_ds (v : V) : V.ds v.cells = v.d.cells := by
  cases v with
  | t y x => simp only [V.cells, V.d, Ty.vs_ds, Ty.d_cells]
  | ag vs => rfl
  | _ => rfl
theorem V.d_row (v : V) (h : v.row = true) : v.d = .ag v.d.cells := by
  cases v with
  | t y x => simp only [V.row] at h; simp only [V.d, y.d_row x h, D.cells]
  | ag vs => rfl
  | _ => cases h
theorem V.one_cell1 (v : V) (h : v.one = true) : v.d.cell1 = true := by
  cases v with
  | t y x =>
    simp only [V.one, Bool.not_eq_true'] at h
    have h1 := y.cells_cell1 x
    rw [y.d_one x h] at h1
    simpa only [List.all_cons, List.all_nil, Bool.and_true, V.d] using h1
  | _ => first | rfl | cases h | exact h
theorem V.cellable_d (v : V) (h : v.cellable = true) : v.d.cellable = true := by
  cases v with
  | t y x =>
    cases hr : y.row with
    | true => simp only [V.d, y.d_row x hr, D.cellable, y.cells_cell1 x]
    | false =>
      have h1 := y.cells_cell1 x
      rw [y.d_one x hr] at h1
      simp only [List.all_cons, List.all_nil, Bool.and_true] at h1
      simp only [V.d]
      cases y <;> first | rfl | cases hr
  | ag vs =>
    simp only [V.cellable, List.all_eq_true] at h
    simp only [V.d, D.cellable, V.ds_eq, List.all_map, List.all_eq_true]
    exact fun v hv => V.one_cell1 v (h v hv)
  | _ => first | rfl | cases h

theorem Ty.sub_spec : ∀ (top : Bool) (y : Ty) (x : y.T) (off n : Nat) (agg : Bool) (v : V), y.sub top x off n agg = some v →
    v.good = true ∧ (agg = true → v.d = .ag (((y.cells x).drop off).take n) ∧ off + n ≤ (y.cells x).length) ∧ (agg = false → (y.cells x)[off]? = some v.d)
  | top, .pr f r, x, off, n, agg, v, h => by
    simp only [Ty.sub] at h
    split at h
    · rename_i hc
      simp only [Option.some.injEq] at h
      subst h
      simp only [Bool.and_eq_true, beq_iff_eq] at hc
      obtain ⟨_, rfl, rfl, rfl⟩ := hc
      refine ⟨rfl, fun _ => ⟨?_, ?_⟩, fun h => by cases h⟩
      · have hl := Ty.cells_len (.pr f r) x
        rw [List.drop_zero, List.take_of_length_le (by omega)]
        rfl
      · rw [Ty.cells_len]; omega
    · have hf := Ty.cells_len f x.1
      have hr := Ty.cells_len r x.2
      split at h
      · rename_i hlt
        obtain ⟨h1, h2, h3⟩ := Ty.sub_spec true f x.1 off n agg v h
        refine ⟨h1, fun ha => ?_, fun ha => ?_⟩
        · obtain ⟨q1, q2⟩ := h2 ha
          simp only [Ty.cells, List.length_append]
          refine ⟨?_, by omega⟩
          rw [q1, List.drop_append_of_le_length (by omega), List.take_append_of_le_length (by rw [List.length_drop]; omega)]
        · simp only [Ty.cells]
          rw [List.getElem?_append_left (by omega)]
          exact h3 ha
      · rename_i hge
        obtain ⟨h1, h2, h3⟩ := Ty.sub_spec false r x.2 (off - f.sz) n agg v h
        refine ⟨h1, fun ha => ?_, fun ha => ?_⟩
        · obtain ⟨q1, q2⟩ := h2 ha
          simp only [Ty.cells, List.length_append]
          refine ⟨?_, by omega⟩
          rw [q1, List.drop_append, hf, List.drop_eq_nil_of_le (by omega : (f.cells x.1).length ≤ off), List.nil_append]
        · simp only [Ty.cells]
          rw [List.getElem?_append_right (by omega), hf]
          exact h3 ha
  | top, .nil, x, off, n, agg, v, h => by
    simp only [Ty.sub] at h
    split at h
    · rename_i hc
      simp only [Option.some.injEq] at h
      subst h
      simp only [Bool.and_eq_true, beq_iff_eq] at hc
      obtain ⟨_, rfl, rfl, rfl⟩ := hc
      exact ⟨rfl, fun _ => ⟨rfl, by simp⟩, fun h => by cases h⟩
    · cases h
  | top, .int k, x, off, n, agg, v, h => by
    simp only [Ty.sub] at h
    split at h
    · rename_i hc
      simp only [Option.some.injEq] at h
      subst h
      simp only [Bool.and_eq_true, beq_iff_eq, Bool.not_eq_true'] at hc
      obtain ⟨rfl, rfl⟩ := hc
      exact ⟨rfl, (fun h => by cases h), fun _ => rfl⟩
    · cases h
  | top, .bool, x, off, n, agg, v, h => by
    simp only [Ty.sub] at h
    split at h
    · rename_i hc
      simp only [Option.some.injEq] at h
      subst h
      simp only [Bool.and_eq_true, beq_iff_eq, Bool.not_eq_true'] at hc
      obtain ⟨rfl, rfl⟩ := hc
      exact ⟨rfl, (fun h => by cases h), fun _ => rfl⟩
    · cases h
  | top, .str, x, off, n, agg, v, h => by
    simp only [Ty.sub] at h
    split at h
    · rename_i hc
      simp only [Option.some.injEq] at h
      subst h
      simp only [Bool.and_eq_true, beq_iff_eq, Bool.not_eq_true'] at hc
      obtain ⟨rfl, rfl⟩ := hc
      exact ⟨rfl, (fun h => by cases h), fun _ => rfl⟩
    · cases h
  | top, .sl e, x, off, n, agg, v, h => by
    simp only [Ty.sub] at h
    split at h
    · rename_i hc
      simp only [Option.some.injEq] at h
      subst h
      simp only [Bool.and_eq_true, beq_iff_eq, Bool.not_eq_true'] at hc
      obtain ⟨rfl, rfl⟩ := hc
      exact ⟨rfl, (fun h => by cases h), fun _ => rfl⟩
    · cases h
theorem V.sub_spec {top : Bool} {v w : V} {off n : Nat} {agg : Bool} (h : v.sub top off n agg = some w) :
    (agg = true → w.d = .ag ((v.d.cells.drop off).take n) ∧ off + n ≤ v.d.cells.length) ∧ (agg = false → v.d.cells[off]? = some w.d) := by
  cases v with
  | t y x =>
    have := Ty.sub_spec top y x off n agg w h
    simp only [V.d, Ty.d_cells]
    exact this.2
  | ag vs =>
    simp only [V.sub] at h
    split at h
    · rename_i ha
      split at h
      · rename_i hl
        simp only [Option.some.injEq] at h
        subst h
        subst ha
        simp only [V.d, V.ds_eq, D.cells]
        exact ⟨fun _ => ⟨by simp [List.map_take, List.map_drop], by simpa using hl⟩, fun h => by cases h⟩
      · cases h
    · rename_i ha
      refine ⟨fun h => absurd h ha, fun _ => ?_⟩
      simp only [V.d, V.ds_eq, D.cells, List.getElem?_map, h, Option.map_some]
  | _ =>
    simp only [V.sub] at h
    split at h
    · rename_i hc
      simp only [Option.some.injEq] at h
      subst h
      simp only [Bool.and_eq_true, beq_iff_eq, Bool.not_eq_true'] at hc
      obtain ⟨_, rfl, rfl, _⟩ := hc
      exact ⟨(fun h => by cases h), fun _ => rfl⟩
    · cases h
theorem eqT_spec {k : Nat} {x y : V} {q : Bool} (h : eqT k x y = some q) : eqK k x.d y.d = some q := by
  unfold eqT at h
  split at h
  · simpa only [V.d, Ty.d, eqK] using h
  · simpa only [V.d, Ty.d, eqK] using h
  · simpa only [V.d, Ty.d, eqK] using h
  · cases h
theorem eqTs_spec : ∀ {ks : List Nat} {xs ys : List V} {q : Bool}, eqTs ks xs ys = some q → eqKs ks (V.ds xs) (V.ds ys) = some q
  | [], [], [], q, h => by simpa only [eqTs, V.ds, eqKs] using h
  | k :: ks, x :: xs, y :: ys, q, h => by
    simp only [eqTs] at h
    split at h
    · rename_i a b h1 h2
      simp only [V.ds, eqKs, eqT_spec h1, eqTs_spec h2]
      exact h
    · cases h
  | [], [], _ :: _, _, h => by simp only [eqTs] at h; cases h
  | [], _ :: _, _, _, h => by simp only [eqTs] at h; cases h
  | _ :: _, [], _, _, h => by simp only [eqTs] at h; cases h
  | _ :: _, _ :: _, [], _, h => by simp only [eqTs] at h; cases h
end Go.Proofs.Ytnimpcffagidoaa.K
