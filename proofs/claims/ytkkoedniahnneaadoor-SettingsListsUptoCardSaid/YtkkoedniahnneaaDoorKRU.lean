/-
 What is handed to a law of bounded bulk: the datum that is read is a typed value of no more bulk.
-/
import Derived.Test.YtkkoedniahnneaaDoorKD
import Derived.Test.YtkkoedniahnneaaDoorRows
set_option linter.unusedSimpArgs false
set_option linter.unusedVariables false
namespace Go.Proofs.YtkkoedniahnneaaDoor.K
open Go.RowKit Go.ChangeShapes Go.WideShapes Go.Deep
def Ty.bulk : (y : Ty) → y.T → Nat
 | .int _, _ => 1
 | .bool, _ => 1
 | .str, s => ByteArray.size s + 1
 | .sl e, l => (List.map e.bulk l).sum + 1
 | .nil, _ => 0
 | .pr f r, x => f.bulk x.1 + r.bulk x.2
 | .rv, _ => 0
 | .rb, _ => 0
def bulkL (z : Ty) (l : List z.T) : Nat := (l.map z.bulk).sum
theorem bulkL_app (z : Ty) (l r : List z.T) : bulkL z (l ++ r) = bulkL z l + bulkL z r := by simp [bulkL, List.sum_append]
theorem bulkL_mem {z : Ty} : ∀ {l : List z.T} {x : z.T}, x ∈ l → z.bulk x ≤ bulkL z l
 | [], _, h => by cases h
 | a :: l, x, h => by
  show z.bulk x ≤ z.bulk a + bulkL z l
  rcases List.mem_cons.1 h with rfl | h
  ·omega
  ·have := bulkL_mem h
   omega
section
variable {H : Type}
theorem one_leB (d : DataW H) : 1 ≤ Rows.uptoBulk d := by
 cases d with
 | lit l => cases l <;> simp [Rows.uptoBulk]
 | nil => simp [Rows.uptoBulk]
 | ptr d => simp [Rows.uptoBulk]
 | slice elems spare => simp [Rows.uptoBulk]
 | agg parts => simp [Rows.uptoBulk]
 | iface t d => simp [Rows.uptoBulk]
 | map entries => simp [Rows.uptoBulk]
 | held h => simp [Rows.uptoBulk]
theorem bulkAll_app (l r : List (DataW H)) : Rows.uptoBulkAll (l ++ r) = Rows.uptoBulkAll l + Rows.uptoBulkAll r := by
 induction l with
 | nil => simp [Rows.uptoBulkAll]
 | cons x l ih => simp only [List.cons_append, Rows.uptoBulkAll, ih]; omega
end
section
variable {H : Type} {enc : TypeId × Value → H} {P : Program} {w : World} {base : Nat} {sp : Nat → Bool} {held : Bool} {σ : Pl}
theorem fields_openU {T : TypeId → Ty → Bool} {n : Nat} {cs : List Value} (hT : ∀ t y cs x, T t y = true → DataW.trod enc P w base sp held n t cs = some x → ∃ z : y.T, Cs noX w σ (y.cells z) cs ∧ y.wf z ∧ y.bulk z ≤ Rows.uptoBulk x.1) :
  ∀ (fs : List Field) (ds : List (DataW H)) (o : Nat) (y : Ty), fieldsIs P T fs o y = true → (∀ (i : Nat) (f : Field), fs[i]? = some f → ∃ x, DataW.trod enc P w base sp held n f.type ((cs.drop f.offset).take (P.cellsOf f.type)) = some x ∧ ds[i]? = some x.1) → o + y.sz = cs.length →
   ∃ z : y.T, Cs noX w σ (y.cells z) (cs.drop o) ∧ y.wf z ∧ y.bulk z ≤ Rows.uptoBulkAll ds
 | [], ds, o, y, h, _, hl => by
  cases y <;> simp only [fieldsIs, Bool.false_eq_true] at h
  refine ⟨(), ?_, trivial, Nat.zero_le _⟩
  simp only [Ty.sz] at hl
  rw [List.drop_eq_nil_of_le (by omega)]
  simp only [Ty.cells, Cs]
 | f :: r, ds, o, y, h, hf, hl => by
  cases y with
  | pr a b =>
   simp only [fieldsIs, Bool.and_eq_true, decide_eq_true_eq] at h
   obtain ⟨⟨⟨h1, h2⟩, h3⟩, h4⟩ := h
   obtain ⟨x, hx, hd⟩ := hf 0 f rfl
   cases ds with
   | nil => simp at hd
   | cons d ds =>
    simp only [List.getElem?_cons_zero, Option.some.injEq] at hd
    rw [h1, h2] at hx
    obtain ⟨z1, c1, w1, b1⟩ := hT _ _ _ _ h3 hx
    simp only [Ty.sz] at hl
    obtain ⟨z2, c2, w2, b2⟩ := fields_openU hT r ds (o + a.sz) b h4 (fun i f' hi => by simpa using hf (i + 1) f' (by simpa using hi)) (by omega)
    refine ⟨(z1, z2), ?_, ⟨w1, w2⟩, ?_⟩
    ·have := c1.app c2
     rw [← List.drop_drop, List.take_append_drop] at this
     exact this
    ·show a.bulk z1 + b.bulk z2 ≤ Rows.uptoBulk d + Rows.uptoBulkAll ds
     rw [hd]
     omega
  | _ => simp only [fieldsIs, Bool.false_eq_true] at h
theorem rows_openU {z : Ty} {a : Addr} {D : Nat → DataW H} : ∀ (len : Nat), (∀ i, i < len → ∃ cs', w.cells? base (a.add (i * z.sz)) z.sz = some cs' ∧ ∃ z1 : z.T, Cs noX w nowhere (z.cells z1) cs' ∧ z.wf z1 ∧ z.bulk z1 ≤ Rows.uptoBulk (D i)) →
  ∃ (l : List z.T) (vs : List Value), l.length = len ∧ Cs noX w nowhere (l.flatMap z.cells) vs ∧ vs.length = len * z.sz ∧ (∀ j, j < len * z.sz → w.cell? (a.add j) = vs[j]?) ∧ (∀ x ∈ l, z.wf x) ∧ bulkL z l ≤ Rows.uptoBulkAll ((List.range len).map D)
 | 0, _ => ⟨[], [], rfl, by simp [Cs], by simp, fun j hj => by omega, (fun x hx => by cases hx), Nat.zero_le _⟩
 | k + 1, h => by
  obtain ⟨l, vs, h1, h2, h3, h4, h5, h6⟩ := rows_openU k fun i hi => h i (by omega)
  obtain ⟨cs', hc, z1, c1, w1, b1⟩ := h k (by omega)
  obtain ⟨_, hl, hat⟩ := World.cells?_some hc
  have e : (k + 1) * z.sz = k * z.sz + z.sz := Nat.succ_mul k z.sz
  refine ⟨l ++ [z1], vs ++ cs', by simp [h1], ?_, by rw [List.length_append, h3, hl, e], fun j hj => ?_, fun x hx => ?_, ?_⟩
  ·rw [List.flatMap_append]
   exact h2.app (by simpa using c1)
  ·by_cases hj2 : j < k * z.sz
   ·rw [List.getElem?_append_left (by omega)]
    exact h4 j hj2
   ·obtain ⟨i, rfl⟩ : ∃ i, j = k * z.sz + i := ⟨j - k * z.sz, by omega⟩
    rw [List.getElem?_append_right (by omega), h3, Nat.add_sub_cancel_left, ← hat i (by omega), Go.Deep.add_add]
  ·rcases List.mem_append.1 hx with hx | hx
   ·exact h5 x hx
   ·simp at hx
    subst hx
    exact w1
  ·rw [bulkL_app, List.range_succ, List.map_append, bulkAll_app]
   show bulkL z l + (z.bulk z1 + 0) ≤ Rows.uptoBulkAll ((List.range k).map D) + (Rows.uptoBulk (D k) + 0)
   omega
theorem trod_openU : ∀ (n : Nat) (t : TypeId) (y : Ty) (fuel : Nat) (cs : List Value) (x : DataW H × List MemPlace) (σ : Pl), tyIs P n t y = true → DataW.trod enc P w base sp held fuel t cs = some x →
  ∃ z : y.T, Cs noX w σ (y.cells z) cs ∧ y.wf z ∧ y.bulk z ≤ Rows.uptoBulk x.1
 | 0, t, y, _, _, _, _, h, _ => by simp [tyIs] at h
 | n + 1, t, y, fuel, cs, x, σ, h, hx => by
  simp only [tyIs] at h
  cases hu : P.underlying t with
  | none => rw [hu] at h; cases h
  | some d =>
   rw [hu] at h
   cases d <;> simp only [Bool.false_eq_true] at h
   case int k =>
    simp only [decide_eq_true_eq] at h
    subst h
    obtain ⟨m, rfl, _, hw⟩ := DataW.trod_int hu hx
    exact ⟨m, by simp only [Ty.cells]; exact Cs.mk1 (show _ ∧ _ from ⟨rfl, rfl⟩), hw, one_leB _⟩
   case bool =>
    simp only [decide_eq_true_eq] at h
    subst h
    obtain ⟨m, rfl, _⟩ := DataW.trod_bool hu hx
    exact ⟨m, by simp only [Ty.cells]; exact Cs.mk1 (show _ ∧ _ from ⟨rfl, rfl⟩), trivial, one_leB _⟩
   case string =>
    simp only [decide_eq_true_eq] at h
    subst h
    obtain ⟨m, rfl, rfl, hw⟩ := DataW.trod_string hu hx
    exact ⟨m, by simp only [Ty.cells]; exact Cs.mk1 (show _ ∧ _ from ⟨rfl, rfl⟩), hw, by show m.size + 1 ≤ m.data.toList.length + 1; rw [show m.data.toList.length = m.size by simp]; exact Nat.le_refl _⟩
   case slice e =>
    cases y <;> simp only [Bool.false_eq_true] at h
    case sl z =>
     simp only [Bool.and_eq_true, decide_eq_true_eq] at h
     obtain ⟨⟨h1, h2⟩, h3⟩ := h
     rcases open_slice hu hx with ⟨rfl, rfl⟩ | ⟨a, len, cap, m, f2, D, Pl, rfl, _, hl, hm, hmm, rfl, hi⟩
     ·refine ⟨[], ?_, ⟨by simp [maxLen], fun x hx => by cases hx⟩, Nat.le_refl 1⟩
      simp only [Ty.cells]
      refine Cs.mk1 ?_
      simp only [C, List.length_nil]
      exact ⟨none, 0, rfl, Nat.le_refl _, by simp [maxLen], fun _ => rfl, fun h => absurd h (by omega)⟩
     ·have hle : len ≤ m := by rw [hmm]; split <;> omega
      obtain ⟨l, vs, q1, q2, q3, q4, q5, q6⟩ := rows_openU (D := D) (w := w) (base := base) (z := z) (a := a) len fun i hil => by
       obtain ⟨cs', g1, g2⟩ := hi i (by omega)
       rw [h2] at g1
       exact ⟨cs', g1, trod_openU n e z f2 cs' _ nowhere h1 g2⟩
      refine ⟨l, ?_, ⟨by omega, q5⟩, by show bulkL z l + 1 ≤ Rows.uptoBulkAll ((List.range len).map D) + Rows.uptoBulkAll _ + 1; omega⟩
      simp only [Ty.cells]
      refine Cs.mk1 ?_
      simp only [C]
      refine ⟨some a, cap, by rw [q1], by omega, hm, fun h0 => by have : l = [] := List.eq_nil_of_length_eq_zero h0; subst this; rfl, fun hp => ?_⟩
      rw [q1] at hp
      obtain ⟨v0, hv0⟩ : ∃ v, vs[0]? = some v := by
       have : 0 < vs.length := by rw [q3]; exact Nat.mul_pos hp h3
       exact ⟨_, List.getElem?_eq_getElem this⟩
      have h0 := q4 0 (Nat.mul_pos hp h3)
      rw [hv0] at h0
      obtain ⟨b, off, spot⟩ := a
      have hsp : spot = none := by
       simp only [World.cell?, Addr.add] at h0
       cases spot with
       | none => rfl
       | some s => split at h0 <;> simp at h0
      subst hsp
      refine ⟨b, off, vs, rfl, q2, ?_, fun j _ h => h, fun j u hu' => ?_, fun u hu' => ?_⟩
      ·rcases Nat.lt_or_ge b w.heap.size with hlt | hge
       ·exact hlt
       ·simp [World.cell?, Addr.add, Array.getElem?_eq_none hge] at h0
      ·have hj : j < len * z.sz := by rw [← q3]; exact (List.getElem?_eq_some_iff.1 hu').1
       have := q4 j hj
       have ha : (Addr.mk b off none).add j = ⟨b, off + j, none⟩ := by by_cases h0 : j = 0 <;> simp [Addr.add, h0]
       rw [ha, hu'] at this
       exact this
      ·exact (rows_one l vs q2) u hu'
   case struct fs =>
    simp only [Bool.and_eq_true, decide_eq_true_eq] at h
    obtain ⟨⟨_, h2⟩, h3⟩ := h
    obtain ⟨xs, m, _, rfl, hlen, hxl, hf⟩ := DataW.trod_struct hu hx
    have := fields_openU (n := m) (cs := cs) (σ := σ) (fun t y cs x => trod_openU n t y m cs x σ) fs.toList (xs.map (·.1)) 0 y h3 (fun i f hi => by
     have hi' : fs[i]? = some f := by simpa using hi
     have hlt := (Array.getElem?_eq_some_iff.1 hi').1
     exact ⟨xs[i]'(by omega), (hf i f hi').trans (List.getElem?_eq_getElem _), by rw [List.getElem?_map, List.getElem?_eq_getElem (by omega)]; rfl⟩) (by omega)
    obtain ⟨z, c1, w1, b1⟩ := this
    exact ⟨z, by simpa using c1, w1, by show y.bulk z ≤ Rows.uptoBulkAll (xs.map (·.1)) + 1; omega⟩
theorem arg_openU {n : Nat} {t : TypeId} {y : Ty} {v : Value} {r : Reach} {b0 : Nat} {d : DataW H} {ps : List MemPlace} (h : tyIs P (n + 1) t y = true) (hval : Value.okWide P w r b0 t v) (hd : DataW.Trod enc P w base sp held t v d ps) :
  ∃ z : y.T, C noX w σ (V.t y z).d v ∧ y.wf z ∧ y.bulk z ≤ Rows.uptoBulk d := by
 have h' := h
 obtain ⟨fuel, hf⟩ := hd
 obtain ⟨z, hz, hw, hbk⟩ := trod_openU (n + 1) t y fuel _ _ σ h hf
 refine ⟨z, ?_, hw, hbk⟩
 simp only [tyIs] at h
 simp only [V.d]
 cases hu : P.underlying t with
 | none => rw [hu] at h; cases h
 | some dsc =>
  rw [hu] at h
  cases dsc <;> simp only [Bool.false_eq_true] at h
  case int k =>
   simp only [decide_eq_true_eq] at h
   subst h
   obtain ⟨m, rfl, _⟩ := open_int hu hval ⟨fuel, hf⟩
   simp only [Ty.cells, Value.cells] at hz
   obtain ⟨u, e, hc⟩ := hz.one
   simp at e
   subst e
   exact hc
  case bool =>
   simp only [decide_eq_true_eq] at h
   subst h
   obtain ⟨m, rfl, _⟩ := open_bool hu hval ⟨fuel, hf⟩
   simp only [Ty.cells, Value.cells] at hz
   obtain ⟨u, e, hc⟩ := hz.one
   simp at e
   subst e
   exact hc
  case string =>
   simp only [decide_eq_true_eq] at h
   subst h
   obtain ⟨m, rfl, _⟩ := Go.ChangeMaps.open_string hu hval ⟨fuel, hf⟩
   simp only [Ty.cells, Value.cells] at hz
   obtain ⟨u, e, hc⟩ := hz.one
   simp at e
   subst e
   exact hc
  case slice e =>
   cases y <;> simp only [Bool.false_eq_true] at h
   case sl z' =>
    obtain ⟨a, len, cap, rfl⟩ := okWide_slice hu hval
    simp only [Ty.cells, Value.cells] at hz
    obtain ⟨u, e, hc⟩ := hz.one
    simp at e
    subst e
    exact hc
  case struct fs =>
   simp only [Bool.and_eq_true] at h
   obtain ⟨cs, rfl, _⟩ := okWide_struct hu hval
   rw [y.d_row z h.1.1]
   simp only [C]
   exact ⟨cs.toList, by simp, by simpa [Value.cells] using hz⟩
end
end Go.Proofs.YtkkoedniahnneaaDoor.K
