/-
  What is handed to a law, whatever its types of plain data: the datum that is read is a typed value.
-/
import Derived.Test.YtnimpcffagidoaaKB
import Derived.WalkKit
import Derived.ProofKit
import Derived.OpenShut
import Derived.ShutString
import Derived.ChangeOld
import Derived.Below
import Derived.Deep.Slices
import Derived.Deep.Fields
namespace Go.Proofs.Ytnimpcffagidoaa.K
open Go.RowKit Go.ChangeShapes Go.WideShapes Go.Deep

/-- what holds of each datum: numbers lie in their kind's range, strings and slices are no longer than they can be -/
def Ty.wf : (y : Ty) → y.T → Prop
  | .int k, n => (Lit.int k n).wf = true
  | .bool, _ => True
  | .str, s => s.size ≤ maxLen
  | .sl e, l => List.length l ≤ maxLen ∧ ∀ x ∈ l, e.wf x
  | .nil, _ => True
  | .pr f r, x => f.wf x.1 ∧ r.wf x.2
def fieldsIs (P : Program) (T : TypeId → Ty → Bool) : List Field → Nat → Ty → Bool
  | [], _, .nil => true
  | f :: r, o, .pr a b => decide (f.offset = o) && decide (P.cellsOf f.type = a.sz) && T f.type a && fieldsIs P T r (o + a.sz) b
  | _, _, _ => false
/-- is the program's type this one? -/
def tyIs (P : Program) : Nat → TypeId → Ty → Bool
  | 0, _, _ => false
  | n + 1, t, y => match P.underlying t with
    | some (.int k) => decide (y = .int k)
    | some .bool => decide (y = .bool)
    | some .string => decide (y = .str)
    | some (.slice e) => match y with
      | .sl z => tyIs P n e z && decide (P.cellsOf e = z.sz) && decide (0 < z.sz)
      | _ => false
    | some (.struct fs) => y.row && decide (P.cellsOf t = y.sz) && fieldsIs P (tyIs P n) fs.toList 0 y
    | _ => false
abbrev noX : Nat → Nat → Prop := fun _ _ => False
section
variable {H : Type} {enc : TypeId × Value → H} {P : Program} {w : World} {base : Nat} {sp : Nat → Bool} {held : Bool} {σ : Pl}
theorem ycells_one {X : Nat → Nat → Prop} : ∀ (y : Ty) (x : y.T) (vs : List Value), Cs X w σ (y.cells x) vs → vs.length = y.sz ∧ ∀ v ∈ vs, v.oneCell' = true
  | .int k, n, vs, h => by
    simp only [Ty.cells, Cs] at h
    obtain ⟨u, us, rfl, h1, rfl⟩ := h
    simp only [C] at h1
    exact ⟨rfl, fun v hv => by simp at hv; subst hv; rw [h1.1]; exact h1.2⟩
  | .bool, n, vs, h => by
    simp only [Ty.cells, Cs] at h
    obtain ⟨u, us, rfl, h1, rfl⟩ := h
    simp only [C] at h1
    exact ⟨rfl, fun v hv => by simp at hv; subst hv; rw [h1.1]; exact h1.2⟩
  | .str, n, vs, h => by
    simp only [Ty.cells, Cs] at h
    obtain ⟨u, us, rfl, h1, rfl⟩ := h
    simp only [C] at h1
    exact ⟨rfl, fun v hv => by simp at hv; subst hv; rw [h1.1]; exact h1.2⟩
  | .sl e, l, vs, h => by
    simp only [Ty.cells, Cs] at h
    obtain ⟨u, us, rfl, h1, rfl⟩ := h
    simp only [C] at h1
    obtain ⟨A, c, rfl, _⟩ := h1
    exact ⟨rfl, fun v hv => by simp at hv; subst hv; rfl⟩
  | .nil, _, vs, h => by
    simp only [Ty.cells, Cs] at h
    subst h
    exact ⟨rfl, fun v hv => by cases hv⟩
  | .pr f r, x, vs, h => by
    simp only [Ty.cells] at h
    obtain ⟨v1, v2, rfl, h1, h2⟩ := Cs.split h
    obtain ⟨a1, a2⟩ := ycells_one f x.1 v1 h1
    obtain ⟨b1, b2⟩ := ycells_one r x.2 v2 h2
    refine ⟨by simp only [List.length_append, Ty.sz, a1, b1], fun v hv => ?_⟩
    rcases List.mem_append.1 hv with hv | hv
    · exact a2 v hv
    · exact b2 v hv
theorem rows_one {X : Nat → Nat → Prop} {z : Ty} : ∀ (l : List z.T) (vs : List Value), Cs X w σ (l.flatMap z.cells) vs → ∀ v ∈ vs, v.oneCell' = true
  | [], vs, h => by
    simp only [List.flatMap_nil, Cs] at h
    subst h
    intro v hv
    cases hv
  | x :: l, vs, h => by
    rw [List.flatMap_cons] at h
    obtain ⟨v1, v2, rfl, h1, h2⟩ := Cs.split h
    intro v hv
    rcases List.mem_append.1 hv with hv | hv
    · exact (ycells_one z x v1 h1).2 v hv
    · exact rows_one l v2 h2 v hv
theorem fields_open {T : TypeId → Ty → Bool} {n : Nat} {cs : List Value} (hT : ∀ t y cs x, T t y = true → DataW.trod enc P w base sp held n t cs = some x → ∃ z : y.T, Cs noX w σ (y.cells z) cs ∧ y.wf z) :
    ∀ (fs : List Field) (o : Nat) (y : Ty), fieldsIs P T fs o y = true → (∀ (i : Nat) (f : Field), fs[i]? = some f → ∃ x, DataW.trod enc P w base sp held n f.type ((cs.drop f.offset).take (P.cellsOf f.type)) = some x) → o + y.sz = cs.length →
      ∃ z : y.T, Cs noX w σ (y.cells z) (cs.drop o) ∧ y.wf z
  | [], o, y, h, _, hl => by
    cases y <;> simp only [fieldsIs, Bool.false_eq_true] at h
    refine ⟨(), ?_, trivial⟩
    simp only [Ty.sz] at hl
    rw [List.drop_eq_nil_of_le (by omega)]
    simp only [Ty.cells, Cs]
  | f :: r, o, y, h, hf, hl => by
    cases y with
    | pr a b =>
      simp only [fieldsIs, Bool.and_eq_true, decide_eq_true_eq] at h
      obtain ⟨⟨⟨h1, h2⟩, h3⟩, h4⟩ := h
      obtain ⟨x, hx⟩ := hf 0 f rfl
      rw [h1, h2] at hx
      obtain ⟨z1, c1, w1⟩ := hT _ _ _ _ h3 hx
      simp only [Ty.sz] at hl
      obtain ⟨z2, c2, w2⟩ := fields_open hT r (o + a.sz) b h4 (fun i f' hi => hf (i + 1) f' (by simpa using hi)) (by omega)
      refine ⟨(z1, z2), ?_, w1, w2⟩
      have := c1.app c2
      rw [← List.drop_drop, List.take_append_drop] at this
      exact this
    | _ => simp only [fieldsIs, Bool.false_eq_true] at h
theorem rows_open {z : Ty} {a : Addr} : ∀ (len : Nat), (∀ i, i < len → ∃ cs', w.cells? base (a.add (i * z.sz)) z.sz = some cs' ∧ ∃ z1 : z.T, Cs noX w nowhere (z.cells z1) cs' ∧ z.wf z1) →
    ∃ (l : List z.T) (vs : List Value), l.length = len ∧ Cs noX w nowhere (l.flatMap z.cells) vs ∧ vs.length = len * z.sz ∧ (∀ j, j < len * z.sz → w.cell? (a.add j) = vs[j]?) ∧ ∀ x ∈ l, z.wf x
  | 0, _ => ⟨[], [], rfl, by simp [Cs], by simp, fun j hj => by omega, fun x hx => by cases hx⟩
  | k + 1, h => by
    obtain ⟨l, vs, h1, h2, h3, h4, h5⟩ := rows_open k fun i hi => h i (by omega)
    obtain ⟨cs', hc, z1, c1, w1⟩ := h k (by omega)
    obtain ⟨_, hl, hat⟩ := World.cells?_some hc
    have e : (k + 1) * z.sz = k * z.sz + z.sz := Nat.succ_mul k z.sz
    refine ⟨l ++ [z1], vs ++ cs', by simp [h1], ?_, by rw [List.length_append, h3, hl, e], fun j hj => ?_, fun x hx => ?_⟩
    · rw [List.flatMap_append]
      exact h2.app (by simpa using c1)
    · by_cases hj2 : j < k * z.sz
      · rw [List.getElem?_append_left (by omega)]
        exact h4 j hj2
      · obtain ⟨i, rfl⟩ : ∃ i, j = k * z.sz + i := ⟨j - k * z.sz, by omega⟩
        rw [List.getElem?_append_right (by omega), h3, Nat.add_sub_cancel_left, ← hat i (by omega), Go.Deep.add_add]
    · rcases List.mem_append.1 hx with hx | hx
      · exact h5 x hx
      · simp at hx
        subst hx
        exact w1
theorem trod_open : ∀ (n : Nat) (t : TypeId) (y : Ty) (fuel : Nat) (cs : List Value) (x : DataW H × List MemPlace) (σ : Pl), tyIs P n t y = true → DataW.trod enc P w base sp held fuel t cs = some x →
    ∃ z : y.T, Cs noX w σ (y.cells z) cs ∧ y.wf z
  | 0, t, y, _, _, _, _, h, _ => by simp [tyIs] at h
  | n + 1, t, y, fuel, cs, x, σ, h, hx => by
    simp only [tyIs] at h
    cases hu : P.underlying t with
    | none => rw [hu] at h; cases h
    | some d =>
      rw [hu] at h
      cases d <;> simp only [Bool.false_eq_true] at h
      case int k =>
        simp only [decide_eq_true_eq] at h
        subst h
        obtain ⟨m, rfl, _, hw⟩ := DataW.trod_int hu hx
        exact ⟨m, by simp only [Ty.cells]; exact Cs.mk1 (show _ ∧ _ from ⟨rfl, rfl⟩), hw⟩
      case bool =>
        simp only [decide_eq_true_eq] at h
        subst h
        obtain ⟨m, rfl, _⟩ := DataW.trod_bool hu hx
        exact ⟨m, by simp only [Ty.cells]; exact Cs.mk1 (show _ ∧ _ from ⟨rfl, rfl⟩), trivial⟩
      case string =>
        simp only [decide_eq_true_eq] at h
        subst h
        obtain ⟨m, rfl, _, hw⟩ := DataW.trod_string hu hx
        exact ⟨m, by simp only [Ty.cells]; exact Cs.mk1 (show _ ∧ _ from ⟨rfl, rfl⟩), hw⟩
      case slice e =>
        cases y <;> simp only [Bool.false_eq_true] at h
        case sl z =>
          simp only [Bool.and_eq_true, decide_eq_true_eq] at h
          obtain ⟨⟨h1, h2⟩, h3⟩ := h
          rcases open_slice hu hx with ⟨rfl, _⟩ | ⟨a, len, cap, m, f2, D, Pl, rfl, _, hl, hm, hmm, _, hi⟩
          · refine ⟨[], ?_, by simp [maxLen], fun x hx => by cases hx⟩
            simp only [Ty.cells]
            refine Cs.mk1 ?_
            simp only [C, List.length_nil]
            exact ⟨none, 0, rfl, Nat.le_refl _, by simp [maxLen], fun _ => rfl, fun h => absurd h (by omega)⟩
          · have hle : len ≤ m := by rw [hmm]; split <;> omega
            obtain ⟨l, vs, q1, q2, q3, q4, q5⟩ := rows_open (w := w) (base := base) (z := z) (a := a) len fun i hil => by
              obtain ⟨cs', g1, g2⟩ := hi i (by omega)
              rw [h2] at g1
              exact ⟨cs', g1, trod_open n e z f2 cs' _ nowhere h1 g2⟩
            refine ⟨l, ?_, ⟨by omega, q5⟩⟩
            simp only [Ty.cells]
            refine Cs.mk1 ?_
            simp only [C]
            refine ⟨some a, cap, by rw [q1], by omega, hm, fun h0 => by have : l = [] := List.eq_nil_of_length_eq_zero h0; subst this; rfl, fun hp => ?_⟩
            rw [q1] at hp
            obtain ⟨v0, hv0⟩ : ∃ v, vs[0]? = some v := by
              have : 0 < vs.length := by rw [q3]; exact Nat.mul_pos hp h3
              exact ⟨_, List.getElem?_eq_getElem this⟩
            have h0 := q4 0 (Nat.mul_pos hp h3)
            rw [hv0] at h0
            obtain ⟨b, off, spot⟩ := a
            have hsp : spot = none := by
              simp only [World.cell?, Addr.add] at h0
              cases spot with
              | none => rfl
              | some s => split at h0 <;> simp at h0
            subst hsp
            refine ⟨b, off, vs, rfl, q2, ?_, fun j _ h => h, fun j u hu' => ?_, fun u hu' => ?_⟩
            · rcases Nat.lt_or_ge b w.heap.size with hlt | hge
              · exact hlt
              · simp [World.cell?, Addr.add, Array.getElem?_eq_none hge] at h0
            · have hj : j < len * z.sz := by rw [← q3]; exact (List.getElem?_eq_some_iff.1 hu').1
              have := q4 j hj
              have ha : (Addr.mk b off none).add j = ⟨b, off + j, none⟩ := by by_cases h0 : j = 0 <;> simp [Addr.add, h0]
              rw [ha, hu'] at this
              exact this
            · exact (rows_one l vs q2) u hu'
      case struct fs =>
        simp only [Bool.and_eq_true, decide_eq_true_eq] at h
        obtain ⟨⟨_, h2⟩, h3⟩ := h
        obtain ⟨xs, m, _, _, hlen, hxl, hf⟩ := DataW.trod_struct hu hx
        have := fields_open (n := m) (cs := cs) (σ := σ) (fun t y cs x => trod_open n t y m cs x σ) fs.toList 0 y h3 (fun i f hi => by
          have hi' : fs[i]? = some f := by simpa using hi
          have hlt := (Array.getElem?_eq_some_iff.1 hi').1
          exact ⟨xs[i]'(by omega), (hf i f hi').trans (List.getElem?_eq_getElem _)⟩) (by omega)
        simpa using this
/-- an argument, as it is read -/
theorem arg_open {n : Nat} {t : TypeId} {y : Ty} {v : Value} {r : Reach} {b0 : Nat} {d : DataW H} {ps : List MemPlace} (h : tyIs P (n + 1) t y = true) (hval : Value.okWide P w r b0 t v) (hd : DataW.Trod enc P w base sp held t v d ps) :
    ∃ z : y.T, C noX w σ (V.t y z).d v ∧ y.wf z := by
  have h' := h
  obtain ⟨fuel, hf⟩ := hd
  obtain ⟨z, hz, hw⟩ := trod_open (n + 1) t y fuel _ _ σ h hf
  refine ⟨z, ?_, hw⟩
  simp only [tyIs] at h
  simp only [V.d]
  cases hu : P.underlying t with
  | none => rw [hu] at h; cases h
  | some dsc =>
    rw [hu] at h
    cases dsc <;> simp only [Bool.false_eq_true] at h
    case int k =>
      simp only [decide_eq_true_eq] at h
      subst h
      obtain ⟨m, rfl, _⟩ := open_int hu hval ⟨fuel, hf⟩
      simp only [Ty.cells, Value.cells] at hz
      obtain ⟨u, e, hc⟩ := hz.one
      simp at e
      subst e
      exact hc
    case bool =>
      simp only [decide_eq_true_eq] at h
      subst h
      obtain ⟨m, rfl, _⟩ := open_bool hu hval ⟨fuel, hf⟩
      simp only [Ty.cells, Value.cells] at hz
      obtain ⟨u, e, hc⟩ := hz.one
      simp at e
      subst e
      exact hc
    case string =>
      simp only [decide_eq_true_eq] at h
      subst h
      obtain ⟨m, rfl, _⟩ := Go.ChangeMaps.open_string hu hval ⟨fuel, hf⟩
      simp only [Ty.cells, Value.cells] at hz
      obtain ⟨u, e, hc⟩ := hz.one
      simp at e
      subst e
      exact hc
    case slice e =>
      cases y <;> simp only [Bool.false_eq_true] at h
      case sl z' =>
        obtain ⟨a, len, cap, rfl⟩ := okWide_slice hu hval
        simp only [Ty.cells, Value.cells] at hz
        obtain ⟨u, e, hc⟩ := hz.one
        simp at e
        subst e
        exact hc
    case struct fs =>
      simp only [Bool.and_eq_true] at h
      obtain ⟨cs, rfl, _⟩ := okWide_struct hu hval
      rw [y.d_row z h.1.1]
      simp only [C]
      exact ⟨cs.toList, by simp, by simpa [Value.cells] using hz⟩
end
end Go.Proofs.Ytnimpcffagidoaa.K
