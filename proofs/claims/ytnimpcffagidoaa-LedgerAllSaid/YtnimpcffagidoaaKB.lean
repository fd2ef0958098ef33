/-
  From a contract of calls to what is said in types, and from there to a law's row.
-/
import Derived.Test.YtnimpcffagidoaaK23
namespace Go.Proofs.Ytnimpcffagidoaa.K
open Go.RowKit
set_option linter.unusedSimpArgs false
set_option linter.unusedVariables false

section
variable {P : Program} {X : Nat → Nat → Prop} {w : World} {σ : Pl}
theorem fr_below {w w' : World} (h : Below w.heap.size w w') : Fr [] w w' := ⟨h.os, h.tape, h.output, h.size, fun b hb _ => h.block b hb⟩
theorem ends_none {w w' : World} {m : Nat} (hm : m = 0) (hfin : ∀ b q, X b q → b < w.heap.size) (h : Below w.heap.size w w') : Ends X w σ m X w' σ [] := by
  subst hm
  exact ⟨fun b q hq => Nat.lt_of_lt_of_le (hfin b q hq) h.size, ⟨fun j o hj => by simp at hj, fun i j b _ hi => by simp at hi⟩, by simp, fun _ _ => rfl, fun j b _ hj => by simp at hj, fr_below h, fun _ _ _ => Iff.rfl⟩
/-- a contract of calls, in types -/
theorem meets_calls {f : FuncId} {a : Ty} {ok : a.T → Bool} {F : a.T → V} (h : ∀ x, ok x = true → ∀ X w σ vs, (∀ b q, X b q → b < w.heap.size) → Cs X w σ (V.ds (a.canon x)) vs →
    Calls P f vs.toArray w fun e w' => ∃ u, e = .returned u ∧ C X w' σ (F x).d u ∧ Below w.heap.size w w') : Meets P f (strip (spec a ok F)) := by
  intro args objs r os hF X w σ vs hfin hl hc
  unfold strip spec at hF
  cases objs with
  | cons o os' => simp at hF
  | nil =>
    simp only at hF
    cases ha : a.args args with
    | none => rw [ha] at hF; cases hF
    | some x =>
      rw [ha] at hF
      simp only at hF
      split at hF
      · rename_i r' os' hq
        simp only [Option.some.injEq, Prod.mk.injEq] at hF hq
        obtain ⟨rfl, rfl⟩ := hF
        obtain ⟨h1, rfl, rfl⟩ := hq
        refine (h x h1 X w σ vs hfin (canon_cs ha hc)).mono ?_
        rintro e w' ⟨u, e1, e2, e3⟩
        exact ⟨u, X, σ, e1, e2, ends_none rfl hfin e3⟩
      · cases hF
/-- what a function without lent things hands back: a plain value -/
theorem calls_of_meets {f : FuncId} {F : Fun} (h : Meets P f F) {args : List V} {x : Value} (hF : F args [] = some (.c x, [])) {W : World} {vs : List Value} (hc : Cs (fun _ _ => False) W (fun _ => .no) (V.ds args) vs) :
    Calls P f vs.toArray W fun r w' => r = .returned x ∧ Below W.heap.size W w' := by
  refine (h args [] _ _ hF (fun _ _ => False) W (fun _ => .no) vs (fun _ _ h => h.elim) ⟨fun j o hj => by simp at hj, fun i j b _ hi => by simp at hi⟩ hc).mono ?_
  rintro e w' ⟨u, X', σ', rfl, h1, h2⟩
  simp only [V.d, C] at h1
  rw [h1.1]
  exact ⟨rfl, h2.fr.os, h2.fr.tape, h2.fr.output, h2.fr.size, fun b hb => h2.fr.keep b hb (by simp [lentB])⟩
theorem calls_true {f : FuncId} {F : Fun} (h : Meets P f F) {args : List V} (hF : F args [] = some (.t .bool true, [])) {W : World} {vs : List Value} (hc : Cs (fun _ _ => False) W (fun _ => .no) (V.ds args) vs) :
    Calls P f vs.toArray W fun r w' => r = .returned (.bool true) ∧ Below W.heap.size W w' := by
  refine (h args [] _ _ hF (fun _ _ => False) W (fun _ => .no) vs (fun _ _ h => h.elim) ⟨fun j o hj => by simp at hj, fun i j b _ hi => by simp at hi⟩ hc).mono ?_
  rintro e w' ⟨u, X', σ', rfl, h1, h2⟩
  simp only [V.d, Ty.d, C] at h1
  rw [h1.1]
  exact ⟨rfl, h2.fr.os, h2.fr.tape, h2.fr.output, h2.fr.size, fun b hb => h2.fr.keep b hb (by simp [lentB])⟩
theorem ints_cs {k : IntKind} : ∀ (zs : List Int), Cs X w σ (zs.flatMap (Ty.int k).cells) (zs.map (Value.int k))
  | [] => by simp [Cs]
  | z :: zs => by
    simp only [List.flatMap_cons, Ty.cells, List.singleton_append, List.map_cons, Cs]
    exact ⟨_, _, rfl, ⟨rfl, rfl⟩, ints_cs zs⟩
/-- a row of whole numbers, as a value -/
theorem introw_c {k : IntKind} {W : World} {a : Option Addr} {len cap : Nat} {zs : List Int} (hr : IsRow k W a len cap zs) : C (fun _ _ => False) W σ (V.t (.sl (.int k)) (zs.take len)).d (.slice a len cap) := by
  rcases hr with ⟨rfl, rfl, rfl, rfl⟩ | ⟨x, rfl, h1, h2, h3, h4, h5⟩
  · simp only [V.d, Ty.d, C, List.take_nil, List.length_nil]
    exact ⟨none, 0, rfl, Nat.le_refl _, by simp [maxLen], fun _ => rfl, fun h => absurd h (by omega)⟩
  · have hlen : (zs.take len).length = len := by rw [List.length_take]; omega
    simp only [V.d, Ty.d, C, hlen]
    refine ⟨some x, cap, rfl, h1, h2, fun h => by subst h; simp, fun h => ?_⟩
    obtain ⟨b, off, sp⟩ := x
    have h0 := h4 0 (by omega)
    have hsp : sp = none := by
      simp only [World.cell?, Addr.add] at h0
      cases sp with
      | none => rfl
      | some s => split at h0 <;> simp at h0
    subst hsp
    refine ⟨b, off, _, rfl, ints_cs _, ?_, fun j _ h => h, fun j u hu => ?_, fun u hu => ?_⟩
    · rcases Nat.lt_or_ge b W.heap.size with hlt | hge
      · exact hlt
      · simp [World.cell?, Addr.add, Array.getElem?_eq_none hge] at h0
    · rw [List.getElem?_map] at hu
      have hj : j < len := by
        rcases Nat.lt_or_ge j len with hlt | hge
        · exact hlt
        · rw [List.getElem?_eq_none (by omega)] at hu; cases hu
      have := h4 j (by omega)
      rw [List.getElem?_take_of_lt hj, List.getElem?_eq_getElem (by omega)] at hu
      rw [List.getD_eq_getElem?_getD, List.getElem?_eq_getElem (by omega)] at this
      simp only [Option.map_some, Option.some.injEq] at hu
      subst hu
      have ha : (Addr.mk b off none).add j = ⟨b, off + j, none⟩ := by by_cases h0 : j = 0 <;> simp [Addr.add, h0]
      rw [ha] at this
      simpa using this
    · simp only [List.mem_map] at hu
      obtain ⟨z, _, rfl⟩ := hu
      rfl
theorem strip_spec {a : Ty} {ok : a.T → Bool} {F : a.T → V} {args : List V} {x : a.T} (h : a.args args = some x) (hok : ok x = true) : strip (spec a ok F) args [] = some (F x, []) := by
  simp [strip, spec, h, hok]
theorem wf_u8 {n : Int} (h : (Lit.int .u8 n).wf = true) : 0 ≤ n ∧ n ≤ 255 := by
  simp [Lit.wf, IntKind.min, IntKind.max, IntKind.bits, IntKind.signed] at h
  omega
theorem wf_u16 {n : Int} (h : (Lit.int .u16 n).wf = true) : 0 ≤ n ∧ n ≤ 65535 := by
  simp [Lit.wf, IntKind.min, IntKind.max, IntKind.bits, IntKind.signed] at h
  omega
theorem wf_i64 {n : Int} (h : (Lit.int .i64 n).wf = true) : -9223372036854775808 ≤ n ∧ n ≤ 9223372036854775807 := by
  simp [Lit.wf, IntKind.min, IntKind.max, IntKind.bits, IntKind.signed] at h
  omega
end
end Go.Proofs.Ytnimpcffagidoaa.K
