/-
  Walks by values: loops.
-/
import Derived.Test.YtnimpcffagidoaaD7
import Derived.IntWalk
namespace Go.Proofs.Ytnimpcffagidoaa
open Go.RowKit
set_option linter.unusedSimpArgs false
set_option linter.unusedVariables false

def RO.wr (r : RO) : List Nat := r.dst.toList
/-- the slots that a part of a function writes -/
def AC.wr : AC → List Nat
  | .reg rs => rs.flatMap RO.wr
  | .dr ds => ds.flatMap fun d => d.r.wr
  | .sq a b => a.wr ++ b.wr
  | .cd _ a b => a.wr ++ b.wr
  | .bk _ a => a.wr
  | .lp a => a.wr
  | _ => []
def anyAt (ts : List D) : List Nat → List D
  | [] => ts
  | s :: r => anyAt (ts.set s .any) r
def setL (ts : List D) : List (Nat × D) → List D
  | [] => ts
  | (s, d) :: r => setL (ts.set s d) r
/-- the slots at a loop's head: what the loop writes is forgotten, but for some -/
def headTs (ts : List D) (a : AC) (l : List (Nat × D)) : List D := setL (anyAt ts a.wr) l

section
variable {P : Program} {B : Base} {Q : Exit → St → Prop}
/-- THE RULE of a loop -/
theorem jv_loop {ι : Type} {S : St} {a : AC} (I : ι → Prop) (L : ι → List (Nat × D)) (lo : ι → List LO) (no : ι → List NO) (μ : ι → Nat) (i0 : ι) (hi : I i0) (h0 : Less S ⟨headTs S.ts a (L i0), lo i0, no i0⟩)
    (round : ∀ i, I i → JV P B (thenQ (fun S' => ∃ j, I j ∧ μ j < μ i ∧ Less S' ⟨headTs S.ts a (L j), lo j, no j⟩) Q) a ⟨headTs S.ts a (L i), lo i, no i⟩) : JV P B Q (.lp a) S := by
  refine jv_lp (ι := {i // I i}) (fun i => ⟨headTs S.ts a (L i.1), lo i.1, no i.1⟩) (fun i => μ i.1) ⟨i0, hi⟩ h0 (fun i => ?_)
  refine jv_mono (round i.1 i.2) ?_
  intro e S' h
  cases e with
  | normal =>
    obtain ⟨j, h1, h2, h3⟩ := h
    exact ⟨⟨j, h1⟩, h2, h3⟩
  | _ => exact h

theorem set_same {us : List Value} {s : Nat} {u : Value} (hu : us[s]? = some u) : us.set s u = us := by
  apply List.ext_getElem?
  intro m
  rw [List.getElem?_set]
  split
  · rename_i he
    subst he
    split
    · exact hu.symm
    · rename_i hl
      rw [List.getElem?_eq_none (by omega)] at hu
      cases hu
  · rfl
theorem nil_tok {X : Nat → Nat → Prop} {w : World} {σ : List SC} {n : Nat} (hn : σ.length = n) : C X w (σ ++ [.tok 0 (.slice none 0 0)]) (.sl (some (n, 0)) 0 []) (.slice none 0 0) := by
  simp only [C]
  refine ⟨⟨none, 0, rfl, Nat.le_refl _, by simp [maxLen], fun _ => trivial, fun h => absurd h (by omega)⟩, fun k g hk => ?_⟩
  simp only [Option.some.injEq, Prod.mk.injEq] at hk
  obtain ⟨rfl, rfl⟩ := hk
  exact ⟨0, _, by rw [← hn]; simp, Nat.le_refl _, fun _ => rfl⟩
/-- a nil slice in a slot may be appended to -/
theorem jv_nilslot {ac : AC} {ts : List D} {lo : List LO} {no : List NO} (s e sz : Nat) (hs : ts[s]? = some (.v (.slice none 0 0))) (h : JV P B Q ac ⟨ts.set s (.sl (some (lo.length, 0)) 0 []), lo ++ [.tok e sz 0], no⟩) : JV P B Q ac ⟨ts, lo, no⟩ := by
  intro c hc X w σ us hi hcs
  obtain ⟨q1, q2⟩ := Inv.nil_ hi e sz
  have hc' := Cs.ext q2 _ _ hcs
  obtain ⟨u, hu, hcu⟩ := hc'.at_ hs
  have := hc'.set_ s (d := .sl (some (lo.length, 0)) 0 []) (u := u) (by rw [hcu.v.1]; exact nil_tok (Inv.len hi))
  rw [set_same hu] at this
  exact h c hc X w _ us q1 this
/-- a nil slice in a variable may be appended to -/
theorem jv_nilbox {ac : AC} {ts : List D} {lo : List LO} {no : List NO} (k off e sz : Nat) {cs : List D} (hk : lo[k]? = some (.box cs)) (ho : cs[off]? = some (.v (.slice none 0 0))) (h : JV P B Q ac ⟨ts, lo.set k (.box (cs.set off (.sl (some (lo.length, 0)) 0 []))) ++ [.tok e sz 0], no⟩) : JV P B Q ac ⟨ts, lo, no⟩ := by
  intro c hc X w σ us hi hcs
  obtain ⟨q1, q2⟩ := Inv.nil_ hi e sz
  have hlk := (List.getElem?_eq_some_iff.1 hk).1
  have hset : lo.set k (.box (cs.set off (.sl (some (lo.length, 0)) 0 []))) ++ [LO.tok e sz 0] = (lo ++ [LO.tok e sz 0]).set k (.box (cs.set off (.sl (some (lo.length, 0)) 0 []))) := by
    rw [List.set_append_left _ _ hlk]
  refine h c hc X w _ us ?_ (Cs.ext q2 _ _ hcs)
  rw [hset]
  refine ⟨q1.fin, by simpa using q1.len, fun i s l hi' hl' => ?_, q1.nos, q1.nod, q1.own, q1.ownT, q1.lnt, q1.lt, q1.fr, q1.old⟩
  by_cases hik : i = k
  · subst hik
    rw [List.getElem?_set_self (by simp; omega), Option.some.injEq] at hl'
    subst hl'
    have hat := q1.los i s (.box cs) hi' (by rw [List.getElem?_append_left hlk]; exact hk)
    cases s with
    | tok g u => exact hat.elim
    | box b =>
      obtain ⟨⟨t, vs, e1, e2⟩, e3⟩ := hat
      obtain ⟨u, hu, hcu⟩ := e2.at_ ho
      have := e2.set_ off (d := .sl (some (lo.length, 0)) 0 []) (u := u) (by rw [hcu.v.1]; exact nil_tok (Inv.len hi))
      rw [set_same hu] at this
      exact ⟨⟨t, vs, e1, this⟩, e3⟩
  · rw [List.getElem?_set_ne (fun q => hik q.symm)] at hl'
    exact q1.los i s l hi' hl'
end
end Go.Proofs.Ytnimpcffagidoaa
