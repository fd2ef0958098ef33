/-
 Functions on texts at any world; the walk of (*parser).line.
-/
import Derived.Test.YtkkoedniahnneaaDoorA5
import Derived.Deep.RegionHeld3
import Derived.Lib.Hide
set_option linter.unusedSimpArgs false
set_option linter.unusedVariables false
namespace Go.Proofs.YtkkoedniahnneaaDoor.K
open Go.RowKit
theorem lent_nil {X : Nat → Nat → Prop} {w : World} {σ : Pl} : Lent X w σ [] := ⟨fun j o hj => by simp at hj, fun i j b _ hi => by simp at hi⟩
theorem ends_below {X X' : Nat → Nat → Prop} {w w' : World} {σ σ' : Pl} {os : List VO} (h : Ends X w σ 0 X' w' σ' os) : Below w.heap.size w w' :=
 ⟨h.fr.os, h.fr.tape, h.fr.output, h.fr.size, fun b hb => h.fr.keep b hb (by simp [lentB])⟩
theorem grown_below {w w' : World} (h : Below w.heap.size w w') : w.grownBy w' none := ⟨h.os, h.tape, h.output, h.size, fun j hj _ => h.block j hj⟩
theorem sc_calls {f : FuncId} {E : Ent} {vs : List V} {r : V} {us : List Value} (hm : Meets Tryd.prog f (strip E)) (hF : strip E vs [] = some (r, [])) (w : World) (hc : ∀ X : Nat → Nat → Prop, Cs X w nowhere (V.ds vs) us) (hlt : f < 1000000 := by decide) :
  Calls Tryd.prog f us.toArray w fun en w' => ∃ u X' σ', en = .returned u ∧ C X' w' σ' r.d u ∧ Below w.heap.size w w' := by
 refine (of_does hlt (hm _ _ _ _ hF (fun _ _ => False) w nowhere us (fun _ _ h => h.elim) lent_nil (hc _))).mono ?_
 rintro en w' ⟨u, X', σ', rfl, h1, h2⟩
 exact ⟨u, X', σ', rfl, h1, ends_below h2⟩
theorem trim_calls (s : ByteArray) (w : World) (h : s.size ≤ 9223372036854775807) : Calls Tryd.prog 107 #[.string s] w fun e w' => e = .returned (.string (tB s)) ∧ Below w.heap.size w w' := by
 have hF : strip sp_f107 [.t .str s] [] = some (.t .str (tB s), []) := by
  unfold sp_f107
  exact strip_spec (a := .pr .str .nil) (x := (s, ())) (by simp [Ty.args, as_t]) (decide_eq_true h)
 refine (sc_calls ms_f107 hF w fun X => ⟨_, _, rfl, ⟨rfl, rfl⟩, rfl⟩).mono ?_
 rintro en w' ⟨u, X', σ', rfl, h1, h2⟩
 have h1 : C X' w' σ' (.v (.string (tB s))) u := h1
 simp only [C] at h1
 obtain ⟨rfl, _⟩ := h1
 exact ⟨rfl, h2⟩
theorem clean_calls (s : ByteArray) (w : World) (h : s.size ≤ 9223372036854775807) : Calls Tryd.prog 105 #[.string s] w fun e w' => e = .returned (.bool (clB s)) ∧ Below w.heap.size w w' := by
 have hF : strip sp_f105 [.t .str s] [] = some (.t .bool (clB s), []) := by
  unfold sp_f105
  exact strip_spec (a := .pr .str .nil) (x := (s, ())) (by simp [Ty.args, as_t]) (decide_eq_true h)
 refine (sc_calls ms_f105 hF w fun X => ⟨_, _, rfl, ⟨rfl, rfl⟩, rfl⟩).mono ?_
 rintro en w' ⟨u, X', σ', rfl, h1, h2⟩
 have h1 : C X' w' σ' (.v (.bool (clB s))) u := h1
 simp only [C] at h1
 obtain ⟨rfl, _⟩ := h1
 exact ⟨rfl, h2⟩
theorem word_calls (s : ByteArray) (w : World) (h : s.size ≤ 9223372036854775807) : Calls Tryd.prog 103 #[.string s] w fun e w' => e = .returned (.bool (wrdB s)) ∧ Below w.heap.size w w' := by
 have hF : strip sp_f103 [.t .str s] [] = some (.t .bool (wrdB s), []) := by
  unfold sp_f103
  exact strip_spec (a := .pr .str .nil) (x := (s, ())) (by simp [Ty.args, as_t]) (decide_eq_true h)
 refine (sc_calls ms_f103 hF w fun X => ⟨_, _, rfl, ⟨rfl, rfl⟩, rfl⟩).mono ?_
 rintro en w' ⟨u, X', σ', rfl, h1, h2⟩
 have h1 : C X' w' σ' (.v (.bool (wrdB s))) u := h1
 simp only [C] at h1
 obtain ⟨rfl, _⟩ := h1
 exact ⟨rfl, h2⟩
theorem sfx_calls (s : ByteArray) (w : World) (h : s.size ≤ 9223372036854775807) : Calls Tryd.prog 104 #[.string s, .string ⟨#[92]⟩] w fun e w' => e = .returned (.bool (bsl s)) ∧ w' = w := by
 refine (Any.strings_HasSuffix Tryd.lays100 s ⟨#[92]⟩ w h).mono ?_
 rintro e w' ⟨rfl, rfl⟩
 refine ⟨?_, rfl⟩
 have : Lib.hasSuffix s.data.toList (ByteArray.mk #[92]).data.toList = bsl s := by
  show [(92 : UInt8)].isSuffixOf (bl s) = bsl s
  unfold bsl
  rw [Bool.eq_iff_iff, List.isSuffixOf_iff_suffix, beq_iff_eq, List.getLast?_eq_some_iff]
  exact ⟨fun ⟨r, hr⟩ => ⟨r, hr.symm⟩, fun ⟨r, hr⟩ => ⟨r, hr.symm⟩⟩
 rw [this]
end Go.Proofs.YtkkoedniahnneaaDoor.K
