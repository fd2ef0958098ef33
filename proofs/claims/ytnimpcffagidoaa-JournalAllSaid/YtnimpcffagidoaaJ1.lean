/-
 Journals: what is written and read, in types.
-/
import Derived.Test.YtnimpcffagidoaaL5
import Derived.Test.YtnimpcffagidoaaWhole
import Derived.Test.YtnimpcffagidoaaAwake42
import Derived.KernelRfl
set_option linter.unusedSimpArgs false
set_option linter.unusedVariables false
namespace Go.Proofs.Ytnimpcffagidoaa.K
open Go.RowKit
noncomputable section
def encV (d : Decision) : ByteArray × Int := if validB (dec d) then (⟨(dec d).bytes.toArray⟩, 0) else (⟨#[]⟩, 57)
def sp_f45 : Ent := spec (.pr tyDecision .nil) (fun x => true) (fun x => (.tu [(.t .str ((encV x.1).1)), (.t tI ((encV x.1).2))]))
theorem en_f45 : Entered Try.prog 45 := .inr ⟨by decide, _, Try.func45, by kernel_rfl, by kernel_rfl⟩
theorem ms_f45 : Meets Try.prog 45 (strip sp_f45) := meets_calls fun x _ X w σ vs hfin hc => by
 simp only [Ty.canon] at hc
 obtain ⟨us, rfl, k1⟩ := arg_dec hc
 simp only [V.ds, Cs] at k1
 subst k1
 cases hv : validB (dec x.1) with
 | true =>
  refine (encode_yes _ _ _ _ _ w hv).mono ?_
  rintro r w' ⟨rfl, hb⟩
  refine ⟨_, rfl, ?_, hb⟩
  simp only [encV, hv, if_true, V.d, V.ds, C]
  refine ⟨[_, _], rfl, ?_⟩
  simp only [Cs]
  exact ⟨_, _, rfl, ⟨rfl, rfl⟩, _, _, rfl, c_int _, rfl⟩
 | false =>
  refine (encode_no (dec x.1) w hv).mono ?_
  rintro r w' ⟨rfl, hb⟩
  refine ⟨_, rfl, ?_, hb⟩
  simp only [encV, hv, V.d, V.ds, C]
  refine ⟨[_, _], rfl, ?_⟩
  simp only [Cs]
  exact ⟨_, _, rfl, ⟨rfl, rfl⟩, _, _, rfl, c_int _, rfl⟩
def sz6 (s : ByteArray) : Bool := decide (s.size ≤ 1000000)
def openV (s : ByteArray) : List Decision × Int := ((opens s).map und, ((12 * (opens s).length : Nat) : Int))
def sp_f19 : Ent := spec (.pr .str .nil) (fun x => (sz6 x.1)) (fun x => (.tu [(.t (.sl tyDecision) ((openV x.1).1)), (.t tI ((openV x.1).2))]))
theorem en_f19 : Entered Try.prog 19 := .inr ⟨by decide, _, Try.func19, by kernel_rfl, by kernel_rfl⟩
theorem arg_str {X : Nat → Nat → Prop} {w : World} {σ : Pl} {s : ByteArray} {rest : List V} {us : List Value} (h : Cs X w σ (V.ds (.t .str s :: rest)) us) : ∃ us', us = .string s :: us' ∧ Cs X w σ (V.ds rest) us' := by
 simp only [V.ds, Cs] at h
 obtain ⟨u, us', rfl, h1, h2⟩ := h
 simp only [V.d, Ty.d, C] at h1
 rw [h1.1]
 exact ⟨us', rfl, h2⟩
theorem ms_f19 : Meets Try.prog 19 (strip sp_f19) := meets_calls fun x hok X w σ vs hfin hc => by
 simp only [sz6, decide_eq_true_eq] at hok
 simp only [Ty.canon] at hc
 obtain ⟨us, rfl, k1⟩ := arg_str hc
 simp only [V.ds, Cs] at k1
 subst k1
 refine (open_own x.1 w hok).mono ?_
 rintro r w' ⟨sv, rfl, ho, _, hb⟩
 refine ⟨_, rfl, ?_, hb⟩
 simp only [openV, V.d, V.ds, C]
 refine ⟨[_, _], rfl, ?_⟩
 simp only [Cs]
 exact ⟨_, _, rfl, c_of_own ho hfin, _, _, rfl, c_int _, rfl⟩
def wholeV (s : ByteArray) : ByteArray := s.extract 0 (12 * (opens s).length)
def sp_f23 : Ent := spec (.pr .str .nil) (fun x => (sz6 x.1)) (fun x => (.t .str (wholeV x.1)))
theorem en_f23 : Entered Try.prog 23 := .inr ⟨by decide, _, Try.func23, by kernel_rfl, by kernel_rfl⟩
theorem ms_f23 : Meets Try.prog 23 (strip sp_f23) := meets_calls fun x hok X w σ vs hfin hc => by
 simp only [sz6, decide_eq_true_eq] at hok
 simp only [Ty.canon] at hc
 obtain ⟨us, rfl, k1⟩ := arg_str hc
 simp only [V.ds, Cs] at k1
 subst k1
 refine (whole_any x.1 w hok).mono ?_
 rintro r w' ⟨rfl, hb⟩
 exact ⟨_, rfl, ⟨rfl, rfl⟩, hb⟩
def awake2 : Bool := true
def sp_f14 : Ent := spec .nil (fun x => true) (fun x => (.t .bool awake2))
theorem en_f14 : Entered Try.prog 14 := .inr ⟨by decide, _, Try.func14, by kernel_rfl, by kernel_rfl⟩
theorem ms_f14 : Meets Try.prog 14 (strip sp_f14) := meets_calls fun x hok X w σ vs hfin hc => by
 simp only [Ty.canon, V.ds, Cs] at hc
 subst hc
 refine (awake42 w).mono ?_
 rintro r w' ⟨rfl, hb⟩
 exact ⟨_, rfl, c_bool _, hb⟩
end
end Go.Proofs.Ytnimpcffagidoaa.K
