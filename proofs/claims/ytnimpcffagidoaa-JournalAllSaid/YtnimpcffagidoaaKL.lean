/-
 The ledger's functions whose contracts are there, in types.
-/
import Derived.Test.YtnimpcffagidoaaQ41
import Derived.Test.YtnimpcffagidoaaKD
import Derived.Test.YtnimpcffagidoaaM1
set_option linter.unusedSimpArgs false
set_option linter.unusedVariables false
namespace Go.Proofs.Ytnimpcffagidoaa.K
open Go.RowKit
noncomputable section
def dec (d : Decision) : Dec := ⟨d.1, d.2.1, d.2.2.1, d.2.2.2.1, d.2.2.2.2.1⟩
def und (d : Dec) : Decision := (d.day, d.known, d.kind, d.subject, d.value, ())
abbrev decs (l : List Decision) : List Dec := l.map dec
theorem dec_und (d : Dec) : dec (und d) = d := rfl
theorem und_dec (d : Decision) : und (dec d) = d := rfl
theorem und_decs (l : List Decision) : (decs l).map und = l := by
 simp only [decs, List.map_map]
 exact List.map_id'' und_dec l
theorem cells_ints : ∀ (l : List Decision), List.flatMap tyDecision.cells l = (l.flatMap fun d => [d.1, d.2.1, d.2.2.1, d.2.2.2.1, d.2.2.2.2.1]).flatMap (Ty.int .i64).cells
 | [] => rfl
 | d :: l => by rw [List.flatMap_cons, cells_ints l, List.flatMap_cons, List.flatMap_append]; rfl
theorem decCells_int : ∀ (l : List Decision), decCells (decs l) = (l.flatMap fun d => [d.1, d.2.1, d.2.2.1, d.2.2.2.1, d.2.2.2.2.1]).map (Value.int .i64)
 | [] => rfl
 | d :: l => by
  have := decCells_int l
  simp only [decCells, decs, List.map_cons, List.flatMap_cons, List.map_append] at this ⊢
  rw [this]
  rfl
theorem dec_len : ∀ (l : List Decision), (decCells (decs l)).length = l.length * 5
 | [] => rfl
 | d :: l => by
  have := dec_len l
  simp only [decCells, decs, List.map_cons, List.flatMap_cons, List.length_append, List.length_cons] at this ⊢
  rw [this]
  simp only [Dec.cells, List.length_cons, List.length_nil]
  omega
theorem cs_intsK {X : Nat → Nat → Prop} {w : World} {σ : Pl} {k : IntKind} : ∀ {zs : List Int} {vs : List Value}, Cs X w σ (zs.flatMap (Ty.int k).cells) vs → vs = zs.map (Value.int k)
 | [], vs, h => by simpa [Cs] using h
 | z :: zs, vs, h => by
  simp only [List.flatMap_cons, Ty.cells, List.singleton_append, Cs] at h
  obtain ⟨u, us, rfl, h1, h2⟩ := h
  simp only [C] at h1
  rw [h1.1, cs_intsK h2]
  rfl
section
variable {X : Nat → Nat → Prop} {w : World} {σ : Pl}
theorem led_of {l : List Decision} {v : Value} (h : C X w σ (V.t (.sl tyDecision) l).d v) : ∃ A c, v = .slice A (decs l).length c ∧ Led w (.slice A (decs l).length c) (decs l) := by
 simp only [V.d, Ty.d, C] at h
 obtain ⟨A, c, rfl, h2, h3, h4, h5⟩ := h
 refine ⟨A, c, by simp, by rw [dec_len]; simp, A, c, rfl, by simpa using h2, h3, fun hn => ?_⟩
 obtain ⟨b, off, vs, rfl, e1, e2⟩ := h5 (by simpa using hn)
 rw [cells_ints] at e1
 have := cs_intsK e1
 subst this
 exact ⟨b, off, rfl, e2.lt, fun j u hu => e2.at_ j u (by rw [← decCells_int]; exact hu)⟩
theorem c_of_led {ds : List Dec} {v : Value} (h : Led w v ds) (hx : ∀ b, v.ownBlock = some b → ∀ o, ¬ X b o) : C X w σ (V.t (.sl tyDecision) (ds.map und)).d v := by
 obtain ⟨h1, A, c, rfl, h2, h3, h4⟩ := h
 have hd : decs (ds.map und) = ds := by simp only [decs, List.map_map]; exact List.map_id'' dec_und ds
 simp only [V.d, Ty.d, C, List.length_map]
 refine ⟨A, c, rfl, h2, h3, fun hn => ?_, fun hn => ?_⟩
 ·have : ds = [] := List.eq_nil_of_length_eq_zero hn
  subst this
  rfl
 ·obtain ⟨b, off, rfl, e1, e2⟩ := h4 hn
  refine ⟨b, off, _, rfl, by rw [cells_ints]; exact ints_cs _, e1, fun j hj => hx b rfl _, fun j u hu => e2 j u (by rw [← hd, decCells_int]; exact hu), fun u hu => ?_⟩
  simp only [List.mem_map] at hu
  obtain ⟨z, _, rfl⟩ := hu
  rfl
theorem c_of_own {B : Nat} {ds : List Dec} {v : Value} (h : Own w B v ds) (hx : ∀ b o, X b o → b < B) : C X w σ (V.t (.sl tyDecision) (ds.map und)).d v := by
 refine c_of_led (Sl.of_own h) fun b hb o hX => ?_
 have := hx b o hX
 rcases h.2 with ⟨rfl, _⟩ | ⟨g, cap, cur, rfl, hg, _⟩
 ·cases hb
 ·simp only [Value.ownBlock, Option.some.injEq] at hb
  omega
theorem arg_led {l : Ledger} {rest : List V} {us : List Value} (h : Cs X w σ (V.ds (.t tyLedger l :: rest)) us) : ∃ A c us', us = .agg #[.slice A (decs l.1).length c] :: us' ∧ Led w (.slice A (decs l.1).length c) (decs l.1) ∧ Cs X w σ (V.ds rest) us' := by
 simp only [V.ds, Cs] at h
 obtain ⟨u, us', rfl, h1, h2⟩ := h
 simp only [V.d, Ty.d, C] at h1
 obtain ⟨vs, rfl, h1⟩ := h1
 simp only [Ty.cells, List.append_nil, Cs] at h1
 obtain ⟨u, us2, rfl, h3, rfl⟩ := h1
 obtain ⟨A, c, rfl, h4⟩ := led_of (σ := σ) (X := X) (v := u) h3
 exact ⟨A, c, us', rfl, h4, h2⟩
theorem arg_int {k : IntKind} {n : Int} {rest : List V} {us : List Value} (h : Cs X w σ (V.ds (.t (.int k) n :: rest)) us) : ∃ us', us = .int k n :: us' ∧ Cs X w σ (V.ds rest) us' := by
 simp only [V.ds, Cs] at h
 obtain ⟨u, us', rfl, h1, h2⟩ := h
 simp only [V.d, Ty.d, C] at h1
 rw [h1.1]
 exact ⟨us', rfl, h2⟩
theorem arg_dec {d : Decision} {rest : List V} {us : List Value} (h : Cs X w σ (V.ds (.t tyDecision d :: rest)) us) : ∃ us', us = .agg #[.int .i64 d.1, .int .i64 d.2.1, .int .i64 d.2.2.1, .int .i64 d.2.2.2.1, .int .i64 d.2.2.2.2.1] :: us' ∧ Cs X w σ (V.ds rest) us' := by
 simp only [V.ds, Cs] at h
 obtain ⟨u, us', rfl, h1, h2⟩ := h
 simp only [V.d, Ty.d, C] at h1
 obtain ⟨vs, rfl, h1⟩ := h1
 simp only [Ty.cells, List.append_nil, List.singleton_append, Cs] at h1
 obtain ⟨u1, s1, rfl, h3, u2, s2, rfl, h4, u3, s3, rfl, h5, u4, s4, rfl, h6, u5, s5, rfl, h7, rfl⟩ := h1
 simp only [C] at h3 h4 h5 h6 h7
 rw [h3.1, h4.1, h5.1, h6.1, h7.1]
 exact ⟨us', rfl, h2⟩
theorem c_dec (d : Dec) : C X w σ (V.t tyDecision (und d)).d d.val := by
 simp only [V.d, Ty.d, C]
 refine ⟨[_, _, _, _, _], rfl, ?_⟩
 simp only [Ty.cells, List.append_nil, List.singleton_append, Cs, C]
 exact ⟨_, _, rfl, ⟨rfl, rfl⟩, _, _, rfl, ⟨rfl, rfl⟩, _, _, rfl, ⟨rfl, rfl⟩, _, _, rfl, ⟨rfl, rfl⟩, _, _, rfl, ⟨rfl, rfl⟩, rfl⟩
theorem c_led {ds : List Dec} {v : Value} (h : C X w σ (V.t (.sl tyDecision) (ds.map und)).d v) : C X w σ (V.t tyLedger (ds.map und, ())).d (.agg #[v]) := by
 simp only [V.d, Ty.d, C]
 refine ⟨[v], rfl, ?_⟩
 simp only [Ty.cells, List.append_nil, Cs]
 exact ⟨_, _, rfl, h, rfl⟩
theorem c_int {k : IntKind} (n : Int) : C X w σ (V.t (.int k) n).d (.int k n) := ⟨rfl, rfl⟩
theorem c_bool (b : Bool) : C X w σ (V.t .bool b).d (.bool b) := ⟨rfl, rfl⟩
end
def ledLn (l : Ledger) : Bool := decide (l.1.length ≤ 100000)
def addV (l : Ledger) (d : Decision) : Ledger × Int := (((addL (decs l.1) (dec d)).map und, ()), addR (decs l.1) (dec d))
def addOk (l : Ledger) (_d : Decision) : Bool := ledLn l
def sp_f26 : Ent := spec (.pr tyLedger (.pr tyDecision .nil)) (fun x => (addOk x.1 x.2.1)) (fun x => (.tu [(.t tyLedger ((addV x.1 x.2.1).1)), (.t tI ((addV x.1 x.2.1).2))]))
theorem en_f26 : Entered Try.prog 26 := .inr ⟨by decide, _, Try.func26, by kernel_rfl, by kernel_rfl⟩
theorem ms_f26 : Meets Try.prog 26 (strip sp_f26) := meets_calls fun x hok X w σ vs hfin hc => by
 simp only [addOk, ledLn, decide_eq_true_eq] at hok
 simp only [Ty.canon] at hc
 obtain ⟨A, c, us, rfl, hl, k1⟩ := arg_led hc
 obtain ⟨us, rfl, k2⟩ := arg_dec k1
 simp only [V.ds, Cs] at k2
 subst k2
 refine (add_any A c (decs x.1.1) _ _ _ _ _ w hl (by simpa using hok)).mono ?_
 rintro r w' ⟨sv, rfl, ho, hb⟩
 refine ⟨_, rfl, ?_, hb⟩
 simp only [V.d, V.ds, C]
 refine ⟨[_, _], rfl, ?_⟩
 simp only [Cs]
 exact ⟨_, _, rfl, c_led (c_of_own ho hfin), _, _, rfl, c_int _, rfl⟩
def checkV (l : Ledger) : Int := checkR (decs l.1)
open Classical in
end
end Go.Proofs.Ytnimpcffagidoaa.K
