/-
 lifetime: Links, Fails, Wanted, Latest.
-/
import Derived.Test.YtfehjdaielifiaaGreatV20
import Derived.Test.YtfehjdaielifiaaGreatV12K
set_option linter.unusedSimpArgs false
set_option linter.unusedVariables false
namespace Go.Proofs.YtfehjdaielifiaaGreat.K
open Go.RowKit
def orO {α : Type} (a b : Option α) : Option α := match a with
 | some x => some x
 | none => b
theorem orF_pick {RA RB RE : Fun} {a : List V} {o : List VO} {rA rB rE x : Option (V × List VO)} (hA : RA a o = rA) (hB : RB a o = rB) (hE : RE a o = rE) (h : orO rA (orO rB rE) = x) : orF RA (orF RB RE) a o = x := by
 unfold orF
 rw [hA, hB, hE]
 cases rA <;> cases rB <;> exact h
def fineLen (y : Policy) (i : Item) : Bool := polLen y && nameOk i.1
theorem three {y : Policy} {i : Item} (h : fineLen y i = true) : (ofOkA y i = true ∧ i.2.1 = 1 ∧ fineB y i = true) ∨ (ofOkA y i = false ∧ ofOkB y i = true ∧ i.2.1 = 2 ∧ fineB y i = true) ∨ (ofOkA y i = false ∧ ofOkB y i = false ∧ ofOkE y i = true ∧ fineB y i = false) := by
 cases hf : fineB y i with
 | false => exact .inr (.inr ⟨by simp [ofOkA, hf], by simp [ofOkB, hf], by rw [ofOkE, hf]; simpa [fineLen] using h, rfl⟩)
 | true =>
  have hf2 := hf
  simp only [fineB, Bool.and_eq_true] at hf2
  have hk := (itemOk_iff.1 hf2.2).2.1
  by_cases h1 : i.2.1 = 1
  ·exact .inl ⟨by simp [ofOkA, hf, h1, ieq], h1, rfl⟩
  ·have h2 : i.2.1 = 2 := by omega
   exact .inr (.inl ⟨by simp [ofOkA, h2, ieq], by simp [ofOkB, hf, h2, ieq], h2, rfl⟩)
theorem ofE_ne (y : Policy) (i : Item) : ine (ofE y i) 0 = true := by
 unfold ofE
 split <;> rfl
theorem fine_lens {y : Policy} {i : Item} (h : fineB y i = true) : lenOk5 (lksF y i) = true ∧ sgOk (lksF y i) = true ∧ cIx i.2.2.2.1 0 = true ∧ isub .i64 (llen i.2.2.2.1) 1 = ((i.2.2.2.1.length - 1 : Nat) : Int) ∧ cIx i.2.2.2.1 ((i.2.2.2.1.length - 1 : Nat) : Int) = true := by
 simp only [fineB, Bool.and_eq_true] at h
 have hi := (itemOk_iff.1 h.2).2.2.2.1
 have hl : (lksF y i).length = i.2.2.2.1.length := by simp [lksF]
 have h5 : lenOk5 (lksF y i) = true := decide_eq_true (by omega)
 refine ⟨h5, ?_, by simp only [cIx, decide_eq_true_eq]; omega, ?_, by simp only [cIx, decide_eq_true_eq]; omega⟩
 ·rw [sgOk, h5, Bool.true_and]
  cases hq : lksF y i with
  | nil => rw [hq] at hl; simp at hl; omega
  | cons a l => rfl
 ·rw [isub_in (by unfold llen; omega)]
  unfold llen
  omega
def LinksF (y : Policy) (i : Item) : Int × Int := if fineB y i then (if ieq i.2.1 1 then scCount (lksF y i) else sgCount (lksF y i), 0) else (0, ofE y i)
def g_f16A : G := ⟨TYs, [], 19, EL [(50, sp_f50A), (1000015, sp_op_method_0_115)], keeps, (fun _ _ => none), IL [], RL []⟩
theorem gk_f16A : GOk Tryz.prog g_f16A := gok_of _ (by
 intro p hp
 simp only [List.mem_cons, List.not_mem_nil, or_false] at hp
 rcases hp with rfl | rfl
 ·exact ⟨en_f50A, ms_f50A⟩
 ·exact ⟨en_op_method_0_115, ms_op_method_0_115⟩)
def failsL (y : Policy) (i : Item) : Int × Bool := if ieq i.2.1 1 then secFails (lksF y i) else sgFails (lksF y i)
def FailsI (y : Policy) (i : Item) : Int × Bool × Int := if fineB y i then ((failsL y i).1, (failsL y i).2, 0) else (0, false, ofE y i)
def tc_f18A : TC := (.sq (.reg [(oM 2 (.box (.t 0))), (oM 3 (.box (.t 1))), (oP 4 (.mv (cI 0))), (oP 5 (.mv (cB false))), (oP 6 (.mv (cI 0)))]) (.sq (.reg [(oM 12 (.ld true 2 (.t 2))), (oM 13 (.ld true 5 (.t 3))), (oC 14 50 [(.t 12), (.t 13)]), (oV 11 14), (oP 15 (.ext 0 (.t 11))), (oP 16 (.ext 1 (.t 11))), (oV 7 15), (oV 8 16)]) (.sq (.sq (.reg [(oV 17 8), (oP 18 (.bin false .neq (.t 17) (cI 0)))]) (.cd (.t 18) (.sq (.reg [(oV 19 8), (oP 4 (.mv (cI 0))), (oP 5 (.mv (cB false))), (oV 6 19)]) .rt) .sk)) (.sq (.reg [(oV 21 7), (oC 22 1000031 [(.t 21)]), (oV 20 22), (oP 23 (.ext 0 (.t 20))), (oP 24 (.ext 1 (.t 20))), (oV 9 23), (oV 10 24)]) (.sq (.reg [(oV 25 9), (oV 26 10), (oV 4 25), (oV 5 26), (oP 6 (.mv (cI 0)))]) .rt)))))
def rv_f18A : List (RV × Option Ty) := [((.t 4), some tI), ((.t 5), some .bool), ((.t 6), some tI)]
def g_f18A : G := ⟨TYs, [], 27, EL [(50, sp_f50A), (1000031, sp_op_method_1_115)], keeps, (fun _ _ => none), IL [], RL []⟩
def r_f18A (p0 : Policy) (p1 : Item) : Option (V × List VO) :=
 br ((ofOkA p0 p1))
  (br ((ine ((ofA p0 p1).2) 0))
   (some (.tu [(.t tI 0), (.t .bool false), (.t tI ((ofA p0 p1).2))], []))
   (br ((lenOk5 ((ofA p0 p1).1)))
    (some (.tu [(.t tI ((secFails ((ofA p0 p1).1)).1)), (.t .bool ((secFails ((ofA p0 p1).1)).2)), (.t tI 0)], []))
    (none)))
  (none)
theorem e_f18A (p0 : Policy) (p1 : Item) : runF g_f18A tc_f18A rv_f18A false [.t tyPolicy p0, .t tyItem p1] [] = r_f18A p0 p1 := by kernel_rfl
theorem ok_f18A : Option.map (trC Tryz.prog) Tryz.f18.body = some tc_f18A.er := by kernel_rfl
theorem rok_f18A : trVs Tryz.prog Tryz.f18.results.toList = some (rv_f18A.map Prod.fst) := by kernel_rfl
theorem gk_f18A : GOk Tryz.prog g_f18A := gok_of _ (by
 intro p hp
 simp only [List.mem_cons, List.not_mem_nil, or_false] at hp
 rcases hp with rfl | rfl
 ·exact ⟨en_f50A, ms_f50A⟩
 ·exact ⟨en_op_method_1_115, ms_op_method_1_115⟩)
theorem lk_f18A : tc_f18A.lok g_f18A := by repeat (first | exact trivial | refine ⟨?_, ?_⟩)
theorem mr_f18A : Meets Tryz.prog 18 (runF g_f18A tc_f18A rv_f18A false) := by
 obtain ⟨c, hc, hi⟩ := Option.map_eq_some_iff.1 ok_f18A
 exact meets_of (by decide) Tryz.func18 hc hi Tryz.ntmps18 rok_f18A gk_f18A lk_f18A mixed
def tc_f18B : TC := (.sq (.reg [(oM 2 (.box (.t 0))), (oM 3 (.box (.t 1))), (oP 4 (.mv (cI 0))), (oP 5 (.mv (cB false))), (oP 6 (.mv (cI 0)))]) (.sq (.reg [(oM 12 (.ld true 2 (.t 2))), (oM 13 (.ld true 5 (.t 3))), (oC 14 50 [(.t 12), (.t 13)]), (oV 11 14), (oP 15 (.ext 0 (.t 11))), (oP 16 (.ext 1 (.t 11))), (oV 7 15), (oV 8 16)]) (.sq (.sq (.reg [(oV 17 8), (oP 18 (.bin false .neq (.t 17) (cI 0)))]) (.cd (.t 18) (.sq (.reg [(oV 19 8), (oP 4 (.mv (cI 0))), (oP 5 (.mv (cB false))), (oV 6 19)]) .rt) .sk)) (.sq (.reg [(oV 21 7), (oC 22 1000031 [(.t 21)]), (oV 20 22), (oP 23 (.ext 0 (.t 20))), (oP 24 (.ext 1 (.t 20))), (oV 9 23), (oV 10 24)]) (.sq (.reg [(oV 25 9), (oV 26 10), (oV 4 25), (oV 5 26), (oP 6 (.mv (cI 0)))]) .rt)))))
def rv_f18B : List (RV × Option Ty) := [((.t 4), some tI), ((.t 5), some .bool), ((.t 6), some tI)]
def g_f18B : G := ⟨TYs, [], 27, EL [(50, sp_f50B), (1000031, sp_op_method_1_116)], keeps, (fun _ _ => none), IL [], RL []⟩
def r_f18B (p0 : Policy) (p1 : Item) : Option (V × List VO) :=
 br ((ofOkB p0 p1))
  (br ((ine ((ofA p0 p1).2) 0))
   (some (.tu [(.t tI 0), (.t .bool false), (.t tI ((ofA p0 p1).2))], []))
   (br ((sgOk ((ofA p0 p1).1)))
    (some (.tu [(.t tI ((sgFails ((ofA p0 p1).1)).1)), (.t .bool ((sgFails ((ofA p0 p1).1)).2)), (.t tI 0)], []))
    (none)))
  (none)
theorem e_f18B (p0 : Policy) (p1 : Item) : runF g_f18B tc_f18B rv_f18B false [.t tyPolicy p0, .t tyItem p1] [] = r_f18B p0 p1 := by kernel_rfl
theorem ok_f18B : Option.map (trC Tryz.prog) Tryz.f18.body = some tc_f18B.er := by kernel_rfl
theorem rok_f18B : trVs Tryz.prog Tryz.f18.results.toList = some (rv_f18B.map Prod.fst) := by kernel_rfl
theorem gk_f18B : GOk Tryz.prog g_f18B := gok_of _ (by
 intro p hp
 simp only [List.mem_cons, List.not_mem_nil, or_false] at hp
 rcases hp with rfl | rfl
 ·exact ⟨en_f50B, ms_f50B⟩
 ·exact ⟨en_op_method_1_116, ms_op_method_1_116⟩)
theorem lk_f18B : tc_f18B.lok g_f18B := by repeat (first | exact trivial | refine ⟨?_, ?_⟩)
theorem mr_f18B : Meets Tryz.prog 18 (runF g_f18B tc_f18B rv_f18B false) := by
 obtain ⟨c, hc, hi⟩ := Option.map_eq_some_iff.1 ok_f18B
 exact meets_of (by decide) Tryz.func18 hc hi Tryz.ntmps18 rok_f18B gk_f18B lk_f18B mixed
def tc_f18E : TC := (.sq (.reg [(oM 2 (.box (.t 0))), (oM 3 (.box (.t 1))), (oP 4 (.mv (cI 0))), (oP 5 (.mv (cB false))), (oP 6 (.mv (cI 0)))]) (.sq (.reg [(oM 12 (.ld true 2 (.t 2))), (oM 13 (.ld true 5 (.t 3))), (oC 14 50 [(.t 12), (.t 13)]), (oV 11 14), (oP 15 (.ext 0 (.t 11))), (oP 16 (.ext 1 (.t 11))), (oV 7 15), (oV 8 16)]) (.sq (.sq (.reg [(oV 17 8), (oP 18 (.bin false .neq (.t 17) (cI 0)))]) (.cd (.t 18) (.sq (.reg [(oV 19 8), (oP 4 (.mv (cI 0))), (oP 5 (.mv (cB false))), (oV 6 19)]) .rt) .sk)) (.sq (.reg [(oV 21 7), (oC 22 1000031 [(.t 21)]), (oV 20 22), (oP 23 (.ext 0 (.t 20))), (oP 24 (.ext 1 (.t 20))), (oV 9 23), (oV 10 24)]) (.sq (.reg [(oV 25 9), (oV 26 10), (oV 4 25), (oV 5 26), (oP 6 (.mv (cI 0)))]) .rt)))))
def rv_f18E : List (RV × Option Ty) := [((.t 4), some tI), ((.t 5), some .bool), ((.t 6), some tI)]
def g_f18E : G := ⟨TYs, [], 27, EL [(50, sp_f50E)], keeps, (fun _ _ => none), IL [], RL []⟩
def r_f18E (p0 : Policy) (p1 : Item) : Option (V × List VO) :=
 br ((ofOkE p0 p1))
  (br ((ine (ofE p0 p1) 0))
   (some (.tu [(.t tI 0), (.t .bool false), (.t tI (ofE p0 p1))], []))
   (none))
  (none)
theorem e_f18E (p0 : Policy) (p1 : Item) : runF g_f18E tc_f18E rv_f18E false [.t tyPolicy p0, .t tyItem p1] [] = r_f18E p0 p1 := by kernel_rfl
theorem ok_f18E : Option.map (trC Tryz.prog) Tryz.f18.body = some tc_f18E.er := by kernel_rfl
theorem rok_f18E : trVs Tryz.prog Tryz.f18.results.toList = some (rv_f18E.map Prod.fst) := by kernel_rfl
theorem gk_f18E : GOk Tryz.prog g_f18E := gok_of _ (by
 intro p hp
 simp only [List.mem_cons, List.not_mem_nil, or_false] at hp
 rcases hp with rfl
 ·exact ⟨en_f50E, ms_f50E⟩)
theorem lk_f18E : tc_f18E.lok g_f18E := by repeat (first | exact trivial | refine ⟨?_, ?_⟩)
theorem mr_f18E : Meets Tryz.prog 18 (runF g_f18E tc_f18E rv_f18E false) := by
 obtain ⟨c, hc, hi⟩ := Option.map_eq_some_iff.1 ok_f18E
 exact meets_of (by decide) Tryz.func18 hc hi Tryz.ntmps18 rok_f18E gk_f18E lk_f18E mixed
theorem s_f18 (y : Policy) (i : Item) (h : fineLen y i = true) : orO (r_f18A y i) (orO (r_f18B y i) (r_f18E y i)) = some (.tu [.t tI (FailsI y i).1, .t .bool (FailsI y i).2.1, .t tI (FailsI y i).2.2], []) := by
 rcases three h with ⟨a1, a2, a3⟩ | ⟨a0, a1, a2, a3⟩ | ⟨a0, b0, a1, a3⟩
 ·obtain ⟨a4, _, a5, _, _⟩ := fine_lens a3
  simp only [r_f18A, a1, br_true, ofA, show ine 0 0 = false from rfl, br_false, FailsI, failsL, a3, if_true, ieq_dec, a2, decide_true, a4, orO]
 ·obtain ⟨a4, a6, a5, e7, e8⟩ := fine_lens a3
  simp only [r_f18A, r_f18B, a0, a1, br_true, ofA, show ine 0 0 = false from rfl, br_false, FailsI, failsL, a3, if_true, ieq_dec, a2, a4, a6, orO]
  rfl
 ·have a2 := ofE_ne y i
  simp only [r_f18A, r_f18B, r_f18E, a0, b0, a1, br_true, br_false, a2, FailsI, a3, Bool.false_eq_true, if_false, orO]
def sp_f18 : Ent := spec (.pr tyPolicy (.pr tyItem .nil)) (fun x => (fineLen x.1 x.2.1)) (fun x => (.tu [(.t tI ((FailsI x.1 x.2.1).1)), (.t .bool (((FailsI x.1 x.2.1).2).1)), (.t tI (((FailsI x.1 x.2.1).2).2))]))
theorem en_f18 : Entered Tryz.prog 18 := .inr ⟨by decide, _, Tryz.func18, by kernel_rfl, by kernel_rfl⟩
theorem ms_f18 : Meets Tryz.prog 18 (strip sp_f18) := meets_spec (meets_or mr_f18A (meets_or mr_f18B mr_f18E)) fun x hok => orF_pick (e_f18A x.1 x.2.1) (e_f18B x.1 x.2.1) (e_f18E x.1 x.2.1) (s_f18 x.1 x.2.1 hok)
def lastI2 (y : Policy) (i : Item) : Int := if (sgFails (lksF y i)).2 then isub .i64 (sgFails (lksF y i)).1 1 else 40000
def lastDay (i : Item) : Int := (lgt tyLink i.2.2.2.1 (i.2.2.2.1.length - 1)).2.1
def LatestF (y : Policy) (i : Item) : Int × Bool × Int := if fineB y i then (if ieq i.2.1 1 then (0, false, 0) else if sgOpen (lksF y i) then (if ile (lastI2 y i) (lastDay i) then (0, false, 0) else (lastI2 y i, true, 0)) else (0, false, 0)) else (0, false, ofE y i)
def tc_f20A : TC := (.sq (.reg [(oM 2 (.box (.t 0))), (oM 3 (.box (.t 1))), (oP 4 (.mv (cI 0))), (oP 5 (.mv (cB false))), (oP 6 (.mv (cI 0)))]) (.sq (.reg [(oM 13 (.ld true 2 (.t 2))), (oM 14 (.ld true 5 (.t 3))), (oC 15 50 [(.t 13), (.t 14)]), (oV 12 15), (oP 16 (.ext 0 (.t 12))), (oP 17 (.ext 1 (.t 12))), (oV 7 16), (oV 8 17)]) (.sq (.sq (.reg [(oV 18 8), (oP 19 (.bin false .neq (.t 18) (cI 0))), (oV 20 19), (oQ 21 20 false (.mv (.t 7))), (oG 22 20 false (.call 1000047 [(.t 21)])), (oQ 23 20 false (.nt (.t 22))), (oP 24 (.pick (.t 20) (cB true) (.t 23)))]) (.cd (.t 24) (.sq (.reg [(oV 25 8), (oP 4 (.mv (cI 0))), (oP 5 (.mv (cB false))), (oV 6 25)]) .rt) .sk)) (.sq (.reg [(oP 9 (.mv (cI 40000)))]) (.sq (.sq (.reg [(oV 27 7), (oC 28 1000031 [(.t 27)]), (oV 26 28), (oP 29 (.ext 0 (.t 26))), (oP 30 (.ext 1 (.t 26))), (oV 10 29), (oV 11 30)]) (.sq (.reg [(oV 31 11)]) (.cd (.t 31) (.reg [(oV 32 10), (oP 33 (.bin false .sub (.t 32) (cI 1))), (oV 9 33)]) .sk))) (.sq (.sq (.reg [(oV 34 9), (oP 35 (.fa 3 (.t 3))), (oL 36 35), (oP 37 (.fa 3 (.t 3))), (oL 38 37), (oP 39 (.len false (.t 38))), (oP 40 (.bin false .sub (.t 39) (cI 1))), (oP 41 (.ix 3 (.t 36) (.t 40))), (oP 42 (.fa 2 (.t 41))), (oL 43 42), (oP 44 (.bin false .leq (.t 34) (.t 43)))]) (.cd (.t 44) (.sq (.reg [(oP 4 (.mv (cI 0))), (oP 5 (.mv (cB false))), (oP 6 (.mv (cI 0)))]) .rt) .sk)) (.sq (.reg [(oV 45 9), (oV 4 45), (oP 5 (.mv (cB true))), (oP 6 (.mv (cI 0)))]) .rt)))))))
def rv_f20A : List (RV × Option Ty) := [((.t 4), some tI), ((.t 5), some .bool), ((.t 6), some tI)]
def g_f20A : G := ⟨TYs, [], 46, EL [(50, sp_f50A), (1000031, sp_op_method_1_115), (1000047, sp_op_method_2_115)], keeps, (fun _ _ => none), IL [], RL []⟩
def r_f20A (p0 : Policy) (p1 : Item) : Option (V × List VO) :=
 br ((ofOkA p0 p1))
  (br ((ine ((ofA p0 p1).2) 0))
   (some (.tu [(.t tI 0), (.t .bool false), (.t tI ((ofA p0 p1).2))], []))
   (br ((!(scOpen ((ofA p0 p1).1))))
    (some (.tu [(.t tI 0), (.t .bool false), (.t tI ((ofA p0 p1).2))], []))
    (br ((lenOk5 ((ofA p0 p1).1)))
     (br ((secFails ((ofA p0 p1).1)).2)
      (br (cIx p1.2.2.2.1 (isub .i64 (llen p1.2.2.2.1) 1))
       (br ((ile (isub .i64 ((secFails ((ofA p0 p1).1)).1) 1) (((lgt tyLink p1.2.2.2.1 (Int.toNat (isub .i64 (llen p1.2.2.2.1) 1))).2).1)))
        (some (.tu [(.t tI 0), (.t .bool false), (.t tI 0)], []))
        (some (.tu [(.t tI (isub .i64 ((secFails ((ofA p0 p1).1)).1) 1)), (.t .bool true), (.t tI 0)], [])))
       (none))
      (br (cIx p1.2.2.2.1 (isub .i64 (llen p1.2.2.2.1) 1))
       (br ((ile 40000 (((lgt tyLink p1.2.2.2.1 (Int.toNat (isub .i64 (llen p1.2.2.2.1) 1))).2).1)))
        (some (.tu [(.t tI 0), (.t .bool false), (.t tI 0)], []))
        (some (.tu [(.t tI 40000), (.t .bool true), (.t tI 0)], [])))
       (none)))
     (none))))
  (none)
theorem e_f20A (p0 : Policy) (p1 : Item) : runF g_f20A tc_f20A rv_f20A false [.t tyPolicy p0, .t tyItem p1] [] = r_f20A p0 p1 := by kernel_rfl
theorem ok_f20A : Option.map (trC Tryz.prog) Tryz.f20.body = some tc_f20A.er := by kernel_rfl
theorem rok_f20A : trVs Tryz.prog Tryz.f20.results.toList = some (rv_f20A.map Prod.fst) := by kernel_rfl
theorem gk_f20A : GOk Tryz.prog g_f20A := gok_of _ (by
 intro p hp
 simp only [List.mem_cons, List.not_mem_nil, or_false] at hp
 rcases hp with rfl | rfl | rfl
 ·exact ⟨en_f50A, ms_f50A⟩
 ·exact ⟨en_op_method_1_115, ms_op_method_1_115⟩
 ·exact ⟨en_op_method_2_115, ms_op_method_2_115⟩)
theorem lk_f20A : tc_f20A.lok g_f20A := by repeat (first | exact trivial | refine ⟨?_, ?_⟩)
theorem mr_f20A : Meets Tryz.prog 20 (runF g_f20A tc_f20A rv_f20A false) := by
 obtain ⟨c, hc, hi⟩ := Option.map_eq_some_iff.1 ok_f20A
 exact meets_of (by decide) Tryz.func20 hc hi Tryz.ntmps20 rok_f20A gk_f20A lk_f20A mixed
def tc_f20B : TC := (.sq (.reg [(oM 2 (.box (.t 0))), (oM 3 (.box (.t 1))), (oP 4 (.mv (cI 0))), (oP 5 (.mv (cB false))), (oP 6 (.mv (cI 0)))]) (.sq (.reg [(oM 13 (.ld true 2 (.t 2))), (oM 14 (.ld true 5 (.t 3))), (oC 15 50 [(.t 13), (.t 14)]), (oV 12 15), (oP 16 (.ext 0 (.t 12))), (oP 17 (.ext 1 (.t 12))), (oV 7 16), (oV 8 17)]) (.sq (.sq (.reg [(oV 18 8), (oP 19 (.bin false .neq (.t 18) (cI 0))), (oV 20 19), (oQ 21 20 false (.mv (.t 7))), (oG 22 20 false (.call 1000047 [(.t 21)])), (oQ 23 20 false (.nt (.t 22))), (oP 24 (.pick (.t 20) (cB true) (.t 23)))]) (.cd (.t 24) (.sq (.reg [(oV 25 8), (oP 4 (.mv (cI 0))), (oP 5 (.mv (cB false))), (oV 6 25)]) .rt) .sk)) (.sq (.reg [(oP 9 (.mv (cI 40000)))]) (.sq (.sq (.reg [(oV 27 7), (oC 28 1000031 [(.t 27)]), (oV 26 28), (oP 29 (.ext 0 (.t 26))), (oP 30 (.ext 1 (.t 26))), (oV 10 29), (oV 11 30)]) (.sq (.reg [(oV 31 11)]) (.cd (.t 31) (.reg [(oV 32 10), (oP 33 (.bin false .sub (.t 32) (cI 1))), (oV 9 33)]) .sk))) (.sq (.sq (.reg [(oV 34 9), (oP 35 (.fa 3 (.t 3))), (oL 36 35), (oP 37 (.fa 3 (.t 3))), (oL 38 37), (oP 39 (.len false (.t 38))), (oP 40 (.bin false .sub (.t 39) (cI 1))), (oP 41 (.ix 3 (.t 36) (.t 40))), (oP 42 (.fa 2 (.t 41))), (oL 43 42), (oP 44 (.bin false .leq (.t 34) (.t 43)))]) (.cd (.t 44) (.sq (.reg [(oP 4 (.mv (cI 0))), (oP 5 (.mv (cB false))), (oP 6 (.mv (cI 0)))]) .rt) .sk)) (.sq (.reg [(oV 45 9), (oV 4 45), (oP 5 (.mv (cB true))), (oP 6 (.mv (cI 0)))]) .rt)))))))
def rv_f20B : List (RV × Option Ty) := [((.t 4), some tI), ((.t 5), some .bool), ((.t 6), some tI)]
def g_f20B : G := ⟨TYs, [], 46, EL [(50, sp_f50B), (1000031, sp_op_method_1_116), (1000047, sp_op_method_2_116)], keeps, (fun _ _ => none), IL [], RL []⟩
def r_f20B (p0 : Policy) (p1 : Item) : Option (V × List VO) :=
 br ((ofOkB p0 p1))
  (br ((ine ((ofA p0 p1).2) 0))
   (some (.tu [(.t tI 0), (.t .bool false), (.t tI ((ofA p0 p1).2))], []))
   (br ((lenOk5 ((ofA p0 p1).1)))
    (br ((!(sgOpen ((ofA p0 p1).1))))
     (some (.tu [(.t tI 0), (.t .bool false), (.t tI ((ofA p0 p1).2))], []))
     (br ((sgOk ((ofA p0 p1).1)))
      (br ((sgFails ((ofA p0 p1).1)).2)
       (br (cIx p1.2.2.2.1 (isub .i64 (llen p1.2.2.2.1) 1))
        (br ((ile (isub .i64 ((sgFails ((ofA p0 p1).1)).1) 1) (((lgt tyLink p1.2.2.2.1 (Int.toNat (isub .i64 (llen p1.2.2.2.1) 1))).2).1)))
         (some (.tu [(.t tI 0), (.t .bool false), (.t tI 0)], []))
         (some (.tu [(.t tI (isub .i64 ((sgFails ((ofA p0 p1).1)).1) 1)), (.t .bool true), (.t tI 0)], [])))
        (none))
       (br (cIx p1.2.2.2.1 (isub .i64 (llen p1.2.2.2.1) 1))
        (br ((ile 40000 (((lgt tyLink p1.2.2.2.1 (Int.toNat (isub .i64 (llen p1.2.2.2.1) 1))).2).1)))
         (some (.tu [(.t tI 0), (.t .bool false), (.t tI 0)], []))
         (some (.tu [(.t tI 40000), (.t .bool true), (.t tI 0)], [])))
        (none)))
      (none)))
    (none)))
  (none)
theorem e_f20B (p0 : Policy) (p1 : Item) : runF g_f20B tc_f20B rv_f20B false [.t tyPolicy p0, .t tyItem p1] [] = r_f20B p0 p1 := by kernel_rfl
theorem ok_f20B : Option.map (trC Tryz.prog) Tryz.f20.body = some tc_f20B.er := by kernel_rfl
theorem rok_f20B : trVs Tryz.prog Tryz.f20.results.toList = some (rv_f20B.map Prod.fst) := by kernel_rfl
theorem gk_f20B : GOk Tryz.prog g_f20B := gok_of _ (by
 intro p hp
 simp only [List.mem_cons, List.not_mem_nil, or_false] at hp
 rcases hp with rfl | rfl | rfl
 ·exact ⟨en_f50B, ms_f50B⟩
 ·exact ⟨en_op_method_1_116, ms_op_method_1_116⟩
 ·exact ⟨en_op_method_2_116, ms_op_method_2_116⟩)
theorem lk_f20B : tc_f20B.lok g_f20B := by repeat (first | exact trivial | refine ⟨?_, ?_⟩)
theorem mr_f20B : Meets Tryz.prog 20 (runF g_f20B tc_f20B rv_f20B false) := by
 obtain ⟨c, hc, hi⟩ := Option.map_eq_some_iff.1 ok_f20B
 exact meets_of (by decide) Tryz.func20 hc hi Tryz.ntmps20 rok_f20B gk_f20B lk_f20B mixed
def tc_f20E : TC := (.sq (.reg [(oM 2 (.box (.t 0))), (oM 3 (.box (.t 1))), (oP 4 (.mv (cI 0))), (oP 5 (.mv (cB false))), (oP 6 (.mv (cI 0)))]) (.sq (.reg [(oM 13 (.ld true 2 (.t 2))), (oM 14 (.ld true 5 (.t 3))), (oC 15 50 [(.t 13), (.t 14)]), (oV 12 15), (oP 16 (.ext 0 (.t 12))), (oP 17 (.ext 1 (.t 12))), (oV 7 16), (oV 8 17)]) (.sq (.sq (.reg [(oV 18 8), (oP 19 (.bin false .neq (.t 18) (cI 0))), (oV 20 19), (oQ 21 20 false (.mv (.t 7))), (oG 22 20 false (.call 1000047 [(.t 21)])), (oQ 23 20 false (.nt (.t 22))), (oP 24 (.pick (.t 20) (cB true) (.t 23)))]) (.cd (.t 24) (.sq (.reg [(oV 25 8), (oP 4 (.mv (cI 0))), (oP 5 (.mv (cB false))), (oV 6 25)]) .rt) .sk)) (.sq (.reg [(oP 9 (.mv (cI 40000)))]) (.sq (.sq (.reg [(oV 27 7), (oC 28 1000031 [(.t 27)]), (oV 26 28), (oP 29 (.ext 0 (.t 26))), (oP 30 (.ext 1 (.t 26))), (oV 10 29), (oV 11 30)]) (.sq (.reg [(oV 31 11)]) (.cd (.t 31) (.reg [(oV 32 10), (oP 33 (.bin false .sub (.t 32) (cI 1))), (oV 9 33)]) .sk))) (.sq (.sq (.reg [(oV 34 9), (oP 35 (.fa 3 (.t 3))), (oL 36 35), (oP 37 (.fa 3 (.t 3))), (oL 38 37), (oP 39 (.len false (.t 38))), (oP 40 (.bin false .sub (.t 39) (cI 1))), (oP 41 (.ix 3 (.t 36) (.t 40))), (oP 42 (.fa 2 (.t 41))), (oL 43 42), (oP 44 (.bin false .leq (.t 34) (.t 43)))]) (.cd (.t 44) (.sq (.reg [(oP 4 (.mv (cI 0))), (oP 5 (.mv (cB false))), (oP 6 (.mv (cI 0)))]) .rt) .sk)) (.sq (.reg [(oV 45 9), (oV 4 45), (oP 5 (.mv (cB true))), (oP 6 (.mv (cI 0)))]) .rt)))))))
def rv_f20E : List (RV × Option Ty) := [((.t 4), some tI), ((.t 5), some .bool), ((.t 6), some tI)]
def g_f20E : G := ⟨TYs, [], 46, EL [(50, sp_f50E)], keeps, (fun _ _ => none), IL [], RL []⟩
def r_f20E (p0 : Policy) (p1 : Item) : Option (V × List VO) :=
 br ((ofOkE p0 p1))
  (br ((ine (ofE p0 p1) 0))
   (some (.tu [(.t tI 0), (.t .bool false), (.t tI (ofE p0 p1))], []))
   (none))
  (none)
theorem e_f20E (p0 : Policy) (p1 : Item) : runF g_f20E tc_f20E rv_f20E false [.t tyPolicy p0, .t tyItem p1] [] = r_f20E p0 p1 := by kernel_rfl
theorem ok_f20E : Option.map (trC Tryz.prog) Tryz.f20.body = some tc_f20E.er := by kernel_rfl
theorem rok_f20E : trVs Tryz.prog Tryz.f20.results.toList = some (rv_f20E.map Prod.fst) := by kernel_rfl
theorem gk_f20E : GOk Tryz.prog g_f20E := gok_of _ (by
 intro p hp
 simp only [List.mem_cons, List.not_mem_nil, or_false] at hp
 rcases hp with rfl
 ·exact ⟨en_f50E, ms_f50E⟩)
theorem lk_f20E : tc_f20E.lok g_f20E := by repeat (first | exact trivial | refine ⟨?_, ?_⟩)
theorem mr_f20E : Meets Tryz.prog 20 (runF g_f20E tc_f20E rv_f20E false) := by
 obtain ⟨c, hc, hi⟩ := Option.map_eq_some_iff.1 ok_f20E
 exact meets_of (by decide) Tryz.func20 hc hi Tryz.ntmps20 rok_f20E gk_f20E lk_f20E mixed
theorem s_f20 (y : Policy) (i : Item) (h : fineLen y i = true) : orO (r_f20A y i) (orO (r_f20B y i) (r_f20E y i)) = some (.tu [.t tI (LatestF y i).1, .t .bool (LatestF y i).2.1, .t tI (LatestF y i).2.2], []) := by
 rcases three h with ⟨a1, a2, a3⟩ | ⟨a0, a1, a2, a3⟩ | ⟨a0, b0, a1, a3⟩
 ·obtain ⟨a4, _, a5, _, _⟩ := fine_lens a3
  simp only [r_f20A, a1, br_true, ofA, show ine 0 0 = false from rfl, br_false, LatestF, a3, if_true, ieq_dec, a2, decide_true, orO, scOpen, Bool.not_false]
 ·obtain ⟨a4, a6, a5, e7, e8⟩ := fine_lens a3
  simp only [r_f20A, r_f20B, a0, a1, br_true, ofA, show ine 0 0 = false from rfl, br_false, LatestF, a3, if_true, ieq_dec, a2, a4, a6, e7, e8, Int.toNat_natCast, orO]
  simp only [show decide ((2 : Int) = 1) = false from rfl, Bool.false_eq_true, if_false]
  have hd : (lgt tyLink i.2.2.2.1 (i.2.2.2.1.length - 1)).2.1 = lastDay i := rfl
  rw [hd]
  by_cases q1 : sgOpen (lksF y i) = true
  ·rw [if_pos q1, q1, Bool.not_true, br_false]
   by_cases q2 : (sgFails (lksF y i)).2 = true
   ·have e9 : lastI2 y i = isub .i64 (sgFails (lksF y i)).1 1 := by unfold lastI2; rw [if_pos q2]
    rw [q2, br_true, e9]
    by_cases q3 : ile (isub .i64 (sgFails (lksF y i)).1 1) (lastDay i) = true
    ·rw [if_pos q3, q3]
     rfl
    ·rw [if_neg q3, show ile (isub .i64 (sgFails (lksF y i)).1 1) (lastDay i) = false by simpa using q3]
     rfl
   ·have e9 : lastI2 y i = 40000 := by unfold lastI2; rw [if_neg q2]
    rw [show (sgFails (lksF y i)).2 = false by simpa using q2, br_false, e9]
    by_cases q3 : ile 40000 (lastDay i) = true
    ·rw [if_pos q3, q3]
     rfl
    ·rw [if_neg q3, show ile 40000 (lastDay i) = false by simpa using q3]
     rfl
  ·rw [if_neg q1, show sgOpen (lksF y i) = false by simpa using q1]
   rfl
 ·have a2 := ofE_ne y i
  simp only [r_f20A, r_f20B, r_f20E, a0, b0, a1, br_true, br_false, a2, LatestF, a3, Bool.false_eq_true, if_false, orO]
def sp_f20 : Ent := spec (.pr tyPolicy (.pr tyItem .nil)) (fun x => (fineLen x.1 x.2.1)) (fun x => (.tu [(.t tI ((LatestF x.1 x.2.1).1)), (.t .bool (((LatestF x.1 x.2.1).2).1)), (.t tI (((LatestF x.1 x.2.1).2).2))]))
theorem en_f20 : Entered Tryz.prog 20 := .inr ⟨by decide, _, Tryz.func20, by kernel_rfl, by kernel_rfl⟩
theorem ms_f20 : Meets Tryz.prog 20 (strip sp_f20) := meets_spec (meets_or mr_f20A (meets_or mr_f20B mr_f20E)) fun x hok => orF_pick (e_f20A x.1 x.2.1) (e_f20B x.1 x.2.1) (e_f20E x.1 x.2.1) (s_f20 x.1 x.2.1 hok)
end Go.Proofs.YtfehjdaielifiaaGreat.K
