/-
  lifetime: Links, Fails, Wanted, Latest.
-/
import Derived.Test.YtfehjdaielifiaaV20
import Derived.Test.YtfehjdaielifiaaV12K
set_option linter.unusedSimpArgs false
set_option linter.unusedVariables false
namespace Go.Proofs.Ytfehjdaielifiaa.K
open Go.RowKit
def orO {α : Type} (a b : Option α) : Option α := match a with
  | some x => some x
  | none => b
theorem orF_pick {RA RB RE : Fun} {a : List V} {o : List VO} {rA rB rE x : Option (V × List VO)} (hA : RA a o = rA) (hB : RB a o = rB) (hE : RE a o = rE) (h : orO rA (orO rB rE) = x) : orF RA (orF RB RE) a o = x := by
  unfold orF
  rw [hA, hB, hE]
  cases rA <;> cases rB <;> exact h
def fineLen (y : Policy) (i : Item) : Bool := polLen y && nameOk i.1
theorem three {y : Policy} {i : Item} (h : fineLen y i = true) : (ofOkA y i = true ∧ i.2.1 = 1 ∧ fineB y i = true) ∨ (ofOkA y i = false ∧ ofOkB y i = true ∧ i.2.1 = 2 ∧ fineB y i = true) ∨ (ofOkA y i = false ∧ ofOkB y i = false ∧ ofOkE y i = true ∧ fineB y i = false) := by
  cases hf : fineB y i with
  | false => exact .inr (.inr ⟨by simp [ofOkA, hf], by simp [ofOkB, hf], by rw [ofOkE, hf]; simpa [fineLen] using h, rfl⟩)
  | true =>
    have hf2 := hf
    simp only [fineB, Bool.and_eq_true] at hf2
    have hk := (itemOk_iff.1 hf2.2).2.1
    by_cases h1 : i.2.1 = 1
    · exact .inl ⟨by simp [ofOkA, hf, h1, ieq], h1, rfl⟩
    · have h2 : i.2.1 = 2 := by omega
      exact .inr (.inl ⟨by simp [ofOkA, h2, ieq], by simp [ofOkB, hf, h2, ieq], h2, rfl⟩)
theorem ofE_ne (y : Policy) (i : Item) : ine (ofE y i) 0 = true := by
  unfold ofE
  split <;> rfl
theorem fine_lens {y : Policy} {i : Item} (h : fineB y i = true) : lenOk5 (lksF y i) = true ∧ sgOk (lksF y i) = true ∧ cIx i.2.2.2.1 0 = true ∧ isub .i64 (llen i.2.2.2.1) 1 = ((i.2.2.2.1.length - 1 : Nat) : Int) ∧ cIx i.2.2.2.1 ((i.2.2.2.1.length - 1 : Nat) : Int) = true := by
  simp only [fineB, Bool.and_eq_true] at h
  have hi := (itemOk_iff.1 h.2).2.2.2.1
  have hl : (lksF y i).length = i.2.2.2.1.length := by simp [lksF]
  have h5 : lenOk5 (lksF y i) = true := decide_eq_true (by omega)
  refine ⟨h5, ?_, by simp only [cIx, decide_eq_true_eq]; omega, ?_, by simp only [cIx, decide_eq_true_eq]; omega⟩
  · rw [sgOk, h5, Bool.true_and]
    cases hq : lksF y i with
    | nil => rw [hq] at hl; simp at hl; omega
    | cons a l => rfl
  · rw [isub_in (by unfold llen; omega)]
    unfold llen
    omega
def LinksF (y : Policy) (i : Item) : Int × Int := if fineB y i then (if ieq i.2.1 1 then scCount (lksF y i) else sgCount (lksF y i), 0) else (0, ofE y i)
/-- cipherplan/lifetime.Links -/
def tc_lifetime_Links_A : TC := (.sq (.reg [(.mk (some 2) none (.m (.box (.t 0)))), (.mk (some 3) none (.m (.box (.t 1)))), (.mk (some 4) none (.m (.pu (.mv (.c (.v (.int .i64 0))))))), (.mk (some 5) none (.m (.pu (.mv (.c (.v (.int .i64 0)))))))]) (.sq (.reg [(.mk (some 9) none (.m (.ld true 2 (.t 2)))), (.mk (some 10) none (.m (.ld true 5 (.t 3)))), (.mk (some 11) none (.call 24 [(.t 9), (.t 10)])), (.mk (some 8) none (.m (.pu (.mv (.t 11))))), (.mk (some 12) none (.m (.pu (.ext 0 (.t 8))))), (.mk (some 13) none (.m (.pu (.ext 1 (.t 8))))), (.mk (some 6) none (.m (.pu (.mv (.t 12))))), (.mk (some 7) none (.m (.pu (.mv (.t 13)))))]) (.sq (.sq (.reg [(.mk (some 14) none (.m (.pu (.mv (.t 7))))), (.mk (some 15) none (.m (.pu (.bin false .neq (.t 14) (.c (.v (.int .i64 0)))))))]) (.cd (.t 15) (.sq (.reg [(.mk (some 16) none (.m (.pu (.mv (.t 7))))), (.mk (some 4) none (.m (.pu (.mv (.c (.v (.int .i64 0))))))), (.mk (some 5) none (.m (.pu (.mv (.t 16)))))]) .rt) .sk)) (.sq (.reg [(.mk (some 17) none (.m (.pu (.mv (.t 6))))), (.mk (some 18) none (.call 1000015 [(.t 17)])), (.mk (some 4) none (.m (.pu (.mv (.t 18))))), (.mk (some 5) none (.m (.pu (.mv (.c (.v (.int .i64 0)))))))]) .rt))))
def rv_lifetime_Links_A : List (RV × Option Ty) := [((.t 4), some tI), ((.t 5), some tI)]
def g_lifetime_Links_A : G := ⟨TYs, [], 19, EL [(24, sp_lifetime_of_A), (1000015, sp_op_method_0_85)], keeps, (fun _ _ => none), IL [], RL []⟩
def r_lifetime_Links_A (p0 : Policy) (p1 : Item) : Option (V × List VO) :=
  br ((ofOkA p0 p1))
    (br ((ine ((ofA p0 p1).2) 0))
      (some (.tu [(.t tI 0), (.t tI ((ofA p0 p1).2))], []))
      (some (.tu [(.t tI (scCount ((ofA p0 p1).1))), (.t tI 0)], [])))
    (none)
theorem e_lifetime_Links_A (p0 : Policy) (p1 : Item) : runF g_lifetime_Links_A tc_lifetime_Links_A rv_lifetime_Links_A false [.t tyPolicy p0, .t tyItem p1] [] = r_lifetime_Links_A p0 p1 := by kernel_rfl
theorem ok_lifetime_Links_A : Option.map (trC Try.prog) Try.f12.body = some tc_lifetime_Links_A.er := by kernel_rfl
theorem rok_lifetime_Links_A : trVs Try.prog Try.f12.results.toList = some (rv_lifetime_Links_A.map Prod.fst) := by kernel_rfl
theorem gk_lifetime_Links_A : GOk Try.prog g_lifetime_Links_A := gok_of _ (by
  intro p hp
  simp only [List.mem_cons, List.not_mem_nil, or_false] at hp
  rcases hp with rfl | rfl
  · exact ⟨en_lifetime_of_A, ms_lifetime_of_A⟩
  · exact ⟨en_op_method_0_85, ms_op_method_0_85⟩)
theorem lk_lifetime_Links_A : tc_lifetime_Links_A.lok g_lifetime_Links_A := by repeat (first | exact trivial | refine ⟨?_, ?_⟩)
theorem mr_lifetime_Links_A : Meets Try.prog 12 (runF g_lifetime_Links_A tc_lifetime_Links_A rv_lifetime_Links_A false) := by
  obtain ⟨c, hc, hi⟩ := Option.map_eq_some_iff.1 ok_lifetime_Links_A
  exact meets_of (by decide) Try.func12 hc hi Try.ntmps12 rok_lifetime_Links_A gk_lifetime_Links_A lk_lifetime_Links_A mixed
/-- cipherplan/lifetime.Links -/
def tc_lifetime_Links_B : TC := (.sq (.reg [(.mk (some 2) none (.m (.box (.t 0)))), (.mk (some 3) none (.m (.box (.t 1)))), (.mk (some 4) none (.m (.pu (.mv (.c (.v (.int .i64 0))))))), (.mk (some 5) none (.m (.pu (.mv (.c (.v (.int .i64 0)))))))]) (.sq (.reg [(.mk (some 9) none (.m (.ld true 2 (.t 2)))), (.mk (some 10) none (.m (.ld true 5 (.t 3)))), (.mk (some 11) none (.call 24 [(.t 9), (.t 10)])), (.mk (some 8) none (.m (.pu (.mv (.t 11))))), (.mk (some 12) none (.m (.pu (.ext 0 (.t 8))))), (.mk (some 13) none (.m (.pu (.ext 1 (.t 8))))), (.mk (some 6) none (.m (.pu (.mv (.t 12))))), (.mk (some 7) none (.m (.pu (.mv (.t 13)))))]) (.sq (.sq (.reg [(.mk (some 14) none (.m (.pu (.mv (.t 7))))), (.mk (some 15) none (.m (.pu (.bin false .neq (.t 14) (.c (.v (.int .i64 0)))))))]) (.cd (.t 15) (.sq (.reg [(.mk (some 16) none (.m (.pu (.mv (.t 7))))), (.mk (some 4) none (.m (.pu (.mv (.c (.v (.int .i64 0))))))), (.mk (some 5) none (.m (.pu (.mv (.t 16)))))]) .rt) .sk)) (.sq (.reg [(.mk (some 17) none (.m (.pu (.mv (.t 6))))), (.mk (some 18) none (.call 1000015 [(.t 17)])), (.mk (some 4) none (.m (.pu (.mv (.t 18))))), (.mk (some 5) none (.m (.pu (.mv (.c (.v (.int .i64 0)))))))]) .rt))))
def rv_lifetime_Links_B : List (RV × Option Ty) := [((.t 4), some tI), ((.t 5), some tI)]
def g_lifetime_Links_B : G := ⟨TYs, [], 19, EL [(24, sp_lifetime_of_B), (1000015, sp_op_method_0_86)], keeps, (fun _ _ => none), IL [], RL []⟩
def r_lifetime_Links_B (p0 : Policy) (p1 : Item) : Option (V × List VO) :=
  br ((ofOkB p0 p1))
    (br ((ine ((ofA p0 p1).2) 0))
      (some (.tu [(.t tI 0), (.t tI ((ofA p0 p1).2))], []))
      (br ((lenOk5 ((ofA p0 p1).1)))
        (some (.tu [(.t tI (sgCount ((ofA p0 p1).1))), (.t tI 0)], []))
        (none)))
    (none)
theorem e_lifetime_Links_B (p0 : Policy) (p1 : Item) : runF g_lifetime_Links_B tc_lifetime_Links_B rv_lifetime_Links_B false [.t tyPolicy p0, .t tyItem p1] [] = r_lifetime_Links_B p0 p1 := by kernel_rfl
theorem ok_lifetime_Links_B : Option.map (trC Try.prog) Try.f12.body = some tc_lifetime_Links_B.er := by kernel_rfl
theorem rok_lifetime_Links_B : trVs Try.prog Try.f12.results.toList = some (rv_lifetime_Links_B.map Prod.fst) := by kernel_rfl
theorem gk_lifetime_Links_B : GOk Try.prog g_lifetime_Links_B := gok_of _ (by
  intro p hp
  simp only [List.mem_cons, List.not_mem_nil, or_false] at hp
  rcases hp with rfl | rfl
  · exact ⟨en_lifetime_of_B, ms_lifetime_of_B⟩
  · exact ⟨en_op_method_0_86, ms_op_method_0_86⟩)
theorem lk_lifetime_Links_B : tc_lifetime_Links_B.lok g_lifetime_Links_B := by repeat (first | exact trivial | refine ⟨?_, ?_⟩)
theorem mr_lifetime_Links_B : Meets Try.prog 12 (runF g_lifetime_Links_B tc_lifetime_Links_B rv_lifetime_Links_B false) := by
  obtain ⟨c, hc, hi⟩ := Option.map_eq_some_iff.1 ok_lifetime_Links_B
  exact meets_of (by decide) Try.func12 hc hi Try.ntmps12 rok_lifetime_Links_B gk_lifetime_Links_B lk_lifetime_Links_B mixed
/-- cipherplan/lifetime.Links -/
def tc_lifetime_Links_E : TC := (.sq (.reg [(.mk (some 2) none (.m (.box (.t 0)))), (.mk (some 3) none (.m (.box (.t 1)))), (.mk (some 4) none (.m (.pu (.mv (.c (.v (.int .i64 0))))))), (.mk (some 5) none (.m (.pu (.mv (.c (.v (.int .i64 0)))))))]) (.sq (.reg [(.mk (some 9) none (.m (.ld true 2 (.t 2)))), (.mk (some 10) none (.m (.ld true 5 (.t 3)))), (.mk (some 11) none (.call 24 [(.t 9), (.t 10)])), (.mk (some 8) none (.m (.pu (.mv (.t 11))))), (.mk (some 12) none (.m (.pu (.ext 0 (.t 8))))), (.mk (some 13) none (.m (.pu (.ext 1 (.t 8))))), (.mk (some 6) none (.m (.pu (.mv (.t 12))))), (.mk (some 7) none (.m (.pu (.mv (.t 13)))))]) (.sq (.sq (.reg [(.mk (some 14) none (.m (.pu (.mv (.t 7))))), (.mk (some 15) none (.m (.pu (.bin false .neq (.t 14) (.c (.v (.int .i64 0)))))))]) (.cd (.t 15) (.sq (.reg [(.mk (some 16) none (.m (.pu (.mv (.t 7))))), (.mk (some 4) none (.m (.pu (.mv (.c (.v (.int .i64 0))))))), (.mk (some 5) none (.m (.pu (.mv (.t 16)))))]) .rt) .sk)) (.sq (.reg [(.mk (some 17) none (.m (.pu (.mv (.t 6))))), (.mk (some 18) none (.call 1000015 [(.t 17)])), (.mk (some 4) none (.m (.pu (.mv (.t 18))))), (.mk (some 5) none (.m (.pu (.mv (.c (.v (.int .i64 0)))))))]) .rt))))
def rv_lifetime_Links_E : List (RV × Option Ty) := [((.t 4), some tI), ((.t 5), some tI)]
def g_lifetime_Links_E : G := ⟨TYs, [], 19, EL [(24, sp_lifetime_of_E)], keeps, (fun _ _ => none), IL [], RL []⟩
def r_lifetime_Links_E (p0 : Policy) (p1 : Item) : Option (V × List VO) :=
  br ((ofOkE p0 p1))
    (br ((ine (ofE p0 p1) 0))
      (some (.tu [(.t tI 0), (.t tI (ofE p0 p1))], []))
      (none))
    (none)
theorem e_lifetime_Links_E (p0 : Policy) (p1 : Item) : runF g_lifetime_Links_E tc_lifetime_Links_E rv_lifetime_Links_E false [.t tyPolicy p0, .t tyItem p1] [] = r_lifetime_Links_E p0 p1 := by kernel_rfl
theorem ok_lifetime_Links_E : Option.map (trC Try.prog) Try.f12.body = some tc_lifetime_Links_E.er := by kernel_rfl
theorem rok_lifetime_Links_E : trVs Try.prog Try.f12.results.toList = some (rv_lifetime_Links_E.map Prod.fst) := by kernel_rfl
theorem gk_lifetime_Links_E : GOk Try.prog g_lifetime_Links_E := gok_of _ (by
  intro p hp
  simp only [List.mem_cons, List.not_mem_nil, or_false] at hp
  rcases hp with rfl
  · exact ⟨en_lifetime_of_E, ms_lifetime_of_E⟩)
theorem lk_lifetime_Links_E : tc_lifetime_Links_E.lok g_lifetime_Links_E := by repeat (first | exact trivial | refine ⟨?_, ?_⟩)
theorem mr_lifetime_Links_E : Meets Try.prog 12 (runF g_lifetime_Links_E tc_lifetime_Links_E rv_lifetime_Links_E false) := by
  obtain ⟨c, hc, hi⟩ := Option.map_eq_some_iff.1 ok_lifetime_Links_E
  exact meets_of (by decide) Try.func12 hc hi Try.ntmps12 rok_lifetime_Links_E gk_lifetime_Links_E lk_lifetime_Links_E mixed
theorem s_lifetime_Links (y : Policy) (i : Item) (h : fineLen y i = true) : orO (r_lifetime_Links_A y i) (orO (r_lifetime_Links_B y i) (r_lifetime_Links_E y i)) = some (.tu [.t tI (LinksF y i).1, .t tI (LinksF y i).2], []) := by
  rcases three h with ⟨a1, a2, a3⟩ | ⟨a0, a1, a2, a3⟩ | ⟨a0, b0, a1, a3⟩
  · obtain ⟨a4, _, a5, _, _⟩ := fine_lens a3
    simp only [r_lifetime_Links_A, a1, br_true, ofA, show ine 0 0 = false from rfl, br_false, LinksF, a3, if_true, ieq_dec, a2, decide_true, orO]
  · obtain ⟨a4, a6, a5, e7, e8⟩ := fine_lens a3
    simp only [r_lifetime_Links_A, r_lifetime_Links_B, a0, a1, br_true, ofA, show ine 0 0 = false from rfl, br_false, LinksF, a3, if_true, ieq_dec, a2, a4, orO]
    rfl
  · have a2 := ofE_ne y i
    simp only [r_lifetime_Links_A, r_lifetime_Links_B, r_lifetime_Links_E, a0, b0, a1, br_true, br_false, a2, LinksF, a3, Bool.false_eq_true, if_false, orO]
def sp_lifetime_Links : Ent := spec (.pr tyPolicy (.pr tyItem .nil)) (fun x => (fineLen x.1 x.2.1)) (fun x => (.tu [(.t tI ((LinksF x.1 x.2.1).1)), (.t tI ((LinksF x.1 x.2.1).2))]))
theorem en_lifetime_Links : Entered Try.prog 12 := .inr ⟨by decide, _, Try.func12, by kernel_rfl, by kernel_rfl⟩
theorem ms_lifetime_Links : Meets Try.prog 12 (strip sp_lifetime_Links) := meets_spec (meets_or mr_lifetime_Links_A (meets_or mr_lifetime_Links_B mr_lifetime_Links_E)) fun x hok => orF_pick (e_lifetime_Links_A x.1 x.2.1) (e_lifetime_Links_B x.1 x.2.1) (e_lifetime_Links_E x.1 x.2.1) (s_lifetime_Links x.1 x.2.1 hok)
def failsL (y : Policy) (i : Item) : Int × Bool := if ieq i.2.1 1 then secFails (lksF y i) else sgFails (lksF y i)
def FailsI (y : Policy) (i : Item) : Int × Bool × Int := if fineB y i then ((failsL y i).1, (failsL y i).2, 0) else (0, false, ofE y i)
/-- cipherplan/lifetime.Fails -/
def tc_lifetime_Fails_A : TC := (.sq (.reg [(.mk (some 2) none (.m (.box (.t 0)))), (.mk (some 3) none (.m (.box (.t 1)))), (.mk (some 4) none (.m (.pu (.mv (.c (.v (.int .i64 0))))))), (.mk (some 5) none (.m (.pu (.mv (.c (.v (.bool false))))))), (.mk (some 6) none (.m (.pu (.mv (.c (.v (.int .i64 0)))))))]) (.sq (.reg [(.mk (some 12) none (.m (.ld true 2 (.t 2)))), (.mk (some 13) none (.m (.ld true 5 (.t 3)))), (.mk (some 14) none (.call 24 [(.t 12), (.t 13)])), (.mk (some 11) none (.m (.pu (.mv (.t 14))))), (.mk (some 15) none (.m (.pu (.ext 0 (.t 11))))), (.mk (some 16) none (.m (.pu (.ext 1 (.t 11))))), (.mk (some 7) none (.m (.pu (.mv (.t 15))))), (.mk (some 8) none (.m (.pu (.mv (.t 16)))))]) (.sq (.sq (.reg [(.mk (some 17) none (.m (.pu (.mv (.t 8))))), (.mk (some 18) none (.m (.pu (.bin false .neq (.t 17) (.c (.v (.int .i64 0)))))))]) (.cd (.t 18) (.sq (.reg [(.mk (some 19) none (.m (.pu (.mv (.t 8))))), (.mk (some 4) none (.m (.pu (.mv (.c (.v (.int .i64 0))))))), (.mk (some 5) none (.m (.pu (.mv (.c (.v (.bool false))))))), (.mk (some 6) none (.m (.pu (.mv (.t 19)))))]) .rt) .sk)) (.sq (.reg [(.mk (some 21) none (.m (.pu (.mv (.t 7))))), (.mk (some 22) none (.call 1000031 [(.t 21)])), (.mk (some 20) none (.m (.pu (.mv (.t 22))))), (.mk (some 23) none (.m (.pu (.ext 0 (.t 20))))), (.mk (some 24) none (.m (.pu (.ext 1 (.t 20))))), (.mk (some 9) none (.m (.pu (.mv (.t 23))))), (.mk (some 10) none (.m (.pu (.mv (.t 24)))))]) (.sq (.reg [(.mk (some 25) none (.m (.pu (.mv (.t 9))))), (.mk (some 26) none (.m (.pu (.mv (.t 10))))), (.mk (some 4) none (.m (.pu (.mv (.t 25))))), (.mk (some 5) none (.m (.pu (.mv (.t 26))))), (.mk (some 6) none (.m (.pu (.mv (.c (.v (.int .i64 0)))))))]) .rt)))))
def rv_lifetime_Fails_A : List (RV × Option Ty) := [((.t 4), some tI), ((.t 5), some .bool), ((.t 6), some tI)]
def g_lifetime_Fails_A : G := ⟨TYs, [], 27, EL [(24, sp_lifetime_of_A), (1000031, sp_op_method_1_85)], keeps, (fun _ _ => none), IL [], RL []⟩
def r_lifetime_Fails_A (p0 : Policy) (p1 : Item) : Option (V × List VO) :=
  br ((ofOkA p0 p1))
    (br ((ine ((ofA p0 p1).2) 0))
      (some (.tu [(.t tI 0), (.t .bool false), (.t tI ((ofA p0 p1).2))], []))
      (br ((lenOk5 ((ofA p0 p1).1)))
        (some (.tu [(.t tI ((secFails ((ofA p0 p1).1)).1)), (.t .bool ((secFails ((ofA p0 p1).1)).2)), (.t tI 0)], []))
        (none)))
    (none)
theorem e_lifetime_Fails_A (p0 : Policy) (p1 : Item) : runF g_lifetime_Fails_A tc_lifetime_Fails_A rv_lifetime_Fails_A false [.t tyPolicy p0, .t tyItem p1] [] = r_lifetime_Fails_A p0 p1 := by kernel_rfl
theorem ok_lifetime_Fails_A : Option.map (trC Try.prog) Try.f21.body = some tc_lifetime_Fails_A.er := by kernel_rfl
theorem rok_lifetime_Fails_A : trVs Try.prog Try.f21.results.toList = some (rv_lifetime_Fails_A.map Prod.fst) := by kernel_rfl
theorem gk_lifetime_Fails_A : GOk Try.prog g_lifetime_Fails_A := gok_of _ (by
  intro p hp
  simp only [List.mem_cons, List.not_mem_nil, or_false] at hp
  rcases hp with rfl | rfl
  · exact ⟨en_lifetime_of_A, ms_lifetime_of_A⟩
  · exact ⟨en_op_method_1_85, ms_op_method_1_85⟩)
theorem lk_lifetime_Fails_A : tc_lifetime_Fails_A.lok g_lifetime_Fails_A := by repeat (first | exact trivial | refine ⟨?_, ?_⟩)
theorem mr_lifetime_Fails_A : Meets Try.prog 21 (runF g_lifetime_Fails_A tc_lifetime_Fails_A rv_lifetime_Fails_A false) := by
  obtain ⟨c, hc, hi⟩ := Option.map_eq_some_iff.1 ok_lifetime_Fails_A
  exact meets_of (by decide) Try.func21 hc hi Try.ntmps21 rok_lifetime_Fails_A gk_lifetime_Fails_A lk_lifetime_Fails_A mixed
/-- cipherplan/lifetime.Fails -/
def tc_lifetime_Fails_B : TC := (.sq (.reg [(.mk (some 2) none (.m (.box (.t 0)))), (.mk (some 3) none (.m (.box (.t 1)))), (.mk (some 4) none (.m (.pu (.mv (.c (.v (.int .i64 0))))))), (.mk (some 5) none (.m (.pu (.mv (.c (.v (.bool false))))))), (.mk (some 6) none (.m (.pu (.mv (.c (.v (.int .i64 0)))))))]) (.sq (.reg [(.mk (some 12) none (.m (.ld true 2 (.t 2)))), (.mk (some 13) none (.m (.ld true 5 (.t 3)))), (.mk (some 14) none (.call 24 [(.t 12), (.t 13)])), (.mk (some 11) none (.m (.pu (.mv (.t 14))))), (.mk (some 15) none (.m (.pu (.ext 0 (.t 11))))), (.mk (some 16) none (.m (.pu (.ext 1 (.t 11))))), (.mk (some 7) none (.m (.pu (.mv (.t 15))))), (.mk (some 8) none (.m (.pu (.mv (.t 16)))))]) (.sq (.sq (.reg [(.mk (some 17) none (.m (.pu (.mv (.t 8))))), (.mk (some 18) none (.m (.pu (.bin false .neq (.t 17) (.c (.v (.int .i64 0)))))))]) (.cd (.t 18) (.sq (.reg [(.mk (some 19) none (.m (.pu (.mv (.t 8))))), (.mk (some 4) none (.m (.pu (.mv (.c (.v (.int .i64 0))))))), (.mk (some 5) none (.m (.pu (.mv (.c (.v (.bool false))))))), (.mk (some 6) none (.m (.pu (.mv (.t 19)))))]) .rt) .sk)) (.sq (.reg [(.mk (some 21) none (.m (.pu (.mv (.t 7))))), (.mk (some 22) none (.call 1000031 [(.t 21)])), (.mk (some 20) none (.m (.pu (.mv (.t 22))))), (.mk (some 23) none (.m (.pu (.ext 0 (.t 20))))), (.mk (some 24) none (.m (.pu (.ext 1 (.t 20))))), (.mk (some 9) none (.m (.pu (.mv (.t 23))))), (.mk (some 10) none (.m (.pu (.mv (.t 24)))))]) (.sq (.reg [(.mk (some 25) none (.m (.pu (.mv (.t 9))))), (.mk (some 26) none (.m (.pu (.mv (.t 10))))), (.mk (some 4) none (.m (.pu (.mv (.t 25))))), (.mk (some 5) none (.m (.pu (.mv (.t 26))))), (.mk (some 6) none (.m (.pu (.mv (.c (.v (.int .i64 0)))))))]) .rt)))))
def rv_lifetime_Fails_B : List (RV × Option Ty) := [((.t 4), some tI), ((.t 5), some .bool), ((.t 6), some tI)]
def g_lifetime_Fails_B : G := ⟨TYs, [], 27, EL [(24, sp_lifetime_of_B), (1000031, sp_op_method_1_86)], keeps, (fun _ _ => none), IL [], RL []⟩
def r_lifetime_Fails_B (p0 : Policy) (p1 : Item) : Option (V × List VO) :=
  br ((ofOkB p0 p1))
    (br ((ine ((ofA p0 p1).2) 0))
      (some (.tu [(.t tI 0), (.t .bool false), (.t tI ((ofA p0 p1).2))], []))
      (br ((sgOk ((ofA p0 p1).1)))
        (some (.tu [(.t tI ((sgFails ((ofA p0 p1).1)).1)), (.t .bool ((sgFails ((ofA p0 p1).1)).2)), (.t tI 0)], []))
        (none)))
    (none)
theorem e_lifetime_Fails_B (p0 : Policy) (p1 : Item) : runF g_lifetime_Fails_B tc_lifetime_Fails_B rv_lifetime_Fails_B false [.t tyPolicy p0, .t tyItem p1] [] = r_lifetime_Fails_B p0 p1 := by kernel_rfl
theorem ok_lifetime_Fails_B : Option.map (trC Try.prog) Try.f21.body = some tc_lifetime_Fails_B.er := by kernel_rfl
theorem rok_lifetime_Fails_B : trVs Try.prog Try.f21.results.toList = some (rv_lifetime_Fails_B.map Prod.fst) := by kernel_rfl
theorem gk_lifetime_Fails_B : GOk Try.prog g_lifetime_Fails_B := gok_of _ (by
  intro p hp
  simp only [List.mem_cons, List.not_mem_nil, or_false] at hp
  rcases hp with rfl | rfl
  · exact ⟨en_lifetime_of_B, ms_lifetime_of_B⟩
  · exact ⟨en_op_method_1_86, ms_op_method_1_86⟩)
theorem lk_lifetime_Fails_B : tc_lifetime_Fails_B.lok g_lifetime_Fails_B := by repeat (first | exact trivial | refine ⟨?_, ?_⟩)
theorem mr_lifetime_Fails_B : Meets Try.prog 21 (runF g_lifetime_Fails_B tc_lifetime_Fails_B rv_lifetime_Fails_B false) := by
  obtain ⟨c, hc, hi⟩ := Option.map_eq_some_iff.1 ok_lifetime_Fails_B
  exact meets_of (by decide) Try.func21 hc hi Try.ntmps21 rok_lifetime_Fails_B gk_lifetime_Fails_B lk_lifetime_Fails_B mixed
/-- cipherplan/lifetime.Fails -/
def tc_lifetime_Fails_E : TC := (.sq (.reg [(.mk (some 2) none (.m (.box (.t 0)))), (.mk (some 3) none (.m (.box (.t 1)))), (.mk (some 4) none (.m (.pu (.mv (.c (.v (.int .i64 0))))))), (.mk (some 5) none (.m (.pu (.mv (.c (.v (.bool false))))))), (.mk (some 6) none (.m (.pu (.mv (.c (.v (.int .i64 0)))))))]) (.sq (.reg [(.mk (some 12) none (.m (.ld true 2 (.t 2)))), (.mk (some 13) none (.m (.ld true 5 (.t 3)))), (.mk (some 14) none (.call 24 [(.t 12), (.t 13)])), (.mk (some 11) none (.m (.pu (.mv (.t 14))))), (.mk (some 15) none (.m (.pu (.ext 0 (.t 11))))), (.mk (some 16) none (.m (.pu (.ext 1 (.t 11))))), (.mk (some 7) none (.m (.pu (.mv (.t 15))))), (.mk (some 8) none (.m (.pu (.mv (.t 16)))))]) (.sq (.sq (.reg [(.mk (some 17) none (.m (.pu (.mv (.t 8))))), (.mk (some 18) none (.m (.pu (.bin false .neq (.t 17) (.c (.v (.int .i64 0)))))))]) (.cd (.t 18) (.sq (.reg [(.mk (some 19) none (.m (.pu (.mv (.t 8))))), (.mk (some 4) none (.m (.pu (.mv (.c (.v (.int .i64 0))))))), (.mk (some 5) none (.m (.pu (.mv (.c (.v (.bool false))))))), (.mk (some 6) none (.m (.pu (.mv (.t 19)))))]) .rt) .sk)) (.sq (.reg [(.mk (some 21) none (.m (.pu (.mv (.t 7))))), (.mk (some 22) none (.call 1000031 [(.t 21)])), (.mk (some 20) none (.m (.pu (.mv (.t 22))))), (.mk (some 23) none (.m (.pu (.ext 0 (.t 20))))), (.mk (some 24) none (.m (.pu (.ext 1 (.t 20))))), (.mk (some 9) none (.m (.pu (.mv (.t 23))))), (.mk (some 10) none (.m (.pu (.mv (.t 24)))))]) (.sq (.reg [(.mk (some 25) none (.m (.pu (.mv (.t 9))))), (.mk (some 26) none (.m (.pu (.mv (.t 10))))), (.mk (some 4) none (.m (.pu (.mv (.t 25))))), (.mk (some 5) none (.m (.pu (.mv (.t 26))))), (.mk (some 6) none (.m (.pu (.mv (.c (.v (.int .i64 0)))))))]) .rt)))))
def rv_lifetime_Fails_E : List (RV × Option Ty) := [((.t 4), some tI), ((.t 5), some .bool), ((.t 6), some tI)]
def g_lifetime_Fails_E : G := ⟨TYs, [], 27, EL [(24, sp_lifetime_of_E)], keeps, (fun _ _ => none), IL [], RL []⟩
def r_lifetime_Fails_E (p0 : Policy) (p1 : Item) : Option (V × List VO) :=
  br ((ofOkE p0 p1))
    (br ((ine (ofE p0 p1) 0))
      (some (.tu [(.t tI 0), (.t .bool false), (.t tI (ofE p0 p1))], []))
      (none))
    (none)
theorem e_lifetime_Fails_E (p0 : Policy) (p1 : Item) : runF g_lifetime_Fails_E tc_lifetime_Fails_E rv_lifetime_Fails_E false [.t tyPolicy p0, .t tyItem p1] [] = r_lifetime_Fails_E p0 p1 := by kernel_rfl
theorem ok_lifetime_Fails_E : Option.map (trC Try.prog) Try.f21.body = some tc_lifetime_Fails_E.er := by kernel_rfl
theorem rok_lifetime_Fails_E : trVs Try.prog Try.f21.results.toList = some (rv_lifetime_Fails_E.map Prod.fst) := by kernel_rfl
theorem gk_lifetime_Fails_E : GOk Try.prog g_lifetime_Fails_E := gok_of _ (by
  intro p hp
  simp only [List.mem_cons, List.not_mem_nil, or_false] at hp
  rcases hp with rfl
  · exact ⟨en_lifetime_of_E, ms_lifetime_of_E⟩)
theorem lk_lifetime_Fails_E : tc_lifetime_Fails_E.lok g_lifetime_Fails_E := by repeat (first | exact trivial | refine ⟨?_, ?_⟩)
theorem mr_lifetime_Fails_E : Meets Try.prog 21 (runF g_lifetime_Fails_E tc_lifetime_Fails_E rv_lifetime_Fails_E false) := by
  obtain ⟨c, hc, hi⟩ := Option.map_eq_some_iff.1 ok_lifetime_Fails_E
  exact meets_of (by decide) Try.func21 hc hi Try.ntmps21 rok_lifetime_Fails_E gk_lifetime_Fails_E lk_lifetime_Fails_E mixed
theorem s_lifetime_Fails (y : Policy) (i : Item) (h : fineLen y i = true) : orO (r_lifetime_Fails_A y i) (orO (r_lifetime_Fails_B y i) (r_lifetime_Fails_E y i)) = some (.tu [.t tI (FailsI y i).1, .t .bool (FailsI y i).2.1, .t tI (FailsI y i).2.2], []) := by
  rcases three h with ⟨a1, a2, a3⟩ | ⟨a0, a1, a2, a3⟩ | ⟨a0, b0, a1, a3⟩
  · obtain ⟨a4, _, a5, _, _⟩ := fine_lens a3
    simp only [r_lifetime_Fails_A, a1, br_true, ofA, show ine 0 0 = false from rfl, br_false, FailsI, failsL, a3, if_true, ieq_dec, a2, decide_true, a4, orO]
  · obtain ⟨a4, a6, a5, e7, e8⟩ := fine_lens a3
    simp only [r_lifetime_Fails_A, r_lifetime_Fails_B, a0, a1, br_true, ofA, show ine 0 0 = false from rfl, br_false, FailsI, failsL, a3, if_true, ieq_dec, a2, a4, a6, orO]
    rfl
  · have a2 := ofE_ne y i
    simp only [r_lifetime_Fails_A, r_lifetime_Fails_B, r_lifetime_Fails_E, a0, b0, a1, br_true, br_false, a2, FailsI, a3, Bool.false_eq_true, if_false, orO]
def sp_lifetime_Fails : Ent := spec (.pr tyPolicy (.pr tyItem .nil)) (fun x => (fineLen x.1 x.2.1)) (fun x => (.tu [(.t tI ((FailsI x.1 x.2.1).1)), (.t .bool (((FailsI x.1 x.2.1).2).1)), (.t tI (((FailsI x.1 x.2.1).2).2))]))
theorem en_lifetime_Fails : Entered Try.prog 21 := .inr ⟨by decide, _, Try.func21, by kernel_rfl, by kernel_rfl⟩
theorem ms_lifetime_Fails : Meets Try.prog 21 (strip sp_lifetime_Fails) := meets_spec (meets_or mr_lifetime_Fails_A (meets_or mr_lifetime_Fails_B mr_lifetime_Fails_E)) fun x hok => orF_pick (e_lifetime_Fails_A x.1 x.2.1) (e_lifetime_Fails_B x.1 x.2.1) (e_lifetime_Fails_E x.1 x.2.1) (s_lifetime_Fails x.1 x.2.1 hok)
def lastI2 (y : Policy) (i : Item) : Int := if (sgFails (lksF y i)).2 then isub .i64 (sgFails (lksF y i)).1 1 else 40000
def lastDay (i : Item) : Int := (lgt tyLink i.2.2.2.1 (i.2.2.2.1.length - 1)).2.1
def LatestF (y : Policy) (i : Item) : Int × Bool × Int := if fineB y i then (if ieq i.2.1 1 then (0, false, 0) else if sgOpen (lksF y i) then (if ile (lastI2 y i) (lastDay i) then (0, false, 0) else (lastI2 y i, true, 0)) else (0, false, 0)) else (0, false, ofE y i)
/-- cipherplan/lifetime.Latest -/
def tc_lifetime_Latest_A : TC := (.sq (.reg [(.mk (some 2) none (.m (.box (.t 0)))), (.mk (some 3) none (.m (.box (.t 1)))), (.mk (some 4) none (.m (.pu (.mv (.c (.v (.int .i64 0))))))), (.mk (some 5) none (.m (.pu (.mv (.c (.v (.bool false))))))), (.mk (some 6) none (.m (.pu (.mv (.c (.v (.int .i64 0)))))))]) (.sq (.reg [(.mk (some 13) none (.m (.ld true 2 (.t 2)))), (.mk (some 14) none (.m (.ld true 5 (.t 3)))), (.mk (some 15) none (.call 24 [(.t 13), (.t 14)])), (.mk (some 12) none (.m (.pu (.mv (.t 15))))), (.mk (some 16) none (.m (.pu (.ext 0 (.t 12))))), (.mk (some 17) none (.m (.pu (.ext 1 (.t 12))))), (.mk (some 7) none (.m (.pu (.mv (.t 16))))), (.mk (some 8) none (.m (.pu (.mv (.t 17)))))]) (.sq (.sq (.reg [(.mk (some 18) none (.m (.pu (.mv (.t 8))))), (.mk (some 19) none (.m (.pu (.bin false .neq (.t 18) (.c (.v (.int .i64 0))))))), (.mk (some 20) none (.m (.pu (.mv (.t 19))))), (.mk (some 21) (some (20, false)) (.m (.pu (.mv (.t 7))))), (.mk (some 22) (some (20, false)) (.call 1000047 [(.t 21)])), (.mk (some 23) (some (20, false)) (.m (.pu (.nt (.t 22))))), (.mk (some 24) none (.m (.pu (.pick (.t 20) (.c (.v (.bool true))) (.t 23)))))]) (.cd (.t 24) (.sq (.reg [(.mk (some 25) none (.m (.pu (.mv (.t 8))))), (.mk (some 4) none (.m (.pu (.mv (.c (.v (.int .i64 0))))))), (.mk (some 5) none (.m (.pu (.mv (.c (.v (.bool false))))))), (.mk (some 6) none (.m (.pu (.mv (.t 25)))))]) .rt) .sk)) (.sq (.reg [(.mk (some 9) none (.m (.pu (.mv (.c (.v (.int .i64 40000)))))))]) (.sq (.sq (.reg [(.mk (some 27) none (.m (.pu (.mv (.t 7))))), (.mk (some 28) none (.call 1000031 [(.t 27)])), (.mk (some 26) none (.m (.pu (.mv (.t 28))))), (.mk (some 29) none (.m (.pu (.ext 0 (.t 26))))), (.mk (some 30) none (.m (.pu (.ext 1 (.t 26))))), (.mk (some 10) none (.m (.pu (.mv (.t 29))))), (.mk (some 11) none (.m (.pu (.mv (.t 30)))))]) (.sq (.reg [(.mk (some 31) none (.m (.pu (.mv (.t 11)))))]) (.cd (.t 31) (.reg [(.mk (some 32) none (.m (.pu (.mv (.t 10))))), (.mk (some 33) none (.m (.pu (.bin false .sub (.t 32) (.c (.v (.int .i64 1))))))), (.mk (some 9) none (.m (.pu (.mv (.t 33)))))]) .sk))) (.sq (.sq (.reg [(.mk (some 34) none (.m (.pu (.mv (.t 9))))), (.mk (some 35) none (.m (.pu (.fa 3 (.t 3))))), (.mk (some 36) none (.m (.ld false 1 (.t 35)))), (.mk (some 37) none (.m (.pu (.fa 3 (.t 3))))), (.mk (some 38) none (.m (.ld false 1 (.t 37)))), (.mk (some 39) none (.m (.pu (.len false (.t 38))))), (.mk (some 40) none (.m (.pu (.bin false .sub (.t 39) (.c (.v (.int .i64 1))))))), (.mk (some 41) none (.m (.pu (.ix 3 (.t 36) (.t 40))))), (.mk (some 42) none (.m (.pu (.fa 2 (.t 41))))), (.mk (some 43) none (.m (.ld false 1 (.t 42)))), (.mk (some 44) none (.m (.pu (.bin false .leq (.t 34) (.t 43)))))]) (.cd (.t 44) (.sq (.reg [(.mk (some 4) none (.m (.pu (.mv (.c (.v (.int .i64 0))))))), (.mk (some 5) none (.m (.pu (.mv (.c (.v (.bool false))))))), (.mk (some 6) none (.m (.pu (.mv (.c (.v (.int .i64 0)))))))]) .rt) .sk)) (.sq (.reg [(.mk (some 45) none (.m (.pu (.mv (.t 9))))), (.mk (some 4) none (.m (.pu (.mv (.t 45))))), (.mk (some 5) none (.m (.pu (.mv (.c (.v (.bool true))))))), (.mk (some 6) none (.m (.pu (.mv (.c (.v (.int .i64 0)))))))]) .rt)))))))
def rv_lifetime_Latest_A : List (RV × Option Ty) := [((.t 4), some tI), ((.t 5), some .bool), ((.t 6), some tI)]
def g_lifetime_Latest_A : G := ⟨TYs, [], 46, EL [(24, sp_lifetime_of_A), (1000031, sp_op_method_1_85), (1000047, sp_op_method_2_85)], keeps, (fun _ _ => none), IL [], RL []⟩
def r_lifetime_Latest_A (p0 : Policy) (p1 : Item) : Option (V × List VO) :=
  br ((ofOkA p0 p1))
    (br ((ine ((ofA p0 p1).2) 0))
      (some (.tu [(.t tI 0), (.t .bool false), (.t tI ((ofA p0 p1).2))], []))
      (br ((!(scOpen ((ofA p0 p1).1))))
        (some (.tu [(.t tI 0), (.t .bool false), (.t tI ((ofA p0 p1).2))], []))
        (br ((lenOk5 ((ofA p0 p1).1)))
          (br ((secFails ((ofA p0 p1).1)).2)
            (br (cIx p1.2.2.2.1 (isub .i64 (llen p1.2.2.2.1) 1))
              (br ((ile (isub .i64 ((secFails ((ofA p0 p1).1)).1) 1) (((lgt tyLink p1.2.2.2.1 (Int.toNat (isub .i64 (llen p1.2.2.2.1) 1))).2).1)))
                (some (.tu [(.t tI 0), (.t .bool false), (.t tI 0)], []))
                (some (.tu [(.t tI (isub .i64 ((secFails ((ofA p0 p1).1)).1) 1)), (.t .bool true), (.t tI 0)], [])))
              (none))
            (br (cIx p1.2.2.2.1 (isub .i64 (llen p1.2.2.2.1) 1))
              (br ((ile 40000 (((lgt tyLink p1.2.2.2.1 (Int.toNat (isub .i64 (llen p1.2.2.2.1) 1))).2).1)))
                (some (.tu [(.t tI 0), (.t .bool false), (.t tI 0)], []))
                (some (.tu [(.t tI 40000), (.t .bool true), (.t tI 0)], [])))
              (none)))
          (none))))
    (none)
theorem e_lifetime_Latest_A (p0 : Policy) (p1 : Item) : runF g_lifetime_Latest_A tc_lifetime_Latest_A rv_lifetime_Latest_A false [.t tyPolicy p0, .t tyItem p1] [] = r_lifetime_Latest_A p0 p1 := by kernel_rfl
theorem ok_lifetime_Latest_A : Option.map (trC Try.prog) Try.f20.body = some tc_lifetime_Latest_A.er := by kernel_rfl
theorem rok_lifetime_Latest_A : trVs Try.prog Try.f20.results.toList = some (rv_lifetime_Latest_A.map Prod.fst) := by kernel_rfl
theorem gk_lifetime_Latest_A : GOk Try.prog g_lifetime_Latest_A := gok_of _ (by
  intro p hp
  simp only [List.mem_cons, List.not_mem_nil, or_false] at hp
  rcases hp with rfl | rfl | rfl
  · exact ⟨en_lifetime_of_A, ms_lifetime_of_A⟩
  · exact ⟨en_op_method_1_85, ms_op_method_1_85⟩
  · exact ⟨en_op_method_2_85, ms_op_method_2_85⟩)
theorem lk_lifetime_Latest_A : tc_lifetime_Latest_A.lok g_lifetime_Latest_A := by repeat (first | exact trivial | refine ⟨?_, ?_⟩)
theorem mr_lifetime_Latest_A : Meets Try.prog 20 (runF g_lifetime_Latest_A tc_lifetime_Latest_A rv_lifetime_Latest_A false) := by
  obtain ⟨c, hc, hi⟩ := Option.map_eq_some_iff.1 ok_lifetime_Latest_A
  exact meets_of (by decide) Try.func20 hc hi Try.ntmps20 rok_lifetime_Latest_A gk_lifetime_Latest_A lk_lifetime_Latest_A mixed
/-- cipherplan/lifetime.Latest -/
def tc_lifetime_Latest_B : TC := (.sq (.reg [(.mk (some 2) none (.m (.box (.t 0)))), (.mk (some 3) none (.m (.box (.t 1)))), (.mk (some 4) none (.m (.pu (.mv (.c (.v (.int .i64 0))))))), (.mk (some 5) none (.m (.pu (.mv (.c (.v (.bool false))))))), (.mk (some 6) none (.m (.pu (.mv (.c (.v (.int .i64 0)))))))]) (.sq (.reg [(.mk (some 13) none (.m (.ld true 2 (.t 2)))), (.mk (some 14) none (.m (.ld true 5 (.t 3)))), (.mk (some 15) none (.call 24 [(.t 13), (.t 14)])), (.mk (some 12) none (.m (.pu (.mv (.t 15))))), (.mk (some 16) none (.m (.pu (.ext 0 (.t 12))))), (.mk (some 17) none (.m (.pu (.ext 1 (.t 12))))), (.mk (some 7) none (.m (.pu (.mv (.t 16))))), (.mk (some 8) none (.m (.pu (.mv (.t 17)))))]) (.sq (.sq (.reg [(.mk (some 18) none (.m (.pu (.mv (.t 8))))), (.mk (some 19) none (.m (.pu (.bin false .neq (.t 18) (.c (.v (.int .i64 0))))))), (.mk (some 20) none (.m (.pu (.mv (.t 19))))), (.mk (some 21) (some (20, false)) (.m (.pu (.mv (.t 7))))), (.mk (some 22) (some (20, false)) (.call 1000047 [(.t 21)])), (.mk (some 23) (some (20, false)) (.m (.pu (.nt (.t 22))))), (.mk (some 24) none (.m (.pu (.pick (.t 20) (.c (.v (.bool true))) (.t 23)))))]) (.cd (.t 24) (.sq (.reg [(.mk (some 25) none (.m (.pu (.mv (.t 8))))), (.mk (some 4) none (.m (.pu (.mv (.c (.v (.int .i64 0))))))), (.mk (some 5) none (.m (.pu (.mv (.c (.v (.bool false))))))), (.mk (some 6) none (.m (.pu (.mv (.t 25)))))]) .rt) .sk)) (.sq (.reg [(.mk (some 9) none (.m (.pu (.mv (.c (.v (.int .i64 40000)))))))]) (.sq (.sq (.reg [(.mk (some 27) none (.m (.pu (.mv (.t 7))))), (.mk (some 28) none (.call 1000031 [(.t 27)])), (.mk (some 26) none (.m (.pu (.mv (.t 28))))), (.mk (some 29) none (.m (.pu (.ext 0 (.t 26))))), (.mk (some 30) none (.m (.pu (.ext 1 (.t 26))))), (.mk (some 10) none (.m (.pu (.mv (.t 29))))), (.mk (some 11) none (.m (.pu (.mv (.t 30)))))]) (.sq (.reg [(.mk (some 31) none (.m (.pu (.mv (.t 11)))))]) (.cd (.t 31) (.reg [(.mk (some 32) none (.m (.pu (.mv (.t 10))))), (.mk (some 33) none (.m (.pu (.bin false .sub (.t 32) (.c (.v (.int .i64 1))))))), (.mk (some 9) none (.m (.pu (.mv (.t 33)))))]) .sk))) (.sq (.sq (.reg [(.mk (some 34) none (.m (.pu (.mv (.t 9))))), (.mk (some 35) none (.m (.pu (.fa 3 (.t 3))))), (.mk (some 36) none (.m (.ld false 1 (.t 35)))), (.mk (some 37) none (.m (.pu (.fa 3 (.t 3))))), (.mk (some 38) none (.m (.ld false 1 (.t 37)))), (.mk (some 39) none (.m (.pu (.len false (.t 38))))), (.mk (some 40) none (.m (.pu (.bin false .sub (.t 39) (.c (.v (.int .i64 1))))))), (.mk (some 41) none (.m (.pu (.ix 3 (.t 36) (.t 40))))), (.mk (some 42) none (.m (.pu (.fa 2 (.t 41))))), (.mk (some 43) none (.m (.ld false 1 (.t 42)))), (.mk (some 44) none (.m (.pu (.bin false .leq (.t 34) (.t 43)))))]) (.cd (.t 44) (.sq (.reg [(.mk (some 4) none (.m (.pu (.mv (.c (.v (.int .i64 0))))))), (.mk (some 5) none (.m (.pu (.mv (.c (.v (.bool false))))))), (.mk (some 6) none (.m (.pu (.mv (.c (.v (.int .i64 0)))))))]) .rt) .sk)) (.sq (.reg [(.mk (some 45) none (.m (.pu (.mv (.t 9))))), (.mk (some 4) none (.m (.pu (.mv (.t 45))))), (.mk (some 5) none (.m (.pu (.mv (.c (.v (.bool true))))))), (.mk (some 6) none (.m (.pu (.mv (.c (.v (.int .i64 0)))))))]) .rt)))))))
def rv_lifetime_Latest_B : List (RV × Option Ty) := [((.t 4), some tI), ((.t 5), some .bool), ((.t 6), some tI)]
def g_lifetime_Latest_B : G := ⟨TYs, [], 46, EL [(24, sp_lifetime_of_B), (1000031, sp_op_method_1_86), (1000047, sp_op_method_2_86)], keeps, (fun _ _ => none), IL [], RL []⟩
def r_lifetime_Latest_B (p0 : Policy) (p1 : Item) : Option (V × List VO) :=
  br ((ofOkB p0 p1))
    (br ((ine ((ofA p0 p1).2) 0))
      (some (.tu [(.t tI 0), (.t .bool false), (.t tI ((ofA p0 p1).2))], []))
      (br ((lenOk5 ((ofA p0 p1).1)))
        (br ((!(sgOpen ((ofA p0 p1).1))))
          (some (.tu [(.t tI 0), (.t .bool false), (.t tI ((ofA p0 p1).2))], []))
          (br ((sgOk ((ofA p0 p1).1)))
            (br ((sgFails ((ofA p0 p1).1)).2)
              (br (cIx p1.2.2.2.1 (isub .i64 (llen p1.2.2.2.1) 1))
                (br ((ile (isub .i64 ((sgFails ((ofA p0 p1).1)).1) 1) (((lgt tyLink p1.2.2.2.1 (Int.toNat (isub .i64 (llen p1.2.2.2.1) 1))).2).1)))
                  (some (.tu [(.t tI 0), (.t .bool false), (.t tI 0)], []))
                  (some (.tu [(.t tI (isub .i64 ((sgFails ((ofA p0 p1).1)).1) 1)), (.t .bool true), (.t tI 0)], [])))
                (none))
              (br (cIx p1.2.2.2.1 (isub .i64 (llen p1.2.2.2.1) 1))
                (br ((ile 40000 (((lgt tyLink p1.2.2.2.1 (Int.toNat (isub .i64 (llen p1.2.2.2.1) 1))).2).1)))
                  (some (.tu [(.t tI 0), (.t .bool false), (.t tI 0)], []))
                  (some (.tu [(.t tI 40000), (.t .bool true), (.t tI 0)], [])))
                (none)))
            (none)))
        (none)))
    (none)
theorem e_lifetime_Latest_B (p0 : Policy) (p1 : Item) : runF g_lifetime_Latest_B tc_lifetime_Latest_B rv_lifetime_Latest_B false [.t tyPolicy p0, .t tyItem p1] [] = r_lifetime_Latest_B p0 p1 := by kernel_rfl
theorem ok_lifetime_Latest_B : Option.map (trC Try.prog) Try.f20.body = some tc_lifetime_Latest_B.er := by kernel_rfl
theorem rok_lifetime_Latest_B : trVs Try.prog Try.f20.results.toList = some (rv_lifetime_Latest_B.map Prod.fst) := by kernel_rfl
theorem gk_lifetime_Latest_B : GOk Try.prog g_lifetime_Latest_B := gok_of _ (by
  intro p hp
  simp only [List.mem_cons, List.not_mem_nil, or_false] at hp
  rcases hp with rfl | rfl | rfl
  · exact ⟨en_lifetime_of_B, ms_lifetime_of_B⟩
  · exact ⟨en_op_method_1_86, ms_op_method_1_86⟩
  · exact ⟨en_op_method_2_86, ms_op_method_2_86⟩)
theorem lk_lifetime_Latest_B : tc_lifetime_Latest_B.lok g_lifetime_Latest_B := by repeat (first | exact trivial | refine ⟨?_, ?_⟩)
theorem mr_lifetime_Latest_B : Meets Try.prog 20 (runF g_lifetime_Latest_B tc_lifetime_Latest_B rv_lifetime_Latest_B false) := by
  obtain ⟨c, hc, hi⟩ := Option.map_eq_some_iff.1 ok_lifetime_Latest_B
  exact meets_of (by decide) Try.func20 hc hi Try.ntmps20 rok_lifetime_Latest_B gk_lifetime_Latest_B lk_lifetime_Latest_B mixed
/-- cipherplan/lifetime.Latest -/
def tc_lifetime_Latest_E : TC := (.sq (.reg [(.mk (some 2) none (.m (.box (.t 0)))), (.mk (some 3) none (.m (.box (.t 1)))), (.mk (some 4) none (.m (.pu (.mv (.c (.v (.int .i64 0))))))), (.mk (some 5) none (.m (.pu (.mv (.c (.v (.bool false))))))), (.mk (some 6) none (.m (.pu (.mv (.c (.v (.int .i64 0)))))))]) (.sq (.reg [(.mk (some 13) none (.m (.ld true 2 (.t 2)))), (.mk (some 14) none (.m (.ld true 5 (.t 3)))), (.mk (some 15) none (.call 24 [(.t 13), (.t 14)])), (.mk (some 12) none (.m (.pu (.mv (.t 15))))), (.mk (some 16) none (.m (.pu (.ext 0 (.t 12))))), (.mk (some 17) none (.m (.pu (.ext 1 (.t 12))))), (.mk (some 7) none (.m (.pu (.mv (.t 16))))), (.mk (some 8) none (.m (.pu (.mv (.t 17)))))]) (.sq (.sq (.reg [(.mk (some 18) none (.m (.pu (.mv (.t 8))))), (.mk (some 19) none (.m (.pu (.bin false .neq (.t 18) (.c (.v (.int .i64 0))))))), (.mk (some 20) none (.m (.pu (.mv (.t 19))))), (.mk (some 21) (some (20, false)) (.m (.pu (.mv (.t 7))))), (.mk (some 22) (some (20, false)) (.call 1000047 [(.t 21)])), (.mk (some 23) (some (20, false)) (.m (.pu (.nt (.t 22))))), (.mk (some 24) none (.m (.pu (.pick (.t 20) (.c (.v (.bool true))) (.t 23)))))]) (.cd (.t 24) (.sq (.reg [(.mk (some 25) none (.m (.pu (.mv (.t 8))))), (.mk (some 4) none (.m (.pu (.mv (.c (.v (.int .i64 0))))))), (.mk (some 5) none (.m (.pu (.mv (.c (.v (.bool false))))))), (.mk (some 6) none (.m (.pu (.mv (.t 25)))))]) .rt) .sk)) (.sq (.reg [(.mk (some 9) none (.m (.pu (.mv (.c (.v (.int .i64 40000)))))))]) (.sq (.sq (.reg [(.mk (some 27) none (.m (.pu (.mv (.t 7))))), (.mk (some 28) none (.call 1000031 [(.t 27)])), (.mk (some 26) none (.m (.pu (.mv (.t 28))))), (.mk (some 29) none (.m (.pu (.ext 0 (.t 26))))), (.mk (some 30) none (.m (.pu (.ext 1 (.t 26))))), (.mk (some 10) none (.m (.pu (.mv (.t 29))))), (.mk (some 11) none (.m (.pu (.mv (.t 30)))))]) (.sq (.reg [(.mk (some 31) none (.m (.pu (.mv (.t 11)))))]) (.cd (.t 31) (.reg [(.mk (some 32) none (.m (.pu (.mv (.t 10))))), (.mk (some 33) none (.m (.pu (.bin false .sub (.t 32) (.c (.v (.int .i64 1))))))), (.mk (some 9) none (.m (.pu (.mv (.t 33)))))]) .sk))) (.sq (.sq (.reg [(.mk (some 34) none (.m (.pu (.mv (.t 9))))), (.mk (some 35) none (.m (.pu (.fa 3 (.t 3))))), (.mk (some 36) none (.m (.ld false 1 (.t 35)))), (.mk (some 37) none (.m (.pu (.fa 3 (.t 3))))), (.mk (some 38) none (.m (.ld false 1 (.t 37)))), (.mk (some 39) none (.m (.pu (.len false (.t 38))))), (.mk (some 40) none (.m (.pu (.bin false .sub (.t 39) (.c (.v (.int .i64 1))))))), (.mk (some 41) none (.m (.pu (.ix 3 (.t 36) (.t 40))))), (.mk (some 42) none (.m (.pu (.fa 2 (.t 41))))), (.mk (some 43) none (.m (.ld false 1 (.t 42)))), (.mk (some 44) none (.m (.pu (.bin false .leq (.t 34) (.t 43)))))]) (.cd (.t 44) (.sq (.reg [(.mk (some 4) none (.m (.pu (.mv (.c (.v (.int .i64 0))))))), (.mk (some 5) none (.m (.pu (.mv (.c (.v (.bool false))))))), (.mk (some 6) none (.m (.pu (.mv (.c (.v (.int .i64 0)))))))]) .rt) .sk)) (.sq (.reg [(.mk (some 45) none (.m (.pu (.mv (.t 9))))), (.mk (some 4) none (.m (.pu (.mv (.t 45))))), (.mk (some 5) none (.m (.pu (.mv (.c (.v (.bool true))))))), (.mk (some 6) none (.m (.pu (.mv (.c (.v (.int .i64 0)))))))]) .rt)))))))
def rv_lifetime_Latest_E : List (RV × Option Ty) := [((.t 4), some tI), ((.t 5), some .bool), ((.t 6), some tI)]
def g_lifetime_Latest_E : G := ⟨TYs, [], 46, EL [(24, sp_lifetime_of_E)], keeps, (fun _ _ => none), IL [], RL []⟩
def r_lifetime_Latest_E (p0 : Policy) (p1 : Item) : Option (V × List VO) :=
  br ((ofOkE p0 p1))
    (br ((ine (ofE p0 p1) 0))
      (some (.tu [(.t tI 0), (.t .bool false), (.t tI (ofE p0 p1))], []))
      (none))
    (none)
theorem e_lifetime_Latest_E (p0 : Policy) (p1 : Item) : runF g_lifetime_Latest_E tc_lifetime_Latest_E rv_lifetime_Latest_E false [.t tyPolicy p0, .t tyItem p1] [] = r_lifetime_Latest_E p0 p1 := by kernel_rfl
theorem ok_lifetime_Latest_E : Option.map (trC Try.prog) Try.f20.body = some tc_lifetime_Latest_E.er := by kernel_rfl
theorem rok_lifetime_Latest_E : trVs Try.prog Try.f20.results.toList = some (rv_lifetime_Latest_E.map Prod.fst) := by kernel_rfl
theorem gk_lifetime_Latest_E : GOk Try.prog g_lifetime_Latest_E := gok_of _ (by
  intro p hp
  simp only [List.mem_cons, List.not_mem_nil, or_false] at hp
  rcases hp with rfl
  · exact ⟨en_lifetime_of_E, ms_lifetime_of_E⟩)
theorem lk_lifetime_Latest_E : tc_lifetime_Latest_E.lok g_lifetime_Latest_E := by repeat (first | exact trivial | refine ⟨?_, ?_⟩)
theorem mr_lifetime_Latest_E : Meets Try.prog 20 (runF g_lifetime_Latest_E tc_lifetime_Latest_E rv_lifetime_Latest_E false) := by
  obtain ⟨c, hc, hi⟩ := Option.map_eq_some_iff.1 ok_lifetime_Latest_E
  exact meets_of (by decide) Try.func20 hc hi Try.ntmps20 rok_lifetime_Latest_E gk_lifetime_Latest_E lk_lifetime_Latest_E mixed
theorem s_lifetime_Latest (y : Policy) (i : Item) (h : fineLen y i = true) : orO (r_lifetime_Latest_A y i) (orO (r_lifetime_Latest_B y i) (r_lifetime_Latest_E y i)) = some (.tu [.t tI (LatestF y i).1, .t .bool (LatestF y i).2.1, .t tI (LatestF y i).2.2], []) := by
  rcases three h with ⟨a1, a2, a3⟩ | ⟨a0, a1, a2, a3⟩ | ⟨a0, b0, a1, a3⟩
  · obtain ⟨a4, _, a5, _, _⟩ := fine_lens a3
    simp only [r_lifetime_Latest_A, a1, br_true, ofA, show ine 0 0 = false from rfl, br_false, LatestF, a3, if_true, ieq_dec, a2, decide_true, orO, scOpen, Bool.not_false]
  · obtain ⟨a4, a6, a5, e7, e8⟩ := fine_lens a3
    simp only [r_lifetime_Latest_A, r_lifetime_Latest_B, a0, a1, br_true, ofA, show ine 0 0 = false from rfl, br_false, LatestF, a3, if_true, ieq_dec, a2, a4, a6, e7, e8, Int.toNat_natCast, orO]
    simp only [show decide ((2 : Int) = 1) = false from rfl, Bool.false_eq_true, if_false]
    have hd : (lgt tyLink i.2.2.2.1 (i.2.2.2.1.length - 1)).2.1 = lastDay i := rfl
    rw [hd]
    by_cases q1 : sgOpen (lksF y i) = true
    · rw [if_pos q1, q1, Bool.not_true, br_false]
      by_cases q2 : (sgFails (lksF y i)).2 = true
      · have e9 : lastI2 y i = isub .i64 (sgFails (lksF y i)).1 1 := by unfold lastI2; rw [if_pos q2]
        rw [q2, br_true, e9]
        by_cases q3 : ile (isub .i64 (sgFails (lksF y i)).1 1) (lastDay i) = true
        · rw [if_pos q3, q3]
          rfl
        · rw [if_neg q3, show ile (isub .i64 (sgFails (lksF y i)).1 1) (lastDay i) = false by simpa using q3]
          rfl
      · have e9 : lastI2 y i = 40000 := by unfold lastI2; rw [if_neg q2]
        rw [show (sgFails (lksF y i)).2 = false by simpa using q2, br_false, e9]
        by_cases q3 : ile 40000 (lastDay i) = true
        · rw [if_pos q3, q3]
          rfl
        · rw [if_neg q3, show ile 40000 (lastDay i) = false by simpa using q3]
          rfl
    · rw [if_neg q1, show sgOpen (lksF y i) = false by simpa using q1]
      rfl
  · have a2 := ofE_ne y i
    simp only [r_lifetime_Latest_A, r_lifetime_Latest_B, r_lifetime_Latest_E, a0, b0, a1, br_true, br_false, a2, LatestF, a3, Bool.false_eq_true, if_false, orO]
def sp_lifetime_Latest : Ent := spec (.pr tyPolicy (.pr tyItem .nil)) (fun x => (fineLen x.1 x.2.1)) (fun x => (.tu [(.t tI ((LatestF x.1 x.2.1).1)), (.t .bool (((LatestF x.1 x.2.1).2).1)), (.t tI (((LatestF x.1 x.2.1).2).2))]))
theorem en_lifetime_Latest : Entered Try.prog 20 := .inr ⟨by decide, _, Try.func20, by kernel_rfl, by kernel_rfl⟩
theorem ms_lifetime_Latest : Meets Try.prog 20 (strip sp_lifetime_Latest) := meets_spec (meets_or mr_lifetime_Latest_A (meets_or mr_lifetime_Latest_B mr_lifetime_Latest_E)) fun x hok => orF_pick (e_lifetime_Latest_A x.1 x.2.1) (e_lifetime_Latest_B x.1 x.2.1) (e_lifetime_Latest_E x.1 x.2.1) (s_lifetime_Latest x.1 x.2.1 hok)
end Go.Proofs.Ytfehjdaielifiaa.K
