/-
 The law JournalAll: for every input it returns true, and each argument reads afterwards as it read before. No condition.
-/
import Derived.Test.YtnimpcffagidoaaJ6
import Derived.Test.YtnimpcffagidoaaKD
set_option linter.unusedSimpArgs false
set_option linter.unusedVariables false
namespace Go.Proofs.Ytnimpcffagidoaa.journalAll
open Go.ChangeShapes Go.WideShapes Go.ChangeAt Go.RowKit
theorem own : ownKnob Try.prog.godebug = none := by kernel_rfl
theorem laidOut : laidOutB Try.prog = true := by kernel_rfl
set_option maxRecDepth 100000 in
theorem lifted (os : Os) (started : os.Started) (H : Type) (enc : TypeId × Value → H) :
  ReturnsInHanded {} Try.checked os 11 .any (Rows.journalAllSpec.pre6 enc Try.prog Try.f11 Rows.journalAllRow.domain false) (Rows.journalAllSpec.post enc Try.prog Try.f11 false true false false) := by
 refine returnsInHanded_of_change (C := Try.checked) own started (by kernel_rfl) Try.func11
  (ChangeSpec.witness6 (enc := enc) (C := Try.checked) false ⟨#[], #[.slice none 0 0, .agg #[.int .i64 0, .int .i64 0, .int .i64 0, .int .i64 0, .int .i64 0], .string ByteArray.empty, .int .i64 0, .int .i64 0, .int .i64 0], []⟩ 8 (by kernel_rfl) (by kernel_rfl) (by kernel_rfl) (by kernel_rfl)) ?_
 intro W base args ds gs before hval0 hW hcnd _
 have hval : ∀ (j : Nat) t v, Try.f11.params[j]? = some t → args[j]? = some v → Value.okWide Try.prog W .any base t v := hval0
 have hW' := hW
 obtain ⟨p, q, hA0, hV, rfl, hfz, hnd⟩ := hW
 have hA : DataW.TrodAll enc Try.prog W 0 (fun _ => true) true Try.f11.params.toList args.toList ds p := hA0
 rw [Try.params11] at hA hval
 obtain ⟨v0, vs0, d0, ds0, p0, q0, hargs, rfl, rfl, h0, r0⟩ := trodAll_cons hA
 obtain ⟨v1, vs1, d1, ds1, p1, q1, rfl, rfl, rfl, h1, r1⟩ := trodAll_cons r0
 obtain ⟨v2, vs2, d2, ds2, p2, q2, rfl, rfl, rfl, h2, r2⟩ := trodAll_cons r1
 obtain ⟨v3, vs3, d3, ds3, p3, q3, rfl, rfl, rfl, h3, r3⟩ := trodAll_cons r2
 obtain ⟨v4, vs4, d4, ds4, p4, q4, rfl, rfl, rfl, h4, r4⟩ := trodAll_cons r3
 obtain ⟨v5, vs5, d5, ds5, p5, q5, rfl, rfl, rfl, h5, r5⟩ := trodAll_cons r4
 obtain ⟨rfl, rfl, rfl⟩ := trodAll_nil r5
 obtain rfl : args = #[v0, v1, v2, v3, v4, v5] := by cases args; simp_all
 obtain ⟨rfl, rfl⟩ := trodVars_none hV
 have k0 := h0
 have lt0 : ∀ x ∈ p0, x.block < W.heap.size := by obtain ⟨m, hm⟩ := k0; exact DataW.trod_lt m _ _ _ hm
 obtain ⟨z0, c0, w0⟩ := K.arg_open (n := 12) (σ := fun _ => .no) (show K.tyIs Try.prog 13 26 ((.sl K.tI)) = true by kernel_rfl) (hval 0 26 v0 rfl rfl) h0
 have k1 := h1
 have lt1 : ∀ x ∈ p1, x.block < W.heap.size := by obtain ⟨m, hm⟩ := k1; exact DataW.trod_lt m _ _ _ hm
 obtain ⟨z1, c1, w1⟩ := K.arg_open (n := 12) (σ := fun _ => .no) (show K.tyIs Try.prog 13 40 (K.tyDecision) = true by kernel_rfl) (hval 1 40 v1 rfl rfl) h1
 have k2 := h2
 have lt2 : ∀ x ∈ p2, x.block < W.heap.size := by obtain ⟨m, hm⟩ := k2; exact DataW.trod_lt m _ _ _ hm
 obtain ⟨z2, c2, w2⟩ := K.arg_open (n := 12) (σ := fun _ => .no) (show K.tyIs Try.prog 13 9 (.str) = true by kernel_rfl) (hval 2 9 v2 rfl rfl) h2
 have k3 := h3
 have lt3 : ∀ x ∈ p3, x.block < W.heap.size := by obtain ⟨m, hm⟩ := k3; exact DataW.trod_lt m _ _ _ hm
 obtain ⟨z3, c3, w3⟩ := K.arg_open (n := 12) (σ := fun _ => .no) (show K.tyIs Try.prog 13 3 (K.tI) = true by kernel_rfl) (hval 3 3 v3 rfl rfl) h3
 have k4 := h4
 have lt4 : ∀ x ∈ p4, x.block < W.heap.size := by obtain ⟨m, hm⟩ := k4; exact DataW.trod_lt m _ _ _ hm
 obtain ⟨z4, c4, w4⟩ := K.arg_open (n := 12) (σ := fun _ => .no) (show K.tyIs Try.prog 13 3 (K.tI) = true by kernel_rfl) (hval 4 3 v4 rfl rfl) h4
 have k5 := h5
 have lt5 : ∀ x ∈ p5, x.block < W.heap.size := by obtain ⟨m, hm⟩ := k5; exact DataW.trod_lt m _ _ _ hm
 obtain ⟨z5, c5, w5⟩ := K.arg_open (n := 12) (σ := fun _ => .no) (show K.tyIs Try.prog 13 3 (K.tI) = true by kernel_rfl) (hval 5 3 v5 rfl rfl) h5
 clear hA0 hval0
 refine (K.walkJournalAll z0 z1 z2 z3 z4 z5 W v0 v1 v2 v3 v4 v5 c0 c1 c2 c3 c4 c5 w0 w1 w2 w3 w4 w5).mono fun e W' ⟨he, bel⟩ => ?_
 subst he
 exact ⟨_, rfl, _, _, _, [], _, [], hW', trodAll_mk1 (shut_bool Try.underlying4 _), (trodAll_cons_mk (Below.trod laidOut (by kernel_rfl) (of_decide_eq_true (by kernel_rfl)) k0 bel lt0) (trodAll_cons_mk (Below.trod laidOut (by kernel_rfl) (of_decide_eq_true (by kernel_rfl)) k1 bel lt1) (trodAll_cons_mk (Below.trod laidOut (by kernel_rfl) (of_decide_eq_true (by kernel_rfl)) k2 bel lt2) (trodAll_cons_mk (Below.trod laidOut (by kernel_rfl) (of_decide_eq_true (by kernel_rfl)) k3 bel lt3) (trodAll_cons_mk (Below.trod laidOut (by kernel_rfl) (of_decide_eq_true (by kernel_rfl)) k4 bel lt4) (trodAll_cons_mk (Below.trod laidOut (by kernel_rfl) (of_decide_eq_true (by kernel_rfl)) k5 bel lt5) trodAll_mk0)))))), rfl, bel.frame _, fun h => by cases h⟩
set_option maxRecDepth 100000 in
theorem q0 : (Rows.journalAllRow.wf (OpenSpec.ofChange Rows.journalAllSpec) : Bool) = true := by kernel_rfl
set_option maxRecDepth 100000 in
theorem q1 : (laidOutB Try.prog : Bool) = true := by kernel_rfl
set_option maxRecDepth 100000 in
theorem q2 : (mapsRowed Try.prog : Bool) = true := by kernel_rfl
set_option maxRecDepth 100000 in
theorem q3 : (Try.f11.params.all (Try.prog.readableRec ·) : Bool) = true := by kernel_rfl
set_option maxRecDepth 100000 in
theorem q4 : (namedTie Try.prog Rows.journalAllRow.named Rows.journalAllSpec.vars : Bool) = true := by kernel_rfl
set_option maxRecDepth 100000 in
theorem q5 : ((Rows.journalAllRow.stops == []) : Bool) = true := by kernel_rfl
set_option maxRecDepth 100000 in
theorem q6 : ((Try.prog.stops == []) : Bool) = true := by kernel_rfl
set_option maxRecDepth 100000 in
theorem q7 : ((Rows.journalAllRow.knobs == []) : Bool) = true := by kernel_rfl
set_option maxRecDepth 100000 in
theorem q8 : ((Try.prog.stopKnobs == []) : Bool) = true := by kernel_rfl
set_option maxRecDepth 100000 in
theorem q9 : ((Rows.journalAllRow.inPlace == Try.prog.inPlace 11) : Bool) = true := by kernel_rfl
set_option maxRecDepth 100000 in
theorem q10 : ((Rows.journalAllRow.unfollowed == Try.prog.unfollowed 11) : Bool) = true := by kernel_rfl
set_option maxRecDepth 100000 in
theorem q11 : ((Rows.journalAllRow.recurses == Try.prog.recurses 11) : Bool) = true := by kernel_rfl
set_option maxRecDepth 100000 in
theorem q12 : ((Rows.journalAllRow.named == Try.prog.varsNamed 11) : Bool) = true := by kernel_rfl
set_option maxRecDepth 100000 in
theorem q13 : ((Rows.journalAllRow.maps == (Try.f11.params.toList ++ Rows.journalAllSpec.plain.varTypes Try.prog).any (Try.prog.mapsRec ·)) : Bool) = true := by kernel_rfl
set_option maxRecDepth 100000 in
theorem q14 : ((Rows.journalAllRow.ifaces == (Try.f11.params.toList ++ Rows.journalAllSpec.plain.varTypes Try.prog).any (Try.prog.ifacesRec ·)) : Bool) = true := by kernel_rfl
set_option maxRecDepth 100000 in
theorem q15 : ((Rows.journalAllRow.mapsOut == Try.prog.mapsAmong Try.f11.resultTypes.toList) : Bool) = true := by kernel_rfl
set_option maxRecDepth 100000 in
theorem q16 : ((Rows.journalAllRow.loops == (Try.f11.params.toList ++ Rows.journalAllSpec.plain.varTypes Try.prog).any (Try.prog.loopsFrom ·)) : Bool) = true := by kernel_rfl
set_option maxRecDepth 100000 in
theorem q17 : ((Rows.journalAllRow.wideKeys == (Try.f11.params.toList ++ Rows.journalAllSpec.plain.varTypes Try.prog ++ Try.f11.resultTypes.toList).any (Try.prog.wideKeysFrom ·)) : Bool) = true := by kernel_rfl
set_option maxRecDepth 100000 in
theorem q18 : (Rows.journalAllSpec.vars.all (Try.prog.varReadable ·) : Bool) = true := by kernel_rfl
set_option maxRecDepth 100000 in
theorem q19 : (Try.f11.resultTypes.all (fun t => Try.prog.readableRec t && decide (t < Try.prog.types.size)) : Bool) = true := by kernel_rfl
set_option maxRecDepth 100000 in
theorem q20 : ((Rows.journalAllRow.ifacesOut == Try.f11.resultTypes.toList.any (Try.prog.ifacesRec ·)) : Bool) = true := by kernel_rfl
set_option maxRecDepth 100000 in
theorem q21 : ((Rows.journalAllRow.loopsOut == Try.f11.resultTypes.toList.any (Try.prog.loopsFrom ·)) : Bool) = true := by kernel_rfl
set_option maxRecDepth 100000 in
theorem q22 : ((Rows.journalAllRow.plainKeys == Try.prog.plainKeys) : Bool) = true := by kernel_rfl
set_option maxRecDepth 100000 in
theorem q23 : (Rows.journalAllRow.shortTexts.isNone : Bool) = true := by kernel_rfl
set_option maxRecDepth 100000 in
theorem q24 : (Try.prog.stopsHeard : Bool) = true := by kernel_rfl
set_option maxRecDepth 100000 in
theorem q25 : (Try.prog.mayEnter : Bool) = true := by kernel_rfl
set_option maxRecDepth 100000 in
theorem q26 : ((Rows.journalAllRow.lifted == Try.prog.liftsFinal) : Bool) = true := by kernel_rfl
set_option maxRecDepth 100000 in
theorem q27 : ((Try.prog.make == some Rows.journalAllRow.make) : Bool) = true := by kernel_rfl
set_option maxRecDepth 100000 in
theorem q28 : ((Rows.journalAllRow.kinds == (if Rows.journalAllRow.domain.isEmpty then [] else Try.f11.params.toList.map fun t => match Try.prog.underlying t with | some (.int k) => some k | _ => none)) : Bool) = true := by kernel_rfl
set_option maxRecDepth 100000 in
theorem q29 : ((Rows.journalAllRow.pinned == Rows.journalAllRow.pinnedBy) : Bool) = true := by kernel_rfl
set_option maxRecDepth 100000 in
theorem q30 : ((Rows.journalAllRow.veiled == (Try.f11.params.toList ++ Rows.journalAllSpec.plain.varTypes Try.prog ++ Try.f11.resultTypes.toList).any (Try.prog.veiledRec ·)) : Bool) = true := by kernel_rfl
set_option maxRecDepth 100000 in
theorem q31 : (Rows.journalAllRow.veiledFits Try.prog Try.f11.params.toList (Try.f11.params.toList ++ Rows.journalAllSpec.plain.varTypes Try.prog ++ Try.f11.resultTypes.toList) : Bool) = true := by kernel_rfl
set_option maxRecDepth 100000 in
theorem closed : joinedFacts Try.prog 11 Try.f11 Rows.journalAllSpec Rows.journalAllRow = true := by
 unfold joinedFacts
 simp only [Bool.and_eq_true]
 exact ⟨⟨⟨⟨⟨⟨⟨⟨⟨⟨⟨⟨⟨⟨⟨⟨⟨⟨⟨⟨⟨⟨⟨⟨⟨⟨⟨⟨⟨⟨⟨q0, q1⟩, q2⟩, q3⟩, q4⟩, q5⟩, q6⟩, q7⟩, q8⟩, q9⟩, q10⟩, q11⟩, q12⟩, q13⟩, q14⟩, q15⟩, q16⟩, q17⟩, q18⟩, q19⟩, q20⟩, q21⟩, q22⟩, q23⟩, q24⟩, q25⟩, q26⟩, q27⟩, q28⟩, q29⟩, q30⟩, q31⟩
theorem over : Rows.journalAllRow.holds Try.pinned (OpenSpec.ofChange Rows.journalAllSpec) :=
 OpenClaim.holds_of_wide 11 Try.f11 rfl rfl rfl rfl rfl rfl rfl ⟨rfl, rfl, rfl, rfl, rfl⟩ rfl rfl rfl rfl rfl (by kernel_rfl) Try.func11 closed
  (of_decide_eq_true (by kernel_rfl)) (by unfold Func.isWrapper; first | (rw [if_pos (by decide +kernel)]; kernel_rfl) | (rw [if_neg (by decide +kernel)]; exact ⟨rfl, rfl⟩))
  (fun os started H enc _ => lifted os started H enc)
theorem proved : Rows.JournalAllSaid := over
#print axioms proved
end Go.Proofs.Ytnimpcffagidoaa.journalAll
