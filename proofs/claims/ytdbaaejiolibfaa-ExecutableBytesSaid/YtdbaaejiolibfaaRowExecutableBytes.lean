/-
  The law ExecutableBytes: for every input it returns true, and each argument reads afterwards as it read before. No condition.
-/
import Derived.Test.YtdbaaejiolibfaaH3
import Derived.Test.YtdbaaejiolibfaaKD
import Derived.Test.YtdbaaejiolibfaaChecked
import Derived.Test.YtdbaaejiolibfaaRows
set_option linter.unusedSimpArgs false
set_option linter.unusedVariables false
namespace Go.Proofs.Ytdbaaejiolibfaa.executableBytes
open Go.ChangeShapes Go.WideShapes Go.ChangeAt Go.RowKit
theorem own : ownKnob Try.prog.godebug = none := by kernel_rfl
theorem laidOut : laidOutB Try.prog = true := by kernel_rfl
set_option maxRecDepth 100000 in
theorem lifted (os : Os) (started : os.Started) (H : Type) (enc : TypeId × Value → H) :
    ReturnsInHanded {} Try.checked os 3 .any (Rows.executableBytesSpec.pre6 enc Try.prog Try.f3 Rows.executableBytesRow.domain false) (Rows.executableBytesSpec.post enc Try.prog Try.f3 false true false false) := by
  refine returnsInHanded_of_change (C := Try.checked) own started (by kernel_rfl) Try.func3
    (ChangeSpec.witness6 (enc := enc) (C := Try.checked) false ⟨#[], #[.slice none 0 0, .slice none 0 0, .int .i64 0], []⟩ 8 (by kernel_rfl) (by kernel_rfl) (by kernel_rfl) (by kernel_rfl)) ?_
  intro W base args ds gs before hval0 hW hcnd _
  have hval : ∀ (j : Nat) t v, Try.f3.params[j]? = some t → args[j]? = some v → Value.okWide Try.prog W .any base t v := hval0
  have hW' := hW
  obtain ⟨p, q, hA0, hV, rfl, hfz, hnd⟩ := hW
  have hA : DataW.TrodAll enc Try.prog W 0 (fun _ => true) true Try.f3.params.toList args.toList ds p := hA0
  rw [Try.params3] at hA hval
  obtain ⟨v0, vs0, d0, ds0, p0, q0, hargs, rfl, rfl, h0, r0⟩ := trodAll_cons hA
  obtain ⟨v1, vs1, d1, ds1, p1, q1, rfl, rfl, rfl, h1, r1⟩ := trodAll_cons r0
  obtain ⟨v2, vs2, d2, ds2, p2, q2, rfl, rfl, rfl, h2, r2⟩ := trodAll_cons r1
  obtain ⟨rfl, rfl, rfl⟩ := trodAll_nil r2
  obtain rfl : args = #[v0, v1, v2] := by cases args; simp_all
  obtain ⟨rfl, rfl⟩ := trodVars_none hV
  have k0 := h0
  have lt0 : ∀ x ∈ p0, x.block < W.heap.size := by obtain ⟨m, hm⟩ := k0; exact DataW.trod_lt m _ _ _ hm
  obtain ⟨z0, c0, w0⟩ := K.arg_open (n := 12) (σ := fun _ => .no) (show K.tyIs Try.prog 13 22 ((.sl K.tI)) = true by kernel_rfl) (hval 0 22 v0 rfl rfl) h0
  have k1 := h1
  have lt1 : ∀ x ∈ p1, x.block < W.heap.size := by obtain ⟨m, hm⟩ := k1; exact DataW.trod_lt m _ _ _ hm
  obtain ⟨z1, c1, w1⟩ := K.arg_open (n := 12) (σ := fun _ => .no) (show K.tyIs Try.prog 13 23 ((.sl (.int .u8))) = true by kernel_rfl) (hval 1 23 v1 rfl rfl) h1
  have k2 := h2
  have lt2 : ∀ x ∈ p2, x.block < W.heap.size := by obtain ⟨m, hm⟩ := k2; exact DataW.trod_lt m _ _ _ hm
  obtain ⟨z2, c2, w2⟩ := K.arg_open (n := 12) (σ := fun _ => .no) (show K.tyIs Try.prog 13 3 (K.tI) = true by kernel_rfl) (hval 2 3 v2 rfl rfl) h2
  clear hA0 hval0
  refine (K.walkExecutableBytes z0 z1 z2 W v0 v1 v2 c0 c1 c2 w0 w1 w2).mono fun e W' ⟨he, bel⟩ => ?_
  subst he
  exact ⟨_, rfl, _, _, _, [], _, [], hW', trodAll_mk1 (shut_bool Try.underlying4 _), (trodAll_cons_mk (Below.trod laidOut (by kernel_rfl) (of_decide_eq_true (by kernel_rfl)) k0 bel lt0) (trodAll_cons_mk (Below.trod laidOut (by kernel_rfl) (of_decide_eq_true (by kernel_rfl)) k1 bel lt1) (trodAll_cons_mk (Below.trod laidOut (by kernel_rfl) (of_decide_eq_true (by kernel_rfl)) k2 bel lt2) trodAll_mk0))), rfl, bel.frame _, fun h => by cases h⟩
set_option maxRecDepth 100000 in
theorem q0 : (Rows.executableBytesRow.wf (OpenSpec.ofChange Rows.executableBytesSpec) : Bool) = true := by kernel_rfl
set_option maxRecDepth 100000 in
theorem q1 : (laidOutB Try.prog : Bool) = true := by kernel_rfl
set_option maxRecDepth 100000 in
theorem q2 : (mapsRowed Try.prog : Bool) = true := by kernel_rfl
set_option maxRecDepth 100000 in
theorem q3 : (Try.f3.params.all (Try.prog.readableRec ·) : Bool) = true := by kernel_rfl
set_option maxRecDepth 100000 in
theorem q4 : (namedTie Try.prog Rows.executableBytesRow.named Rows.executableBytesSpec.vars : Bool) = true := by kernel_rfl
set_option maxRecDepth 100000 in
theorem q5 : ((Rows.executableBytesRow.stops == []) : Bool) = true := by kernel_rfl
set_option maxRecDepth 100000 in
theorem q6 : ((Try.prog.stops == []) : Bool) = true := by kernel_rfl
set_option maxRecDepth 100000 in
theorem q7 : ((Rows.executableBytesRow.knobs == []) : Bool) = true := by kernel_rfl
set_option maxRecDepth 100000 in
theorem q8 : ((Try.prog.stopKnobs == []) : Bool) = true := by kernel_rfl
set_option maxRecDepth 100000 in
theorem q9 : ((Rows.executableBytesRow.inPlace == Try.prog.inPlace 3) : Bool) = true := by kernel_rfl
set_option maxRecDepth 100000 in
theorem q10 : ((Rows.executableBytesRow.unfollowed == Try.prog.unfollowed 3) : Bool) = true := by kernel_rfl
set_option maxRecDepth 100000 in
theorem q11 : ((Rows.executableBytesRow.recurses == Try.prog.recurses 3) : Bool) = true := by kernel_rfl
set_option maxRecDepth 100000 in
theorem q12 : ((Rows.executableBytesRow.named == Try.prog.varsNamed 3) : Bool) = true := by kernel_rfl
set_option maxRecDepth 100000 in
theorem q13 : ((Rows.executableBytesRow.maps == (Try.f3.params.toList ++ Rows.executableBytesSpec.plain.varTypes Try.prog).any (Try.prog.mapsRec ·)) : Bool) = true := by kernel_rfl
set_option maxRecDepth 100000 in
theorem q14 : ((Rows.executableBytesRow.ifaces == (Try.f3.params.toList ++ Rows.executableBytesSpec.plain.varTypes Try.prog).any (Try.prog.ifacesRec ·)) : Bool) = true := by kernel_rfl
set_option maxRecDepth 100000 in
theorem q15 : ((Rows.executableBytesRow.mapsOut == Try.prog.mapsAmong Try.f3.resultTypes.toList) : Bool) = true := by kernel_rfl
set_option maxRecDepth 100000 in
theorem q16 : ((Rows.executableBytesRow.loops == (Try.f3.params.toList ++ Rows.executableBytesSpec.plain.varTypes Try.prog).any (Try.prog.loopsFrom ·)) : Bool) = true := by kernel_rfl
set_option maxRecDepth 100000 in
theorem q17 : ((Rows.executableBytesRow.wideKeys == (Try.f3.params.toList ++ Rows.executableBytesSpec.plain.varTypes Try.prog ++ Try.f3.resultTypes.toList).any (Try.prog.wideKeysFrom ·)) : Bool) = true := by kernel_rfl
set_option maxRecDepth 100000 in
theorem q18 : (Rows.executableBytesSpec.vars.all (Try.prog.varReadable ·) : Bool) = true := by kernel_rfl
set_option maxRecDepth 100000 in
theorem q19 : (Try.f3.resultTypes.all (fun t => Try.prog.readableRec t && decide (t < Try.prog.types.size)) : Bool) = true := by kernel_rfl
set_option maxRecDepth 100000 in
theorem q20 : ((Rows.executableBytesRow.ifacesOut == Try.f3.resultTypes.toList.any (Try.prog.ifacesRec ·)) : Bool) = true := by kernel_rfl
set_option maxRecDepth 100000 in
theorem q21 : ((Rows.executableBytesRow.loopsOut == Try.f3.resultTypes.toList.any (Try.prog.loopsFrom ·)) : Bool) = true := by kernel_rfl
set_option maxRecDepth 100000 in
theorem q22 : ((Rows.executableBytesRow.plainKeys == Try.prog.plainKeys) : Bool) = true := by kernel_rfl
set_option maxRecDepth 100000 in
theorem q23 : (Rows.executableBytesRow.shortTexts.isNone : Bool) = true := by kernel_rfl
set_option maxRecDepth 100000 in
theorem q24 : (Try.prog.stopsHeard : Bool) = true := by kernel_rfl
set_option maxRecDepth 100000 in
theorem q25 : (Try.prog.mayEnter : Bool) = true := by kernel_rfl
set_option maxRecDepth 100000 in
theorem q26 : ((Rows.executableBytesRow.lifted == Try.prog.liftsFinal) : Bool) = true := by kernel_rfl
set_option maxRecDepth 100000 in
theorem q27 : ((Try.prog.make == some Rows.executableBytesRow.make) : Bool) = true := by kernel_rfl
set_option maxRecDepth 100000 in
theorem q28 : ((Rows.executableBytesRow.kinds == (if Rows.executableBytesRow.domain.isEmpty then [] else Try.f3.params.toList.map fun t => match Try.prog.underlying t with | some (.int k) => some k | _ => none)) : Bool) = true := by kernel_rfl
set_option maxRecDepth 100000 in
theorem q29 : ((Rows.executableBytesRow.pinned == Rows.executableBytesRow.pinnedBy) : Bool) = true := by kernel_rfl
set_option maxRecDepth 100000 in
theorem q30 : ((Rows.executableBytesRow.veiled == (Try.f3.params.toList ++ Rows.executableBytesSpec.plain.varTypes Try.prog ++ Try.f3.resultTypes.toList).any (Try.prog.veiledRec ·)) : Bool) = true := by kernel_rfl
set_option maxRecDepth 100000 in
theorem q31 : (Rows.executableBytesRow.veiledFits Try.prog Try.f3.params.toList (Try.f3.params.toList ++ Rows.executableBytesSpec.plain.varTypes Try.prog ++ Try.f3.resultTypes.toList) : Bool) = true := by kernel_rfl
set_option maxRecDepth 100000 in
theorem closed : joinedFacts Try.prog 3 Try.f3 Rows.executableBytesSpec Rows.executableBytesRow = true := by
  unfold joinedFacts
  simp only [Bool.and_eq_true]
  exact ⟨⟨⟨⟨⟨⟨⟨⟨⟨⟨⟨⟨⟨⟨⟨⟨⟨⟨⟨⟨⟨⟨⟨⟨⟨⟨⟨⟨⟨⟨⟨q0, q1⟩, q2⟩, q3⟩, q4⟩, q5⟩, q6⟩, q7⟩, q8⟩, q9⟩, q10⟩, q11⟩, q12⟩, q13⟩, q14⟩, q15⟩, q16⟩, q17⟩, q18⟩, q19⟩, q20⟩, q21⟩, q22⟩, q23⟩, q24⟩, q25⟩, q26⟩, q27⟩, q28⟩, q29⟩, q30⟩, q31⟩
theorem over : Rows.executableBytesRow.holds Try.pinned (OpenSpec.ofChange Rows.executableBytesSpec) :=
  OpenClaim.holds_of_wide 3 Try.f3 rfl rfl rfl rfl rfl rfl rfl ⟨rfl, rfl, rfl, rfl, rfl⟩ rfl rfl rfl rfl rfl (by kernel_rfl) Try.func3 closed
    (of_decide_eq_true (by kernel_rfl)) (by unfold Func.isWrapper; first | (rw [if_pos (by decide +kernel)]; kernel_rfl) | (rw [if_neg (by decide +kernel)]; exact ⟨rfl, rfl⟩))
    (fun os started H enc _ => lifted os started H enc)
theorem proved : Rows.ExecutableBytesSaid := over
#print axioms proved
end Go.Proofs.Ytdbaaejiolibfaa.executableBytes
