/-
 The law PolicyClean:for every input it returns true,and each argument reads afterwards as it read before. No condition.
-/
import Derived.Test.YtmjnnemhoeolgaaGreatQ11
import Derived.Test.YtmjnnemhoeolgaaGreatQ3
import Derived.Test.YtmjnnemhoeolgaaGreatChecked
import Derived.Test.YtmjnnemhoeolgaaGreatRows
noncomputable section
set_option linter.unusedSimpArgs false
set_option linter.unusedVariables false
namespace Go.Proofs.YtmjnnemhoeolgaaGreat.policyClean
open Go.ChangeShapes Go.WideShapes Go.ChangeAt Go.RowKit
theorem own:ownKnob Tryz.prog.godebug=none:=by kernel_rfl
theorem laidOut:laidOutB Tryz.prog=true:=by kernel_rfl
set_option maxRecDepth 100000 in
theorem lifted (os:Os)(started:os.Started)(H:Type)(enc:TypeId×Value->H):
  ReturnsInHanded {} Tryz.checked os 3 .any (Rows.policyCleanSpec.pre6 enc Tryz.prog Tryz.f3 Rows.policyCleanRow.domain false) (Rows.policyCleanSpec.post enc Tryz.prog Tryz.f3 false true false false):=by
 refine returnsInHanded_of_change (C:=Tryz.checked) own started (by kernel_rfl) Tryz.func3
  (ChangeSpec.witness6 (enc:=enc) (C:=Tryz.checked) false ⟨#[], #[.slice none 0 0,.int .i64 0],[]⟩ 8 (by kernel_rfl) (by kernel_rfl) (by kernel_rfl) (by kernel_rfl)) ?_
 intro W base args ds gs before hval0 hW hcnd _
 have hval: ∀ (j:Nat) t v,Tryz.f3.params[j]? = some t->args[j]? = some v->Value.okWide Tryz.prog W .any base t v:=hval0
 have hW':=hW
 obtain ⟨p,q,hA0,hV,rfl,hfz,hnd⟩:=hW
 have hA:DataW.TrodAll enc Tryz.prog W 0 (fun _=>true) true Tryz.f3.params.toList args.toList ds p:=hA0
 rw [Tryz.params3] at hA hval
 obtain ⟨v0,vs0,d0,ds0,p0,q0,hargs,rfl,rfl,h0,r0⟩:=trodAll_cons hA
 obtain ⟨v1,vs1,d1,ds1,p1,q1,rfl,rfl,rfl,h1,r1⟩:=trodAll_cons r0
 obtain ⟨rfl,rfl,rfl⟩:=trodAll_nil r1
 obtain rfl:args= #[v0,v1]:=by cases args;simp_all
 obtain ⟨rfl,rfl⟩:=trodVars_none hV
 have k0:=h0
 have lt0: ∀ x∈p0,x.block<W.heap.size:=by obtain ⟨m,hm⟩:=k0;exact DataW.trod_lt m _ _ _ hm
 obtain ⟨z0,c0,w0⟩:=K.QuQ (n:=12) (σ:=fun _=> .no) (show K.Un Tryz.prog 13 22 ((.sl K.tI))=true by kernel_rfl) (hval 0 22 v0 rfl rfl) h0
 have k1:=h1
 have lt1: ∀ x∈p1,x.block<W.heap.size:=by obtain ⟨m,hm⟩:=k1;exact DataW.trod_lt m _ _ _ hm
 obtain ⟨z1,c1,w1⟩:=K.QuQ (n:=12) (σ:=fun _=> .no) (show K.Un Tryz.prog 13 3 (K.tI)=true by kernel_rfl) (hval 1 3 v1 rfl rfl) h1
 clear hA0 hval0
 refine (K.walkPolicyClean z0 z1 W v0 v1 c0 c1 w0 w1).mono fun e W' ⟨he,bel⟩=> ?_
 subst he
 exact ⟨_,rfl,_,_,_,[],_,[],hW',trodAll_mk1 (shut_bool Tryz.underlying4 _),(trodAll_cons_mk (Below.trod laidOut (by kernel_rfl) (of_decide_eq_true (by kernel_rfl)) k0 bel lt0) (trodAll_cons_mk (Below.trod laidOut (by kernel_rfl) (of_decide_eq_true (by kernel_rfl)) k1 bel lt1) trodAll_mk0)),rfl,bel.frame _,fun h=>by cases h⟩
set_option maxRecDepth 100000 in
theorem q0:(Rows.policyCleanRow.wf (OpenSpec.ofChange Rows.policyCleanSpec):Bool)=true:=by kernel_rfl
set_option maxRecDepth 100000 in
theorem q1:(laidOutB Tryz.prog:Bool)=true:=by kernel_rfl
set_option maxRecDepth 100000 in
theorem q2:(mapsRowed Tryz.prog:Bool)=true:=by kernel_rfl
set_option maxRecDepth 100000 in
theorem q3:(Tryz.f3.params.all (Tryz.prog.readableRec ·):Bool)=true:=by kernel_rfl
set_option maxRecDepth 100000 in
theorem q4:(namedTie Tryz.prog Rows.policyCleanRow.named Rows.policyCleanSpec.vars:Bool)=true:=by kernel_rfl
set_option maxRecDepth 100000 in
theorem q5:((Rows.policyCleanRow.stops==[]):Bool)=true:=by kernel_rfl
set_option maxRecDepth 100000 in
theorem q6:((Tryz.prog.stops==[]):Bool)=true:=by kernel_rfl
set_option maxRecDepth 100000 in
theorem q7:((Rows.policyCleanRow.knobs==[]):Bool)=true:=by kernel_rfl
set_option maxRecDepth 100000 in
theorem q8:((Tryz.prog.stopKnobs==[]):Bool)=true:=by kernel_rfl
set_option maxRecDepth 100000 in
theorem q9:((Rows.policyCleanRow.inPlace==Tryz.prog.inPlace 3):Bool)=true:=by kernel_rfl
set_option maxRecDepth 100000 in
theorem q10:((Rows.policyCleanRow.unfollowed==Tryz.prog.unfollowed 3):Bool)=true:=by kernel_rfl
set_option maxRecDepth 100000 in
theorem q11:((Rows.policyCleanRow.recurses==Tryz.prog.recurses 3):Bool)=true:=by kernel_rfl
set_option maxRecDepth 100000 in
theorem q12:((Rows.policyCleanRow.named==Tryz.prog.varsNamed 3):Bool)=true:=by kernel_rfl
set_option maxRecDepth 100000 in
theorem q13:((Rows.policyCleanRow.maps==(Tryz.f3.params.toList++Rows.policyCleanSpec.plain.varTypes Tryz.prog).any (Tryz.prog.mapsRec ·)):Bool)=true:=by kernel_rfl
set_option maxRecDepth 100000 in
theorem q14:((Rows.policyCleanRow.ifaces==(Tryz.f3.params.toList++Rows.policyCleanSpec.plain.varTypes Tryz.prog).any (Tryz.prog.ifacesRec ·)):Bool)=true:=by kernel_rfl
set_option maxRecDepth 100000 in
theorem q15:((Rows.policyCleanRow.mapsOut==Tryz.prog.mapsAmong Tryz.f3.resultTypes.toList):Bool)=true:=by kernel_rfl
set_option maxRecDepth 100000 in
theorem q16:((Rows.policyCleanRow.loops==(Tryz.f3.params.toList++Rows.policyCleanSpec.plain.varTypes Tryz.prog).any (Tryz.prog.loopsFrom ·)):Bool)=true:=by kernel_rfl
set_option maxRecDepth 100000 in
theorem q17:((Rows.policyCleanRow.wideKeys==(Tryz.f3.params.toList++Rows.policyCleanSpec.plain.varTypes Tryz.prog++Tryz.f3.resultTypes.toList).any (Tryz.prog.wideKeysFrom ·)):Bool)=true:=by kernel_rfl
set_option maxRecDepth 100000 in
theorem q18:(Rows.policyCleanSpec.vars.all (Tryz.prog.varReadable ·):Bool)=true:=by kernel_rfl
set_option maxRecDepth 100000 in
theorem q19:(Tryz.f3.resultTypes.all (fun t=>Tryz.prog.readableRec t&&decide (t<Tryz.prog.types.size)):Bool)=true:=by kernel_rfl
set_option maxRecDepth 100000 in
theorem q20:((Rows.policyCleanRow.ifacesOut==Tryz.f3.resultTypes.toList.any (Tryz.prog.ifacesRec ·)):Bool)=true:=by kernel_rfl
set_option maxRecDepth 100000 in
theorem q21:((Rows.policyCleanRow.loopsOut==Tryz.f3.resultTypes.toList.any (Tryz.prog.loopsFrom ·)):Bool)=true:=by kernel_rfl
set_option maxRecDepth 100000 in
theorem q22:((Rows.policyCleanRow.plainKeys==Tryz.prog.plainKeys):Bool)=true:=by kernel_rfl
set_option maxRecDepth 100000 in
theorem q23:(Rows.policyCleanRow.shortTexts.isNone:Bool)=true:=by kernel_rfl
set_option maxRecDepth 100000 in
theorem q24:(Tryz.prog.stopsHeard:Bool)=true:=by kernel_rfl
set_option maxRecDepth 100000 in
theorem q25:(Tryz.prog.mayEnter:Bool)=true:=by kernel_rfl
set_option maxRecDepth 100000 in
theorem q26:((Rows.policyCleanRow.lifted==Tryz.prog.liftsFinal):Bool)=true:=by kernel_rfl
set_option maxRecDepth 100000 in
theorem q27:((Tryz.prog.make==some Rows.policyCleanRow.make):Bool)=true:=by kernel_rfl
set_option maxRecDepth 100000 in
theorem q28:((Rows.policyCleanRow.kinds==(if Rows.policyCleanRow.domain.isEmpty then [] else Tryz.f3.params.toList.map fun t=>match Tryz.prog.underlying t with|some (.int k)=>some k|_=>none)):Bool)=true:=by kernel_rfl
set_option maxRecDepth 100000 in
theorem q29:((Rows.policyCleanRow.pinned==Rows.policyCleanRow.pinnedBy):Bool)=true:=by kernel_rfl
set_option maxRecDepth 100000 in
theorem q30:((Rows.policyCleanRow.veiled==(Tryz.f3.params.toList++Rows.policyCleanSpec.plain.varTypes Tryz.prog++Tryz.f3.resultTypes.toList).any (Tryz.prog.veiledRec ·)):Bool)=true:=by kernel_rfl
set_option maxRecDepth 100000 in
theorem q31:(Rows.policyCleanRow.veiledFits Tryz.prog Tryz.f3.params.toList (Tryz.f3.params.toList++Rows.policyCleanSpec.plain.varTypes Tryz.prog++Tryz.f3.resultTypes.toList):Bool)=true:=by kernel_rfl
set_option maxRecDepth 100000 in
theorem closed:joinedFacts Tryz.prog 3 Tryz.f3 Rows.policyCleanSpec Rows.policyCleanRow=true:=by
 unfold joinedFacts
 simp only [Bool.and_eq_true]
 exact ⟨⟨⟨⟨⟨⟨⟨⟨⟨⟨⟨⟨⟨⟨⟨⟨⟨⟨⟨⟨⟨⟨⟨⟨⟨⟨⟨⟨⟨⟨⟨q0,q1⟩,q2⟩,q3⟩,q4⟩,q5⟩,q6⟩,q7⟩,q8⟩,q9⟩,q10⟩,q11⟩,q12⟩,q13⟩,q14⟩,q15⟩,q16⟩,q17⟩,q18⟩,q19⟩,q20⟩,q21⟩,q22⟩,q23⟩,q24⟩,q25⟩,q26⟩,q27⟩,q28⟩,q29⟩,q30⟩,q31⟩
theorem over:Rows.policyCleanRow.holds Tryz.pinned (OpenSpec.ofChange Rows.policyCleanSpec):=
 OpenClaim.holds_of_wide 3 Tryz.f3 rfl rfl rfl rfl rfl rfl rfl ⟨rfl,rfl,rfl,rfl,rfl⟩ rfl rfl rfl rfl rfl (by kernel_rfl) Tryz.func3 closed
  (of_decide_eq_true (by kernel_rfl)) (by unfold Func.isWrapper;first|(rw [if_pos (by decide+kernel)];kernel_rfl)|(rw [if_neg (by decide+kernel)];exact ⟨rfl,rfl⟩))
  (fun os started H enc _=>lifted os started H enc)
theorem proved:Rows.PolicyCleanSaid:=over
#print axioms proved
end Go.Proofs.YtmjnnemhoeolgaaGreat.policyClean
