/-
 The law JobAll:for every input it returns true,and each argument reads afterwards as it read before. No condition.
-/
import Derived.Test.YthlcobdnemhcdaaGreatW12
import Derived.Test.YthlcobdnemhcdaaGreatW3
import Derived.Test.YthlcobdnemhcdaaGreatChecked
import Derived.Test.YthlcobdnemhcdaaGreatRows
noncomputable section
set_option linter.unusedSimpArgs false
set_option linter.unusedVariables false
namespace Go.Proofs.YthlcobdnemhcdaaGreat.jobAll
open Go.ChangeShapes Go.WideShapes Go.ChangeAt Go.RowKit
theorem own:ownKnob Tryz.prog.godebug=none:=by kernel_rfl
theorem laidOut:laidOutB Tryz.prog=true:=by kernel_rfl
set_option maxRecDepth 100000 in
theorem lifted (os:Os)(started:os.Started)(H:Type)(enc:TypeId×Value->H):
  ReturnsInHanded {} Tryz.checked os 4 .any (Rows.jobAllSpec.pre6 enc Tryz.prog Tryz.f4 Rows.jobAllRow.domain false) (Rows.jobAllSpec.post enc Tryz.prog Tryz.f4 false true false false):=by
 refine returnsInHanded_of_change (C:=Tryz.checked) own started (by kernel_rfl) Tryz.func4
  (ChangeSpec.witness6 (enc:=enc) (C:=Tryz.checked) false ⟨#[], #[.slice none 0 0,.agg #[.int .i64 0,.int .i64 0,.int .i64 0,.int .i64 0],.int .i64 0],[]⟩ 8 (by kernel_rfl) (by kernel_rfl) (by kernel_rfl) (by kernel_rfl)) ?_
 intro W base args ds gs before hval0 hW hcnd _
 have hval: ∀ (j:Nat) t v,Tryz.f4.params[j]? = some t->args[j]? = some v->Value.okWide Tryz.prog W .any base t v:=hval0
 have hW':=hW
 obtain ⟨p,q,hA0,hV,rfl,hfz,hnd⟩:=hW
 have hA:DataW.TrodAll enc Tryz.prog W 0 (fun _=>true) true Tryz.f4.params.toList args.toList ds p:=hA0
 rw [Tryz.params4] at hA hval
 obtain ⟨v0,vs0,d0,ds0,p0,q0,hargs,rfl,rfl,h0,r0⟩:=trodAll_cons hA
 obtain ⟨v1,vs1,d1,ds1,p1,q1,rfl,rfl,rfl,h1,r1⟩:=trodAll_cons r0
 obtain ⟨v2,vs2,d2,ds2,p2,q2,rfl,rfl,rfl,h2,r2⟩:=trodAll_cons r1
 obtain ⟨rfl,rfl,rfl⟩:=trodAll_nil r2
 obtain rfl:args= #[v0,v1,v2]:=by cases args;simp_all
 obtain ⟨rfl,rfl⟩:=trodVars_none hV
 have k0:=h0
 have lt0: ∀ x∈p0,x.block<W.heap.size:=by obtain ⟨m,hm⟩:=k0;exact DataW.trod_lt m _ _ _ hm
 obtain ⟨z0,c0,w0⟩:=K.QmT (n:=12) (σ:=fun _=> .no) (show K.UM Tryz.prog 13 22 ((.sl K.tI))=true by kernel_rfl) (hval 0 22 v0 rfl rfl) h0
 have k1:=h1
 have lt1: ∀ x∈p1,x.block<W.heap.size:=by obtain ⟨m,hm⟩:=k1;exact DataW.trod_lt m _ _ _ hm
 obtain ⟨z1,c1,w1⟩:=K.QmT (n:=12) (σ:=fun _=> .no) (show K.UM Tryz.prog 13 47 (K.Jb)=true by kernel_rfl) (hval 1 47 v1 rfl rfl) h1
 have k2:=h2
 have lt2: ∀ x∈p2,x.block<W.heap.size:=by obtain ⟨m,hm⟩:=k2;exact DataW.trod_lt m _ _ _ hm
 obtain ⟨z2,c2,w2⟩:=K.QmT (n:=12) (σ:=fun _=> .no) (show K.UM Tryz.prog 13 3 (K.tI)=true by kernel_rfl) (hval 2 3 v2 rfl rfl) h2
 clear hA0 hval0
 refine (K.walkJobAll z0 z1 z2 W v0 v1 v2 c0 c1 c2 w0 w1 w2).mono fun e W' ⟨he,bel⟩=> ?_
 subst he
 exact ⟨_,rfl,_,_,_,[],_,[],hW',trodAll_mk1 (shut_bool Tryz.underlying4 _),(trodAll_cons_mk (Below.trod laidOut (by kernel_rfl) (of_decide_eq_true (by kernel_rfl)) k0 bel lt0) (trodAll_cons_mk (Below.trod laidOut (by kernel_rfl) (of_decide_eq_true (by kernel_rfl)) k1 bel lt1) (trodAll_cons_mk (Below.trod laidOut (by kernel_rfl) (of_decide_eq_true (by kernel_rfl)) k2 bel lt2) trodAll_mk0))),rfl,bel.frame _,fun h=>by cases h⟩
set_option maxRecDepth 100000 in
theorem q0:(Rows.jobAllRow.wf (OpenSpec.ofChange Rows.jobAllSpec):Bool)=true:=by kernel_rfl
set_option maxRecDepth 100000 in
theorem q1:(laidOutB Tryz.prog:Bool)=true:=by kernel_rfl
set_option maxRecDepth 100000 in
theorem q2:(mapsRowed Tryz.prog:Bool)=true:=by kernel_rfl
set_option maxRecDepth 100000 in
theorem q3:(Tryz.f4.params.all (Tryz.prog.readableRec ·):Bool)=true:=by kernel_rfl
set_option maxRecDepth 100000 in
theorem q4:(namedTie Tryz.prog Rows.jobAllRow.named Rows.jobAllSpec.vars:Bool)=true:=by kernel_rfl
set_option maxRecDepth 100000 in
theorem q5:((Rows.jobAllRow.stops==[]):Bool)=true:=by kernel_rfl
set_option maxRecDepth 100000 in
theorem q6:((Tryz.prog.stops==[]):Bool)=true:=by kernel_rfl
set_option maxRecDepth 100000 in
theorem q7:((Rows.jobAllRow.knobs==[]):Bool)=true:=by kernel_rfl
set_option maxRecDepth 100000 in
theorem q8:((Tryz.prog.stopKnobs==[]):Bool)=true:=by kernel_rfl
set_option maxRecDepth 100000 in
theorem q9:((Rows.jobAllRow.inPlace==Tryz.prog.inPlace 4):Bool)=true:=by kernel_rfl
set_option maxRecDepth 100000 in
theorem q10:((Rows.jobAllRow.unfollowed==Tryz.prog.unfollowed 4):Bool)=true:=by kernel_rfl
set_option maxRecDepth 100000 in
theorem q11:((Rows.jobAllRow.recurses==Tryz.prog.recurses 4):Bool)=true:=by kernel_rfl
set_option maxRecDepth 100000 in
theorem q12:((Rows.jobAllRow.named==Tryz.prog.varsNamed 4):Bool)=true:=by kernel_rfl
set_option maxRecDepth 100000 in
theorem q13:((Rows.jobAllRow.maps==(Tryz.f4.params.toList++Rows.jobAllSpec.plain.varTypes Tryz.prog).any (Tryz.prog.mapsRec ·)):Bool)=true:=by kernel_rfl
set_option maxRecDepth 100000 in
theorem q14:((Rows.jobAllRow.ifaces==(Tryz.f4.params.toList++Rows.jobAllSpec.plain.varTypes Tryz.prog).any (Tryz.prog.ifacesRec ·)):Bool)=true:=by kernel_rfl
set_option maxRecDepth 100000 in
theorem q15:((Rows.jobAllRow.mapsOut==Tryz.prog.mapsAmong Tryz.f4.resultTypes.toList):Bool)=true:=by kernel_rfl
set_option maxRecDepth 100000 in
theorem q16:((Rows.jobAllRow.loops==(Tryz.f4.params.toList++Rows.jobAllSpec.plain.varTypes Tryz.prog).any (Tryz.prog.loopsFrom ·)):Bool)=true:=by kernel_rfl
set_option maxRecDepth 100000 in
theorem q17:((Rows.jobAllRow.wideKeys==(Tryz.f4.params.toList++Rows.jobAllSpec.plain.varTypes Tryz.prog++Tryz.f4.resultTypes.toList).any (Tryz.prog.wideKeysFrom ·)):Bool)=true:=by kernel_rfl
set_option maxRecDepth 100000 in
theorem q18:(Rows.jobAllSpec.vars.all (Tryz.prog.varReadable ·):Bool)=true:=by kernel_rfl
set_option maxRecDepth 100000 in
theorem q19:(Tryz.f4.resultTypes.all (fun t=>Tryz.prog.readableRec t&&decide (t<Tryz.prog.types.size)):Bool)=true:=by kernel_rfl
set_option maxRecDepth 100000 in
theorem q20:((Rows.jobAllRow.ifacesOut==Tryz.f4.resultTypes.toList.any (Tryz.prog.ifacesRec ·)):Bool)=true:=by kernel_rfl
set_option maxRecDepth 100000 in
theorem q21:((Rows.jobAllRow.loopsOut==Tryz.f4.resultTypes.toList.any (Tryz.prog.loopsFrom ·)):Bool)=true:=by kernel_rfl
set_option maxRecDepth 100000 in
theorem q22:((Rows.jobAllRow.plainKeys==Tryz.prog.plainKeys):Bool)=true:=by kernel_rfl
set_option maxRecDepth 100000 in
theorem q23:(Rows.jobAllRow.shortTexts.isNone:Bool)=true:=by kernel_rfl
set_option maxRecDepth 100000 in
theorem q24:(Tryz.prog.stopsHeard:Bool)=true:=by kernel_rfl
set_option maxRecDepth 100000 in
theorem q25:(Tryz.prog.mayEnter:Bool)=true:=by kernel_rfl
set_option maxRecDepth 100000 in
theorem q26:((Rows.jobAllRow.lifted==Tryz.prog.liftsFinal):Bool)=true:=by kernel_rfl
set_option maxRecDepth 100000 in
theorem q27:((Tryz.prog.make==some Rows.jobAllRow.make):Bool)=true:=by kernel_rfl
set_option maxRecDepth 100000 in
theorem q28:((Rows.jobAllRow.kinds==(if Rows.jobAllRow.domain.isEmpty then [] else Tryz.f4.params.toList.map fun t=>match Tryz.prog.underlying t with|some (.int k)=>some k|_=>none)):Bool)=true:=by kernel_rfl
set_option maxRecDepth 100000 in
theorem q29:((Rows.jobAllRow.pinned==Rows.jobAllRow.pinnedBy):Bool)=true:=by kernel_rfl
set_option maxRecDepth 100000 in
theorem q30:((Rows.jobAllRow.veiled==(Tryz.f4.params.toList++Rows.jobAllSpec.plain.varTypes Tryz.prog++Tryz.f4.resultTypes.toList).any (Tryz.prog.veiledRec ·)):Bool)=true:=by kernel_rfl
set_option maxRecDepth 100000 in
theorem q31:(Rows.jobAllRow.veiledFits Tryz.prog Tryz.f4.params.toList (Tryz.f4.params.toList++Rows.jobAllSpec.plain.varTypes Tryz.prog++Tryz.f4.resultTypes.toList):Bool)=true:=by kernel_rfl
set_option maxRecDepth 100000 in
theorem closed:joinedFacts Tryz.prog 4 Tryz.f4 Rows.jobAllSpec Rows.jobAllRow=true:=by
 unfold joinedFacts
 simp only [Bool.and_eq_true]
 exact ⟨⟨⟨⟨⟨⟨⟨⟨⟨⟨⟨⟨⟨⟨⟨⟨⟨⟨⟨⟨⟨⟨⟨⟨⟨⟨⟨⟨⟨⟨⟨q0,q1⟩,q2⟩,q3⟩,q4⟩,q5⟩,q6⟩,q7⟩,q8⟩,q9⟩,q10⟩,q11⟩,q12⟩,q13⟩,q14⟩,q15⟩,q16⟩,q17⟩,q18⟩,q19⟩,q20⟩,q21⟩,q22⟩,q23⟩,q24⟩,q25⟩,q26⟩,q27⟩,q28⟩,q29⟩,q30⟩,q31⟩
theorem over:Rows.jobAllRow.holds Tryz.pinned (OpenSpec.ofChange Rows.jobAllSpec):=
 OpenClaim.holds_of_wide 4 Tryz.f4 rfl rfl rfl rfl rfl rfl rfl ⟨rfl,rfl,rfl,rfl,rfl⟩ rfl rfl rfl rfl rfl (by kernel_rfl) Tryz.func4 closed
  (of_decide_eq_true (by kernel_rfl)) (by unfold Func.isWrapper;first|(rw [if_pos (by decide+kernel)];kernel_rfl)|(rw [if_neg (by decide+kernel)];exact ⟨rfl,rfl⟩))
  (fun os started H enc _=>lifted os started H enc)
theorem proved:Rows.JobAllSaid:=over
#print axioms proved
end Go.Proofs.YthlcobdnemhcdaaGreat.jobAll
