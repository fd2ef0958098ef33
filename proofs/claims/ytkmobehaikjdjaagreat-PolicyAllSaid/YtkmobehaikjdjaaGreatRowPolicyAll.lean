/-
 The law PolicyAll:for every input it returns true,and each argument reads afterwards as it read before. No condition.
-/
import Derived.Test.YtkmobehaikjdjaaGreatQ12
import Derived.Test.YtkmobehaikjdjaaGreatQ3
import Derived.Test.YtkmobehaikjdjaaGreatChecked
import Derived.Test.YtkmobehaikjdjaaGreatRows
noncomputable section
set_option maxRecDepth 100000
set_option linter.unusedSimpArgs false
set_option linter.unusedVariables false
namespace Go.Proofs.YtkmobehaikjdjaaGreat.policyAll
open Go.ChangeShapes Go.WideShapes Go.ChangeAt Go.RowKit
theorem own:ownKnob Tryz.prog.godebug=none:=by kernel_rfl
theorem laidOut:laidOutB Tryz.prog=true:=by kernel_rfl
theorem lifted (os:Os)(started:os.Started)(H:Type)(enc:TypeId×Value->H):
  ReturnsInHanded {} Tryz.checked os 3 .any (Rows.policyAllSpec.pre6 enc Tryz.prog Tryz.f3 Rows.policyAllRow.domain false) (Rows.policyAllSpec.post enc Tryz.prog Tryz.f3 false true false false):=by
 refine returnsInHanded_of_change (C:=Tryz.checked) own started (by kernel_rfl) Tryz.func3
  (ChangeSpec.witness6 (enc:=enc) (C:=Tryz.checked) false ⟨#[], #[.slice none 0 0,.int .i64 0,.int .i64 0,.agg #[.int .i64 0,.int .i64 0,.int .i64 0,.string ByteArray.empty,.int .i64 0,.int .i64 0,.slice none 0 0]],[]⟩ 8 (by kernel_rfl) (by kernel_rfl) (by kernel_rfl) (by kernel_rfl)) ?_
 intro W base args ds gs before hval0 hW hcnd _
 have hval: ∀ (j:Nat) t v,Tryz.f3.params[j]? = some t->args[j]? = some v->Value.okWide Tryz.prog W .any base t v:=hval0
 have hW':=hW
 obtain ⟨p,q,hA0,hV,rfl,hfz,hnd⟩:=hW
 have hA:DataW.TrodAll enc Tryz.prog W 0 (fun _=>true) true Tryz.f3.params.toList args.toList ds p:=hA0
 rw [Tryz.params3] at hA hval
 obtain ⟨v0,vs0,d0,ds0,p0,q0,hargs,rfl,rfl,h0,r0⟩:=trodAll_cons hA
 obtain ⟨v1,vs1,d1,ds1,p1,q1,rfl,rfl,rfl,h1,r1⟩:=trodAll_cons r0
 obtain ⟨v2,vs2,d2,ds2,p2,q2,rfl,rfl,rfl,h2,r2⟩:=trodAll_cons r1
 obtain ⟨v3,vs3,d3,ds3,p3,q3,rfl,rfl,rfl,h3,r3⟩:=trodAll_cons r2
 obtain ⟨rfl,rfl,rfl⟩:=trodAll_nil r3
 obtain rfl:args= #[v0,v1,v2,v3]:=by cases args;simp_all
 obtain ⟨rfl,rfl⟩:=trodVars_none hV
 have k0:=h0
 have lt0: ∀ x∈p0,x.block<W.heap.size:=by obtain ⟨m,hm⟩:=k0;exact DataW.trod_lt m _ _ _ hm
 obtain ⟨z0,c0,w0⟩:=K.Qg1 (n:=12) (Z:=fun _=> .no) (show K.Ue Tryz.prog 13 22 ((.sl K.tI))=true by kernel_rfl) (hval 0 22 v0 rfl rfl) h0
 have k1:=h1
 have lt1: ∀ x∈p1,x.block<W.heap.size:=by obtain ⟨m,hm⟩:=k1;exact DataW.trod_lt m _ _ _ hm
 obtain ⟨z1,c1,w1⟩:=K.Qg1 (n:=12) (Z:=fun _=> .no) (show K.Ue Tryz.prog 13 3 (K.tI)=true by kernel_rfl) (hval 1 3 v1 rfl rfl) h1
 have k2:=h2
 have lt2: ∀ x∈p2,x.block<W.heap.size:=by obtain ⟨m,hm⟩:=k2;exact DataW.trod_lt m _ _ _ hm
 obtain ⟨z2,c2,w2⟩:=K.Qg1 (n:=12) (Z:=fun _=> .no) (show K.Ue Tryz.prog 13 3 (K.tI)=true by kernel_rfl) (hval 2 3 v2 rfl rfl) h2
 have k3:=h3
 have lt3: ∀ x∈p3,x.block<W.heap.size:=by obtain ⟨m,hm⟩:=k3;exact DataW.trod_lt m _ _ _ hm
 obtain ⟨z3,c3,w3⟩:=K.Qg1 (n:=12) (Z:=fun _=> .no) (show K.Ue Tryz.prog 13 29 (K.QK)=true by kernel_rfl) (hval 3 29 v3 rfl rfl) h3
 clear hA0 hval0
 refine (K.walkPolicyAll z0 z1 z2 z3 W v0 v1 v2 v3 c0 c1 c2 c3 w0 w1 w2 w3).mono fun e W' ⟨he,bel⟩=> ?_
 subst he
 exact ⟨_,rfl,_,_,_,[],_,[],hW',trodAll_mk1 (shut_bool Tryz.underlying4 _),(trodAll_cons_mk (Below.trod laidOut (by kernel_rfl) (of_decide_eq_true (by kernel_rfl)) k0 bel lt0) (trodAll_cons_mk (Below.trod laidOut (by kernel_rfl) (of_decide_eq_true (by kernel_rfl)) k1 bel lt1) (trodAll_cons_mk (Below.trod laidOut (by kernel_rfl) (of_decide_eq_true (by kernel_rfl)) k2 bel lt2) (trodAll_cons_mk (Below.trod laidOut (by kernel_rfl) (of_decide_eq_true (by kernel_rfl)) k3 bel lt3) trodAll_mk0)))),rfl,bel.frame _,fun h=>by cases h⟩
theorem q0:(Rows.policyAllRow.wf (OpenSpec.ofChange Rows.policyAllSpec):Bool)=true:=by kernel_rfl
theorem q1:(laidOutB Tryz.prog:Bool)=true:=by kernel_rfl
theorem q2:(mapsRowed Tryz.prog:Bool)=true:=by kernel_rfl
theorem q3:(Tryz.f3.params.all (Tryz.prog.readableRec ·):Bool)=true:=by kernel_rfl
theorem q4:(namedTie Tryz.prog Rows.policyAllRow.named Rows.policyAllSpec.vars:Bool)=true:=by kernel_rfl
theorem q5:((Rows.policyAllRow.stops==[]):Bool)=true:=by kernel_rfl
theorem q6:((Tryz.prog.stops==[]):Bool)=true:=by kernel_rfl
theorem q7:((Rows.policyAllRow.knobs==[]):Bool)=true:=by kernel_rfl
theorem q8:((Tryz.prog.stopKnobs==[]):Bool)=true:=by kernel_rfl
theorem q9:((Rows.policyAllRow.inPlace==Tryz.prog.inPlace 3):Bool)=true:=by kernel_rfl
theorem q10:((Rows.policyAllRow.unfollowed==Tryz.prog.unfollowed 3):Bool)=true:=by kernel_rfl
theorem q11:((Rows.policyAllRow.recurses==Tryz.prog.recurses 3):Bool)=true:=by kernel_rfl
theorem q12:((Rows.policyAllRow.named==Tryz.prog.varsNamed 3):Bool)=true:=by kernel_rfl
theorem q13:((Rows.policyAllRow.maps==(Tryz.f3.params.toList++Rows.policyAllSpec.plain.varTypes Tryz.prog).any (Tryz.prog.mapsRec ·)):Bool)=true:=by kernel_rfl
theorem q14:((Rows.policyAllRow.ifaces==(Tryz.f3.params.toList++Rows.policyAllSpec.plain.varTypes Tryz.prog).any (Tryz.prog.ifacesRec ·)):Bool)=true:=by kernel_rfl
theorem q15:((Rows.policyAllRow.mapsOut==Tryz.prog.mapsAmong Tryz.f3.resultTypes.toList):Bool)=true:=by kernel_rfl
theorem q16:((Rows.policyAllRow.loops==(Tryz.f3.params.toList++Rows.policyAllSpec.plain.varTypes Tryz.prog).any (Tryz.prog.loopsFrom ·)):Bool)=true:=by kernel_rfl
theorem q17:((Rows.policyAllRow.wideKeys==(Tryz.f3.params.toList++Rows.policyAllSpec.plain.varTypes Tryz.prog++Tryz.f3.resultTypes.toList).any (Tryz.prog.wideKeysFrom ·)):Bool)=true:=by kernel_rfl
theorem q18:(Rows.policyAllSpec.vars.all (Tryz.prog.varReadable ·):Bool)=true:=by kernel_rfl
theorem q19:(Tryz.f3.resultTypes.all (fun t=>Tryz.prog.readableRec t&&decide (t<Tryz.prog.types.size)):Bool)=true:=by kernel_rfl
theorem q20:((Rows.policyAllRow.ifacesOut==Tryz.f3.resultTypes.toList.any (Tryz.prog.ifacesRec ·)):Bool)=true:=by kernel_rfl
theorem q21:((Rows.policyAllRow.loopsOut==Tryz.f3.resultTypes.toList.any (Tryz.prog.loopsFrom ·)):Bool)=true:=by kernel_rfl
theorem q22:((Rows.policyAllRow.plainKeys==Tryz.prog.plainKeys):Bool)=true:=by kernel_rfl
theorem q23:(Rows.policyAllRow.shortTexts.isNone:Bool)=true:=by kernel_rfl
theorem q24:(Tryz.prog.stopsHeard:Bool)=true:=by kernel_rfl
theorem q25:(Tryz.prog.mayEnter:Bool)=true:=by kernel_rfl
theorem q26:((Rows.policyAllRow.lifted==Tryz.prog.liftsFinal):Bool)=true:=by kernel_rfl
theorem q27:((Tryz.prog.make==some Rows.policyAllRow.make):Bool)=true:=by kernel_rfl
theorem q28:((Rows.policyAllRow.kinds==(if Rows.policyAllRow.domain.isEmpty then [] else Tryz.f3.params.toList.map fun t=>match Tryz.prog.underlying t with|some (.int k)=>some k|_=>none)):Bool)=true:=by kernel_rfl
theorem q29:((Rows.policyAllRow.pinned==Rows.policyAllRow.pinnedBy):Bool)=true:=by kernel_rfl
theorem q30:((Rows.policyAllRow.veiled==(Tryz.f3.params.toList++Rows.policyAllSpec.plain.varTypes Tryz.prog++Tryz.f3.resultTypes.toList).any (Tryz.prog.veiledRec ·)):Bool)=true:=by kernel_rfl
theorem q31:(Rows.policyAllRow.veiledFits Tryz.prog Tryz.f3.params.toList (Tryz.f3.params.toList++Rows.policyAllSpec.plain.varTypes Tryz.prog++Tryz.f3.resultTypes.toList):Bool)=true:=by kernel_rfl
theorem closed:joinedFacts Tryz.prog 3 Tryz.f3 Rows.policyAllSpec Rows.policyAllRow=true:=by
 unfold joinedFacts
 simp only [Bool.and_eq_true]
 exact ⟨⟨⟨⟨⟨⟨⟨⟨⟨⟨⟨⟨⟨⟨⟨⟨⟨⟨⟨⟨⟨⟨⟨⟨⟨⟨⟨⟨⟨⟨⟨q0,q1⟩,q2⟩,q3⟩,q4⟩,q5⟩,q6⟩,q7⟩,q8⟩,q9⟩,q10⟩,q11⟩,q12⟩,q13⟩,q14⟩,q15⟩,q16⟩,q17⟩,q18⟩,q19⟩,q20⟩,q21⟩,q22⟩,q23⟩,q24⟩,q25⟩,q26⟩,q27⟩,q28⟩,q29⟩,q30⟩,q31⟩
theorem over:Rows.policyAllRow.holds Tryz.pinned (OpenSpec.ofChange Rows.policyAllSpec):=
 OpenClaim.holds_of_wide 3 Tryz.f3 rfl rfl rfl rfl rfl rfl rfl ⟨rfl,rfl,rfl,rfl,rfl⟩ rfl rfl rfl rfl rfl (by kernel_rfl) Tryz.func3 closed
  (of_decide_eq_true (by kernel_rfl)) (by unfold Func.isWrapper;first|(rw [if_pos (by decide+kernel)];kernel_rfl)|(rw [if_neg (by decide+kernel)];exact ⟨rfl,rfl⟩))
  (fun os started H enc _=>lifted os started H enc)
theorem proved:Rows.PolicyAllSaid:=over
#print axioms proved
end Go.Proofs.YtkmobehaikjdjaaGreat.policyAll
