/-
 The law BlocksDeep:for every input it returns true,and each argument reads afterwards as it read before. The condition holds of every input.
-/
import Derived.Test.YtkkoedniahnneaaDoorQ7
import Derived.Test.YtkkoedniahnneaaDoorQ3
import Derived.Test.YtkkoedniahnneaaDoorChecked
import Derived.Test.YtkkoedniahnneaaDoorRows
import Derived.Test.YtkkoedniahnneaaDoorCards
import Derived.Test.YtkkoedniahnneaaDoorTie
import Derived.OpenShut
import Derived.LaidMore
import Derived.Lay
import Derived.SevenTiedAt
import Derived.Stop.Joined
set_option linter.unusedSimpArgs false
set_option linter.unusedVariables false
namespace Go.Proofs.YtkkoedniahnneaaDoor.blocksDeep
open Go.ChangeShapes Go.WideShapes Go.ChangeAt Go.RowKit
theorem own:ownKnob Tryd.prog.godebug=none:=by kernel_rfl
theorem laidOut:laidOutB Tryd.prog=true:=by kernel_rfl
set_option maxRecDepth 100000 in
theorem lifted (os:Os)(started:os.Started)(H:Type)(enc:TypeId×Value->H):
  ReturnsInHanded {} Tryd.checked os 5 .any (fun w args=>(Rows.blocksDeepSpec.pre enc Tryd.prog Tryd.f5 Rows.blocksDeepRow.domain false w args/\laidMetH Tryd.prog Rows.blocksDeepRow.laid w)/\sizedMet enc Tryd.prog Tryd.f5 (OpenSpec.ofChange Rows.blocksDeepSpec) false w args) (Rows.blocksDeepSpec.post enc Tryd.prog Tryd.f5 false true false false):=by
 refine returnsInHanded_of_change_and (C:=Tryd.checked) (X:=fun w _=>laidMetH Tryd.prog Rows.blocksDeepRow.laid w) (fun _ _ _ hh h=>h.of_heap hh) own started (by kernel_rfl) Tryd.func5
  (ChangeSpec.witness_shaped (enc:=enc) (C:=Tryd.checked) (os:=os) (X:=fun w _=>laidMetH Tryd.prog Rows.blocksDeepRow.laid w) false (World.laidAll Tryd.prog os Rows.blocksDeepRow.laid) #[.int .u8 0,.int .u8 0,.int .u8 0] 8 (World.laidAll_os _ _ _)
   (World.shaped_of_ZipB (by kernel_rfl) (by kernel_rfl)) (by kernel_rfl) (by kernel_rfl) (by kernel_rfl)
   (by rw [MakeChecks.laidMetH_plain _ _ _ (by kernel_rfl)];exact laidMet_laidAll _ (by kernel_rfl) (by kernel_rfl))) ?_
 intro W base args ds gs before hval0 hW hcnd _ hL _
 have hval: ∀ (j:Nat) t v,Tryd.f5.params[j]? = some t->args[j]? = some v->Value.okWide Tryd.prog W .any base t v:=hval0
 have hW':=hW
 obtain ⟨p,q,hA0,hV,rfl,hfz,hnd⟩:=hW
 have hA:DataW.TrodAll enc Tryd.prog W 0 (fun _=>true) true Tryd.f5.params.toList args.toList ds p:=hA0
 rw [Tryd.params5] at hA hval
 obtain ⟨v0,vs0,d0,ds0,p0,q0,hargs,rfl,rfl,h0,r0⟩:=trodAll_cons hA
 obtain ⟨v1,vs1,d1,ds1,p1,q1,rfl,rfl,rfl,h1,r1⟩:=trodAll_cons r0
 obtain ⟨v2,vs2,d2,ds2,p2,q2,rfl,rfl,rfl,h2,r2⟩:=trodAll_cons r1
 obtain ⟨rfl,rfl,rfl⟩:=trodAll_nil r2
 obtain rfl:args= #[v0,v1,v2]:=by cases args;simp_all
 obtain ⟨rfl,rfl⟩:=trodVars_none hV
 have k0:=h0
 have lt0: ∀ x∈p0,x.block<W.heap.size:=by obtain ⟨m,hm⟩:=k0;exact DataW.trod_lt m _ _ _ hm
 obtain ⟨z0,c0,w0⟩:=K.arg_open (n:=12) (σ:=fun _=> .no) (show K.tyIs Tryd.prog 13 5 ((.int .u8))=true by kernel_rfl) (hval 0 5 v0 rfl rfl) h0
 have k1:=h1
 have lt1: ∀ x∈p1,x.block<W.heap.size:=by obtain ⟨m,hm⟩:=k1;exact DataW.trod_lt m _ _ _ hm
 obtain ⟨z1,c1,w1⟩:=K.arg_open (n:=12) (σ:=fun _=> .no) (show K.tyIs Tryd.prog 13 5 ((.int .u8))=true by kernel_rfl) (hval 1 5 v1 rfl rfl) h1
 have k2:=h2
 have lt2: ∀ x∈p2,x.block<W.heap.size:=by obtain ⟨m,hm⟩:=k2;exact DataW.trod_lt m _ _ _ hm
 obtain ⟨z2,c2,w2⟩:=K.arg_open (n:=12) (σ:=fun _=> .no) (show K.tyIs Tryd.prog 13 5 ((.int .u8))=true by kernel_rfl) (hval 2 5 v2 rfl rfl) h2
 clear hA0 hval0
 refine (K.walkBlocksDeep z0 z1 z2 W v0 v1 v2 c0 c1 c2 w0 w1 w2).mono fun e W' ⟨he,bel⟩=> ?_
 subst he
 exact ⟨_,rfl,_,_,_,[],_,[],hW',trodAll_mk1 (shut_bool Tryd.underlying4 _),(trodAll_cons_mk (Below.trod laidOut (by kernel_rfl) (of_decide_eq_true (by kernel_rfl)) k0 bel lt0) (trodAll_cons_mk (Below.trod laidOut (by kernel_rfl) (of_decide_eq_true (by kernel_rfl)) k1 bel lt1) (trodAll_cons_mk (Below.trod laidOut (by kernel_rfl) (of_decide_eq_true (by kernel_rfl)) k2 bel lt2) trodAll_mk0))),rfl,bel.frame _,fun h=>by cases h⟩
set_option maxRecDepth 100000 in
theorem q0:(Rows.blocksDeepRow.wf (OpenSpec.ofChange Rows.blocksDeepSpec):Bool)=true:=by kernel_rfl
set_option maxRecDepth 100000 in
theorem q1:(laidOutB Tryd.prog:Bool)=true:=by kernel_rfl
set_option maxRecDepth 100000 in
theorem q2:(mapsRowed Tryd.prog:Bool)=true:=by kernel_rfl
set_option maxRecDepth 100000 in
theorem q3:(Tryd.f5.params.all (Tryd.prog.readableRec ·):Bool)=true:=by kernel_rfl
set_option maxRecDepth 100000 in
theorem q4:(namedTie Tryd.prog Rows.blocksDeepRow.named Rows.blocksDeepSpec.vars:Bool)=true:=by kernel_rfl
set_option maxRecDepth 100000 in
theorem q5:((Rows.blocksDeepRow.stops==[]):Bool)=true:=by kernel_rfl
set_option maxRecDepth 100000 in
theorem q6:((Tryd.prog.stops==[]):Bool)=true:=by kernel_rfl
set_option maxRecDepth 100000 in
theorem q7:((Rows.blocksDeepRow.knobs==[]):Bool)=true:=by kernel_rfl
set_option maxRecDepth 100000 in
theorem q8:((Tryd.prog.stopKnobs==[]):Bool)=true:=by kernel_rfl
set_option maxRecDepth 100000 in
theorem q9:((Rows.blocksDeepRow.inPlace==Tryd.prog.inPlace 5):Bool)=true:=by kernel_rfl
set_option maxRecDepth 100000 in
theorem q10:((Rows.blocksDeepRow.unfollowed==Tryd.prog.unfollowed 5):Bool)=true:=by kernel_rfl
set_option maxRecDepth 100000 in
theorem q11:((Rows.blocksDeepRow.recurses==Tryd.prog.recurses 5):Bool)=true:=by kernel_rfl
set_option maxRecDepth 100000 in
theorem q12:((Rows.blocksDeepRow.named==Tryd.prog.varsNamed 5):Bool)=true:=by kernel_rfl
set_option maxRecDepth 100000 in
theorem q13:((Rows.blocksDeepRow.maps==(Tryd.f5.params.toList++Rows.blocksDeepSpec.plain.varTypes Tryd.prog).any (Tryd.prog.mapsRec ·)):Bool)=true:=by kernel_rfl
set_option maxRecDepth 100000 in
theorem q14:((Rows.blocksDeepRow.ifaces==(Tryd.f5.params.toList++Rows.blocksDeepSpec.plain.varTypes Tryd.prog).any (Tryd.prog.ifacesRec ·)):Bool)=true:=by kernel_rfl
set_option maxRecDepth 100000 in
theorem q15:((Rows.blocksDeepRow.mapsOut==Tryd.prog.mapsAmong Tryd.f5.resultTypes.toList):Bool)=true:=by kernel_rfl
set_option maxRecDepth 100000 in
theorem q16:((Rows.blocksDeepRow.loops==(Tryd.f5.params.toList++Rows.blocksDeepSpec.plain.varTypes Tryd.prog).any (Tryd.prog.loopsFrom ·)):Bool)=true:=by kernel_rfl
set_option maxRecDepth 100000 in
theorem q17:((Rows.blocksDeepRow.wideKeys==(Tryd.f5.params.toList++Rows.blocksDeepSpec.plain.varTypes Tryd.prog++Tryd.f5.resultTypes.toList).any (Tryd.prog.wideKeysFrom ·)):Bool)=true:=by kernel_rfl
set_option maxRecDepth 100000 in
theorem q18:(Rows.blocksDeepSpec.vars.all (Tryd.prog.varReadable ·):Bool)=true:=by kernel_rfl
set_option maxRecDepth 100000 in
theorem q19:(Tryd.f5.resultTypes.all (fun t=>Tryd.prog.readableRec t&&decide (t<Tryd.prog.types.size)):Bool)=true:=by kernel_rfl
set_option maxRecDepth 100000 in
theorem q20:((Rows.blocksDeepRow.ifacesOut==Tryd.f5.resultTypes.toList.any (Tryd.prog.ifacesRec ·)):Bool)=true:=by kernel_rfl
set_option maxRecDepth 100000 in
theorem q21:((Rows.blocksDeepRow.loopsOut==Tryd.f5.resultTypes.toList.any (Tryd.prog.loopsFrom ·)):Bool)=true:=by kernel_rfl
set_option maxRecDepth 100000 in
theorem q22:((Rows.blocksDeepRow.plainKeys==Tryd.prog.plainKeys):Bool)=true:=by kernel_rfl
set_option maxRecDepth 100000 in
theorem q23:(Rows.blocksDeepRow.shortTexts.isNone:Bool)=true:=by kernel_rfl
set_option maxRecDepth 100000 in
theorem q24:(Tryd.prog.stopsHeard:Bool)=true:=by kernel_rfl
set_option maxRecDepth 100000 in
theorem q25:(Tryd.prog.mayEnter:Bool)=true:=by kernel_rfl
set_option maxRecDepth 100000 in
theorem q26:((Rows.blocksDeepRow.lifted==Tryd.prog.liftsFinal):Bool)=true:=by kernel_rfl
set_option maxRecDepth 100000 in
theorem q27:((Tryd.prog.make==some Rows.blocksDeepRow.make):Bool)=true:=by kernel_rfl
set_option maxRecDepth 100000 in
theorem q28:((Rows.blocksDeepRow.kinds==(if Rows.blocksDeepRow.domain.isEmpty then [] else Tryd.f5.params.toList.map fun t=>match Tryd.prog.underlying t with|some (.int k)=>some k|_=>none)):Bool)=true:=by kernel_rfl
set_option maxRecDepth 100000 in
theorem q29:((Rows.blocksDeepRow.pinned==Rows.blocksDeepRow.pinnedBy):Bool)=true:=by kernel_rfl
set_option maxRecDepth 100000 in
theorem q30:((Rows.blocksDeepRow.veiled==(Tryd.f5.params.toList++Rows.blocksDeepSpec.plain.varTypes Tryd.prog++Tryd.f5.resultTypes.toList).any (Tryd.prog.veiledRec ·)):Bool)=true:=by kernel_rfl
set_option maxRecDepth 100000 in
theorem q31:(Rows.blocksDeepRow.veiledFits Tryd.prog Tryd.f5.params.toList (Tryd.f5.params.toList++Rows.blocksDeepSpec.plain.varTypes Tryd.prog++Tryd.f5.resultTypes.toList):Bool)=true:=by kernel_rfl
set_option maxRecDepth 100000 in
theorem closed:joinedFacts Tryd.prog 5 Tryd.f5 Rows.blocksDeepSpec Rows.blocksDeepRow=true:=by
 unfold joinedFacts
 simp only [Bool.and_eq_true]
 exact ⟨⟨⟨⟨⟨⟨⟨⟨⟨⟨⟨⟨⟨⟨⟨⟨⟨⟨⟨⟨⟨⟨⟨⟨⟨⟨⟨⟨⟨⟨⟨q0,q1⟩,q2⟩,q3⟩,q4⟩,q5⟩,q6⟩,q7⟩,q8⟩,q9⟩,q10⟩,q11⟩,q12⟩,q13⟩,q14⟩,q15⟩,q16⟩,q17⟩,q18⟩,q19⟩,q20⟩,q21⟩,q22⟩,q23⟩,q24⟩,q25⟩,q26⟩,q27⟩,q28⟩,q29⟩,q30⟩,q31⟩
theorem over:Rows.blocksDeepRow.holds Tryd.pinned (OpenSpec.ofChange Rows.blocksDeepSpec):=
 OpenClaim.holds_of_wide 5 Tryd.f5 rfl rfl rfl rfl rfl rfl rfl ⟨rfl,rfl,rfl,rfl,rfl⟩ rfl rfl rfl rfl rfl (by kernel_rfl) Tryd.func5 closed
  (of_decide_eq_true (by kernel_rfl)) (by unfold Func.isWrapper;first|(rw [if_pos (by decide+kernel)];kernel_rfl)|(rw [if_neg (by decide+kernel)];exact ⟨rfl,rfl⟩))
  (fun os started H enc _=>lifted os started H enc)
theorem proved:Rows.BlocksDeepCardSaid:=
 Claim7.holds_tied_plain_at .later [] [.data,.pinned] true (true, "ab1370353c399282f09f394a09cbe2a0809d04b16a57df6f943c79af89199b76") false over (fun _ h=>by cases h) (by kernel_rfl) (fun _ h=>by cases h) blocksDeep_row_tie rfl ⟨rfl,rfl⟩ (by kernel_rfl) rfl
  (fun f fn hf hfn=>by
   obtain rfl:f=5:=Option.some.inj ((show Tryd.prog.funcNamed "cipherplan/cipherplanlaw07.BlocksDeep" = some 5 by kernel_rfl).symm.trans hf) |>.symm
   obtain rfl:fn=Tryd.f5:=(Option.some.inj (Tryd.func5.symm.trans hfn)).symm
   exact ⟨by kernel_rfl,fun j t ht=>by
    rw [Tryd.params5] at ht
    have hm:t∈[5,5,5]:=by simpa using Array.mem_of_getElem? ht
    have hall:([5,5,5].all fun u=> !Tryd.prog.wantsStandIn u)=true:=by kernel_rfl
    exact (show Tryd.prog.wantsStandIn t=false by simpa using List.all_eq_true.1 hall t hm)⟩)
  (by kernel_rfl)
#print axioms proved
end Go.Proofs.YtkkoedniahnneaaDoor.blocksDeep
