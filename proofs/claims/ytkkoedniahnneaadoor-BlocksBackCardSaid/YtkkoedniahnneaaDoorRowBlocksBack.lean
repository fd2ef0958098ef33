/-
 The law BlocksBack:for every input it returns true,and each argument reads afterwards as it read before. No condition.
-/
import Derived.Test.YtkkoedniahnneaaDoorQ6
import Derived.Test.YtkkoedniahnneaaDoorQ3
import Derived.Test.YtkkoedniahnneaaDoorChecked
import Derived.Test.YtkkoedniahnneaaDoorRows
import Derived.Test.YtkkoedniahnneaaDoorCards
import Derived.Test.YtkkoedniahnneaaDoorTie
import Derived.OpenShut
import Derived.LaidMore
import Derived.Lay
import Derived.SevenTiedAt
import Derived.Stop.Joined
set_option linter.unusedSimpArgs false
set_option linter.unusedVariables false
namespace Go.Proofs.YtkkoedniahnneaaDoor.blocksBack
open Go.ChangeShapes Go.WideShapes Go.ChangeAt Go.RowKit
theorem own:ownKnob Tryd.prog.godebug=none:=by kernel_rfl
theorem laidOut:laidOutB Tryd.prog=true:=by kernel_rfl
set_option maxRecDepth 100000 in
theorem lifted (os:Os)(started:os.Started)(H:Type)(enc:TypeId×Value->H):
  ReturnsInHanded {} Tryd.checked os 9 .any (fun w args=>(Rows.blocksBackSpec.pre enc Tryd.prog Tryd.f9 Rows.blocksBackRow.domain false w args/\laidMetH Tryd.prog Rows.blocksBackRow.laid w)/\sizedMet enc Tryd.prog Tryd.f9 (OpenSpec.ofChange Rows.blocksBackSpec) false w args) (Rows.blocksBackSpec.post enc Tryd.prog Tryd.f9 false true false false):=by
 refine returnsInHanded_of_change_and (C:=Tryd.checked) (X:=fun w _=>laidMetH Tryd.prog Rows.blocksBackRow.laid w) (fun _ _ _ hh h=>h.of_heap hh) own started (by kernel_rfl) Tryd.func9
  (ChangeSpec.witness_shaped (enc:=enc) (C:=Tryd.checked) (os:=os) (X:=fun w _=>laidMetH Tryd.prog Rows.blocksBackRow.laid w) false (World.laidAll Tryd.prog os Rows.blocksBackRow.laid) #[.slice none 0 0,.string ByteArray.empty] 8 (World.laidAll_os _ _ _)
   (World.shaped_of_ZipB (by kernel_rfl) (by kernel_rfl)) (by kernel_rfl) (by kernel_rfl) (by kernel_rfl)
   (by rw [MakeChecks.laidMetH_plain _ _ _ (by kernel_rfl)];exact laidMet_laidAll _ (by kernel_rfl) (by kernel_rfl))) ?_
 intro W base args ds gs before hval0 hW hcnd _ hL _
 have hval: ∀ (j:Nat) t v,Tryd.f9.params[j]? = some t->args[j]? = some v->Value.okWide Tryd.prog W .any base t v:=hval0
 have hW':=hW
 obtain ⟨p,q,hA0,hV,rfl,hfz,hnd⟩:=hW
 have hA:DataW.TrodAll enc Tryd.prog W 0 (fun _=>true) true Tryd.f9.params.toList args.toList ds p:=hA0
 rw [Tryd.params9] at hA hval
 obtain ⟨v0,vs0,d0,ds0,p0,q0,hargs,rfl,rfl,h0,r0⟩:=trodAll_cons hA
 obtain ⟨v1,vs1,d1,ds1,p1,q1,rfl,rfl,rfl,h1,r1⟩:=trodAll_cons r0
 obtain ⟨rfl,rfl,rfl⟩:=trodAll_nil r1
 obtain rfl:args= #[v0,v1]:=by cases args;simp_all
 obtain ⟨rfl,rfl⟩:=trodVars_none hV
 have k0:=h0
 have lt0: ∀ x∈p0,x.block<W.heap.size:=by obtain ⟨m,hm⟩:=k0;exact DataW.trod_lt m _ _ _ hm
 obtain ⟨z0,c0,w0⟩:=K.arg_open (n:=12) (σ:=fun _=> .no) (show K.tyIs Tryd.prog 13 22 ((.sl K.tI))=true by kernel_rfl) (hval 0 22 v0 rfl rfl) h0
 have k1:=h1
 have lt1: ∀ x∈p1,x.block<W.heap.size:=by obtain ⟨m,hm⟩:=k1;exact DataW.trod_lt m _ _ _ hm
 obtain ⟨z1,c1,w1⟩:=K.arg_open (n:=12) (σ:=fun _=> .no) (show K.tyIs Tryd.prog 13 9 (.str)=true by kernel_rfl) (hval 1 9 v1 rfl rfl) h1
 clear hA0 hval0
 refine (K.walkBlocksBack z0 z1 W v0 v1 c0 c1 w0 w1).mono fun e W' ⟨he,bel⟩=> ?_
 subst he
 exact ⟨_,rfl,_,_,_,[],_,[],hW',trodAll_mk1 (shut_bool Tryd.underlying4 _),(trodAll_cons_mk (Below.trod laidOut (by kernel_rfl) (of_decide_eq_true (by kernel_rfl)) k0 bel lt0) (trodAll_cons_mk (Below.trod laidOut (by kernel_rfl) (of_decide_eq_true (by kernel_rfl)) k1 bel lt1) trodAll_mk0)),rfl,bel.frame _,fun h=>by cases h⟩
set_option maxRecDepth 100000 in
theorem q0:(Rows.blocksBackRow.wf (OpenSpec.ofChange Rows.blocksBackSpec):Bool)=true:=by kernel_rfl
set_option maxRecDepth 100000 in
theorem q1:(laidOutB Tryd.prog:Bool)=true:=by kernel_rfl
set_option maxRecDepth 100000 in
theorem q2:(mapsRowed Tryd.prog:Bool)=true:=by kernel_rfl
set_option maxRecDepth 100000 in
theorem q3:(Tryd.f9.params.all (Tryd.prog.readableRec ·):Bool)=true:=by kernel_rfl
set_option maxRecDepth 100000 in
theorem q4:(namedTie Tryd.prog Rows.blocksBackRow.named Rows.blocksBackSpec.vars:Bool)=true:=by kernel_rfl
set_option maxRecDepth 100000 in
theorem q5:((Rows.blocksBackRow.stops==[]):Bool)=true:=by kernel_rfl
set_option maxRecDepth 100000 in
theorem q6:((Tryd.prog.stops==[]):Bool)=true:=by kernel_rfl
set_option maxRecDepth 100000 in
theorem q7:((Rows.blocksBackRow.knobs==[]):Bool)=true:=by kernel_rfl
set_option maxRecDepth 100000 in
theorem q8:((Tryd.prog.stopKnobs==[]):Bool)=true:=by kernel_rfl
set_option maxRecDepth 100000 in
theorem q9:((Rows.blocksBackRow.inPlace==Tryd.prog.inPlace 9):Bool)=true:=by kernel_rfl
set_option maxRecDepth 100000 in
theorem q10:((Rows.blocksBackRow.unfollowed==Tryd.prog.unfollowed 9):Bool)=true:=by kernel_rfl
set_option maxRecDepth 100000 in
theorem q11:((Rows.blocksBackRow.recurses==Tryd.prog.recurses 9):Bool)=true:=by kernel_rfl
set_option maxRecDepth 100000 in
theorem q12:((Rows.blocksBackRow.named==Tryd.prog.varsNamed 9):Bool)=true:=by kernel_rfl
set_option maxRecDepth 100000 in
theorem q13:((Rows.blocksBackRow.maps==(Tryd.f9.params.toList++Rows.blocksBackSpec.plain.varTypes Tryd.prog).any (Tryd.prog.mapsRec ·)):Bool)=true:=by kernel_rfl
set_option maxRecDepth 100000 in
theorem q14:((Rows.blocksBackRow.ifaces==(Tryd.f9.params.toList++Rows.blocksBackSpec.plain.varTypes Tryd.prog).any (Tryd.prog.ifacesRec ·)):Bool)=true:=by kernel_rfl
set_option maxRecDepth 100000 in
theorem q15:((Rows.blocksBackRow.mapsOut==Tryd.prog.mapsAmong Tryd.f9.resultTypes.toList):Bool)=true:=by kernel_rfl
set_option maxRecDepth 100000 in
theorem q16:((Rows.blocksBackRow.loops==(Tryd.f9.params.toList++Rows.blocksBackSpec.plain.varTypes Tryd.prog).any (Tryd.prog.loopsFrom ·)):Bool)=true:=by kernel_rfl
set_option maxRecDepth 100000 in
theorem q17:((Rows.blocksBackRow.wideKeys==(Tryd.f9.params.toList++Rows.blocksBackSpec.plain.varTypes Tryd.prog++Tryd.f9.resultTypes.toList).any (Tryd.prog.wideKeysFrom ·)):Bool)=true:=by kernel_rfl
set_option maxRecDepth 100000 in
theorem q18:(Rows.blocksBackSpec.vars.all (Tryd.prog.varReadable ·):Bool)=true:=by kernel_rfl
set_option maxRecDepth 100000 in
theorem q19:(Tryd.f9.resultTypes.all (fun t=>Tryd.prog.readableRec t&&decide (t<Tryd.prog.types.size)):Bool)=true:=by kernel_rfl
set_option maxRecDepth 100000 in
theorem q20:((Rows.blocksBackRow.ifacesOut==Tryd.f9.resultTypes.toList.any (Tryd.prog.ifacesRec ·)):Bool)=true:=by kernel_rfl
set_option maxRecDepth 100000 in
theorem q21:((Rows.blocksBackRow.loopsOut==Tryd.f9.resultTypes.toList.any (Tryd.prog.loopsFrom ·)):Bool)=true:=by kernel_rfl
set_option maxRecDepth 100000 in
theorem q22:((Rows.blocksBackRow.plainKeys==Tryd.prog.plainKeys):Bool)=true:=by kernel_rfl
set_option maxRecDepth 100000 in
theorem q23:(Rows.blocksBackRow.shortTexts.isNone:Bool)=true:=by kernel_rfl
set_option maxRecDepth 100000 in
theorem q24:(Tryd.prog.stopsHeard:Bool)=true:=by kernel_rfl
set_option maxRecDepth 100000 in
theorem q25:(Tryd.prog.mayEnter:Bool)=true:=by kernel_rfl
set_option maxRecDepth 100000 in
theorem q26:((Rows.blocksBackRow.lifted==Tryd.prog.liftsFinal):Bool)=true:=by kernel_rfl
set_option maxRecDepth 100000 in
theorem q27:((Tryd.prog.make==some Rows.blocksBackRow.make):Bool)=true:=by kernel_rfl
set_option maxRecDepth 100000 in
theorem q28:((Rows.blocksBackRow.kinds==(if Rows.blocksBackRow.domain.isEmpty then [] else Tryd.f9.params.toList.map fun t=>match Tryd.prog.underlying t with|some (.int k)=>some k|_=>none)):Bool)=true:=by kernel_rfl
set_option maxRecDepth 100000 in
theorem q29:((Rows.blocksBackRow.pinned==Rows.blocksBackRow.pinnedBy):Bool)=true:=by kernel_rfl
set_option maxRecDepth 100000 in
theorem q30:((Rows.blocksBackRow.veiled==(Tryd.f9.params.toList++Rows.blocksBackSpec.plain.varTypes Tryd.prog++Tryd.f9.resultTypes.toList).any (Tryd.prog.veiledRec ·)):Bool)=true:=by kernel_rfl
set_option maxRecDepth 100000 in
theorem q31:(Rows.blocksBackRow.veiledFits Tryd.prog Tryd.f9.params.toList (Tryd.f9.params.toList++Rows.blocksBackSpec.plain.varTypes Tryd.prog++Tryd.f9.resultTypes.toList):Bool)=true:=by kernel_rfl
set_option maxRecDepth 100000 in
theorem closed:joinedFacts Tryd.prog 9 Tryd.f9 Rows.blocksBackSpec Rows.blocksBackRow=true:=by
 unfold joinedFacts
 simp only [Bool.and_eq_true]
 exact ⟨⟨⟨⟨⟨⟨⟨⟨⟨⟨⟨⟨⟨⟨⟨⟨⟨⟨⟨⟨⟨⟨⟨⟨⟨⟨⟨⟨⟨⟨⟨q0,q1⟩,q2⟩,q3⟩,q4⟩,q5⟩,q6⟩,q7⟩,q8⟩,q9⟩,q10⟩,q11⟩,q12⟩,q13⟩,q14⟩,q15⟩,q16⟩,q17⟩,q18⟩,q19⟩,q20⟩,q21⟩,q22⟩,q23⟩,q24⟩,q25⟩,q26⟩,q27⟩,q28⟩,q29⟩,q30⟩,q31⟩
theorem over:Rows.blocksBackRow.holds Tryd.pinned (OpenSpec.ofChange Rows.blocksBackSpec):=
 OpenClaim.holds_of_wide 9 Tryd.f9 rfl rfl rfl rfl rfl rfl rfl ⟨rfl,rfl,rfl,rfl,rfl⟩ rfl rfl rfl rfl rfl (by kernel_rfl) Tryd.func9 closed
  (of_decide_eq_true (by kernel_rfl)) (by unfold Func.isWrapper;first|(rw [if_pos (by decide+kernel)];kernel_rfl)|(rw [if_neg (by decide+kernel)];exact ⟨rfl,rfl⟩))
  (fun os started H enc _=>lifted os started H enc)
theorem proved:Rows.BlocksBackCardSaid:=
 Claim7.holds_tied_plain_at .later [] [.data,.pinned] true (true, "ab1370353c399282f09f394a09cbe2a0809d04b16a57df6f943c79af89199b76") false over (fun _ h=>by cases h) (by kernel_rfl) (fun _ h=>by cases h) blocksBack_row_tie rfl ⟨rfl,rfl⟩ (by kernel_rfl) rfl
  (fun f fn hf hfn=>by
   obtain rfl:f=9:=Option.some.inj ((show Tryd.prog.funcNamed "cipherplan/cipherplanlaw07.BlocksBack" = some 9 by kernel_rfl).symm.trans hf) |>.symm
   obtain rfl:fn=Tryd.f9:=(Option.some.inj (Tryd.func9.symm.trans hfn)).symm
   exact ⟨by kernel_rfl,fun j t ht=>by
    rw [Tryd.params9] at ht
    have hm:t∈[22,9]:=by simpa using Array.mem_of_getElem? ht
    have hall:([22,9].all fun u=> !Tryd.prog.wantsStandIn u)=true:=by kernel_rfl
    exact (show Tryd.prog.wantsStandIn t=false by simpa using List.all_eq_true.1 hall t hm)⟩)
  (by kernel_rfl)
#print axioms proved
end Go.Proofs.YtkkoedniahnneaaDoor.blocksBack
