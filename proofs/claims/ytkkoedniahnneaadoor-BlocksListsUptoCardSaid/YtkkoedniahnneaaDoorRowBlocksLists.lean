/-
 The law BlocksLists:for every input of bounded bulk it returns true,and each argument reads afterwards as it read before. Condition:what it reads is of bulk at most 1048576.
-/
import Derived.Test.YtkkoedniahnneaaDoorQ7
import Derived.Test.YtkkoedniahnneaaDoorQ3
import Derived.Test.YtkkoedniahnneaaDoorQ6
import Derived.Test.YtkkoedniahnneaaDoorChecked
import Derived.Test.YtkkoedniahnneaaDoorRows
import Derived.Test.YtkkoedniahnneaaDoorCards
import Derived.Test.YtkkoedniahnneaaDoorTie
import Derived.OpenShut
import Derived.LaidMore
import Derived.Lay
import Derived.SevenTiedAt
import Derived.Stop.Joined
import Derived.JoinedCond
set_option linter.unusedSimpArgs false
set_option linter.unusedVariables false
namespace Go.Proofs.YtkkoedniahnneaaDoor.blocksLists
open Go.ChangeShapes Go.WideShapes Go.ChangeAt Go.RowKit
theorem own:ownKnob Tryd.prog.godebug=none:=by kernel_rfl
theorem laidOut:laidOutB Tryd.prog=true:=by kernel_rfl
set_option maxRecDepth 100000 in
theorem contract (H:Type)(enc:TypeId×Value->H)(W:World)(base:Nat)(args:Array Value)(ds gs:List (DataW H))(before:List MemPlace)
  (hval0: ∀ (j:Nat) t v,Tryd.f8.params[j]? = some t->args[j]? = some v->Value.okWide Tryd.prog W .any base t v)
  (hW:DataW.Whole enc Tryd.prog Tryd.f8.params.toList Rows.blocksListsSpec.vars false W args.toList ds gs before) (hk:Rows.uptoSmall H (ds++gs)=true):
  Calls Tryd.prog 8 args W fun e W'=> ∃ v,e= .returned v/\Rows.blocksListsSpec.post enc Tryd.prog Tryd.f8 false true false false W args v W':=by
 have hval: ∀ (j:Nat) t v,Tryd.f8.params[j]? = some t->args[j]? = some v->Value.okWide Tryd.prog W .any base t v:=hval0
 have hW':=hW
 obtain ⟨p,q,hA0,hV,rfl,hfz,hnd⟩:=hW
 have hA:DataW.TrodAll enc Tryd.prog W 0 (fun _=>true) true Tryd.f8.params.toList args.toList ds p:=hA0
 rw [Tryd.params8] at hA hval
 obtain ⟨v0,vs0,d0,ds0,p0,q0,hargs,rfl,rfl,h0,r0⟩:=trodAll_cons hA
 obtain ⟨v1,vs1,d1,ds1,p1,q1,rfl,rfl,rfl,h1,r1⟩:=trodAll_cons r0
 obtain ⟨v2,vs2,d2,ds2,p2,q2,rfl,rfl,rfl,h2,r2⟩:=trodAll_cons r1
 obtain ⟨rfl,rfl,rfl⟩:=trodAll_nil r2
 obtain rfl:args= #[v0,v1,v2]:=by cases args;simp_all
 obtain ⟨rfl,rfl⟩:=trodVars_none hV
 have hb:Rows.uptoBulkAll ([d0,d1,d2]++([]:List (DataW H)))<=1048576:=of_decide_eq_true hk
 simp only [List.append_nil,Rows.uptoBulkAll] at hb
 have k0:=h0
 have lt0: ∀ x∈p0,x.block<W.heap.size:=by obtain ⟨m,hm⟩:=k0;exact DataW.trod_lt m _ _ _ hm
 obtain ⟨z0,c0,w0,b0⟩:=K.arg_openU (n:=12) (σ:=fun _=> .no) (show K.tyIs Tryd.prog 13 22 ((.sl K.tI))=true by kernel_rfl) (hval 0 22 v0 rfl rfl) h0
 have k1:=h1
 have lt1: ∀ x∈p1,x.block<W.heap.size:=by obtain ⟨m,hm⟩:=k1;exact DataW.trod_lt m _ _ _ hm
 obtain ⟨z1,c1,w1,b1⟩:=K.arg_openRB (n:=12) (σ:=fun _=> .no) (show K.rbIs Tryd.prog 12 35=true by kernel_rfl) (hval 1 35 v1 rfl rfl) h1
 have k2:=h2
 have lt2: ∀ x∈p2,x.block<W.heap.size:=by obtain ⟨m,hm⟩:=k2;exact DataW.trod_lt m _ _ _ hm
 obtain ⟨z2,c2,w2,b2⟩:=K.arg_openU (n:=12) (σ:=fun _=> .no) (show K.tyIs Tryd.prog 13 9 (.str)=true by kernel_rfl) (hval 2 9 v2 rfl rfl) h2
 clear hA0 hval0
 refine (K.walkBlocksLists z0 z1 z2 W v0 v1 v2 c0 c1 c2 w0 w1 w2 (by omega) (by omega) (by omega)).mono fun e W' ⟨he,bel⟩=> ?_
 subst he
 exact ⟨_,rfl,_,_,_,[],_,[],hW',trodAll_mk1 (shut_bool Tryd.underlying4 _),(trodAll_cons_mk (Below.trod laidOut (by kernel_rfl) (of_decide_eq_true (by kernel_rfl)) k0 bel lt0) (trodAll_cons_mk (Below.trod laidOut (by kernel_rfl) (of_decide_eq_true (by kernel_rfl)) k1 bel lt1) (trodAll_cons_mk (Below.trod laidOut (by kernel_rfl) (of_decide_eq_true (by kernel_rfl)) k2 bel lt2) trodAll_mk0))),rfl,bel.frame _,fun h=>by cases h⟩
set_option maxRecDepth 100000 in
theorem lifted (os:Os)(started:os.Started)(H:Type)(enc:TypeId×Value->H)(F:Stop.Interp):
  ReturnsInHanded {} Tryd.checked os 8 .any ((Rows.OpenSpec.upto Rows.blocksListsSpec).preRow enc Tryd.prog Tryd.f8 Rows.blocksListsUptoRow.domain false Rows.blocksListsUptoRow.laid) (((Rows.OpenSpec.upto Rows.blocksListsSpec).at F).post enc Tryd.prog Tryd.f8 false true false false):=by
 refine returnsInHanded_of_calls own started (by kernel_rfl) ?_ ?_
 ·exact ⟨World.laidAll Tryd.prog os Rows.blocksListsUptoRow.laid,fun _ _=>0,⟨#[], #[.slice none 0 0,.slice none 0 0,.string ByteArray.empty],[]⟩,World.laidAll_os _ _ _,World.shaped_of_ZipB (by kernel_rfl) (by kernel_rfl),rfl,(Input.okWide_of_okWideB (by kernel_rfl)).2,
   OpenSpec.preRow_of_cond 8 (x:=([.nil,.nil,.lit (.string [])],[],[])) (by kernel_rfl) rfl (fun k hk=>by obtain rfl:=Option.some.inj (show some Rows.uptoSmall=some k from hk);kernel_rfl) (by kernel_rfl) (by rw [MakeChecks.laidMetH_plain _ _ _ (by kernel_rfl)];exact laidMet_laidAll _ (by kernel_rfl) (by kernel_rfl)),by
   simp only [Assume.holds]
   exact ⟨by simp,by simp,fun _=>Modest.zero,by simp,by simp⟩⟩
 ·intro w tape i _ _ _ hok hpre hholds
  obtain ⟨_,_,_,fn',hfn',_,_,_,_,hval⟩:=hok
  obtain rfl:fn'=Tryd.f8:=Option.some.inj (hfn'.symm.trans Tryd.func8)
  obtain ⟨⟨hp,_⟩,_⟩:=hpre
  obtain ⟨ds,gs,before,hw,_,hk⟩:=OpenSpec.pre_parts hp
  have hw':=DataW.Whole.of_heap (w':=w.forCall tape i) (by rfl) hw
  refine (contract H enc (w.forCall tape i) w.heap.size i.args ds gs before hval hw' (hk _ rfl)).mono fun e W' ⟨v,he,hp⟩=> ?_
  subst he
  exact ChangeSpec.post_blind hp
set_option maxRecDepth 100000 in
theorem q0:(Rows.blocksListsUptoRow.wf (OpenSpec.ofChange (Rows.OpenSpec.upto Rows.blocksListsSpec).bare):Bool)=true:=by kernel_rfl
set_option maxRecDepth 100000 in
theorem q1:(laidOutB Tryd.prog:Bool)=true:=by kernel_rfl
set_option maxRecDepth 100000 in
theorem q2:(mapsRowed Tryd.prog:Bool)=true:=by kernel_rfl
set_option maxRecDepth 100000 in
theorem q3:(Tryd.f8.params.all (Tryd.prog.readableRec ·):Bool)=true:=by kernel_rfl
set_option maxRecDepth 100000 in
theorem q4:(namedTie Tryd.prog Rows.blocksListsUptoRow.named (Rows.OpenSpec.upto Rows.blocksListsSpec).bare.vars:Bool)=true:=by kernel_rfl
set_option maxRecDepth 100000 in
theorem q5:((Rows.blocksListsUptoRow.stops==[]):Bool)=true:=by kernel_rfl
set_option maxRecDepth 100000 in
theorem q6:((Tryd.prog.stops==[]):Bool)=true:=by kernel_rfl
set_option maxRecDepth 100000 in
theorem q7:((Rows.blocksListsUptoRow.knobs==[]):Bool)=true:=by kernel_rfl
set_option maxRecDepth 100000 in
theorem q8:((Tryd.prog.stopKnobs==[]):Bool)=true:=by kernel_rfl
set_option maxRecDepth 100000 in
theorem q9:((Rows.blocksListsUptoRow.inPlace==Tryd.prog.inPlace 8):Bool)=true:=by kernel_rfl
set_option maxRecDepth 100000 in
theorem q10:((Rows.blocksListsUptoRow.unfollowed==Tryd.prog.unfollowed 8):Bool)=true:=by kernel_rfl
set_option maxRecDepth 100000 in
theorem q11:((Rows.blocksListsUptoRow.recurses==Tryd.prog.recurses 8):Bool)=true:=by kernel_rfl
set_option maxRecDepth 100000 in
theorem q12:((Rows.blocksListsUptoRow.named==Tryd.prog.varsNamed 8):Bool)=true:=by kernel_rfl
set_option maxRecDepth 100000 in
theorem q13:((Rows.blocksListsUptoRow.maps==(Tryd.f8.params.toList++(Rows.OpenSpec.upto Rows.blocksListsSpec).bare.plain.varTypes Tryd.prog).any (Tryd.prog.mapsRec ·)):Bool)=true:=by kernel_rfl
set_option maxRecDepth 100000 in
theorem q14:((Rows.blocksListsUptoRow.ifaces==(Tryd.f8.params.toList++(Rows.OpenSpec.upto Rows.blocksListsSpec).bare.plain.varTypes Tryd.prog).any (Tryd.prog.ifacesRec ·)):Bool)=true:=by kernel_rfl
set_option maxRecDepth 100000 in
theorem q15:((Rows.blocksListsUptoRow.mapsOut==Tryd.prog.mapsAmong Tryd.f8.resultTypes.toList):Bool)=true:=by kernel_rfl
set_option maxRecDepth 100000 in
theorem q16:((Rows.blocksListsUptoRow.loops==(Tryd.f8.params.toList++(Rows.OpenSpec.upto Rows.blocksListsSpec).bare.plain.varTypes Tryd.prog).any (Tryd.prog.loopsFrom ·)):Bool)=true:=by kernel_rfl
set_option maxRecDepth 100000 in
theorem q17:((Rows.blocksListsUptoRow.wideKeys==(Tryd.f8.params.toList++(Rows.OpenSpec.upto Rows.blocksListsSpec).bare.plain.varTypes Tryd.prog++Tryd.f8.resultTypes.toList).any (Tryd.prog.wideKeysFrom ·)):Bool)=true:=by kernel_rfl
set_option maxRecDepth 100000 in
theorem q18:((Rows.OpenSpec.upto Rows.blocksListsSpec).bare.vars.all (Tryd.prog.varReadable ·):Bool)=true:=by kernel_rfl
set_option maxRecDepth 100000 in
theorem q19:(Tryd.f8.resultTypes.all (fun t=>Tryd.prog.readableRec t&&decide (t<Tryd.prog.types.size)):Bool)=true:=by kernel_rfl
set_option maxRecDepth 100000 in
theorem q20:((Rows.blocksListsUptoRow.ifacesOut==Tryd.f8.resultTypes.toList.any (Tryd.prog.ifacesRec ·)):Bool)=true:=by kernel_rfl
set_option maxRecDepth 100000 in
theorem q21:((Rows.blocksListsUptoRow.loopsOut==Tryd.f8.resultTypes.toList.any (Tryd.prog.loopsFrom ·)):Bool)=true:=by kernel_rfl
set_option maxRecDepth 100000 in
theorem q22:((Rows.blocksListsUptoRow.plainKeys==Tryd.prog.plainKeys):Bool)=true:=by kernel_rfl
set_option maxRecDepth 100000 in
theorem q23:(Rows.blocksListsUptoRow.shortTexts.isNone:Bool)=true:=by kernel_rfl
set_option maxRecDepth 100000 in
theorem q24:(Tryd.prog.stopsHeard:Bool)=true:=by kernel_rfl
set_option maxRecDepth 100000 in
theorem q25:(Tryd.prog.mayEnter:Bool)=true:=by kernel_rfl
set_option maxRecDepth 100000 in
theorem q26:((Rows.blocksListsUptoRow.lifted==Tryd.prog.liftsFinal):Bool)=true:=by kernel_rfl
set_option maxRecDepth 100000 in
theorem q27:((Tryd.prog.make==some Rows.blocksListsUptoRow.make):Bool)=true:=by kernel_rfl
set_option maxRecDepth 100000 in
theorem q28:((Rows.blocksListsUptoRow.kinds==(if Rows.blocksListsUptoRow.domain.isEmpty then [] else Tryd.f8.params.toList.map fun t=>match Tryd.prog.underlying t with|some (.int k)=>some k|_=>none)):Bool)=true:=by kernel_rfl
set_option maxRecDepth 100000 in
theorem q29:((Rows.blocksListsUptoRow.pinned==Rows.blocksListsUptoRow.pinnedBy):Bool)=true:=by kernel_rfl
set_option maxRecDepth 100000 in
theorem q30:((Rows.blocksListsUptoRow.veiled==(Tryd.f8.params.toList++(Rows.OpenSpec.upto Rows.blocksListsSpec).bare.plain.varTypes Tryd.prog++Tryd.f8.resultTypes.toList).any (Tryd.prog.veiledRec ·)):Bool)=true:=by kernel_rfl
set_option maxRecDepth 100000 in
theorem q31:(Rows.blocksListsUptoRow.veiledFits Tryd.prog Tryd.f8.params.toList (Tryd.f8.params.toList++(Rows.OpenSpec.upto Rows.blocksListsSpec).bare.plain.varTypes Tryd.prog++Tryd.f8.resultTypes.toList):Bool)=true:=by kernel_rfl
set_option maxRecDepth 100000 in
theorem closed:joinedFacts Tryd.prog 8 Tryd.f8 (Rows.OpenSpec.upto Rows.blocksListsSpec).bare Rows.blocksListsUptoRow=true:=by
 unfold joinedFacts
 simp only [Bool.and_eq_true]
 exact ⟨⟨⟨⟨⟨⟨⟨⟨⟨⟨⟨⟨⟨⟨⟨⟨⟨⟨⟨⟨⟨⟨⟨⟨⟨⟨⟨⟨⟨⟨⟨q0,q1⟩,q2⟩,q3⟩,q4⟩,q5⟩,q6⟩,q7⟩,q8⟩,q9⟩,q10⟩,q11⟩,q12⟩,q13⟩,q14⟩,q15⟩,q16⟩,q17⟩,q18⟩,q19⟩,q20⟩,q21⟩,q22⟩,q23⟩,q24⟩,q25⟩,q26⟩,q27⟩,q28⟩,q29⟩,q30⟩,q31⟩
theorem over:Rows.blocksListsUptoRow.holds Tryd.pinned (Rows.OpenSpec.upto Rows.blocksListsSpec):=
 OpenClaim.holds_of_cond 8 Tryd.f8 rfl rfl rfl rfl rfl rfl rfl ⟨rfl,rfl,rfl,rfl,rfl⟩ rfl rfl rfl rfl rfl (by kernel_rfl) Tryd.func8 closed
  (of_decide_eq_true (by kernel_rfl)) (by unfold Func.isWrapper;first|(rw [if_pos (by decide+kernel)];kernel_rfl)|(rw [if_neg (by decide+kernel)];exact ⟨rfl,rfl⟩))
  (fun os started H enc _ F=>by rw [OpenClaim.pre_eq_preRow];exact lifted os started H enc F)
theorem proved:Rows.BlocksListsUptoCardSaid:=
 Claim7.holds_tied_plain_at .later [] [.data,.pinned] true (true, "ab1370353c399282f09f394a09cbe2a0809d04b16a57df6f943c79af89199b76") false over (fun _ h=>by cases h) (by kernel_rfl) (fun _ h=>by cases h) blocksListsUpto_row_tie rfl ⟨rfl,rfl⟩ (by kernel_rfl) rfl
  (fun f fn hf hfn=>by
   obtain rfl:f=8:=Option.some.inj ((show Tryd.prog.funcNamed "cipherplan/cipherplanlaw07.BlocksLists" = some 8 by kernel_rfl).symm.trans hf) |>.symm
   obtain rfl:fn=Tryd.f8:=(Option.some.inj (Tryd.func8.symm.trans hfn)).symm
   exact ⟨by kernel_rfl,fun j t ht=>by
    rw [Tryd.params8] at ht
    have hm:t∈[22,35,9]:=by simpa using Array.mem_of_getElem? ht
    have hall:([22,35,9].all fun u=> !Tryd.prog.wantsStandIn u)=true:=by kernel_rfl
    exact (show Tryd.prog.wantsStandIn t=false by simpa using List.all_eq_true.1 hall t hm)⟩)
  (by kernel_rfl)
#print axioms proved
end Go.Proofs.YtkkoedniahnneaaDoor.blocksLists
