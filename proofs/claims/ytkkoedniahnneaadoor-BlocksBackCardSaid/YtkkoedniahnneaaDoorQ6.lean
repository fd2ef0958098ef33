import Derived.Test.YtkkoedniahnneaaDoorQ5
set_option linter.unusedSimpArgs false
set_option linter.unusedVariables false
set_option linter.unusedSectionVars false
namespace Go.Proofs.YtkkoedniahnneaaDoor.K
open Go.RowKit
noncomputable section
set_option linter.unusedSectionVars false
abbrev bl1:List ByteArray:=[(ByteArray.mk #[115,101,114,118,101,114]),(ByteArray.mk #[97]),(ByteArray.mk #[120,46,49])]
abbrev bl2:List ByteArray:=[(ByteArray.mk #[118]),(ByteArray.mk #[]),(ByteArray.mk #[97,32,98]),(ByteArray.mk #[113,34,114]),(ByteArray.mk #[98,92,99]),(ByteArray.mk #[35,32,120]),(ByteArray.mk #[59]),(ByteArray.mk #[116,9,117])]
abbrev bl3:List ByteArray:=[(ByteArray.mk #[]),(ByteArray.mk #[97,32,98]),(ByteArray.mk #[34])]
abbrev bl4:List ByteArray:=[(ByteArray.mk #[97,10,98]),(ByteArray.mk #[127])]
abbrev WD:Type:=List ByteArray×Dice
abbrev LD:Type:=List BlkT×Dice
def lk0:Nat->List ByteArray->Dice->WD
 |0,y,d=>(y,d)
 |k+1,y,d=>lk0 k (y++[dwdG d bl2]) (dwdGN d bl2)
def lT (ws:List ByteArray)(o:Bool)(wi:List Blk)(ln:Int)(d:Dice):BlkT×Dice:=
 bif ieq (dval d 24) 0 then (([],(o,(wi,(ln,())))),dnext d 24) else
 bif ieq (dval d 24) 1 then ((ws.set (Int.toNat 0) (dwdG (dnext d 24) bl3),(o,(wi,(ln,())))),dwdGN (dnext d 24) bl3) else
 bif ieq (dval d 24) 2 then ((ws++[dwdG (dnext d 24) bl4],(o,(wi,(ln,())))),dwdGN (dnext d 24) bl4) else
 bif ieq (dval d 24) 3 then ((ws,(false,(wi,(ln,())))),dnext d 24) else ((ws,(o,(wi,(ln,())))),dnext d 24)
def lA (d:Dice):WD:=lk0 (dval (dnext (dwdGN d bl1) 9) 3).toNat [dwdG d bl1] (dnext (dnext (dwdGN d bl1) 9) 3)
def lB (rec:Dice->LD)(dep:Bool)(r:WD)(ln:Int):BlkT×Dice:=
 bif dep then (bif done r.2 3 then lT r.1 true ((rec (dnext r.2 3)).1.map Blk.of) ln (rec (dnext r.2 3)).2 else lT r.1 false [] ln (dnext r.2 3)) else lT r.1 false [] ln r.2
def lk1 (rec:Dice->LD)(dep:Bool):Nat->List BlkT->Dice->LD
 |0,y,d=>(y,d)
 |i+1,y,d=>lk1 rec dep i (y++[(lB rec dep (lA d) (dval (dwdGN d bl1) 9)).1]) (lB rec dep (lA d) (dval (dwdGN d bl1) 9)).2
def lsG:Nat->Dice->LD
 |0,d=>lk1 (fun d=>([],d)) false (dval d 4).toNat [] (dnext d 4)
 |n+1,d=>lk1 (lsG n) true (dval d 4).toNat [] (dnext d 4)
def ls7F (d:Dice)(n:Int):List BlkT:=(lsG n.toNat d).1
def ls7N (d:Dice)(n:Int):Dice:=(lsG n.toNat d).2
def ls7S:Nat->Dice->Int->Bool
 |0,_,_=>false
 |k+1,d,n=>dOk d&&cP (0<=n/\n<=k/\n<=3)
def ls7Ok (d:Dice)(n:Int):Bool:=dOk d&&cP (0<=n/\n<=3)
theorem fuel_law07_list (d:Dice)(n:Int)(h:ls7Ok d n=true): ∃ N,ls7S N d n=true:=by
 obtain ⟨h1,h2⟩:=Bool.and_eq_true_iff.1 h
 obtain ⟨h2,h3⟩:=cP_of h2
 exact ⟨4,Bool.and_eq_true_iff.2 ⟨h1,cP_in ⟨h2,h3,h3⟩⟩⟩
def smW (ws:List ByteArray):Prop:=ws.length<=4∧ ∀ s∈ws,s.size<=6
def SM:Nat->List BlkT->Prop
 |0,l=>l.length<=3∧ ∀ x∈l,smW x.1/\x.2.2.1=[]
 |n+1,l=>l.length<=3∧ ∀ x∈l,smW x.1/\(x.2.2.1=[]∨SM n (x.2.2.1.map Blk.un))
theorem lk0_ok: ∀ (k:Nat) (y:List ByteArray) (d:Dice),dOk d=true->(∀ s∈y,s.size<=6)->(lk0 k y d).1.length=y.length+k/\(∀ s∈(lk0 k y d).1,s.size<=6)/\dOk (lk0 k y d).2=true
 |0,y,d,h,hy=>⟨rfl,hy,h⟩
 |k+1,y,d,h,hy=>by
  obtain ⟨h1,h2,h3⟩:=lk0_ok k (y++[dwdG d bl2]) (dwdGN d bl2) (dOk_next h) (fun s hs=>by
   rcases List.mem_append.1 hs with hs|hs
   ·exact hy s hs
   ·rw [List.mem_singleton.1 hs]
    exact dwd_size (by kernel_rfl))
  rw [List.length_append,List.length_singleton] at h1
  exact ⟨by show (lk0 k _ _).1.length=_;omega,h2,h3⟩
theorem lA_ok (d:Dice)(h:dOk d=true):0<(lA d).1.length/\(lA d).1.length<=3/\(∀ s∈(lA d).1,s.size<=6)/\dOk (lA d).2=true:=by
 have hv:=dval_lt (d:=dnext (dwdGN d bl1) 9) (n:=3) (by omega)
 obtain ⟨h1,h2,h3⟩:=lk0_ok (dval (dnext (dwdGN d bl1) 9) 3).toNat [dwdG d bl1] (dnext (dnext (dwdGN d bl1) 9) 3) (dOk_next (dOk_next (dOk_next h))) (fun s hs=>by
  rw [List.mem_singleton.1 hs]
  exact dwd_size (by kernel_rfl))
 rw [List.length_singleton] at h1
 exact ⟨by show 0<(lk0 _ _ _).1.length;omega,by show (lk0 _ _ _).1.length<=3;omega,h2,h3⟩
theorem lT_ok {ws:List ByteArray}{o:Bool}{wi:List Blk}{ln:Int}{d:Dice}(h1:ws.length<=3)(h2: ∀ s∈ws,s.size<=6)(h:dOk d=true):smW (lT ws o wi ln d).1.1/\(lT ws o wi ln d).1.2.2.1=wi/\dOk (lT ws o wi ln d).2=true:=by
 unfold lT
 cases ieq (dval d 24) 0 with
 |true=>exact ⟨⟨Nat.zero_le _,fun s hs=>by cases hs⟩,rfl,show dOk (dnext d 24)=true from dOk_next h⟩
 |false=>
  rw [cond_false]
  cases ieq (dval d 24) 1 with
  |true=>
   refine ⟨⟨by show (ws.set _ _).length<=4;rw [List.length_set];omega,fun s hs=> ?_⟩,rfl,show dOk (dwdGN (dnext d 24) bl3)=true from dOk_next (dOk_next h)⟩
   rcases List.mem_or_eq_of_mem_set hs with hs|hs
   ·exact h2 s hs
   ·rw [hs]
    exact dwd_size (by kernel_rfl)
  |false=>
   rw [cond_false]
   cases ieq (dval d 24) 2 with
   |true=>
    refine ⟨⟨by show (ws++[_]).length<=4;rw [List.length_append,List.length_singleton];omega,fun s hs=> ?_⟩,rfl,show dOk (dwdGN (dnext d 24) bl4)=true from dOk_next (dOk_next h)⟩
    rcases List.mem_append.1 hs with hs|hs
    ·exact h2 s hs
    ·rw [List.mem_singleton.1 hs]
     exact dwd_size (by kernel_rfl)
   |false=>
    rw [cond_false]
    cases ieq (dval d 24) 3 with
    |true=>exact ⟨⟨by show ws.length<=4;omega,h2⟩,rfl,show dOk (dnext d 24)=true from dOk_next h⟩
    |false=>exact ⟨⟨by show ws.length<=4;omega,h2⟩,rfl,show dOk (dnext d 24)=true from dOk_next h⟩
theorem of_un_map (l:List BlkT):(l.map Blk.of).map Blk.un=l:=by rw [List.map_map,show (Blk.un ∘ Blk.of)=id from funext Blk.un_of,List.map_id]
theorem lB_ok {rec:Dice->LD}{dep:Bool}{Q:List BlkT->Prop}(hr:dep=true→ ∀ d,dOk d=true->Q (rec d).1/\dOk (rec d).2=true){r:WD}{ln:Int}(h1:r.1.length<=3)(h2: ∀ s∈r.1,s.size<=6)(h:dOk r.2=true):
  smW (lB rec dep r ln).1.1/\((lB rec dep r ln).1.2.2.1=[]∨(dep=true/\Q ((lB rec dep r ln).1.2.2.1.map Blk.un)))/\dOk (lB rec dep r ln).2=true:=by
 unfold lB
 cases dep with
 |false=>
  obtain ⟨a,b,c⟩:=lT_ok (o:=false) (wi:=[]) (ln:=ln) h1 h2 h
  exact ⟨a,.inl b,c⟩
 |true=>
  rw [cond_true]
  cases done r.2 3 with
  |false=>
   obtain ⟨a,b,c⟩:=lT_ok (o:=false) (wi:=[]) (ln:=ln) h1 h2 (dOk_next (n:=3) h)
   exact ⟨a,.inl b,c⟩
  |true=>
   obtain ⟨q1,q2⟩:=hr rfl (dnext r.2 3) (dOk_next h)
   obtain ⟨a,b,c⟩:=lT_ok (o:=true) (wi:=(rec (dnext r.2 3)).1.map Blk.of) (ln:=ln) h1 h2 q2
   refine ⟨a,.inr ⟨rfl, ?_⟩,c⟩
   rw [cond_true,b,of_un_map]
   exact q1
theorem lk1_ok {rec:Dice->LD}{dep:Bool}{Q:List BlkT->Prop}(hr:dep=true→ ∀ d,dOk d=true->Q (rec d).1/\dOk (rec d).2=true): ∀ (i:Nat) (y:List BlkT) (d:Dice),dOk d=true->(∀ x∈y,smW x.1/\(x.2.2.1=[]∨(dep=true/\Q (x.2.2.1.map Blk.un))))→
  (lk1 rec dep i y d).1.length=y.length+i/\(∀ x∈(lk1 rec dep i y d).1,smW x.1/\(x.2.2.1=[]∨(dep=true/\Q (x.2.2.1.map Blk.un))))/\dOk (lk1 rec dep i y d).2=true
 |0,y,d,h,hy=>⟨rfl,hy,h⟩
 |i+1,y,d,h,hy=>by
  obtain ⟨a1,a2,a3,a4⟩:=lA_ok d h
  obtain ⟨b1,b2,b3⟩:=lB_ok (ln:=dval (dwdGN d bl1) 9) hr a2 a3 a4
  obtain ⟨c1,c2,c3⟩:=lk1_ok hr i (y++[(lB rec dep (lA d) (dval (dwdGN d bl1) 9)).1]) (lB rec dep (lA d) (dval (dwdGN d bl1) 9)).2 b3 (fun x hx=>by
   rcases List.mem_append.1 hx with hx|hx
   ·exact hy x hx
   ·rw [List.mem_singleton.1 hx]
    exact ⟨b1,b2⟩)
  rw [List.length_append,List.length_singleton] at c1
  exact ⟨by show (lk1 rec dep i _ _).1.length=_;omega,c2,c3⟩
theorem lsG_ok: ∀ (n:Nat) (d:Dice),dOk d=true->SM n (lsG n d).1/\dOk (lsG n d).2=true
 |0,d,h=>by
  have hv:=dval_lt (d:=d) (n:=4) (by omega)
  obtain ⟨h1,h2,h3⟩:=lk1_ok (rec:=fun d=>([],d)) (dep:=false) (Q:=fun _=>True) (fun h=>by cases h) (dval d 4).toNat [] (dnext d 4) (dOk_next h) (fun x hx=>by cases hx)
  rw [List.length_nil] at h1
  refine ⟨⟨by show (lk1 _ _ _ _ _).1.length<=3;omega,fun x hx=> ?_⟩,h3⟩
  obtain ⟨a,b⟩:=h2 x hx
  exact ⟨a,b.elim id (fun q=>by cases q.1)⟩
 |n+1,d,h=>by
  have hv:=dval_lt (d:=d) (n:=4) (by omega)
  obtain ⟨h1,h2,h3⟩:=lk1_ok (rec:=lsG n) (dep:=true) (Q:=SM n) (fun _ d hd=>lsG_ok n d hd) (dval d 4).toNat [] (dnext d 4) (dOk_next h) (fun x hx=>by cases hx)
  rw [List.length_nil] at h1
  refine ⟨⟨by show (lk1 _ _ _ _ _).1.length<=3;omega,fun x hx=> ?_⟩,h3⟩
  obtain ⟨a,b⟩:=h2 x hx
  exact ⟨a,b.imp id (fun q=>q.2)⟩
theorem sm_wsz {ws:List ByteArray}(h:smW ws):ws.length<=100000/\ws.all wsz=true:=⟨by have:=h.1;omega,List.all_eq_true.2 fun s hs=>decide_eq_true (by have:=h.2 s hs;omega)⟩
theorem SM_ok: ∀ (n:Nat) (l:List BlkT),SM n l->okB (n+2) l=true
 |0,l,h=>by
  obtain ⟨h1,h2⟩:=h
  refine Bool.and_eq_true_iff.2 ⟨decide_eq_true (by omega),List.all_eq_true.2 fun x hx=> ?_⟩
  obtain ⟨a,b⟩:=h2 x hx
  obtain ⟨c1,c2⟩:=sm_wsz a
  exact Bool.and_eq_true_iff.2 ⟨decide_eq_true c1,Bool.and_eq_true_iff.2 ⟨c2,by rw [b];rfl⟩⟩
 |n+1,l,h=>by
  obtain ⟨h1,h2⟩:=h
  refine Bool.and_eq_true_iff.2 ⟨decide_eq_true (by omega),List.all_eq_true.2 fun x hx=> ?_⟩
  obtain ⟨a,b⟩:=h2 x hx
  obtain ⟨c1,c2⟩:=sm_wsz a
  refine Bool.and_eq_true_iff.2 ⟨decide_eq_true c1,Bool.and_eq_true_iff.2 ⟨c2, ?_⟩⟩
  rcases b with b|b
  ·rw [b]
   rfl
  ·exact SM_ok n _ b
theorem ls_okT {n:Nat}{d:Dice}(h:dOk d=true)(hn:n<=3):okT (lsG n d).1=true:=cP_in ⟨n+2,okN_i (SM_ok n _ (lsG_ok n d h).1) (by omega)⟩
theorem l_tail {F:List BlkT->Dice->Option (Exit×VS)}{y:List BlkT}{ws:List ByteArray}{o:Bool}{wi:List Blk}{ln:Int}{d:Dice}(hd:dOk d=true)(h0:0<ws.length)(h1:ws.length<=3)(hy:y.length<=3):
  br (nextOk d 24) (br (ieq (dval d 24) 0) (br (cApp y [(([]:List ByteArray),(o,(wi,(ln,()))))] 64) (F (y++[(([]:List ByteArray),(o,(wi,(ln,()))))]) (dnext d 24)) none)
   (br (ieq (dval d 24) 1) (br (wdGOk (dnext d 24) bl3) (br (cIx ws 0) (br (cLd ws (Int.toNat 0)) (br (cApp y [((List.set ws (Int.toNat 0) (dwdG (dnext d 24) bl3)),(o,(wi,(ln,()))))] 64) (F (y++[((List.set ws (Int.toNat 0) (dwdG (dnext d 24) bl3)),(o,(wi,(ln,()))))]) (dwdGN (dnext d 24) bl3)) none) none) none) none)
    (br (ieq (dval d 24) 2) (br (wdGOk (dnext d 24) bl4) (br (cApp ws [dwdG (dnext d 24) bl4] 16) (br (cApp y [((ws++[dwdG (dnext d 24) bl4]),(o,(wi,(ln,()))))] 64) (F (y++[((ws++[dwdG (dnext d 24) bl4]),(o,(wi,(ln,()))))]) (dwdGN (dnext d 24) bl4)) none) none) none)
     (br (ieq (dval d 24) 3) (br (cApp y [(ws,(false,(wi,(ln,()))))] 64) (F (y++[(ws,(false,(wi,(ln,()))))]) (dnext d 24)) none)
      (br (cApp y [(ws,(o,(wi,(ln,()))))] 64) (F (y++[(ws,(o,(wi,(ln,()))))]) (dnext d 24)) none))))) none
   = F (y++[(lT ws o wi ln d).1]) (lT ws o wi ln d).2:=by
 have cA: ∀ x:BlkT,cApp y [x] 64=true:=fun x=>cAppN (by decide) (by rw [List.length_singleton];omega)
 have hn:dOk (dnext d 24)=true:=dOk_next hd
 refine brY (Bool.and_eq_true_iff.2 ⟨hd,by decide⟩) ?_
 unfold lT
 cases ieq (dval d 24) 0 with
 |true=>
  rw [br_true,cond_true]
  exact brY (cA _) rfl
 |false=>
  rw [br_false,cond_false]
  cases ieq (dval d 24) 1 with
  |true=>
   rw [br_true,cond_true]
   exact brY (Bool.and_eq_true_iff.2 ⟨hn,by decide⟩) (brY (decide_eq_true (by omega)) (brY (decide_eq_true h0) (brY (cA _) rfl)))
  |false=>
   rw [br_false,cond_false]
   cases ieq (dval d 24) 2 with
   |true=>
    rw [br_true,cond_true]
    exact brY (Bool.and_eq_true_iff.2 ⟨hn,by decide⟩) (brY (cAppN (by decide) (by rw [List.length_singleton];omega)) (brY (cA _) rfl))
   |false=>
    rw [br_false,cond_false]
    cases ieq (dval d 24) 3 with
    |true=>
     rw [br_true,cond_true]
     exact brY (cA _) rfl
    |false=>
     rw [br_false,cond_false]
     exact brY (cA _) rfl
def lb0 (k:Int)(y:List ByteArray)(d:Dice):Bool:=dOk d&&cP (0<=k/\k<=2/\(y.length:Int)+k<=3)
def lsRec (n:Int):Dice->LD:=if n.toNat=0 then fun d=>([],d) else lsG (n.toNat-1)
theorem en_f31:Entered Tryd.prog 31:= .inr ⟨by decide,_,Tryd.func31,by kernel_rfl,by kernel_rfl⟩
def sp_f31R [Fuel]:Ent:=specP tyDice (.pr tI .nil) (fun d x=>(ls7S fuel d x.1)) (fun d x=>(.t (.sl tyBlkT) (ls7F d x.1))) (fun d x=>(ls7N d x.1))
theorem en_f31R:Entered Tryd.prog 31:=en_f31
section
variable [Fuel][Nonempty (PLift (Meets Tryd.prog 31 (strip sp_f31R)))]
theorem ms_f31R:Meets Tryd.prog 31 (strip sp_f31R):=(Classical.choice (inferInstance:Nonempty (PLift (Meets Tryd.prog 31 (strip sp_f31R))))).down
def lb1 [Fuel](n i:Int)(y:List BlkT)(d:Dice):Bool:=dOk d&&cP (0<=n/\n<=fuel/\n<=3/\0<=i/\(y.length:Int)+i<=3)
def dr_f31_0:List DO:=[(.mk (oP 28 (.fa 0 (.t 7))) []),(.mk (oL 29 28) [0]),(.mk (oV 30 0) []),(.mk (oM 31 (.bs 9 1 8 [(.v (.string (ByteArray.mk #[]))),(.v (.string (ByteArray.mk #[]))),(.v (.string (ByteArray.mk #[]))),(.v (.string (ByteArray.mk #[]))),(.v (.string (ByteArray.mk #[]))),(.v (.string (ByteArray.mk #[]))),(.v (.string (ByteArray.mk #[]))),(.v (.string (ByteArray.mk #[])))] [(0,1,(.c (.v (.string (ByteArray.mk #[118]))))),(1,1,(.c (.v (.string (ByteArray.mk #[]))))),(2,1,(.c (.v (.string (ByteArray.mk #[97,32,98]))))),(3,1,(.c (.v (.string (ByteArray.mk #[113,34,114]))))),(4,1,(.c (.v (.string (ByteArray.mk #[98,92,99]))))),(5,1,(.c (.v (.string (ByteArray.mk #[35,32,120]))))),(6,1,(.c (.v (.string (ByteArray.mk #[59]))))),(7,1,(.c (.v (.string (ByteArray.mk #[116,9,117])))))])) []),(.mk (oC 32 32 [(.t 30),(.t 31)]) [2,3]),(.mk (oM 33 (.bs 9 1 1 [(.v (.string (ByteArray.mk #[])))] [(0,1,(.t 32))])) [4]),(.mk (oM 34 (.app 9 1 16 (.t 29) (.t 33))) [1,5,4]),(.mk (oP 35 (.fa 0 (.t 7))) [0,1,2,3,4,5,6]),(.mk (.mk none none (.m (.st 1 (.t 35) (.t 34)))) [7,6,6,0,1,2,3,4,5,6])]
def dr_f31_1:List DO:=[(.mk (oP 55 (.fa 0 (.t 7))) []),(.mk (oL 56 55) [0]),(.mk (oV 57 0) []),(.mk (oM 58 (.bs 9 1 3 [(.v (.string (ByteArray.mk #[]))),(.v (.string (ByteArray.mk #[]))),(.v (.string (ByteArray.mk #[])))] [(0,1,(.c (.v (.string (ByteArray.mk #[]))))),(1,1,(.c (.v (.string (ByteArray.mk #[97,32,98]))))),(2,1,(.c (.v (.string (ByteArray.mk #[34])))))])) []),(.mk (oC 59 32 [(.t 57),(.t 58)]) [2,3]),(.mk (oP 60 (.ix 1 (.t 56) (cI 0))) [1,0,1,2,3,4]),(.mk (.mk none none (.m (.st 1 (.t 60) (.t 59)))) [5,4,4,0,1,2,3,4])]
def dr_f31_2:List DO:=[(.mk (oP 63 (.fa 0 (.t 7))) []),(.mk (oL 64 63) [0]),(.mk (oV 65 0) []),(.mk (oM 66 (.bs 9 1 2 [(.v (.string (ByteArray.mk #[]))),(.v (.string (ByteArray.mk #[])))] [(0,1,(.c (.v (.string (ByteArray.mk #[97,10,98]))))),(1,1,(.c (.v (.string (ByteArray.mk #[127])))))])) []),(.mk (oC 67 32 [(.t 65),(.t 66)]) [2,3]),(.mk (oM 68 (.bs 9 1 1 [(.v (.string (ByteArray.mk #[])))] [(0,1,(.t 67))])) [4]),(.mk (oM 69 (.app 9 1 16 (.t 64) (.t 68))) [1,5,4]),(.mk (oP 70 (.fa 0 (.t 7))) [0,1,2,3,4,5,6]),(.mk (.mk none none (.m (.st 1 (.t 70) (.t 69)))) [7,6,6,0,1,2,3,4,5,6])]
def fg_f31_0:Fg:=⟨[(0,none),(1,some tI),(5,none),(6,some tI),(7,none),(8,some tI)],[(5,none),(7,none),(18,none),(34,none),(69,none),(77,none),(20700,none),(50000,some tyDice)]⟩
def tb_f31_0:TC:=(.sq (.sq (.reg [(oV 24 8),(oP 25 (.bin false .gtr (.t 24) (cI 0)))]) (.cd (.t 25) .sk (.fg ⟨[(0,none),(1,some tI),(5,none),(6,some tI),(7,none)],[(5,none),(7,some tyBlkT),(18,none),(34,none),(69,none),(77,none),(20700,none),(50000,some tyDice)]⟩ (.ex 2)))) (.sq (.bk 3 (.dr dr_f31_0 [(0,[7,18,34,69,20700]),(1,[7,18,34,69,20700]),(2,[50000]),(3,[]),(4,[32,5032,10032,15032,50000]),(5,[]),(6,[7,18,34,69,5034,10034,15034,20700]),(7,[7,18,34,69,20700]),(8,[7,18,34,69,20700])] (.of [0,1,2,3,4,5,6,7,8]))) (.reg [(oV 26 8),(oP 27 (.bin false .sub (.t 26) (cI 1))),(oV 8 27)])))
def fg_f31_1:Fg:=⟨[(0,none),(1,some tI),(5,none),(6,some tI)],[(5,none),(77,none),(50000,some tyDice)]⟩
def tb_f31_1:TC:=(.sq (.sq (.reg [(oV 11 6),(oP 12 (.bin false .gtr (.t 11) (cI 0)))]) (.cd (.t 12) .sk (.fg ⟨[(5,none)],[(5,none),(77,none),(50000,some tyDice)]⟩ (.ex 0)))) (.sq (.bk 1 (.sq (.reg [(oV 15 0),(oM 16 (.bs 9 1 3 [(.v (.string (ByteArray.mk #[]))),(.v (.string (ByteArray.mk #[]))),(.v (.string (ByteArray.mk #[])))] [(0,1,(.c (.v (.string (ByteArray.mk #[115,101,114,118,101,114]))))),(1,1,(.c (.v (.string (ByteArray.mk #[97]))))),(2,1,(.c (.v (.string (ByteArray.mk #[120,46,49])))))])),(oC 17 32 [(.t 15),(.t 16)]),(oM 18 (.bs 9 1 1 [(.v (.string (ByteArray.mk #[])))] [(0,1,(.t 17))])),(oV 19 0),(oC 20 18 [(.t 19),(cI 9)]),(oP 21 (.bd [(.v (.slice none 0 0)),(.v (.bool false)),(.v (.slice none 0 0)),(.v (.int .i64 0))] [(0,1,(.t 18)),(3,1,(.t 20))])),(oM 7 (.new [(.v (.slice none 0 0)),(.v (.bool false)),(.v (.slice none 0 0)),(.v (.int .i64 0))])),(.mk none none (.m (.st 4 (.t 7) (.t 21))))]) (.sq (.sq (.reg [(oV 22 0),(oC 23 18 [(.t 22),(cI 3)]),(oV 8 23)]) (.bk 2 (.nf 7 0 9 20700 (.lp 0 fg_f31_0 tb_f31_0)))) (.sq (.sq (.reg [(oV 36 1),(oP 37 (.bin false .gtr (.t 36) (cI 0))),(oV 38 37),(oQ 39 38 true (.mv (.t 0))),(oG 40 38 true (.call 52 [(.t 39),(cI 3)])),(oP 41 (.pick (.t 38) (.t 40) (cB false)))]) (.cd (.t 41) (.sq (.reg [(oP 42 (.fa 1 (.t 7))),(.mk none none (.m (.st 1 (.t 42) (cB true))))]) (.reg [(oV 43 0),(oV 44 1),(oP 45 (.bin false .sub (.t 44) (cI 1))),(oC 46 31 [(.t 43),(.t 45)]),(oP 47 (.fa 2 (.t 7))),(.mk none none (.m (.st 1 (.t 47) (.t 46))))])) .sk)) (.sq (.sq (.reg [(oV 48 0),(oC 49 18 [(.t 48),(cI 24)])]) (.bk 4 (.sq (.reg [(oP 51 (.bin false .eql (.t 49) (cI 0))),(oV 50 51)]) (.cd (.t 50) (.reg [(oP 52 (.fa 0 (.t 7))),(.mk none none (.m (.st 1 (.t 52) (.c (.v (.slice none 0 0))))))]) (.sq (.reg [(oP 54 (.bin false .eql (.t 49) (cI 1))),(oV 53 54)]) (.cd (.t 53) (.dr dr_f31_1 [(0,[7,18,34,69,20700]),(1,[7,18,34,69,20700]),(2,[50000]),(3,[]),(4,[59,5059,10059,15059,50000]),(5,[18,34,69,20700]),(6,[7,18,34,69,20700])] (.of [0,1,2,3,4,5,6])) (.sq (.reg [(oP 62 (.bin false .eql (.t 49) (cI 2))),(oV 61 62)]) (.cd (.t 61) (.dr dr_f31_2 [(0,[7,18,34,69,20700]),(1,[7,18,34,69,20700]),(2,[50000]),(3,[]),(4,[67,5067,10067,15067,50000]),(5,[]),(6,[7,18,34,69,5069,10069,15069,20700]),(7,[7,18,34,69,20700]),(8,[7,18,34,69,20700])] (.of [0,1,2,3,4,5,6,7,8])) (.sq (.reg [(oP 72 (.bin false .eql (.t 49) (cI 3))),(oV 71 72)]) (.cd (.t 71) (.reg [(oP 73 (.fa 1 (.t 7))),(.mk none none (.m (.st 1 (.t 73) (cB false))))]) .sk)))))))))) (.reg [(oV 74 5),(oM 75 (.ld true 4 (.t 7))),(oM 76 (.bs 38 4 1 [(.v (.slice none 0 0)),(.v (.bool false)),(.v (.slice none 0 0)),(.v (.int .i64 0))] [(0,4,(.t 75))])),(oM 77 (.app 38 4 64 (.t 74) (.t 76))),(oV 5 77)])))))) (.reg [(oV 13 6),(oP 14 (.bin false .sub (.t 13) (cI 1))),(oV 6 14)])))
def tc_f31:TC:=(.sq (.reg [(oP 4 (.mv (.c (.v (.slice none 0 0)))))]) (.sq (.reg [(oP 5 (.mv (.c (.v (.slice none 0 0)))))]) (.sq (.sq (.reg [(oV 9 0),(oC 10 18 [(.t 9),(cI 4)]),(oV 6 10)]) (.bk 0 (.nf 7 0 9 20700 (.nw 5 38 (.lp 1 fg_f31_1 tb_f31_1))))) (.sq (.reg [(oV 78 5),(oV 4 78)]) .rt))))
def rv_f31:List (RV×Option Ty):=[((.t 4),some (.sl tyBlkT))]
abbrev sh_f31_0:Sh:=⟨[(0,.ptr 50000 0),(1,.ty tI),(5,.ms 5),(6,.ty tI),(7,.ptr 7 0),(8,.ty tI)],[(5,.arr 38 tyBlkT),(7,.bag [.ms 18,.ty .bool,.nl,.ty tI]),(18,.arr 9 .str),(34,.no),(69,.no),(77,.no),(20700,.no),(50000,.box tyDice)]⟩
def st_f31_0 (x1:Int)(x6:Int)(x8:Int)(y5:(List BlkT))(y7_1:Bool)(y7_3:Int)(y18:(List ByteArray))(y50000:Dice):VS:=sh_f31_0.st ((),x1,(),x6,(),x8,()) (y5,((),y7_1,(),y7_3,()),y18,(),(),(),(),y50000,())
abbrev sh_f31_0_e2:Sh:=⟨[(0,.ptr 50000 0),(1,.ty tI),(5,.ms 5),(6,.ty tI),(7,.ptr 7 0)],[(5,.arr 38 tyBlkT),(7,.bag [.ms 18,.ty .bool,.nl,.ty tI]),(18,.arr 9 .str),(34,.no),(69,.no),(77,.no),(20700,.no),(50000,.box tyDice)]⟩
def st_f31_0_e2 (x1:Int)(x6:Int)(y5:(List BlkT))(y7_1:Bool)(y7_3:Int)(y18:(List ByteArray))(y50000:Dice):VS:=sh_f31_0_e2.st ((),x1,(),x6,(),()) (y5,((),y7_1,(),y7_3,()),y18,(),(),(),(),y50000,())
-- loop 0: (x1 : Int) (x6 : Int) (x8 : Int) (y5 : (List BlkT)) (y7_1 : Bool) (y7_3 : Int) (y18 : (List ByteArray)) (y50000 : Dice); out: ('exit', 2) (x1 : Int) (x6 : Int) (y5 : (List BlkT)) (y7_1 : Bool) (y7_3 : Int) (y18 : (List ByteArray)) (y50000 : Dice)
abbrev sh_f31_1:Sh:=⟨[(0,.ptr 50000 0),(1,.ty tI),(5,.ms 5),(6,.ty tI)],[(5,.arr 38 tyBlkT),(77,.no),(50000,.box tyDice)]⟩
def st_f31_1 (x1:Int)(x6:Int)(y5:(List BlkT))(y50000:Dice):VS:=sh_f31_1.st ((),x1,(),x6,()) (y5,(),y50000,())
abbrev sh_f31_1_e0:Sh:=⟨[(5,.ms 5)],[(5,.arr 38 tyBlkT),(77,.no),(50000,.box tyDice)]⟩
def st_f31_1_e0 (y5:(List BlkT))(y50000:Dice):VS:=sh_f31_1_e0.st ((),()) (y5,(),y50000,())
-- loop 1: (x1 : Int) (x6 : Int) (y5 : (List BlkT)) (y50000 : Dice); out: ('exit', 0) (y5 : (List BlkT)) (y50000 : Dice)
def L_f31_0:VS->Option (Bool×List (Bool×Exit×VS)):=mkL sh_f31_0 (fun x y=>(lb0 x.2.2.2.2.2.1 y.2.2.1 y.2.2.2.2.2.2.2.1)) (fun x y=>[(true,.exit 2,st_f31_0_e2 (x.2.1) (x.2.2.2.1) (y.1) (y.2.1.2.1) (y.2.1.2.2.2.1) ((lk0 x.2.2.2.2.2.1.toNat y.2.2.1 y.2.2.2.2.2.2.2.1).1) ((lk0 x.2.2.2.2.2.1.toNat y.2.2.1 y.2.2.2.2.2.2.2.1).2))])
def L_f31_1:VS->Option (Bool×List (Bool×Exit×VS)):=mkL sh_f31_1 (fun x y=>(lb1 x.2.1 x.2.2.2.1 y.1 y.2.2.1)) (fun x y=>[(true,.exit 0,st_f31_1_e0 ((lk1 (lsRec x.2.1) (igt x.2.1 0) x.2.2.2.1.toNat y.1 y.2.2.1).1) ((lk1 (lsRec x.2.1) (igt x.2.1 0) x.2.2.2.1.toNat y.1 y.2.2.1).2))])
def g_f31:G:=⟨TYs,[18],79,EL [(18,sp_f18),(31,sp_f31R),(32,sp_f32),(52,sp_f52)],keeps,(Ls [L_f31_0,L_f31_1]),IL [],RL []⟩
def b_f31_0 (x1:Int)(x6:Int)(x8:Int)(y5:(List BlkT))(y7_1:Bool)(y7_3:Int)(y18:(List ByteArray))(y50000:Dice):Option (Exit×VS):=
 br ((igt x8 0))
  (br ((wdGOk y50000 ([(ByteArray.mk #[118]),(ByteArray.mk #[]),(ByteArray.mk #[97,32,98]),(ByteArray.mk #[113,34,114]),(ByteArray.mk #[98,92,99]),(ByteArray.mk #[35,32,120]),(ByteArray.mk #[59]),(ByteArray.mk #[116,9,117])])))
   (br (cApp y18 ([(dwdG y50000 ([(ByteArray.mk #[118]),(ByteArray.mk #[]),(ByteArray.mk #[97,32,98]),(ByteArray.mk #[113,34,114]),(ByteArray.mk #[98,92,99]),(ByteArray.mk #[35,32,120]),(ByteArray.mk #[59]),(ByteArray.mk #[116,9,117])]))]) 16)
    (some (.normal,st_f31_0 x1 x6 (isub .i64 x8 1) y5 y7_1 y7_3 (y18++([(dwdG y50000 ([(ByteArray.mk #[118]),(ByteArray.mk #[]),(ByteArray.mk #[97,32,98]),(ByteArray.mk #[113,34,114]),(ByteArray.mk #[98,92,99]),(ByteArray.mk #[35,32,120]),(ByteArray.mk #[59]),(ByteArray.mk #[116,9,117])]))])) (dwdGN y50000 ([(ByteArray.mk #[118]),(ByteArray.mk #[]),(ByteArray.mk #[97,32,98]),(ByteArray.mk #[113,34,114]),(ByteArray.mk #[98,92,99]),(ByteArray.mk #[35,32,120]),(ByteArray.mk #[59]),(ByteArray.mk #[116,9,117])]))))
    (none))
   (none))
  (some (.exit 2,st_f31_0_e2 x1 x6 y5 y7_1 y7_3 y18 y50000))
noncomputable def lp_f31_0 (x1:Int)(x6:Int)(x8:Int)(y5:(List BlkT))(y7_1:Bool)(y7_3:Int)(y18:(List ByteArray))(y50000:Dice):Option (Exit×VS):=loopF (roundF g_f31 fg_f31_0 tb_f31_0) (st_f31_0 x1 x6 x8 y5 y7_1 y7_3 y18 y50000)
noncomputable def n_f31_0 (x1:Int)(x6:Int)(x8:Int)(y5:(List BlkT))(y7_1:Bool)(y7_3:Int)(y18:(List ByteArray))(y50000:Dice):Option (Exit×VS):=
 br ((igt x8 0))
  (br ((wdGOk y50000 ([(ByteArray.mk #[118]),(ByteArray.mk #[]),(ByteArray.mk #[97,32,98]),(ByteArray.mk #[113,34,114]),(ByteArray.mk #[98,92,99]),(ByteArray.mk #[35,32,120]),(ByteArray.mk #[59]),(ByteArray.mk #[116,9,117])])))
   (br (cApp y18 ([(dwdG y50000 ([(ByteArray.mk #[118]),(ByteArray.mk #[]),(ByteArray.mk #[97,32,98]),(ByteArray.mk #[113,34,114]),(ByteArray.mk #[98,92,99]),(ByteArray.mk #[35,32,120]),(ByteArray.mk #[59]),(ByteArray.mk #[116,9,117])]))]) 16)
    (lp_f31_0 x1 x6 (isub .i64 x8 1) y5 y7_1 y7_3 (y18++([(dwdG y50000 ([(ByteArray.mk #[118]),(ByteArray.mk #[]),(ByteArray.mk #[97,32,98]),(ByteArray.mk #[113,34,114]),(ByteArray.mk #[98,92,99]),(ByteArray.mk #[35,32,120]),(ByteArray.mk #[59]),(ByteArray.mk #[116,9,117])]))])) (dwdGN y50000 ([(ByteArray.mk #[118]),(ByteArray.mk #[]),(ByteArray.mk #[97,32,98]),(ByteArray.mk #[113,34,114]),(ByteArray.mk #[98,92,99]),(ByteArray.mk #[35,32,120]),(ByteArray.mk #[59]),(ByteArray.mk #[116,9,117])])))
    (none))
   (none))
  (some (.exit 2,st_f31_0_e2 x1 x6 y5 y7_1 y7_3 y18 y50000))
def la_f31_0 (x1:Int)(x6:Int)(x8:Int)(y5:(List BlkT))(y7_1:Bool)(y7_3:Int)(y18:(List ByteArray))(y50000:Dice):Option (Exit×VS):=some (.exit 2,st_f31_0_e2 (x1) (x6) (y5) (y7_1) (y7_3) ((lk0 x8.toNat y18 y50000).1) ((lk0 x8.toNat y18 y50000).2))
theorem be_f31_0 (x1:Int)(x6:Int)(x8:Int)(y5:(List BlkT))(y7_1:Bool)(y7_3:Int)(y18:(List ByteArray))(y50000:Dice):roundF g_f31 fg_f31_0 tb_f31_0 (st_f31_0 x1 x6 x8 y5 y7_1 y7_3 y18 y50000)=b_f31_0 x1 x6 x8 y5 y7_1 y7_3 y18 y50000:=by kernel_rfl
theorem ln_f31_0 (x1:Int)(x6:Int)(x8:Int)(y5:(List BlkT))(y7_1:Bool)(y7_3:Int)(y18:(List ByteArray))(y50000:Dice):lp_f31_0 x1 x6 x8 y5 y7_1 y7_3 y18 y50000=n_f31_0 x1 x6 x8 y5 y7_1 y7_3 y18 y50000:=(loopF_nxt _ _).trans (by
 rw [be_f31_0]
 simp only [b_f31_0,n_f31_0,nxt_br,nxt_n,nxt_r,nxt_e,nxt_0]
 rfl)
def b_f31_1 (x1:Int)(x6:Int)(y5:(List BlkT))(y50000:Dice):Option (Exit×VS):=
 br ((igt x6 0))
  (br ((wdGOk y50000 ([(ByteArray.mk #[115,101,114,118,101,114]),(ByteArray.mk #[97]),(ByteArray.mk #[120,46,49])])))
   (br ((nextOk (dwdGN y50000 ([(ByteArray.mk #[115,101,114,118,101,114]),(ByteArray.mk #[97]),(ByteArray.mk #[120,46,49])])) 9))
    (br ((nextOk (dnext (dwdGN y50000 ([(ByteArray.mk #[115,101,114,118,101,114]),(ByteArray.mk #[97]),(ByteArray.mk #[120,46,49])])) 9) 3))
     (br ((lb0 (dval (dnext (dwdGN y50000 ([(ByteArray.mk #[115,101,114,118,101,114]),(ByteArray.mk #[97]),(ByteArray.mk #[120,46,49])])) 9) 3) ([(dwdG y50000 ([(ByteArray.mk #[115,101,114,118,101,114]),(ByteArray.mk #[97]),(ByteArray.mk #[120,46,49])]))]) (dnext (dnext (dwdGN y50000 ([(ByteArray.mk #[115,101,114,118,101,114]),(ByteArray.mk #[97]),(ByteArray.mk #[120,46,49])])) 9) 3)))
      (br ((igt (x1) 0))
       (br ((oneOk ((lk0 (dval (dnext (dwdGN y50000 ([(ByteArray.mk #[115,101,114,118,101,114]),(ByteArray.mk #[97]),(ByteArray.mk #[120,46,49])])) 9) 3).toNat ([(dwdG y50000 ([(ByteArray.mk #[115,101,114,118,101,114]),(ByteArray.mk #[97]),(ByteArray.mk #[120,46,49])]))]) (dnext (dnext (dwdGN y50000 ([(ByteArray.mk #[115,101,114,118,101,114]),(ByteArray.mk #[97]),(ByteArray.mk #[120,46,49])])) 9) 3)).2) 3))
        (br ((done ((lk0 (dval (dnext (dwdGN y50000 ([(ByteArray.mk #[115,101,114,118,101,114]),(ByteArray.mk #[97]),(ByteArray.mk #[120,46,49])])) 9) 3).toNat ([(dwdG y50000 ([(ByteArray.mk #[115,101,114,118,101,114]),(ByteArray.mk #[97]),(ByteArray.mk #[120,46,49])]))]) (dnext (dnext (dwdGN y50000 ([(ByteArray.mk #[115,101,114,118,101,114]),(ByteArray.mk #[97]),(ByteArray.mk #[120,46,49])])) 9) 3)).2) 3))
         (br ((ls7S fuel (dnext ((lk0 (dval (dnext (dwdGN y50000 ([(ByteArray.mk #[115,101,114,118,101,114]),(ByteArray.mk #[97]),(ByteArray.mk #[120,46,49])])) 9) 3).toNat ([(dwdG y50000 ([(ByteArray.mk #[115,101,114,118,101,114]),(ByteArray.mk #[97]),(ByteArray.mk #[120,46,49])]))]) (dnext (dnext (dwdGN y50000 ([(ByteArray.mk #[115,101,114,118,101,114]),(ByteArray.mk #[97]),(ByteArray.mk #[120,46,49])])) 9) 3)).2) 3) (isub .i64 (x1) 1)))
          (br ((nextOk (ls7N (dnext ((lk0 (dval (dnext (dwdGN y50000 ([(ByteArray.mk #[115,101,114,118,101,114]),(ByteArray.mk #[97]),(ByteArray.mk #[120,46,49])])) 9) 3).toNat ([(dwdG y50000 ([(ByteArray.mk #[115,101,114,118,101,114]),(ByteArray.mk #[97]),(ByteArray.mk #[120,46,49])]))]) (dnext (dnext (dwdGN y50000 ([(ByteArray.mk #[115,101,114,118,101,114]),(ByteArray.mk #[97]),(ByteArray.mk #[120,46,49])])) 9) 3)).2) 3) (isub .i64 (x1) 1)) 24))
           (br ((ieq (dval (ls7N (dnext ((lk0 (dval (dnext (dwdGN y50000 ([(ByteArray.mk #[115,101,114,118,101,114]),(ByteArray.mk #[97]),(ByteArray.mk #[120,46,49])])) 9) 3).toNat ([(dwdG y50000 ([(ByteArray.mk #[115,101,114,118,101,114]),(ByteArray.mk #[97]),(ByteArray.mk #[120,46,49])]))]) (dnext (dnext (dwdGN y50000 ([(ByteArray.mk #[115,101,114,118,101,114]),(ByteArray.mk #[97]),(ByteArray.mk #[120,46,49])])) 9) 3)).2) 3) (isub .i64 (x1) 1)) 24) 0))
            (br (cApp (y5) ([(([]:List ByteArray),(true,((List.map Blk.of (ls7F (dnext ((lk0 (dval (dnext (dwdGN y50000 ([(ByteArray.mk #[115,101,114,118,101,114]),(ByteArray.mk #[97]),(ByteArray.mk #[120,46,49])])) 9) 3).toNat ([(dwdG y50000 ([(ByteArray.mk #[115,101,114,118,101,114]),(ByteArray.mk #[97]),(ByteArray.mk #[120,46,49])]))]) (dnext (dnext (dwdGN y50000 ([(ByteArray.mk #[115,101,114,118,101,114]),(ByteArray.mk #[97]),(ByteArray.mk #[120,46,49])])) 9) 3)).2) 3) (isub .i64 (x1) 1))),(((dval (dwdGN y50000 ([(ByteArray.mk #[115,101,114,118,101,114]),(ByteArray.mk #[97]),(ByteArray.mk #[120,46,49])])) 9)),()))))]) 64)
             (some (.normal,st_f31_1 (x1) (isub .i64 (x6) 1) ((y5)++([(([]:List ByteArray),(true,((List.map Blk.of (ls7F (dnext ((lk0 (dval (dnext (dwdGN y50000 ([(ByteArray.mk #[115,101,114,118,101,114]),(ByteArray.mk #[97]),(ByteArray.mk #[120,46,49])])) 9) 3).toNat ([(dwdG y50000 ([(ByteArray.mk #[115,101,114,118,101,114]),(ByteArray.mk #[97]),(ByteArray.mk #[120,46,49])]))]) (dnext (dnext (dwdGN y50000 ([(ByteArray.mk #[115,101,114,118,101,114]),(ByteArray.mk #[97]),(ByteArray.mk #[120,46,49])])) 9) 3)).2) 3) (isub .i64 (x1) 1))),(((dval (dwdGN y50000 ([(ByteArray.mk #[115,101,114,118,101,114]),(ByteArray.mk #[97]),(ByteArray.mk #[120,46,49])])) 9)),()))))])) (dnext (ls7N (dnext ((lk0 (dval (dnext (dwdGN y50000 ([(ByteArray.mk #[115,101,114,118,101,114]),(ByteArray.mk #[97]),(ByteArray.mk #[120,46,49])])) 9) 3).toNat ([(dwdG y50000 ([(ByteArray.mk #[115,101,114,118,101,114]),(ByteArray.mk #[97]),(ByteArray.mk #[120,46,49])]))]) (dnext (dnext (dwdGN y50000 ([(ByteArray.mk #[115,101,114,118,101,114]),(ByteArray.mk #[97]),(ByteArray.mk #[120,46,49])])) 9) 3)).2) 3) (isub .i64 (x1) 1)) 24)))
             (none))
            (br ((ieq (dval (ls7N (dnext ((lk0 (dval (dnext (dwdGN y50000 ([(ByteArray.mk #[115,101,114,118,101,114]),(ByteArray.mk #[97]),(ByteArray.mk #[120,46,49])])) 9) 3).toNat ([(dwdG y50000 ([(ByteArray.mk #[115,101,114,118,101,114]),(ByteArray.mk #[97]),(ByteArray.mk #[120,46,49])]))]) (dnext (dnext (dwdGN y50000 ([(ByteArray.mk #[115,101,114,118,101,114]),(ByteArray.mk #[97]),(ByteArray.mk #[120,46,49])])) 9) 3)).2) 3) (isub .i64 (x1) 1)) 24) 1))
             (br ((wdGOk (dnext (ls7N (dnext ((lk0 (dval (dnext (dwdGN y50000 ([(ByteArray.mk #[115,101,114,118,101,114]),(ByteArray.mk #[97]),(ByteArray.mk #[120,46,49])])) 9) 3).toNat ([(dwdG y50000 ([(ByteArray.mk #[115,101,114,118,101,114]),(ByteArray.mk #[97]),(ByteArray.mk #[120,46,49])]))]) (dnext (dnext (dwdGN y50000 ([(ByteArray.mk #[115,101,114,118,101,114]),(ByteArray.mk #[97]),(ByteArray.mk #[120,46,49])])) 9) 3)).2) 3) (isub .i64 (x1) 1)) 24) ([(ByteArray.mk #[]),(ByteArray.mk #[97,32,98]),(ByteArray.mk #[34])])))
              (br (cIx ((lk0 (dval (dnext (dwdGN y50000 ([(ByteArray.mk #[115,101,114,118,101,114]),(ByteArray.mk #[97]),(ByteArray.mk #[120,46,49])])) 9) 3).toNat ([(dwdG y50000 ([(ByteArray.mk #[115,101,114,118,101,114]),(ByteArray.mk #[97]),(ByteArray.mk #[120,46,49])]))]) (dnext (dnext (dwdGN y50000 ([(ByteArray.mk #[115,101,114,118,101,114]),(ByteArray.mk #[97]),(ByteArray.mk #[120,46,49])])) 9) 3)).1) 0)
               (br (cLd ((lk0 (dval (dnext (dwdGN y50000 ([(ByteArray.mk #[115,101,114,118,101,114]),(ByteArray.mk #[97]),(ByteArray.mk #[120,46,49])])) 9) 3).toNat ([(dwdG y50000 ([(ByteArray.mk #[115,101,114,118,101,114]),(ByteArray.mk #[97]),(ByteArray.mk #[120,46,49])]))]) (dnext (dnext (dwdGN y50000 ([(ByteArray.mk #[115,101,114,118,101,114]),(ByteArray.mk #[97]),(ByteArray.mk #[120,46,49])])) 9) 3)).1) (Int.toNat 0))
                (br (cApp (y5) ([((List.set ((lk0 (dval (dnext (dwdGN y50000 ([(ByteArray.mk #[115,101,114,118,101,114]),(ByteArray.mk #[97]),(ByteArray.mk #[120,46,49])])) 9) 3).toNat ([(dwdG y50000 ([(ByteArray.mk #[115,101,114,118,101,114]),(ByteArray.mk #[97]),(ByteArray.mk #[120,46,49])]))]) (dnext (dnext (dwdGN y50000 ([(ByteArray.mk #[115,101,114,118,101,114]),(ByteArray.mk #[97]),(ByteArray.mk #[120,46,49])])) 9) 3)).1) (Int.toNat 0) (dwdG (dnext (ls7N (dnext ((lk0 (dval (dnext (dwdGN y50000 ([(ByteArray.mk #[115,101,114,118,101,114]),(ByteArray.mk #[97]),(ByteArray.mk #[120,46,49])])) 9) 3).toNat ([(dwdG y50000 ([(ByteArray.mk #[115,101,114,118,101,114]),(ByteArray.mk #[97]),(ByteArray.mk #[120,46,49])]))]) (dnext (dnext (dwdGN y50000 ([(ByteArray.mk #[115,101,114,118,101,114]),(ByteArray.mk #[97]),(ByteArray.mk #[120,46,49])])) 9) 3)).2) 3) (isub .i64 (x1) 1)) 24) ([(ByteArray.mk #[]),(ByteArray.mk #[97,32,98]),(ByteArray.mk #[34])]))),(true,((List.map Blk.of (ls7F (dnext ((lk0 (dval (dnext (dwdGN y50000 ([(ByteArray.mk #[115,101,114,118,101,114]),(ByteArray.mk #[97]),(ByteArray.mk #[120,46,49])])) 9) 3).toNat ([(dwdG y50000 ([(ByteArray.mk #[115,101,114,118,101,114]),(ByteArray.mk #[97]),(ByteArray.mk #[120,46,49])]))]) (dnext (dnext (dwdGN y50000 ([(ByteArray.mk #[115,101,114,118,101,114]),(ByteArray.mk #[97]),(ByteArray.mk #[120,46,49])])) 9) 3)).2) 3) (isub .i64 (x1) 1))),(((dval (dwdGN y50000 ([(ByteArray.mk #[115,101,114,118,101,114]),(ByteArray.mk #[97]),(ByteArray.mk #[120,46,49])])) 9)),()))))]) 64)
                 (some (.normal,st_f31_1 (x1) (isub .i64 (x6) 1) ((y5)++([((List.set ((lk0 (dval (dnext (dwdGN y50000 ([(ByteArray.mk #[115,101,114,118,101,114]),(ByteArray.mk #[97]),(ByteArray.mk #[120,46,49])])) 9) 3).toNat ([(dwdG y50000 ([(ByteArray.mk #[115,101,114,118,101,114]),(ByteArray.mk #[97]),(ByteArray.mk #[120,46,49])]))]) (dnext (dnext (dwdGN y50000 ([(ByteArray.mk #[115,101,114,118,101,114]),(ByteArray.mk #[97]),(ByteArray.mk #[120,46,49])])) 9) 3)).1) (Int.toNat 0) (dwdG (dnext (ls7N (dnext ((lk0 (dval (dnext (dwdGN y50000 ([(ByteArray.mk #[115,101,114,118,101,114]),(ByteArray.mk #[97]),(ByteArray.mk #[120,46,49])])) 9) 3).toNat ([(dwdG y50000 ([(ByteArray.mk #[115,101,114,118,101,114]),(ByteArray.mk #[97]),(ByteArray.mk #[120,46,49])]))]) (dnext (dnext (dwdGN y50000 ([(ByteArray.mk #[115,101,114,118,101,114]),(ByteArray.mk #[97]),(ByteArray.mk #[120,46,49])])) 9) 3)).2) 3) (isub .i64 (x1) 1)) 24) ([(ByteArray.mk #[]),(ByteArray.mk #[97,32,98]),(ByteArray.mk #[34])]))),(true,((List.map Blk.of (ls7F (dnext ((lk0 (dval (dnext (dwdGN y50000 ([(ByteArray.mk #[115,101,114,118,101,114]),(ByteArray.mk #[97]),(ByteArray.mk #[120,46,49])])) 9) 3).toNat ([(dwdG y50000 ([(ByteArray.mk #[115,101,114,118,101,114]),(ByteArray.mk #[97]),(ByteArray.mk #[120,46,49])]))]) (dnext (dnext (dwdGN y50000 ([(ByteArray.mk #[115,101,114,118,101,114]),(ByteArray.mk #[97]),(ByteArray.mk #[120,46,49])])) 9) 3)).2) 3) (isub .i64 (x1) 1))),(((dval (dwdGN y50000 ([(ByteArray.mk #[115,101,114,118,101,114]),(ByteArray.mk #[97]),(ByteArray.mk #[120,46,49])])) 9)),()))))])) (dwdGN (dnext (ls7N (dnext ((lk0 (dval (dnext (dwdGN y50000 ([(ByteArray.mk #[115,101,114,118,101,114]),(ByteArray.mk #[97]),(ByteArray.mk #[120,46,49])])) 9) 3).toNat ([(dwdG y50000 ([(ByteArray.mk #[115,101,114,118,101,114]),(ByteArray.mk #[97]),(ByteArray.mk #[120,46,49])]))]) (dnext (dnext (dwdGN y50000 ([(ByteArray.mk #[115,101,114,118,101,114]),(ByteArray.mk #[97]),(ByteArray.mk #[120,46,49])])) 9) 3)).2) 3) (isub .i64 (x1) 1)) 24) ([(ByteArray.mk #[]),(ByteArray.mk #[97,32,98]),(ByteArray.mk #[34])]))))
                 (none))
                (none))
               (none))
              (none))
             (br ((ieq (dval (ls7N (dnext ((lk0 (dval (dnext (dwdGN y50000 ([(ByteArray.mk #[115,101,114,118,101,114]),(ByteArray.mk #[97]),(ByteArray.mk #[120,46,49])])) 9) 3).toNat ([(dwdG y50000 ([(ByteArray.mk #[115,101,114,118,101,114]),(ByteArray.mk #[97]),(ByteArray.mk #[120,46,49])]))]) (dnext (dnext (dwdGN y50000 ([(ByteArray.mk #[115,101,114,118,101,114]),(ByteArray.mk #[97]),(ByteArray.mk #[120,46,49])])) 9) 3)).2) 3) (isub .i64 (x1) 1)) 24) 2))
              (br ((wdGOk (dnext (ls7N (dnext ((lk0 (dval (dnext (dwdGN y50000 ([(ByteArray.mk #[115,101,114,118,101,114]),(ByteArray.mk #[97]),(ByteArray.mk #[120,46,49])])) 9) 3).toNat ([(dwdG y50000 ([(ByteArray.mk #[115,101,114,118,101,114]),(ByteArray.mk #[97]),(ByteArray.mk #[120,46,49])]))]) (dnext (dnext (dwdGN y50000 ([(ByteArray.mk #[115,101,114,118,101,114]),(ByteArray.mk #[97]),(ByteArray.mk #[120,46,49])])) 9) 3)).2) 3) (isub .i64 (x1) 1)) 24) ([(ByteArray.mk #[97,10,98]),(ByteArray.mk #[127])])))
               (br (cApp ((lk0 (dval (dnext (dwdGN y50000 ([(ByteArray.mk #[115,101,114,118,101,114]),(ByteArray.mk #[97]),(ByteArray.mk #[120,46,49])])) 9) 3).toNat ([(dwdG y50000 ([(ByteArray.mk #[115,101,114,118,101,114]),(ByteArray.mk #[97]),(ByteArray.mk #[120,46,49])]))]) (dnext (dnext (dwdGN y50000 ([(ByteArray.mk #[115,101,114,118,101,114]),(ByteArray.mk #[97]),(ByteArray.mk #[120,46,49])])) 9) 3)).1) ([(dwdG (dnext (ls7N (dnext ((lk0 (dval (dnext (dwdGN y50000 ([(ByteArray.mk #[115,101,114,118,101,114]),(ByteArray.mk #[97]),(ByteArray.mk #[120,46,49])])) 9) 3).toNat ([(dwdG y50000 ([(ByteArray.mk #[115,101,114,118,101,114]),(ByteArray.mk #[97]),(ByteArray.mk #[120,46,49])]))]) (dnext (dnext (dwdGN y50000 ([(ByteArray.mk #[115,101,114,118,101,114]),(ByteArray.mk #[97]),(ByteArray.mk #[120,46,49])])) 9) 3)).2) 3) (isub .i64 (x1) 1)) 24) ([(ByteArray.mk #[97,10,98]),(ByteArray.mk #[127])]))]) 16)
                (br (cApp (y5) ([((((lk0 (dval (dnext (dwdGN y50000 ([(ByteArray.mk #[115,101,114,118,101,114]),(ByteArray.mk #[97]),(ByteArray.mk #[120,46,49])])) 9) 3).toNat ([(dwdG y50000 ([(ByteArray.mk #[115,101,114,118,101,114]),(ByteArray.mk #[97]),(ByteArray.mk #[120,46,49])]))]) (dnext (dnext (dwdGN y50000 ([(ByteArray.mk #[115,101,114,118,101,114]),(ByteArray.mk #[97]),(ByteArray.mk #[120,46,49])])) 9) 3)).1)++([(dwdG (dnext (ls7N (dnext ((lk0 (dval (dnext (dwdGN y50000 ([(ByteArray.mk #[115,101,114,118,101,114]),(ByteArray.mk #[97]),(ByteArray.mk #[120,46,49])])) 9) 3).toNat ([(dwdG y50000 ([(ByteArray.mk #[115,101,114,118,101,114]),(ByteArray.mk #[97]),(ByteArray.mk #[120,46,49])]))]) (dnext (dnext (dwdGN y50000 ([(ByteArray.mk #[115,101,114,118,101,114]),(ByteArray.mk #[97]),(ByteArray.mk #[120,46,49])])) 9) 3)).2) 3) (isub .i64 (x1) 1)) 24) ([(ByteArray.mk #[97,10,98]),(ByteArray.mk #[127])]))])),(true,((List.map Blk.of (ls7F (dnext ((lk0 (dval (dnext (dwdGN y50000 ([(ByteArray.mk #[115,101,114,118,101,114]),(ByteArray.mk #[97]),(ByteArray.mk #[120,46,49])])) 9) 3).toNat ([(dwdG y50000 ([(ByteArray.mk #[115,101,114,118,101,114]),(ByteArray.mk #[97]),(ByteArray.mk #[120,46,49])]))]) (dnext (dnext (dwdGN y50000 ([(ByteArray.mk #[115,101,114,118,101,114]),(ByteArray.mk #[97]),(ByteArray.mk #[120,46,49])])) 9) 3)).2) 3) (isub .i64 (x1) 1))),(((dval (dwdGN y50000 ([(ByteArray.mk #[115,101,114,118,101,114]),(ByteArray.mk #[97]),(ByteArray.mk #[120,46,49])])) 9)),()))))]) 64)
                 (some (.normal,st_f31_1 (x1) (isub .i64 (x6) 1) ((y5)++([((((lk0 (dval (dnext (dwdGN y50000 ([(ByteArray.mk #[115,101,114,118,101,114]),(ByteArray.mk #[97]),(ByteArray.mk #[120,46,49])])) 9) 3).toNat ([(dwdG y50000 ([(ByteArray.mk #[115,101,114,118,101,114]),(ByteArray.mk #[97]),(ByteArray.mk #[120,46,49])]))]) (dnext (dnext (dwdGN y50000 ([(ByteArray.mk #[115,101,114,118,101,114]),(ByteArray.mk #[97]),(ByteArray.mk #[120,46,49])])) 9) 3)).1)++([(dwdG (dnext (ls7N (dnext ((lk0 (dval (dnext (dwdGN y50000 ([(ByteArray.mk #[115,101,114,118,101,114]),(ByteArray.mk #[97]),(ByteArray.mk #[120,46,49])])) 9) 3).toNat ([(dwdG y50000 ([(ByteArray.mk #[115,101,114,118,101,114]),(ByteArray.mk #[97]),(ByteArray.mk #[120,46,49])]))]) (dnext (dnext (dwdGN y50000 ([(ByteArray.mk #[115,101,114,118,101,114]),(ByteArray.mk #[97]),(ByteArray.mk #[120,46,49])])) 9) 3)).2) 3) (isub .i64 (x1) 1)) 24) ([(ByteArray.mk #[97,10,98]),(ByteArray.mk #[127])]))])),(true,((List.map Blk.of (ls7F (dnext ((lk0 (dval (dnext (dwdGN y50000 ([(ByteArray.mk #[115,101,114,118,101,114]),(ByteArray.mk #[97]),(ByteArray.mk #[120,46,49])])) 9) 3).toNat ([(dwdG y50000 ([(ByteArray.mk #[115,101,114,118,101,114]),(ByteArray.mk #[97]),(ByteArray.mk #[120,46,49])]))]) (dnext (dnext (dwdGN y50000 ([(ByteArray.mk #[115,101,114,118,101,114]),(ByteArray.mk #[97]),(ByteArray.mk #[120,46,49])])) 9) 3)).2) 3) (isub .i64 (x1) 1))),(((dval (dwdGN y50000 ([(ByteArray.mk #[115,101,114,118,101,114]),(ByteArray.mk #[97]),(ByteArray.mk #[120,46,49])])) 9)),()))))])) (dwdGN (dnext (ls7N (dnext ((lk0 (dval (dnext (dwdGN y50000 ([(ByteArray.mk #[115,101,114,118,101,114]),(ByteArray.mk #[97]),(ByteArray.mk #[120,46,49])])) 9) 3).toNat ([(dwdG y50000 ([(ByteArray.mk #[115,101,114,118,101,114]),(ByteArray.mk #[97]),(ByteArray.mk #[120,46,49])]))]) (dnext (dnext (dwdGN y50000 ([(ByteArray.mk #[115,101,114,118,101,114]),(ByteArray.mk #[97]),(ByteArray.mk #[120,46,49])])) 9) 3)).2) 3) (isub .i64 (x1) 1)) 24) ([(ByteArray.mk #[97,10,98]),(ByteArray.mk #[127])]))))
                 (none))
                (none))
               (none))
              (br ((ieq (dval (ls7N (dnext ((lk0 (dval (dnext (dwdGN y50000 ([(ByteArray.mk #[115,101,114,118,101,114]),(ByteArray.mk #[97]),(ByteArray.mk #[120,46,49])])) 9) 3).toNat ([(dwdG y50000 ([(ByteArray.mk #[115,101,114,118,101,114]),(ByteArray.mk #[97]),(ByteArray.mk #[120,46,49])]))]) (dnext (dnext (dwdGN y50000 ([(ByteArray.mk #[115,101,114,118,101,114]),(ByteArray.mk #[97]),(ByteArray.mk #[120,46,49])])) 9) 3)).2) 3) (isub .i64 (x1) 1)) 24) 3))
               (br (cApp (y5) ([(((lk0 (dval (dnext (dwdGN y50000 ([(ByteArray.mk #[115,101,114,118,101,114]),(ByteArray.mk #[97]),(ByteArray.mk #[120,46,49])])) 9) 3).toNat ([(dwdG y50000 ([(ByteArray.mk #[115,101,114,118,101,114]),(ByteArray.mk #[97]),(ByteArray.mk #[120,46,49])]))]) (dnext (dnext (dwdGN y50000 ([(ByteArray.mk #[115,101,114,118,101,114]),(ByteArray.mk #[97]),(ByteArray.mk #[120,46,49])])) 9) 3)).1),(false,((List.map Blk.of (ls7F (dnext ((lk0 (dval (dnext (dwdGN y50000 ([(ByteArray.mk #[115,101,114,118,101,114]),(ByteArray.mk #[97]),(ByteArray.mk #[120,46,49])])) 9) 3).toNat ([(dwdG y50000 ([(ByteArray.mk #[115,101,114,118,101,114]),(ByteArray.mk #[97]),(ByteArray.mk #[120,46,49])]))]) (dnext (dnext (dwdGN y50000 ([(ByteArray.mk #[115,101,114,118,101,114]),(ByteArray.mk #[97]),(ByteArray.mk #[120,46,49])])) 9) 3)).2) 3) (isub .i64 (x1) 1))),(((dval (dwdGN y50000 ([(ByteArray.mk #[115,101,114,118,101,114]),(ByteArray.mk #[97]),(ByteArray.mk #[120,46,49])])) 9)),()))))]) 64)
                (some (.normal,st_f31_1 (x1) (isub .i64 (x6) 1) ((y5)++([(((lk0 (dval (dnext (dwdGN y50000 ([(ByteArray.mk #[115,101,114,118,101,114]),(ByteArray.mk #[97]),(ByteArray.mk #[120,46,49])])) 9) 3).toNat ([(dwdG y50000 ([(ByteArray.mk #[115,101,114,118,101,114]),(ByteArray.mk #[97]),(ByteArray.mk #[120,46,49])]))]) (dnext (dnext (dwdGN y50000 ([(ByteArray.mk #[115,101,114,118,101,114]),(ByteArray.mk #[97]),(ByteArray.mk #[120,46,49])])) 9) 3)).1),(false,((List.map Blk.of (ls7F (dnext ((lk0 (dval (dnext (dwdGN y50000 ([(ByteArray.mk #[115,101,114,118,101,114]),(ByteArray.mk #[97]),(ByteArray.mk #[120,46,49])])) 9) 3).toNat ([(dwdG y50000 ([(ByteArray.mk #[115,101,114,118,101,114]),(ByteArray.mk #[97]),(ByteArray.mk #[120,46,49])]))]) (dnext (dnext (dwdGN y50000 ([(ByteArray.mk #[115,101,114,118,101,114]),(ByteArray.mk #[97]),(ByteArray.mk #[120,46,49])])) 9) 3)).2) 3) (isub .i64 (x1) 1))),(((dval (dwdGN y50000 ([(ByteArray.mk #[115,101,114,118,101,114]),(ByteArray.mk #[97]),(ByteArray.mk #[120,46,49])])) 9)),()))))])) (dnext (ls7N (dnext ((lk0 (dval (dnext (dwdGN y50000 ([(ByteArray.mk #[115,101,114,118,101,114]),(ByteArray.mk #[97]),(ByteArray.mk #[120,46,49])])) 9) 3).toNat ([(dwdG y50000 ([(ByteArray.mk #[115,101,114,118,101,114]),(ByteArray.mk #[97]),(ByteArray.mk #[120,46,49])]))]) (dnext (dnext (dwdGN y50000 ([(ByteArray.mk #[115,101,114,118,101,114]),(ByteArray.mk #[97]),(ByteArray.mk #[120,46,49])])) 9) 3)).2) 3) (isub .i64 (x1) 1)) 24)))
                (none))
               (br (cApp (y5) ([(((lk0 (dval (dnext (dwdGN y50000 ([(ByteArray.mk #[115,101,114,118,101,114]),(ByteArray.mk #[97]),(ByteArray.mk #[120,46,49])])) 9) 3).toNat ([(dwdG y50000 ([(ByteArray.mk #[115,101,114,118,101,114]),(ByteArray.mk #[97]),(ByteArray.mk #[120,46,49])]))]) (dnext (dnext (dwdGN y50000 ([(ByteArray.mk #[115,101,114,118,101,114]),(ByteArray.mk #[97]),(ByteArray.mk #[120,46,49])])) 9) 3)).1),(true,((List.map Blk.of (ls7F (dnext ((lk0 (dval (dnext (dwdGN y50000 ([(ByteArray.mk #[115,101,114,118,101,114]),(ByteArray.mk #[97]),(ByteArray.mk #[120,46,49])])) 9) 3).toNat ([(dwdG y50000 ([(ByteArray.mk #[115,101,114,118,101,114]),(ByteArray.mk #[97]),(ByteArray.mk #[120,46,49])]))]) (dnext (dnext (dwdGN y50000 ([(ByteArray.mk #[115,101,114,118,101,114]),(ByteArray.mk #[97]),(ByteArray.mk #[120,46,49])])) 9) 3)).2) 3) (isub .i64 (x1) 1))),(((dval (dwdGN y50000 ([(ByteArray.mk #[115,101,114,118,101,114]),(ByteArray.mk #[97]),(ByteArray.mk #[120,46,49])])) 9)),()))))]) 64)
                (some (.normal,st_f31_1 (x1) (isub .i64 (x6) 1) ((y5)++([(((lk0 (dval (dnext (dwdGN y50000 ([(ByteArray.mk #[115,101,114,118,101,114]),(ByteArray.mk #[97]),(ByteArray.mk #[120,46,49])])) 9) 3).toNat ([(dwdG y50000 ([(ByteArray.mk #[115,101,114,118,101,114]),(ByteArray.mk #[97]),(ByteArray.mk #[120,46,49])]))]) (dnext (dnext (dwdGN y50000 ([(ByteArray.mk #[115,101,114,118,101,114]),(ByteArray.mk #[97]),(ByteArray.mk #[120,46,49])])) 9) 3)).1),(true,((List.map Blk.of (ls7F (dnext ((lk0 (dval (dnext (dwdGN y50000 ([(ByteArray.mk #[115,101,114,118,101,114]),(ByteArray.mk #[97]),(ByteArray.mk #[120,46,49])])) 9) 3).toNat ([(dwdG y50000 ([(ByteArray.mk #[115,101,114,118,101,114]),(ByteArray.mk #[97]),(ByteArray.mk #[120,46,49])]))]) (dnext (dnext (dwdGN y50000 ([(ByteArray.mk #[115,101,114,118,101,114]),(ByteArray.mk #[97]),(ByteArray.mk #[120,46,49])])) 9) 3)).2) 3) (isub .i64 (x1) 1))),(((dval (dwdGN y50000 ([(ByteArray.mk #[115,101,114,118,101,114]),(ByteArray.mk #[97]),(ByteArray.mk #[120,46,49])])) 9)),()))))])) (dnext (ls7N (dnext ((lk0 (dval (dnext (dwdGN y50000 ([(ByteArray.mk #[115,101,114,118,101,114]),(ByteArray.mk #[97]),(ByteArray.mk #[120,46,49])])) 9) 3).toNat ([(dwdG y50000 ([(ByteArray.mk #[115,101,114,118,101,114]),(ByteArray.mk #[97]),(ByteArray.mk #[120,46,49])]))]) (dnext (dnext (dwdGN y50000 ([(ByteArray.mk #[115,101,114,118,101,114]),(ByteArray.mk #[97]),(ByteArray.mk #[120,46,49])])) 9) 3)).2) 3) (isub .i64 (x1) 1)) 24)))
                (none))))))
           (none))
          (none))
         (br ((nextOk (dnext ((lk0 (dval (dnext (dwdGN y50000 ([(ByteArray.mk #[115,101,114,118,101,114]),(ByteArray.mk #[97]),(ByteArray.mk #[120,46,49])])) 9) 3).toNat ([(dwdG y50000 ([(ByteArray.mk #[115,101,114,118,101,114]),(ByteArray.mk #[97]),(ByteArray.mk #[120,46,49])]))]) (dnext (dnext (dwdGN y50000 ([(ByteArray.mk #[115,101,114,118,101,114]),(ByteArray.mk #[97]),(ByteArray.mk #[120,46,49])])) 9) 3)).2) 3) 24))
          (br ((ieq (dval (dnext ((lk0 (dval (dnext (dwdGN y50000 ([(ByteArray.mk #[115,101,114,118,101,114]),(ByteArray.mk #[97]),(ByteArray.mk #[120,46,49])])) 9) 3).toNat ([(dwdG y50000 ([(ByteArray.mk #[115,101,114,118,101,114]),(ByteArray.mk #[97]),(ByteArray.mk #[120,46,49])]))]) (dnext (dnext (dwdGN y50000 ([(ByteArray.mk #[115,101,114,118,101,114]),(ByteArray.mk #[97]),(ByteArray.mk #[120,46,49])])) 9) 3)).2) 3) 24) 0))
           (br (cApp (y5) ([(([]:List ByteArray),((false),(([]:List Blk),(((dval (dwdGN y50000 ([(ByteArray.mk #[115,101,114,118,101,114]),(ByteArray.mk #[97]),(ByteArray.mk #[120,46,49])])) 9)),()))))]) 64)
            (some (.normal,st_f31_1 (x1) (isub .i64 (x6) 1) ((y5)++([(([]:List ByteArray),((false),(([]:List Blk),(((dval (dwdGN y50000 ([(ByteArray.mk #[115,101,114,118,101,114]),(ByteArray.mk #[97]),(ByteArray.mk #[120,46,49])])) 9)),()))))])) (dnext (dnext ((lk0 (dval (dnext (dwdGN y50000 ([(ByteArray.mk #[115,101,114,118,101,114]),(ByteArray.mk #[97]),(ByteArray.mk #[120,46,49])])) 9) 3).toNat ([(dwdG y50000 ([(ByteArray.mk #[115,101,114,118,101,114]),(ByteArray.mk #[97]),(ByteArray.mk #[120,46,49])]))]) (dnext (dnext (dwdGN y50000 ([(ByteArray.mk #[115,101,114,118,101,114]),(ByteArray.mk #[97]),(ByteArray.mk #[120,46,49])])) 9) 3)).2) 3) 24)))
            (none))
           (br ((ieq (dval (dnext ((lk0 (dval (dnext (dwdGN y50000 ([(ByteArray.mk #[115,101,114,118,101,114]),(ByteArray.mk #[97]),(ByteArray.mk #[120,46,49])])) 9) 3).toNat ([(dwdG y50000 ([(ByteArray.mk #[115,101,114,118,101,114]),(ByteArray.mk #[97]),(ByteArray.mk #[120,46,49])]))]) (dnext (dnext (dwdGN y50000 ([(ByteArray.mk #[115,101,114,118,101,114]),(ByteArray.mk #[97]),(ByteArray.mk #[120,46,49])])) 9) 3)).2) 3) 24) 1))
            (br ((wdGOk (dnext (dnext ((lk0 (dval (dnext (dwdGN y50000 ([(ByteArray.mk #[115,101,114,118,101,114]),(ByteArray.mk #[97]),(ByteArray.mk #[120,46,49])])) 9) 3).toNat ([(dwdG y50000 ([(ByteArray.mk #[115,101,114,118,101,114]),(ByteArray.mk #[97]),(ByteArray.mk #[120,46,49])]))]) (dnext (dnext (dwdGN y50000 ([(ByteArray.mk #[115,101,114,118,101,114]),(ByteArray.mk #[97]),(ByteArray.mk #[120,46,49])])) 9) 3)).2) 3) 24) ([(ByteArray.mk #[]),(ByteArray.mk #[97,32,98]),(ByteArray.mk #[34])])))
             (br (cIx ((lk0 (dval (dnext (dwdGN y50000 ([(ByteArray.mk #[115,101,114,118,101,114]),(ByteArray.mk #[97]),(ByteArray.mk #[120,46,49])])) 9) 3).toNat ([(dwdG y50000 ([(ByteArray.mk #[115,101,114,118,101,114]),(ByteArray.mk #[97]),(ByteArray.mk #[120,46,49])]))]) (dnext (dnext (dwdGN y50000 ([(ByteArray.mk #[115,101,114,118,101,114]),(ByteArray.mk #[97]),(ByteArray.mk #[120,46,49])])) 9) 3)).1) 0)
              (br (cLd ((lk0 (dval (dnext (dwdGN y50000 ([(ByteArray.mk #[115,101,114,118,101,114]),(ByteArray.mk #[97]),(ByteArray.mk #[120,46,49])])) 9) 3).toNat ([(dwdG y50000 ([(ByteArray.mk #[115,101,114,118,101,114]),(ByteArray.mk #[97]),(ByteArray.mk #[120,46,49])]))]) (dnext (dnext (dwdGN y50000 ([(ByteArray.mk #[115,101,114,118,101,114]),(ByteArray.mk #[97]),(ByteArray.mk #[120,46,49])])) 9) 3)).1) (Int.toNat 0))
               (br (cApp (y5) ([((List.set ((lk0 (dval (dnext (dwdGN y50000 ([(ByteArray.mk #[115,101,114,118,101,114]),(ByteArray.mk #[97]),(ByteArray.mk #[120,46,49])])) 9) 3).toNat ([(dwdG y50000 ([(ByteArray.mk #[115,101,114,118,101,114]),(ByteArray.mk #[97]),(ByteArray.mk #[120,46,49])]))]) (dnext (dnext (dwdGN y50000 ([(ByteArray.mk #[115,101,114,118,101,114]),(ByteArray.mk #[97]),(ByteArray.mk #[120,46,49])])) 9) 3)).1) (Int.toNat 0) (dwdG (dnext (dnext ((lk0 (dval (dnext (dwdGN y50000 ([(ByteArray.mk #[115,101,114,118,101,114]),(ByteArray.mk #[97]),(ByteArray.mk #[120,46,49])])) 9) 3).toNat ([(dwdG y50000 ([(ByteArray.mk #[115,101,114,118,101,114]),(ByteArray.mk #[97]),(ByteArray.mk #[120,46,49])]))]) (dnext (dnext (dwdGN y50000 ([(ByteArray.mk #[115,101,114,118,101,114]),(ByteArray.mk #[97]),(ByteArray.mk #[120,46,49])])) 9) 3)).2) 3) 24) ([(ByteArray.mk #[]),(ByteArray.mk #[97,32,98]),(ByteArray.mk #[34])]))),((false),(([]:List Blk),(((dval (dwdGN y50000 ([(ByteArray.mk #[115,101,114,118,101,114]),(ByteArray.mk #[97]),(ByteArray.mk #[120,46,49])])) 9)),()))))]) 64)
                (some (.normal,st_f31_1 (x1) (isub .i64 (x6) 1) ((y5)++([((List.set ((lk0 (dval (dnext (dwdGN y50000 ([(ByteArray.mk #[115,101,114,118,101,114]),(ByteArray.mk #[97]),(ByteArray.mk #[120,46,49])])) 9) 3).toNat ([(dwdG y50000 ([(ByteArray.mk #[115,101,114,118,101,114]),(ByteArray.mk #[97]),(ByteArray.mk #[120,46,49])]))]) (dnext (dnext (dwdGN y50000 ([(ByteArray.mk #[115,101,114,118,101,114]),(ByteArray.mk #[97]),(ByteArray.mk #[120,46,49])])) 9) 3)).1) (Int.toNat 0) (dwdG (dnext (dnext ((lk0 (dval (dnext (dwdGN y50000 ([(ByteArray.mk #[115,101,114,118,101,114]),(ByteArray.mk #[97]),(ByteArray.mk #[120,46,49])])) 9) 3).toNat ([(dwdG y50000 ([(ByteArray.mk #[115,101,114,118,101,114]),(ByteArray.mk #[97]),(ByteArray.mk #[120,46,49])]))]) (dnext (dnext (dwdGN y50000 ([(ByteArray.mk #[115,101,114,118,101,114]),(ByteArray.mk #[97]),(ByteArray.mk #[120,46,49])])) 9) 3)).2) 3) 24) ([(ByteArray.mk #[]),(ByteArray.mk #[97,32,98]),(ByteArray.mk #[34])]))),((false),(([]:List Blk),(((dval (dwdGN y50000 ([(ByteArray.mk #[115,101,114,118,101,114]),(ByteArray.mk #[97]),(ByteArray.mk #[120,46,49])])) 9)),()))))])) (dwdGN (dnext (dnext ((lk0 (dval (dnext (dwdGN y50000 ([(ByteArray.mk #[115,101,114,118,101,114]),(ByteArray.mk #[97]),(ByteArray.mk #[120,46,49])])) 9) 3).toNat ([(dwdG y50000 ([(ByteArray.mk #[115,101,114,118,101,114]),(ByteArray.mk #[97]),(ByteArray.mk #[120,46,49])]))]) (dnext (dnext (dwdGN y50000 ([(ByteArray.mk #[115,101,114,118,101,114]),(ByteArray.mk #[97]),(ByteArray.mk #[120,46,49])])) 9) 3)).2) 3) 24) ([(ByteArray.mk #[]),(ByteArray.mk #[97,32,98]),(ByteArray.mk #[34])]))))
                (none))
               (none))
              (none))
             (none))
            (br ((ieq (dval (dnext ((lk0 (dval (dnext (dwdGN y50000 ([(ByteArray.mk #[115,101,114,118,101,114]),(ByteArray.mk #[97]),(ByteArray.mk #[120,46,49])])) 9) 3).toNat ([(dwdG y50000 ([(ByteArray.mk #[115,101,114,118,101,114]),(ByteArray.mk #[97]),(ByteArray.mk #[120,46,49])]))]) (dnext (dnext (dwdGN y50000 ([(ByteArray.mk #[115,101,114,118,101,114]),(ByteArray.mk #[97]),(ByteArray.mk #[120,46,49])])) 9) 3)).2) 3) 24) 2))
             (br ((wdGOk (dnext (dnext ((lk0 (dval (dnext (dwdGN y50000 ([(ByteArray.mk #[115,101,114,118,101,114]),(ByteArray.mk #[97]),(ByteArray.mk #[120,46,49])])) 9) 3).toNat ([(dwdG y50000 ([(ByteArray.mk #[115,101,114,118,101,114]),(ByteArray.mk #[97]),(ByteArray.mk #[120,46,49])]))]) (dnext (dnext (dwdGN y50000 ([(ByteArray.mk #[115,101,114,118,101,114]),(ByteArray.mk #[97]),(ByteArray.mk #[120,46,49])])) 9) 3)).2) 3) 24) ([(ByteArray.mk #[97,10,98]),(ByteArray.mk #[127])])))
              (br (cApp ((lk0 (dval (dnext (dwdGN y50000 ([(ByteArray.mk #[115,101,114,118,101,114]),(ByteArray.mk #[97]),(ByteArray.mk #[120,46,49])])) 9) 3).toNat ([(dwdG y50000 ([(ByteArray.mk #[115,101,114,118,101,114]),(ByteArray.mk #[97]),(ByteArray.mk #[120,46,49])]))]) (dnext (dnext (dwdGN y50000 ([(ByteArray.mk #[115,101,114,118,101,114]),(ByteArray.mk #[97]),(ByteArray.mk #[120,46,49])])) 9) 3)).1) ([(dwdG (dnext (dnext ((lk0 (dval (dnext (dwdGN y50000 ([(ByteArray.mk #[115,101,114,118,101,114]),(ByteArray.mk #[97]),(ByteArray.mk #[120,46,49])])) 9) 3).toNat ([(dwdG y50000 ([(ByteArray.mk #[115,101,114,118,101,114]),(ByteArray.mk #[97]),(ByteArray.mk #[120,46,49])]))]) (dnext (dnext (dwdGN y50000 ([(ByteArray.mk #[115,101,114,118,101,114]),(ByteArray.mk #[97]),(ByteArray.mk #[120,46,49])])) 9) 3)).2) 3) 24) ([(ByteArray.mk #[97,10,98]),(ByteArray.mk #[127])]))]) 16)
               (br (cApp (y5) ([((((lk0 (dval (dnext (dwdGN y50000 ([(ByteArray.mk #[115,101,114,118,101,114]),(ByteArray.mk #[97]),(ByteArray.mk #[120,46,49])])) 9) 3).toNat ([(dwdG y50000 ([(ByteArray.mk #[115,101,114,118,101,114]),(ByteArray.mk #[97]),(ByteArray.mk #[120,46,49])]))]) (dnext (dnext (dwdGN y50000 ([(ByteArray.mk #[115,101,114,118,101,114]),(ByteArray.mk #[97]),(ByteArray.mk #[120,46,49])])) 9) 3)).1)++([(dwdG (dnext (dnext ((lk0 (dval (dnext (dwdGN y50000 ([(ByteArray.mk #[115,101,114,118,101,114]),(ByteArray.mk #[97]),(ByteArray.mk #[120,46,49])])) 9) 3).toNat ([(dwdG y50000 ([(ByteArray.mk #[115,101,114,118,101,114]),(ByteArray.mk #[97]),(ByteArray.mk #[120,46,49])]))]) (dnext (dnext (dwdGN y50000 ([(ByteArray.mk #[115,101,114,118,101,114]),(ByteArray.mk #[97]),(ByteArray.mk #[120,46,49])])) 9) 3)).2) 3) 24) ([(ByteArray.mk #[97,10,98]),(ByteArray.mk #[127])]))])),((false),(([]:List Blk),(((dval (dwdGN y50000 ([(ByteArray.mk #[115,101,114,118,101,114]),(ByteArray.mk #[97]),(ByteArray.mk #[120,46,49])])) 9)),()))))]) 64)
                (some (.normal,st_f31_1 (x1) (isub .i64 (x6) 1) ((y5)++([((((lk0 (dval (dnext (dwdGN y50000 ([(ByteArray.mk #[115,101,114,118,101,114]),(ByteArray.mk #[97]),(ByteArray.mk #[120,46,49])])) 9) 3).toNat ([(dwdG y50000 ([(ByteArray.mk #[115,101,114,118,101,114]),(ByteArray.mk #[97]),(ByteArray.mk #[120,46,49])]))]) (dnext (dnext (dwdGN y50000 ([(ByteArray.mk #[115,101,114,118,101,114]),(ByteArray.mk #[97]),(ByteArray.mk #[120,46,49])])) 9) 3)).1)++([(dwdG (dnext (dnext ((lk0 (dval (dnext (dwdGN y50000 ([(ByteArray.mk #[115,101,114,118,101,114]),(ByteArray.mk #[97]),(ByteArray.mk #[120,46,49])])) 9) 3).toNat ([(dwdG y50000 ([(ByteArray.mk #[115,101,114,118,101,114]),(ByteArray.mk #[97]),(ByteArray.mk #[120,46,49])]))]) (dnext (dnext (dwdGN y50000 ([(ByteArray.mk #[115,101,114,118,101,114]),(ByteArray.mk #[97]),(ByteArray.mk #[120,46,49])])) 9) 3)).2) 3) 24) ([(ByteArray.mk #[97,10,98]),(ByteArray.mk #[127])]))])),((false),(([]:List Blk),(((dval (dwdGN y50000 ([(ByteArray.mk #[115,101,114,118,101,114]),(ByteArray.mk #[97]),(ByteArray.mk #[120,46,49])])) 9)),()))))])) (dwdGN (dnext (dnext ((lk0 (dval (dnext (dwdGN y50000 ([(ByteArray.mk #[115,101,114,118,101,114]),(ByteArray.mk #[97]),(ByteArray.mk #[120,46,49])])) 9) 3).toNat ([(dwdG y50000 ([(ByteArray.mk #[115,101,114,118,101,114]),(ByteArray.mk #[97]),(ByteArray.mk #[120,46,49])]))]) (dnext (dnext (dwdGN y50000 ([(ByteArray.mk #[115,101,114,118,101,114]),(ByteArray.mk #[97]),(ByteArray.mk #[120,46,49])])) 9) 3)).2) 3) 24) ([(ByteArray.mk #[97,10,98]),(ByteArray.mk #[127])]))))
                (none))
               (none))
              (none))
             (br ((ieq (dval (dnext ((lk0 (dval (dnext (dwdGN y50000 ([(ByteArray.mk #[115,101,114,118,101,114]),(ByteArray.mk #[97]),(ByteArray.mk #[120,46,49])])) 9) 3).toNat ([(dwdG y50000 ([(ByteArray.mk #[115,101,114,118,101,114]),(ByteArray.mk #[97]),(ByteArray.mk #[120,46,49])]))]) (dnext (dnext (dwdGN y50000 ([(ByteArray.mk #[115,101,114,118,101,114]),(ByteArray.mk #[97]),(ByteArray.mk #[120,46,49])])) 9) 3)).2) 3) 24) 3))
              (br (cApp (y5) ([(((lk0 (dval (dnext (dwdGN y50000 ([(ByteArray.mk #[115,101,114,118,101,114]),(ByteArray.mk #[97]),(ByteArray.mk #[120,46,49])])) 9) 3).toNat ([(dwdG y50000 ([(ByteArray.mk #[115,101,114,118,101,114]),(ByteArray.mk #[97]),(ByteArray.mk #[120,46,49])]))]) (dnext (dnext (dwdGN y50000 ([(ByteArray.mk #[115,101,114,118,101,114]),(ByteArray.mk #[97]),(ByteArray.mk #[120,46,49])])) 9) 3)).1),(false,(([]:List Blk),(((dval (dwdGN y50000 ([(ByteArray.mk #[115,101,114,118,101,114]),(ByteArray.mk #[97]),(ByteArray.mk #[120,46,49])])) 9)),()))))]) 64)
               (some (.normal,st_f31_1 (x1) (isub .i64 (x6) 1) ((y5)++([(((lk0 (dval (dnext (dwdGN y50000 ([(ByteArray.mk #[115,101,114,118,101,114]),(ByteArray.mk #[97]),(ByteArray.mk #[120,46,49])])) 9) 3).toNat ([(dwdG y50000 ([(ByteArray.mk #[115,101,114,118,101,114]),(ByteArray.mk #[97]),(ByteArray.mk #[120,46,49])]))]) (dnext (dnext (dwdGN y50000 ([(ByteArray.mk #[115,101,114,118,101,114]),(ByteArray.mk #[97]),(ByteArray.mk #[120,46,49])])) 9) 3)).1),(false,(([]:List Blk),(((dval (dwdGN y50000 ([(ByteArray.mk #[115,101,114,118,101,114]),(ByteArray.mk #[97]),(ByteArray.mk #[120,46,49])])) 9)),()))))])) (dnext (dnext ((lk0 (dval (dnext (dwdGN y50000 ([(ByteArray.mk #[115,101,114,118,101,114]),(ByteArray.mk #[97]),(ByteArray.mk #[120,46,49])])) 9) 3).toNat ([(dwdG y50000 ([(ByteArray.mk #[115,101,114,118,101,114]),(ByteArray.mk #[97]),(ByteArray.mk #[120,46,49])]))]) (dnext (dnext (dwdGN y50000 ([(ByteArray.mk #[115,101,114,118,101,114]),(ByteArray.mk #[97]),(ByteArray.mk #[120,46,49])])) 9) 3)).2) 3) 24)))
               (none))
              (br (cApp (y5) ([(((lk0 (dval (dnext (dwdGN y50000 ([(ByteArray.mk #[115,101,114,118,101,114]),(ByteArray.mk #[97]),(ByteArray.mk #[120,46,49])])) 9) 3).toNat ([(dwdG y50000 ([(ByteArray.mk #[115,101,114,118,101,114]),(ByteArray.mk #[97]),(ByteArray.mk #[120,46,49])]))]) (dnext (dnext (dwdGN y50000 ([(ByteArray.mk #[115,101,114,118,101,114]),(ByteArray.mk #[97]),(ByteArray.mk #[120,46,49])])) 9) 3)).1),((false),(([]:List Blk),(((dval (dwdGN y50000 ([(ByteArray.mk #[115,101,114,118,101,114]),(ByteArray.mk #[97]),(ByteArray.mk #[120,46,49])])) 9)),()))))]) 64)
               (some (.normal,st_f31_1 (x1) (isub .i64 (x6) 1) ((y5)++([(((lk0 (dval (dnext (dwdGN y50000 ([(ByteArray.mk #[115,101,114,118,101,114]),(ByteArray.mk #[97]),(ByteArray.mk #[120,46,49])])) 9) 3).toNat ([(dwdG y50000 ([(ByteArray.mk #[115,101,114,118,101,114]),(ByteArray.mk #[97]),(ByteArray.mk #[120,46,49])]))]) (dnext (dnext (dwdGN y50000 ([(ByteArray.mk #[115,101,114,118,101,114]),(ByteArray.mk #[97]),(ByteArray.mk #[120,46,49])])) 9) 3)).1),((false),(([]:List Blk),(((dval (dwdGN y50000 ([(ByteArray.mk #[115,101,114,118,101,114]),(ByteArray.mk #[97]),(ByteArray.mk #[120,46,49])])) 9)),()))))])) (dnext (dnext ((lk0 (dval (dnext (dwdGN y50000 ([(ByteArray.mk #[115,101,114,118,101,114]),(ByteArray.mk #[97]),(ByteArray.mk #[120,46,49])])) 9) 3).toNat ([(dwdG y50000 ([(ByteArray.mk #[115,101,114,118,101,114]),(ByteArray.mk #[97]),(ByteArray.mk #[120,46,49])]))]) (dnext (dnext (dwdGN y50000 ([(ByteArray.mk #[115,101,114,118,101,114]),(ByteArray.mk #[97]),(ByteArray.mk #[120,46,49])])) 9) 3)).2) 3) 24)))
               (none))))))
          (none)))
        (none))
       (br ((nextOk ((lk0 (dval (dnext (dwdGN y50000 ([(ByteArray.mk #[115,101,114,118,101,114]),(ByteArray.mk #[97]),(ByteArray.mk #[120,46,49])])) 9) 3).toNat ([(dwdG y50000 ([(ByteArray.mk #[115,101,114,118,101,114]),(ByteArray.mk #[97]),(ByteArray.mk #[120,46,49])]))]) (dnext (dnext (dwdGN y50000 ([(ByteArray.mk #[115,101,114,118,101,114]),(ByteArray.mk #[97]),(ByteArray.mk #[120,46,49])])) 9) 3)).2) 24))
        (br ((ieq (dval ((lk0 (dval (dnext (dwdGN y50000 ([(ByteArray.mk #[115,101,114,118,101,114]),(ByteArray.mk #[97]),(ByteArray.mk #[120,46,49])])) 9) 3).toNat ([(dwdG y50000 ([(ByteArray.mk #[115,101,114,118,101,114]),(ByteArray.mk #[97]),(ByteArray.mk #[120,46,49])]))]) (dnext (dnext (dwdGN y50000 ([(ByteArray.mk #[115,101,114,118,101,114]),(ByteArray.mk #[97]),(ByteArray.mk #[120,46,49])])) 9) 3)).2) 24) 0))
         (br (cApp (y5) ([(([]:List ByteArray),((false),(([]:List Blk),(((dval (dwdGN y50000 ([(ByteArray.mk #[115,101,114,118,101,114]),(ByteArray.mk #[97]),(ByteArray.mk #[120,46,49])])) 9)),()))))]) 64)
          (some (.normal,st_f31_1 (x1) (isub .i64 (x6) 1) ((y5)++([(([]:List ByteArray),((false),(([]:List Blk),(((dval (dwdGN y50000 ([(ByteArray.mk #[115,101,114,118,101,114]),(ByteArray.mk #[97]),(ByteArray.mk #[120,46,49])])) 9)),()))))])) (dnext ((lk0 (dval (dnext (dwdGN y50000 ([(ByteArray.mk #[115,101,114,118,101,114]),(ByteArray.mk #[97]),(ByteArray.mk #[120,46,49])])) 9) 3).toNat ([(dwdG y50000 ([(ByteArray.mk #[115,101,114,118,101,114]),(ByteArray.mk #[97]),(ByteArray.mk #[120,46,49])]))]) (dnext (dnext (dwdGN y50000 ([(ByteArray.mk #[115,101,114,118,101,114]),(ByteArray.mk #[97]),(ByteArray.mk #[120,46,49])])) 9) 3)).2) 24)))
          (none))
         (br ((ieq (dval ((lk0 (dval (dnext (dwdGN y50000 ([(ByteArray.mk #[115,101,114,118,101,114]),(ByteArray.mk #[97]),(ByteArray.mk #[120,46,49])])) 9) 3).toNat ([(dwdG y50000 ([(ByteArray.mk #[115,101,114,118,101,114]),(ByteArray.mk #[97]),(ByteArray.mk #[120,46,49])]))]) (dnext (dnext (dwdGN y50000 ([(ByteArray.mk #[115,101,114,118,101,114]),(ByteArray.mk #[97]),(ByteArray.mk #[120,46,49])])) 9) 3)).2) 24) 1))
          (br ((wdGOk (dnext ((lk0 (dval (dnext (dwdGN y50000 ([(ByteArray.mk #[115,101,114,118,101,114]),(ByteArray.mk #[97]),(ByteArray.mk #[120,46,49])])) 9) 3).toNat ([(dwdG y50000 ([(ByteArray.mk #[115,101,114,118,101,114]),(ByteArray.mk #[97]),(ByteArray.mk #[120,46,49])]))]) (dnext (dnext (dwdGN y50000 ([(ByteArray.mk #[115,101,114,118,101,114]),(ByteArray.mk #[97]),(ByteArray.mk #[120,46,49])])) 9) 3)).2) 24) ([(ByteArray.mk #[]),(ByteArray.mk #[97,32,98]),(ByteArray.mk #[34])])))
           (br (cIx ((lk0 (dval (dnext (dwdGN y50000 ([(ByteArray.mk #[115,101,114,118,101,114]),(ByteArray.mk #[97]),(ByteArray.mk #[120,46,49])])) 9) 3).toNat ([(dwdG y50000 ([(ByteArray.mk #[115,101,114,118,101,114]),(ByteArray.mk #[97]),(ByteArray.mk #[120,46,49])]))]) (dnext (dnext (dwdGN y50000 ([(ByteArray.mk #[115,101,114,118,101,114]),(ByteArray.mk #[97]),(ByteArray.mk #[120,46,49])])) 9) 3)).1) 0)
            (br (cLd ((lk0 (dval (dnext (dwdGN y50000 ([(ByteArray.mk #[115,101,114,118,101,114]),(ByteArray.mk #[97]),(ByteArray.mk #[120,46,49])])) 9) 3).toNat ([(dwdG y50000 ([(ByteArray.mk #[115,101,114,118,101,114]),(ByteArray.mk #[97]),(ByteArray.mk #[120,46,49])]))]) (dnext (dnext (dwdGN y50000 ([(ByteArray.mk #[115,101,114,118,101,114]),(ByteArray.mk #[97]),(ByteArray.mk #[120,46,49])])) 9) 3)).1) (Int.toNat 0))
             (br (cApp (y5) ([((List.set ((lk0 (dval (dnext (dwdGN y50000 ([(ByteArray.mk #[115,101,114,118,101,114]),(ByteArray.mk #[97]),(ByteArray.mk #[120,46,49])])) 9) 3).toNat ([(dwdG y50000 ([(ByteArray.mk #[115,101,114,118,101,114]),(ByteArray.mk #[97]),(ByteArray.mk #[120,46,49])]))]) (dnext (dnext (dwdGN y50000 ([(ByteArray.mk #[115,101,114,118,101,114]),(ByteArray.mk #[97]),(ByteArray.mk #[120,46,49])])) 9) 3)).1) (Int.toNat 0) (dwdG (dnext ((lk0 (dval (dnext (dwdGN y50000 ([(ByteArray.mk #[115,101,114,118,101,114]),(ByteArray.mk #[97]),(ByteArray.mk #[120,46,49])])) 9) 3).toNat ([(dwdG y50000 ([(ByteArray.mk #[115,101,114,118,101,114]),(ByteArray.mk #[97]),(ByteArray.mk #[120,46,49])]))]) (dnext (dnext (dwdGN y50000 ([(ByteArray.mk #[115,101,114,118,101,114]),(ByteArray.mk #[97]),(ByteArray.mk #[120,46,49])])) 9) 3)).2) 24) ([(ByteArray.mk #[]),(ByteArray.mk #[97,32,98]),(ByteArray.mk #[34])]))),((false),(([]:List Blk),(((dval (dwdGN y50000 ([(ByteArray.mk #[115,101,114,118,101,114]),(ByteArray.mk #[97]),(ByteArray.mk #[120,46,49])])) 9)),()))))]) 64)
              (some (.normal,st_f31_1 (x1) (isub .i64 (x6) 1) ((y5)++([((List.set ((lk0 (dval (dnext (dwdGN y50000 ([(ByteArray.mk #[115,101,114,118,101,114]),(ByteArray.mk #[97]),(ByteArray.mk #[120,46,49])])) 9) 3).toNat ([(dwdG y50000 ([(ByteArray.mk #[115,101,114,118,101,114]),(ByteArray.mk #[97]),(ByteArray.mk #[120,46,49])]))]) (dnext (dnext (dwdGN y50000 ([(ByteArray.mk #[115,101,114,118,101,114]),(ByteArray.mk #[97]),(ByteArray.mk #[120,46,49])])) 9) 3)).1) (Int.toNat 0) (dwdG (dnext ((lk0 (dval (dnext (dwdGN y50000 ([(ByteArray.mk #[115,101,114,118,101,114]),(ByteArray.mk #[97]),(ByteArray.mk #[120,46,49])])) 9) 3).toNat ([(dwdG y50000 ([(ByteArray.mk #[115,101,114,118,101,114]),(ByteArray.mk #[97]),(ByteArray.mk #[120,46,49])]))]) (dnext (dnext (dwdGN y50000 ([(ByteArray.mk #[115,101,114,118,101,114]),(ByteArray.mk #[97]),(ByteArray.mk #[120,46,49])])) 9) 3)).2) 24) ([(ByteArray.mk #[]),(ByteArray.mk #[97,32,98]),(ByteArray.mk #[34])]))),((false),(([]:List Blk),(((dval (dwdGN y50000 ([(ByteArray.mk #[115,101,114,118,101,114]),(ByteArray.mk #[97]),(ByteArray.mk #[120,46,49])])) 9)),()))))])) (dwdGN (dnext ((lk0 (dval (dnext (dwdGN y50000 ([(ByteArray.mk #[115,101,114,118,101,114]),(ByteArray.mk #[97]),(ByteArray.mk #[120,46,49])])) 9) 3).toNat ([(dwdG y50000 ([(ByteArray.mk #[115,101,114,118,101,114]),(ByteArray.mk #[97]),(ByteArray.mk #[120,46,49])]))]) (dnext (dnext (dwdGN y50000 ([(ByteArray.mk #[115,101,114,118,101,114]),(ByteArray.mk #[97]),(ByteArray.mk #[120,46,49])])) 9) 3)).2) 24) ([(ByteArray.mk #[]),(ByteArray.mk #[97,32,98]),(ByteArray.mk #[34])]))))
              (none))
             (none))
            (none))
           (none))
          (br ((ieq (dval ((lk0 (dval (dnext (dwdGN y50000 ([(ByteArray.mk #[115,101,114,118,101,114]),(ByteArray.mk #[97]),(ByteArray.mk #[120,46,49])])) 9) 3).toNat ([(dwdG y50000 ([(ByteArray.mk #[115,101,114,118,101,114]),(ByteArray.mk #[97]),(ByteArray.mk #[120,46,49])]))]) (dnext (dnext (dwdGN y50000 ([(ByteArray.mk #[115,101,114,118,101,114]),(ByteArray.mk #[97]),(ByteArray.mk #[120,46,49])])) 9) 3)).2) 24) 2))
           (br ((wdGOk (dnext ((lk0 (dval (dnext (dwdGN y50000 ([(ByteArray.mk #[115,101,114,118,101,114]),(ByteArray.mk #[97]),(ByteArray.mk #[120,46,49])])) 9) 3).toNat ([(dwdG y50000 ([(ByteArray.mk #[115,101,114,118,101,114]),(ByteArray.mk #[97]),(ByteArray.mk #[120,46,49])]))]) (dnext (dnext (dwdGN y50000 ([(ByteArray.mk #[115,101,114,118,101,114]),(ByteArray.mk #[97]),(ByteArray.mk #[120,46,49])])) 9) 3)).2) 24) ([(ByteArray.mk #[97,10,98]),(ByteArray.mk #[127])])))
            (br (cApp ((lk0 (dval (dnext (dwdGN y50000 ([(ByteArray.mk #[115,101,114,118,101,114]),(ByteArray.mk #[97]),(ByteArray.mk #[120,46,49])])) 9) 3).toNat ([(dwdG y50000 ([(ByteArray.mk #[115,101,114,118,101,114]),(ByteArray.mk #[97]),(ByteArray.mk #[120,46,49])]))]) (dnext (dnext (dwdGN y50000 ([(ByteArray.mk #[115,101,114,118,101,114]),(ByteArray.mk #[97]),(ByteArray.mk #[120,46,49])])) 9) 3)).1) ([(dwdG (dnext ((lk0 (dval (dnext (dwdGN y50000 ([(ByteArray.mk #[115,101,114,118,101,114]),(ByteArray.mk #[97]),(ByteArray.mk #[120,46,49])])) 9) 3).toNat ([(dwdG y50000 ([(ByteArray.mk #[115,101,114,118,101,114]),(ByteArray.mk #[97]),(ByteArray.mk #[120,46,49])]))]) (dnext (dnext (dwdGN y50000 ([(ByteArray.mk #[115,101,114,118,101,114]),(ByteArray.mk #[97]),(ByteArray.mk #[120,46,49])])) 9) 3)).2) 24) ([(ByteArray.mk #[97,10,98]),(ByteArray.mk #[127])]))]) 16)
             (br (cApp (y5) ([((((lk0 (dval (dnext (dwdGN y50000 ([(ByteArray.mk #[115,101,114,118,101,114]),(ByteArray.mk #[97]),(ByteArray.mk #[120,46,49])])) 9) 3).toNat ([(dwdG y50000 ([(ByteArray.mk #[115,101,114,118,101,114]),(ByteArray.mk #[97]),(ByteArray.mk #[120,46,49])]))]) (dnext (dnext (dwdGN y50000 ([(ByteArray.mk #[115,101,114,118,101,114]),(ByteArray.mk #[97]),(ByteArray.mk #[120,46,49])])) 9) 3)).1)++([(dwdG (dnext ((lk0 (dval (dnext (dwdGN y50000 ([(ByteArray.mk #[115,101,114,118,101,114]),(ByteArray.mk #[97]),(ByteArray.mk #[120,46,49])])) 9) 3).toNat ([(dwdG y50000 ([(ByteArray.mk #[115,101,114,118,101,114]),(ByteArray.mk #[97]),(ByteArray.mk #[120,46,49])]))]) (dnext (dnext (dwdGN y50000 ([(ByteArray.mk #[115,101,114,118,101,114]),(ByteArray.mk #[97]),(ByteArray.mk #[120,46,49])])) 9) 3)).2) 24) ([(ByteArray.mk #[97,10,98]),(ByteArray.mk #[127])]))])),((false),(([]:List Blk),(((dval (dwdGN y50000 ([(ByteArray.mk #[115,101,114,118,101,114]),(ByteArray.mk #[97]),(ByteArray.mk #[120,46,49])])) 9)),()))))]) 64)
              (some (.normal,st_f31_1 (x1) (isub .i64 (x6) 1) ((y5)++([((((lk0 (dval (dnext (dwdGN y50000 ([(ByteArray.mk #[115,101,114,118,101,114]),(ByteArray.mk #[97]),(ByteArray.mk #[120,46,49])])) 9) 3).toNat ([(dwdG y50000 ([(ByteArray.mk #[115,101,114,118,101,114]),(ByteArray.mk #[97]),(ByteArray.mk #[120,46,49])]))]) (dnext (dnext (dwdGN y50000 ([(ByteArray.mk #[115,101,114,118,101,114]),(ByteArray.mk #[97]),(ByteArray.mk #[120,46,49])])) 9) 3)).1)++([(dwdG (dnext ((lk0 (dval (dnext (dwdGN y50000 ([(ByteArray.mk #[115,101,114,118,101,114]),(ByteArray.mk #[97]),(ByteArray.mk #[120,46,49])])) 9) 3).toNat ([(dwdG y50000 ([(ByteArray.mk #[115,101,114,118,101,114]),(ByteArray.mk #[97]),(ByteArray.mk #[120,46,49])]))]) (dnext (dnext (dwdGN y50000 ([(ByteArray.mk #[115,101,114,118,101,114]),(ByteArray.mk #[97]),(ByteArray.mk #[120,46,49])])) 9) 3)).2) 24) ([(ByteArray.mk #[97,10,98]),(ByteArray.mk #[127])]))])),((false),(([]:List Blk),(((dval (dwdGN y50000 ([(ByteArray.mk #[115,101,114,118,101,114]),(ByteArray.mk #[97]),(ByteArray.mk #[120,46,49])])) 9)),()))))])) (dwdGN (dnext ((lk0 (dval (dnext (dwdGN y50000 ([(ByteArray.mk #[115,101,114,118,101,114]),(ByteArray.mk #[97]),(ByteArray.mk #[120,46,49])])) 9) 3).toNat ([(dwdG y50000 ([(ByteArray.mk #[115,101,114,118,101,114]),(ByteArray.mk #[97]),(ByteArray.mk #[120,46,49])]))]) (dnext (dnext (dwdGN y50000 ([(ByteArray.mk #[115,101,114,118,101,114]),(ByteArray.mk #[97]),(ByteArray.mk #[120,46,49])])) 9) 3)).2) 24) ([(ByteArray.mk #[97,10,98]),(ByteArray.mk #[127])]))))
              (none))
             (none))
            (none))
           (br ((ieq (dval ((lk0 (dval (dnext (dwdGN y50000 ([(ByteArray.mk #[115,101,114,118,101,114]),(ByteArray.mk #[97]),(ByteArray.mk #[120,46,49])])) 9) 3).toNat ([(dwdG y50000 ([(ByteArray.mk #[115,101,114,118,101,114]),(ByteArray.mk #[97]),(ByteArray.mk #[120,46,49])]))]) (dnext (dnext (dwdGN y50000 ([(ByteArray.mk #[115,101,114,118,101,114]),(ByteArray.mk #[97]),(ByteArray.mk #[120,46,49])])) 9) 3)).2) 24) 3))
            (br (cApp (y5) ([(((lk0 (dval (dnext (dwdGN y50000 ([(ByteArray.mk #[115,101,114,118,101,114]),(ByteArray.mk #[97]),(ByteArray.mk #[120,46,49])])) 9) 3).toNat ([(dwdG y50000 ([(ByteArray.mk #[115,101,114,118,101,114]),(ByteArray.mk #[97]),(ByteArray.mk #[120,46,49])]))]) (dnext (dnext (dwdGN y50000 ([(ByteArray.mk #[115,101,114,118,101,114]),(ByteArray.mk #[97]),(ByteArray.mk #[120,46,49])])) 9) 3)).1),(false,(([]:List Blk),(((dval (dwdGN y50000 ([(ByteArray.mk #[115,101,114,118,101,114]),(ByteArray.mk #[97]),(ByteArray.mk #[120,46,49])])) 9)),()))))]) 64)
             (some (.normal,st_f31_1 (x1) (isub .i64 (x6) 1) ((y5)++([(((lk0 (dval (dnext (dwdGN y50000 ([(ByteArray.mk #[115,101,114,118,101,114]),(ByteArray.mk #[97]),(ByteArray.mk #[120,46,49])])) 9) 3).toNat ([(dwdG y50000 ([(ByteArray.mk #[115,101,114,118,101,114]),(ByteArray.mk #[97]),(ByteArray.mk #[120,46,49])]))]) (dnext (dnext (dwdGN y50000 ([(ByteArray.mk #[115,101,114,118,101,114]),(ByteArray.mk #[97]),(ByteArray.mk #[120,46,49])])) 9) 3)).1),(false,(([]:List Blk),(((dval (dwdGN y50000 ([(ByteArray.mk #[115,101,114,118,101,114]),(ByteArray.mk #[97]),(ByteArray.mk #[120,46,49])])) 9)),()))))])) (dnext ((lk0 (dval (dnext (dwdGN y50000 ([(ByteArray.mk #[115,101,114,118,101,114]),(ByteArray.mk #[97]),(ByteArray.mk #[120,46,49])])) 9) 3).toNat ([(dwdG y50000 ([(ByteArray.mk #[115,101,114,118,101,114]),(ByteArray.mk #[97]),(ByteArray.mk #[120,46,49])]))]) (dnext (dnext (dwdGN y50000 ([(ByteArray.mk #[115,101,114,118,101,114]),(ByteArray.mk #[97]),(ByteArray.mk #[120,46,49])])) 9) 3)).2) 24)))
             (none))
            (br (cApp (y5) ([(((lk0 (dval (dnext (dwdGN y50000 ([(ByteArray.mk #[115,101,114,118,101,114]),(ByteArray.mk #[97]),(ByteArray.mk #[120,46,49])])) 9) 3).toNat ([(dwdG y50000 ([(ByteArray.mk #[115,101,114,118,101,114]),(ByteArray.mk #[97]),(ByteArray.mk #[120,46,49])]))]) (dnext (dnext (dwdGN y50000 ([(ByteArray.mk #[115,101,114,118,101,114]),(ByteArray.mk #[97]),(ByteArray.mk #[120,46,49])])) 9) 3)).1),((false),(([]:List Blk),(((dval (dwdGN y50000 ([(ByteArray.mk #[115,101,114,118,101,114]),(ByteArray.mk #[97]),(ByteArray.mk #[120,46,49])])) 9)),()))))]) 64)
             (some (.normal,st_f31_1 (x1) (isub .i64 (x6) 1) ((y5)++([(((lk0 (dval (dnext (dwdGN y50000 ([(ByteArray.mk #[115,101,114,118,101,114]),(ByteArray.mk #[97]),(ByteArray.mk #[120,46,49])])) 9) 3).toNat ([(dwdG y50000 ([(ByteArray.mk #[115,101,114,118,101,114]),(ByteArray.mk #[97]),(ByteArray.mk #[120,46,49])]))]) (dnext (dnext (dwdGN y50000 ([(ByteArray.mk #[115,101,114,118,101,114]),(ByteArray.mk #[97]),(ByteArray.mk #[120,46,49])])) 9) 3)).1),((false),(([]:List Blk),(((dval (dwdGN y50000 ([(ByteArray.mk #[115,101,114,118,101,114]),(ByteArray.mk #[97]),(ByteArray.mk #[120,46,49])])) 9)),()))))])) (dnext ((lk0 (dval (dnext (dwdGN y50000 ([(ByteArray.mk #[115,101,114,118,101,114]),(ByteArray.mk #[97]),(ByteArray.mk #[120,46,49])])) 9) 3).toNat ([(dwdG y50000 ([(ByteArray.mk #[115,101,114,118,101,114]),(ByteArray.mk #[97]),(ByteArray.mk #[120,46,49])]))]) (dnext (dnext (dwdGN y50000 ([(ByteArray.mk #[115,101,114,118,101,114]),(ByteArray.mk #[97]),(ByteArray.mk #[120,46,49])])) 9) 3)).2) 24)))
             (none))))))
        (none)))
      (none))
     (none))
    (none))
   (none))
  (some (.exit 0,st_f31_1_e0 y5 y50000))
noncomputable def lp_f31_1 (x1:Int)(x6:Int)(y5:(List BlkT))(y50000:Dice):Option (Exit×VS):=loopF (roundF g_f31 fg_f31_1 tb_f31_1) (st_f31_1 x1 x6 y5 y50000)
noncomputable def n_f31_1 (x1:Int)(x6:Int)(y5:(List BlkT))(y50000:Dice):Option (Exit×VS):=
 br ((igt x6 0))
  (br ((wdGOk y50000 ([(ByteArray.mk #[115,101,114,118,101,114]),(ByteArray.mk #[97]),(ByteArray.mk #[120,46,49])])))
   (br ((nextOk (dwdGN y50000 ([(ByteArray.mk #[115,101,114,118,101,114]),(ByteArray.mk #[97]),(ByteArray.mk #[120,46,49])])) 9))
    (br ((nextOk (dnext (dwdGN y50000 ([(ByteArray.mk #[115,101,114,118,101,114]),(ByteArray.mk #[97]),(ByteArray.mk #[120,46,49])])) 9) 3))
     (br ((lb0 (dval (dnext (dwdGN y50000 ([(ByteArray.mk #[115,101,114,118,101,114]),(ByteArray.mk #[97]),(ByteArray.mk #[120,46,49])])) 9) 3) ([(dwdG y50000 ([(ByteArray.mk #[115,101,114,118,101,114]),(ByteArray.mk #[97]),(ByteArray.mk #[120,46,49])]))]) (dnext (dnext (dwdGN y50000 ([(ByteArray.mk #[115,101,114,118,101,114]),(ByteArray.mk #[97]),(ByteArray.mk #[120,46,49])])) 9) 3)))
      (br ((igt (x1) 0))
       (br ((oneOk ((lk0 (dval (dnext (dwdGN y50000 ([(ByteArray.mk #[115,101,114,118,101,114]),(ByteArray.mk #[97]),(ByteArray.mk #[120,46,49])])) 9) 3).toNat ([(dwdG y50000 ([(ByteArray.mk #[115,101,114,118,101,114]),(ByteArray.mk #[97]),(ByteArray.mk #[120,46,49])]))]) (dnext (dnext (dwdGN y50000 ([(ByteArray.mk #[115,101,114,118,101,114]),(ByteArray.mk #[97]),(ByteArray.mk #[120,46,49])])) 9) 3)).2) 3))
        (br ((done ((lk0 (dval (dnext (dwdGN y50000 ([(ByteArray.mk #[115,101,114,118,101,114]),(ByteArray.mk #[97]),(ByteArray.mk #[120,46,49])])) 9) 3).toNat ([(dwdG y50000 ([(ByteArray.mk #[115,101,114,118,101,114]),(ByteArray.mk #[97]),(ByteArray.mk #[120,46,49])]))]) (dnext (dnext (dwdGN y50000 ([(ByteArray.mk #[115,101,114,118,101,114]),(ByteArray.mk #[97]),(ByteArray.mk #[120,46,49])])) 9) 3)).2) 3))
         (br ((ls7S fuel (dnext ((lk0 (dval (dnext (dwdGN y50000 ([(ByteArray.mk #[115,101,114,118,101,114]),(ByteArray.mk #[97]),(ByteArray.mk #[120,46,49])])) 9) 3).toNat ([(dwdG y50000 ([(ByteArray.mk #[115,101,114,118,101,114]),(ByteArray.mk #[97]),(ByteArray.mk #[120,46,49])]))]) (dnext (dnext (dwdGN y50000 ([(ByteArray.mk #[115,101,114,118,101,114]),(ByteArray.mk #[97]),(ByteArray.mk #[120,46,49])])) 9) 3)).2) 3) (isub .i64 (x1) 1)))
          (br ((nextOk (ls7N (dnext ((lk0 (dval (dnext (dwdGN y50000 ([(ByteArray.mk #[115,101,114,118,101,114]),(ByteArray.mk #[97]),(ByteArray.mk #[120,46,49])])) 9) 3).toNat ([(dwdG y50000 ([(ByteArray.mk #[115,101,114,118,101,114]),(ByteArray.mk #[97]),(ByteArray.mk #[120,46,49])]))]) (dnext (dnext (dwdGN y50000 ([(ByteArray.mk #[115,101,114,118,101,114]),(ByteArray.mk #[97]),(ByteArray.mk #[120,46,49])])) 9) 3)).2) 3) (isub .i64 (x1) 1)) 24))
           (br ((ieq (dval (ls7N (dnext ((lk0 (dval (dnext (dwdGN y50000 ([(ByteArray.mk #[115,101,114,118,101,114]),(ByteArray.mk #[97]),(ByteArray.mk #[120,46,49])])) 9) 3).toNat ([(dwdG y50000 ([(ByteArray.mk #[115,101,114,118,101,114]),(ByteArray.mk #[97]),(ByteArray.mk #[120,46,49])]))]) (dnext (dnext (dwdGN y50000 ([(ByteArray.mk #[115,101,114,118,101,114]),(ByteArray.mk #[97]),(ByteArray.mk #[120,46,49])])) 9) 3)).2) 3) (isub .i64 (x1) 1)) 24) 0))
            (br (cApp (y5) ([(([]:List ByteArray),(true,((List.map Blk.of (ls7F (dnext ((lk0 (dval (dnext (dwdGN y50000 ([(ByteArray.mk #[115,101,114,118,101,114]),(ByteArray.mk #[97]),(ByteArray.mk #[120,46,49])])) 9) 3).toNat ([(dwdG y50000 ([(ByteArray.mk #[115,101,114,118,101,114]),(ByteArray.mk #[97]),(ByteArray.mk #[120,46,49])]))]) (dnext (dnext (dwdGN y50000 ([(ByteArray.mk #[115,101,114,118,101,114]),(ByteArray.mk #[97]),(ByteArray.mk #[120,46,49])])) 9) 3)).2) 3) (isub .i64 (x1) 1))),(((dval (dwdGN y50000 ([(ByteArray.mk #[115,101,114,118,101,114]),(ByteArray.mk #[97]),(ByteArray.mk #[120,46,49])])) 9)),()))))]) 64)
             (lp_f31_1 (x1) (isub .i64 (x6) 1) ((y5)++([(([]:List ByteArray),(true,((List.map Blk.of (ls7F (dnext ((lk0 (dval (dnext (dwdGN y50000 ([(ByteArray.mk #[115,101,114,118,101,114]),(ByteArray.mk #[97]),(ByteArray.mk #[120,46,49])])) 9) 3).toNat ([(dwdG y50000 ([(ByteArray.mk #[115,101,114,118,101,114]),(ByteArray.mk #[97]),(ByteArray.mk #[120,46,49])]))]) (dnext (dnext (dwdGN y50000 ([(ByteArray.mk #[115,101,114,118,101,114]),(ByteArray.mk #[97]),(ByteArray.mk #[120,46,49])])) 9) 3)).2) 3) (isub .i64 (x1) 1))),(((dval (dwdGN y50000 ([(ByteArray.mk #[115,101,114,118,101,114]),(ByteArray.mk #[97]),(ByteArray.mk #[120,46,49])])) 9)),()))))])) (dnext (ls7N (dnext ((lk0 (dval (dnext (dwdGN y50000 ([(ByteArray.mk #[115,101,114,118,101,114]),(ByteArray.mk #[97]),(ByteArray.mk #[120,46,49])])) 9) 3).toNat ([(dwdG y50000 ([(ByteArray.mk #[115,101,114,118,101,114]),(ByteArray.mk #[97]),(ByteArray.mk #[120,46,49])]))]) (dnext (dnext (dwdGN y50000 ([(ByteArray.mk #[115,101,114,118,101,114]),(ByteArray.mk #[97]),(ByteArray.mk #[120,46,49])])) 9) 3)).2) 3) (isub .i64 (x1) 1)) 24))
             (none))
            (br ((ieq (dval (ls7N (dnext ((lk0 (dval (dnext (dwdGN y50000 ([(ByteArray.mk #[115,101,114,118,101,114]),(ByteArray.mk #[97]),(ByteArray.mk #[120,46,49])])) 9) 3).toNat ([(dwdG y50000 ([(ByteArray.mk #[115,101,114,118,101,114]),(ByteArray.mk #[97]),(ByteArray.mk #[120,46,49])]))]) (dnext (dnext (dwdGN y50000 ([(ByteArray.mk #[115,101,114,118,101,114]),(ByteArray.mk #[97]),(ByteArray.mk #[120,46,49])])) 9) 3)).2) 3) (isub .i64 (x1) 1)) 24) 1))
             (br ((wdGOk (dnext (ls7N (dnext ((lk0 (dval (dnext (dwdGN y50000 ([(ByteArray.mk #[115,101,114,118,101,114]),(ByteArray.mk #[97]),(ByteArray.mk #[120,46,49])])) 9) 3).toNat ([(dwdG y50000 ([(ByteArray.mk #[115,101,114,118,101,114]),(ByteArray.mk #[97]),(ByteArray.mk #[120,46,49])]))]) (dnext (dnext (dwdGN y50000 ([(ByteArray.mk #[115,101,114,118,101,114]),(ByteArray.mk #[97]),(ByteArray.mk #[120,46,49])])) 9) 3)).2) 3) (isub .i64 (x1) 1)) 24) ([(ByteArray.mk #[]),(ByteArray.mk #[97,32,98]),(ByteArray.mk #[34])])))
              (br (cIx ((lk0 (dval (dnext (dwdGN y50000 ([(ByteArray.mk #[115,101,114,118,101,114]),(ByteArray.mk #[97]),(ByteArray.mk #[120,46,49])])) 9) 3).toNat ([(dwdG y50000 ([(ByteArray.mk #[115,101,114,118,101,114]),(ByteArray.mk #[97]),(ByteArray.mk #[120,46,49])]))]) (dnext (dnext (dwdGN y50000 ([(ByteArray.mk #[115,101,114,118,101,114]),(ByteArray.mk #[97]),(ByteArray.mk #[120,46,49])])) 9) 3)).1) 0)
               (br (cLd ((lk0 (dval (dnext (dwdGN y50000 ([(ByteArray.mk #[115,101,114,118,101,114]),(ByteArray.mk #[97]),(ByteArray.mk #[120,46,49])])) 9) 3).toNat ([(dwdG y50000 ([(ByteArray.mk #[115,101,114,118,101,114]),(ByteArray.mk #[97]),(ByteArray.mk #[120,46,49])]))]) (dnext (dnext (dwdGN y50000 ([(ByteArray.mk #[115,101,114,118,101,114]),(ByteArray.mk #[97]),(ByteArray.mk #[120,46,49])])) 9) 3)).1) (Int.toNat 0))
                (br (cApp (y5) ([((List.set ((lk0 (dval (dnext (dwdGN y50000 ([(ByteArray.mk #[115,101,114,118,101,114]),(ByteArray.mk #[97]),(ByteArray.mk #[120,46,49])])) 9) 3).toNat ([(dwdG y50000 ([(ByteArray.mk #[115,101,114,118,101,114]),(ByteArray.mk #[97]),(ByteArray.mk #[120,46,49])]))]) (dnext (dnext (dwdGN y50000 ([(ByteArray.mk #[115,101,114,118,101,114]),(ByteArray.mk #[97]),(ByteArray.mk #[120,46,49])])) 9) 3)).1) (Int.toNat 0) (dwdG (dnext (ls7N (dnext ((lk0 (dval (dnext (dwdGN y50000 ([(ByteArray.mk #[115,101,114,118,101,114]),(ByteArray.mk #[97]),(ByteArray.mk #[120,46,49])])) 9) 3).toNat ([(dwdG y50000 ([(ByteArray.mk #[115,101,114,118,101,114]),(ByteArray.mk #[97]),(ByteArray.mk #[120,46,49])]))]) (dnext (dnext (dwdGN y50000 ([(ByteArray.mk #[115,101,114,118,101,114]),(ByteArray.mk #[97]),(ByteArray.mk #[120,46,49])])) 9) 3)).2) 3) (isub .i64 (x1) 1)) 24) ([(ByteArray.mk #[]),(ByteArray.mk #[97,32,98]),(ByteArray.mk #[34])]))),(true,((List.map Blk.of (ls7F (dnext ((lk0 (dval (dnext (dwdGN y50000 ([(ByteArray.mk #[115,101,114,118,101,114]),(ByteArray.mk #[97]),(ByteArray.mk #[120,46,49])])) 9) 3).toNat ([(dwdG y50000 ([(ByteArray.mk #[115,101,114,118,101,114]),(ByteArray.mk #[97]),(ByteArray.mk #[120,46,49])]))]) (dnext (dnext (dwdGN y50000 ([(ByteArray.mk #[115,101,114,118,101,114]),(ByteArray.mk #[97]),(ByteArray.mk #[120,46,49])])) 9) 3)).2) 3) (isub .i64 (x1) 1))),(((dval (dwdGN y50000 ([(ByteArray.mk #[115,101,114,118,101,114]),(ByteArray.mk #[97]),(ByteArray.mk #[120,46,49])])) 9)),()))))]) 64)
                 (lp_f31_1 (x1) (isub .i64 (x6) 1) ((y5)++([((List.set ((lk0 (dval (dnext (dwdGN y50000 ([(ByteArray.mk #[115,101,114,118,101,114]),(ByteArray.mk #[97]),(ByteArray.mk #[120,46,49])])) 9) 3).toNat ([(dwdG y50000 ([(ByteArray.mk #[115,101,114,118,101,114]),(ByteArray.mk #[97]),(ByteArray.mk #[120,46,49])]))]) (dnext (dnext (dwdGN y50000 ([(ByteArray.mk #[115,101,114,118,101,114]),(ByteArray.mk #[97]),(ByteArray.mk #[120,46,49])])) 9) 3)).1) (Int.toNat 0) (dwdG (dnext (ls7N (dnext ((lk0 (dval (dnext (dwdGN y50000 ([(ByteArray.mk #[115,101,114,118,101,114]),(ByteArray.mk #[97]),(ByteArray.mk #[120,46,49])])) 9) 3).toNat ([(dwdG y50000 ([(ByteArray.mk #[115,101,114,118,101,114]),(ByteArray.mk #[97]),(ByteArray.mk #[120,46,49])]))]) (dnext (dnext (dwdGN y50000 ([(ByteArray.mk #[115,101,114,118,101,114]),(ByteArray.mk #[97]),(ByteArray.mk #[120,46,49])])) 9) 3)).2) 3) (isub .i64 (x1) 1)) 24) ([(ByteArray.mk #[]),(ByteArray.mk #[97,32,98]),(ByteArray.mk #[34])]))),(true,((List.map Blk.of (ls7F (dnext ((lk0 (dval (dnext (dwdGN y50000 ([(ByteArray.mk #[115,101,114,118,101,114]),(ByteArray.mk #[97]),(ByteArray.mk #[120,46,49])])) 9) 3).toNat ([(dwdG y50000 ([(ByteArray.mk #[115,101,114,118,101,114]),(ByteArray.mk #[97]),(ByteArray.mk #[120,46,49])]))]) (dnext (dnext (dwdGN y50000 ([(ByteArray.mk #[115,101,114,118,101,114]),(ByteArray.mk #[97]),(ByteArray.mk #[120,46,49])])) 9) 3)).2) 3) (isub .i64 (x1) 1))),(((dval (dwdGN y50000 ([(ByteArray.mk #[115,101,114,118,101,114]),(ByteArray.mk #[97]),(ByteArray.mk #[120,46,49])])) 9)),()))))])) (dwdGN (dnext (ls7N (dnext ((lk0 (dval (dnext (dwdGN y50000 ([(ByteArray.mk #[115,101,114,118,101,114]),(ByteArray.mk #[97]),(ByteArray.mk #[120,46,49])])) 9) 3).toNat ([(dwdG y50000 ([(ByteArray.mk #[115,101,114,118,101,114]),(ByteArray.mk #[97]),(ByteArray.mk #[120,46,49])]))]) (dnext (dnext (dwdGN y50000 ([(ByteArray.mk #[115,101,114,118,101,114]),(ByteArray.mk #[97]),(ByteArray.mk #[120,46,49])])) 9) 3)).2) 3) (isub .i64 (x1) 1)) 24) ([(ByteArray.mk #[]),(ByteArray.mk #[97,32,98]),(ByteArray.mk #[34])])))
                 (none))
                (none))
               (none))
              (none))
             (br ((ieq (dval (ls7N (dnext ((lk0 (dval (dnext (dwdGN y50000 ([(ByteArray.mk #[115,101,114,118,101,114]),(ByteArray.mk #[97]),(ByteArray.mk #[120,46,49])])) 9) 3).toNat ([(dwdG y50000 ([(ByteArray.mk #[115,101,114,118,101,114]),(ByteArray.mk #[97]),(ByteArray.mk #[120,46,49])]))]) (dnext (dnext (dwdGN y50000 ([(ByteArray.mk #[115,101,114,118,101,114]),(ByteArray.mk #[97]),(ByteArray.mk #[120,46,49])])) 9) 3)).2) 3) (isub .i64 (x1) 1)) 24) 2))
              (br ((wdGOk (dnext (ls7N (dnext ((lk0 (dval (dnext (dwdGN y50000 ([(ByteArray.mk #[115,101,114,118,101,114]),(ByteArray.mk #[97]),(ByteArray.mk #[120,46,49])])) 9) 3).toNat ([(dwdG y50000 ([(ByteArray.mk #[115,101,114,118,101,114]),(ByteArray.mk #[97]),(ByteArray.mk #[120,46,49])]))]) (dnext (dnext (dwdGN y50000 ([(ByteArray.mk #[115,101,114,118,101,114]),(ByteArray.mk #[97]),(ByteArray.mk #[120,46,49])])) 9) 3)).2) 3) (isub .i64 (x1) 1)) 24) ([(ByteArray.mk #[97,10,98]),(ByteArray.mk #[127])])))
               (br (cApp ((lk0 (dval (dnext (dwdGN y50000 ([(ByteArray.mk #[115,101,114,118,101,114]),(ByteArray.mk #[97]),(ByteArray.mk #[120,46,49])])) 9) 3).toNat ([(dwdG y50000 ([(ByteArray.mk #[115,101,114,118,101,114]),(ByteArray.mk #[97]),(ByteArray.mk #[120,46,49])]))]) (dnext (dnext (dwdGN y50000 ([(ByteArray.mk #[115,101,114,118,101,114]),(ByteArray.mk #[97]),(ByteArray.mk #[120,46,49])])) 9) 3)).1) ([(dwdG (dnext (ls7N (dnext ((lk0 (dval (dnext (dwdGN y50000 ([(ByteArray.mk #[115,101,114,118,101,114]),(ByteArray.mk #[97]),(ByteArray.mk #[120,46,49])])) 9) 3).toNat ([(dwdG y50000 ([(ByteArray.mk #[115,101,114,118,101,114]),(ByteArray.mk #[97]),(ByteArray.mk #[120,46,49])]))]) (dnext (dnext (dwdGN y50000 ([(ByteArray.mk #[115,101,114,118,101,114]),(ByteArray.mk #[97]),(ByteArray.mk #[120,46,49])])) 9) 3)).2) 3) (isub .i64 (x1) 1)) 24) ([(ByteArray.mk #[97,10,98]),(ByteArray.mk #[127])]))]) 16)
                (br (cApp (y5) ([((((lk0 (dval (dnext (dwdGN y50000 ([(ByteArray.mk #[115,101,114,118,101,114]),(ByteArray.mk #[97]),(ByteArray.mk #[120,46,49])])) 9) 3).toNat ([(dwdG y50000 ([(ByteArray.mk #[115,101,114,118,101,114]),(ByteArray.mk #[97]),(ByteArray.mk #[120,46,49])]))]) (dnext (dnext (dwdGN y50000 ([(ByteArray.mk #[115,101,114,118,101,114]),(ByteArray.mk #[97]),(ByteArray.mk #[120,46,49])])) 9) 3)).1)++([(dwdG (dnext (ls7N (dnext ((lk0 (dval (dnext (dwdGN y50000 ([(ByteArray.mk #[115,101,114,118,101,114]),(ByteArray.mk #[97]),(ByteArray.mk #[120,46,49])])) 9) 3).toNat ([(dwdG y50000 ([(ByteArray.mk #[115,101,114,118,101,114]),(ByteArray.mk #[97]),(ByteArray.mk #[120,46,49])]))]) (dnext (dnext (dwdGN y50000 ([(ByteArray.mk #[115,101,114,118,101,114]),(ByteArray.mk #[97]),(ByteArray.mk #[120,46,49])])) 9) 3)).2) 3) (isub .i64 (x1) 1)) 24) ([(ByteArray.mk #[97,10,98]),(ByteArray.mk #[127])]))])),(true,((List.map Blk.of (ls7F (dnext ((lk0 (dval (dnext (dwdGN y50000 ([(ByteArray.mk #[115,101,114,118,101,114]),(ByteArray.mk #[97]),(ByteArray.mk #[120,46,49])])) 9) 3).toNat ([(dwdG y50000 ([(ByteArray.mk #[115,101,114,118,101,114]),(ByteArray.mk #[97]),(ByteArray.mk #[120,46,49])]))]) (dnext (dnext (dwdGN y50000 ([(ByteArray.mk #[115,101,114,118,101,114]),(ByteArray.mk #[97]),(ByteArray.mk #[120,46,49])])) 9) 3)).2) 3) (isub .i64 (x1) 1))),(((dval (dwdGN y50000 ([(ByteArray.mk #[115,101,114,118,101,114]),(ByteArray.mk #[97]),(ByteArray.mk #[120,46,49])])) 9)),()))))]) 64)
                 (lp_f31_1 (x1) (isub .i64 (x6) 1) ((y5)++([((((lk0 (dval (dnext (dwdGN y50000 ([(ByteArray.mk #[115,101,114,118,101,114]),(ByteArray.mk #[97]),(ByteArray.mk #[120,46,49])])) 9) 3).toNat ([(dwdG y50000 ([(ByteArray.mk #[115,101,114,118,101,114]),(ByteArray.mk #[97]),(ByteArray.mk #[120,46,49])]))]) (dnext (dnext (dwdGN y50000 ([(ByteArray.mk #[115,101,114,118,101,114]),(ByteArray.mk #[97]),(ByteArray.mk #[120,46,49])])) 9) 3)).1)++([(dwdG (dnext (ls7N (dnext ((lk0 (dval (dnext (dwdGN y50000 ([(ByteArray.mk #[115,101,114,118,101,114]),(ByteArray.mk #[97]),(ByteArray.mk #[120,46,49])])) 9) 3).toNat ([(dwdG y50000 ([(ByteArray.mk #[115,101,114,118,101,114]),(ByteArray.mk #[97]),(ByteArray.mk #[120,46,49])]))]) (dnext (dnext (dwdGN y50000 ([(ByteArray.mk #[115,101,114,118,101,114]),(ByteArray.mk #[97]),(ByteArray.mk #[120,46,49])])) 9) 3)).2) 3) (isub .i64 (x1) 1)) 24) ([(ByteArray.mk #[97,10,98]),(ByteArray.mk #[127])]))])),(true,((List.map Blk.of (ls7F (dnext ((lk0 (dval (dnext (dwdGN y50000 ([(ByteArray.mk #[115,101,114,118,101,114]),(ByteArray.mk #[97]),(ByteArray.mk #[120,46,49])])) 9) 3).toNat ([(dwdG y50000 ([(ByteArray.mk #[115,101,114,118,101,114]),(ByteArray.mk #[97]),(ByteArray.mk #[120,46,49])]))]) (dnext (dnext (dwdGN y50000 ([(ByteArray.mk #[115,101,114,118,101,114]),(ByteArray.mk #[97]),(ByteArray.mk #[120,46,49])])) 9) 3)).2) 3) (isub .i64 (x1) 1))),(((dval (dwdGN y50000 ([(ByteArray.mk #[115,101,114,118,101,114]),(ByteArray.mk #[97]),(ByteArray.mk #[120,46,49])])) 9)),()))))])) (dwdGN (dnext (ls7N (dnext ((lk0 (dval (dnext (dwdGN y50000 ([(ByteArray.mk #[115,101,114,118,101,114]),(ByteArray.mk #[97]),(ByteArray.mk #[120,46,49])])) 9) 3).toNat ([(dwdG y50000 ([(ByteArray.mk #[115,101,114,118,101,114]),(ByteArray.mk #[97]),(ByteArray.mk #[120,46,49])]))]) (dnext (dnext (dwdGN y50000 ([(ByteArray.mk #[115,101,114,118,101,114]),(ByteArray.mk #[97]),(ByteArray.mk #[120,46,49])])) 9) 3)).2) 3) (isub .i64 (x1) 1)) 24) ([(ByteArray.mk #[97,10,98]),(ByteArray.mk #[127])])))
                 (none))
                (none))
               (none))
              (br ((ieq (dval (ls7N (dnext ((lk0 (dval (dnext (dwdGN y50000 ([(ByteArray.mk #[115,101,114,118,101,114]),(ByteArray.mk #[97]),(ByteArray.mk #[120,46,49])])) 9) 3).toNat ([(dwdG y50000 ([(ByteArray.mk #[115,101,114,118,101,114]),(ByteArray.mk #[97]),(ByteArray.mk #[120,46,49])]))]) (dnext (dnext (dwdGN y50000 ([(ByteArray.mk #[115,101,114,118,101,114]),(ByteArray.mk #[97]),(ByteArray.mk #[120,46,49])])) 9) 3)).2) 3) (isub .i64 (x1) 1)) 24) 3))
               (br (cApp (y5) ([(((lk0 (dval (dnext (dwdGN y50000 ([(ByteArray.mk #[115,101,114,118,101,114]),(ByteArray.mk #[97]),(ByteArray.mk #[120,46,49])])) 9) 3).toNat ([(dwdG y50000 ([(ByteArray.mk #[115,101,114,118,101,114]),(ByteArray.mk #[97]),(ByteArray.mk #[120,46,49])]))]) (dnext (dnext (dwdGN y50000 ([(ByteArray.mk #[115,101,114,118,101,114]),(ByteArray.mk #[97]),(ByteArray.mk #[120,46,49])])) 9) 3)).1),(false,((List.map Blk.of (ls7F (dnext ((lk0 (dval (dnext (dwdGN y50000 ([(ByteArray.mk #[115,101,114,118,101,114]),(ByteArray.mk #[97]),(ByteArray.mk #[120,46,49])])) 9) 3).toNat ([(dwdG y50000 ([(ByteArray.mk #[115,101,114,118,101,114]),(ByteArray.mk #[97]),(ByteArray.mk #[120,46,49])]))]) (dnext (dnext (dwdGN y50000 ([(ByteArray.mk #[115,101,114,118,101,114]),(ByteArray.mk #[97]),(ByteArray.mk #[120,46,49])])) 9) 3)).2) 3) (isub .i64 (x1) 1))),(((dval (dwdGN y50000 ([(ByteArray.mk #[115,101,114,118,101,114]),(ByteArray.mk #[97]),(ByteArray.mk #[120,46,49])])) 9)),()))))]) 64)
                (lp_f31_1 (x1) (isub .i64 (x6) 1) ((y5)++([(((lk0 (dval (dnext (dwdGN y50000 ([(ByteArray.mk #[115,101,114,118,101,114]),(ByteArray.mk #[97]),(ByteArray.mk #[120,46,49])])) 9) 3).toNat ([(dwdG y50000 ([(ByteArray.mk #[115,101,114,118,101,114]),(ByteArray.mk #[97]),(ByteArray.mk #[120,46,49])]))]) (dnext (dnext (dwdGN y50000 ([(ByteArray.mk #[115,101,114,118,101,114]),(ByteArray.mk #[97]),(ByteArray.mk #[120,46,49])])) 9) 3)).1),(false,((List.map Blk.of (ls7F (dnext ((lk0 (dval (dnext (dwdGN y50000 ([(ByteArray.mk #[115,101,114,118,101,114]),(ByteArray.mk #[97]),(ByteArray.mk #[120,46,49])])) 9) 3).toNat ([(dwdG y50000 ([(ByteArray.mk #[115,101,114,118,101,114]),(ByteArray.mk #[97]),(ByteArray.mk #[120,46,49])]))]) (dnext (dnext (dwdGN y50000 ([(ByteArray.mk #[115,101,114,118,101,114]),(ByteArray.mk #[97]),(ByteArray.mk #[120,46,49])])) 9) 3)).2) 3) (isub .i64 (x1) 1))),(((dval (dwdGN y50000 ([(ByteArray.mk #[115,101,114,118,101,114]),(ByteArray.mk #[97]),(ByteArray.mk #[120,46,49])])) 9)),()))))])) (dnext (ls7N (dnext ((lk0 (dval (dnext (dwdGN y50000 ([(ByteArray.mk #[115,101,114,118,101,114]),(ByteArray.mk #[97]),(ByteArray.mk #[120,46,49])])) 9) 3).toNat ([(dwdG y50000 ([(ByteArray.mk #[115,101,114,118,101,114]),(ByteArray.mk #[97]),(ByteArray.mk #[120,46,49])]))]) (dnext (dnext (dwdGN y50000 ([(ByteArray.mk #[115,101,114,118,101,114]),(ByteArray.mk #[97]),(ByteArray.mk #[120,46,49])])) 9) 3)).2) 3) (isub .i64 (x1) 1)) 24))
                (none))
               (br (cApp (y5) ([(((lk0 (dval (dnext (dwdGN y50000 ([(ByteArray.mk #[115,101,114,118,101,114]),(ByteArray.mk #[97]),(ByteArray.mk #[120,46,49])])) 9) 3).toNat ([(dwdG y50000 ([(ByteArray.mk #[115,101,114,118,101,114]),(ByteArray.mk #[97]),(ByteArray.mk #[120,46,49])]))]) (dnext (dnext (dwdGN y50000 ([(ByteArray.mk #[115,101,114,118,101,114]),(ByteArray.mk #[97]),(ByteArray.mk #[120,46,49])])) 9) 3)).1),(true,((List.map Blk.of (ls7F (dnext ((lk0 (dval (dnext (dwdGN y50000 ([(ByteArray.mk #[115,101,114,118,101,114]),(ByteArray.mk #[97]),(ByteArray.mk #[120,46,49])])) 9) 3).toNat ([(dwdG y50000 ([(ByteArray.mk #[115,101,114,118,101,114]),(ByteArray.mk #[97]),(ByteArray.mk #[120,46,49])]))]) (dnext (dnext (dwdGN y50000 ([(ByteArray.mk #[115,101,114,118,101,114]),(ByteArray.mk #[97]),(ByteArray.mk #[120,46,49])])) 9) 3)).2) 3) (isub .i64 (x1) 1))),(((dval (dwdGN y50000 ([(ByteArray.mk #[115,101,114,118,101,114]),(ByteArray.mk #[97]),(ByteArray.mk #[120,46,49])])) 9)),()))))]) 64)
                (lp_f31_1 (x1) (isub .i64 (x6) 1) ((y5)++([(((lk0 (dval (dnext (dwdGN y50000 ([(ByteArray.mk #[115,101,114,118,101,114]),(ByteArray.mk #[97]),(ByteArray.mk #[120,46,49])])) 9) 3).toNat ([(dwdG y50000 ([(ByteArray.mk #[115,101,114,118,101,114]),(ByteArray.mk #[97]),(ByteArray.mk #[120,46,49])]))]) (dnext (dnext (dwdGN y50000 ([(ByteArray.mk #[115,101,114,118,101,114]),(ByteArray.mk #[97]),(ByteArray.mk #[120,46,49])])) 9) 3)).1),(true,((List.map Blk.of (ls7F (dnext ((lk0 (dval (dnext (dwdGN y50000 ([(ByteArray.mk #[115,101,114,118,101,114]),(ByteArray.mk #[97]),(ByteArray.mk #[120,46,49])])) 9) 3).toNat ([(dwdG y50000 ([(ByteArray.mk #[115,101,114,118,101,114]),(ByteArray.mk #[97]),(ByteArray.mk #[120,46,49])]))]) (dnext (dnext (dwdGN y50000 ([(ByteArray.mk #[115,101,114,118,101,114]),(ByteArray.mk #[97]),(ByteArray.mk #[120,46,49])])) 9) 3)).2) 3) (isub .i64 (x1) 1))),(((dval (dwdGN y50000 ([(ByteArray.mk #[115,101,114,118,101,114]),(ByteArray.mk #[97]),(ByteArray.mk #[120,46,49])])) 9)),()))))])) (dnext (ls7N (dnext ((lk0 (dval (dnext (dwdGN y50000 ([(ByteArray.mk #[115,101,114,118,101,114]),(ByteArray.mk #[97]),(ByteArray.mk #[120,46,49])])) 9) 3).toNat ([(dwdG y50000 ([(ByteArray.mk #[115,101,114,118,101,114]),(ByteArray.mk #[97]),(ByteArray.mk #[120,46,49])]))]) (dnext (dnext (dwdGN y50000 ([(ByteArray.mk #[115,101,114,118,101,114]),(ByteArray.mk #[97]),(ByteArray.mk #[120,46,49])])) 9) 3)).2) 3) (isub .i64 (x1) 1)) 24))
                (none))))))
           (none))
          (none))
         (br ((nextOk (dnext ((lk0 (dval (dnext (dwdGN y50000 ([(ByteArray.mk #[115,101,114,118,101,114]),(ByteArray.mk #[97]),(ByteArray.mk #[120,46,49])])) 9) 3).toNat ([(dwdG y50000 ([(ByteArray.mk #[115,101,114,118,101,114]),(ByteArray.mk #[97]),(ByteArray.mk #[120,46,49])]))]) (dnext (dnext (dwdGN y50000 ([(ByteArray.mk #[115,101,114,118,101,114]),(ByteArray.mk #[97]),(ByteArray.mk #[120,46,49])])) 9) 3)).2) 3) 24))
          (br ((ieq (dval (dnext ((lk0 (dval (dnext (dwdGN y50000 ([(ByteArray.mk #[115,101,114,118,101,114]),(ByteArray.mk #[97]),(ByteArray.mk #[120,46,49])])) 9) 3).toNat ([(dwdG y50000 ([(ByteArray.mk #[115,101,114,118,101,114]),(ByteArray.mk #[97]),(ByteArray.mk #[120,46,49])]))]) (dnext (dnext (dwdGN y50000 ([(ByteArray.mk #[115,101,114,118,101,114]),(ByteArray.mk #[97]),(ByteArray.mk #[120,46,49])])) 9) 3)).2) 3) 24) 0))
           (br (cApp (y5) ([(([]:List ByteArray),((false),(([]:List Blk),(((dval (dwdGN y50000 ([(ByteArray.mk #[115,101,114,118,101,114]),(ByteArray.mk #[97]),(ByteArray.mk #[120,46,49])])) 9)),()))))]) 64)
            (lp_f31_1 (x1) (isub .i64 (x6) 1) ((y5)++([(([]:List ByteArray),((false),(([]:List Blk),(((dval (dwdGN y50000 ([(ByteArray.mk #[115,101,114,118,101,114]),(ByteArray.mk #[97]),(ByteArray.mk #[120,46,49])])) 9)),()))))])) (dnext (dnext ((lk0 (dval (dnext (dwdGN y50000 ([(ByteArray.mk #[115,101,114,118,101,114]),(ByteArray.mk #[97]),(ByteArray.mk #[120,46,49])])) 9) 3).toNat ([(dwdG y50000 ([(ByteArray.mk #[115,101,114,118,101,114]),(ByteArray.mk #[97]),(ByteArray.mk #[120,46,49])]))]) (dnext (dnext (dwdGN y50000 ([(ByteArray.mk #[115,101,114,118,101,114]),(ByteArray.mk #[97]),(ByteArray.mk #[120,46,49])])) 9) 3)).2) 3) 24))
            (none))
           (br ((ieq (dval (dnext ((lk0 (dval (dnext (dwdGN y50000 ([(ByteArray.mk #[115,101,114,118,101,114]),(ByteArray.mk #[97]),(ByteArray.mk #[120,46,49])])) 9) 3).toNat ([(dwdG y50000 ([(ByteArray.mk #[115,101,114,118,101,114]),(ByteArray.mk #[97]),(ByteArray.mk #[120,46,49])]))]) (dnext (dnext (dwdGN y50000 ([(ByteArray.mk #[115,101,114,118,101,114]),(ByteArray.mk #[97]),(ByteArray.mk #[120,46,49])])) 9) 3)).2) 3) 24) 1))
            (br ((wdGOk (dnext (dnext ((lk0 (dval (dnext (dwdGN y50000 ([(ByteArray.mk #[115,101,114,118,101,114]),(ByteArray.mk #[97]),(ByteArray.mk #[120,46,49])])) 9) 3).toNat ([(dwdG y50000 ([(ByteArray.mk #[115,101,114,118,101,114]),(ByteArray.mk #[97]),(ByteArray.mk #[120,46,49])]))]) (dnext (dnext (dwdGN y50000 ([(ByteArray.mk #[115,101,114,118,101,114]),(ByteArray.mk #[97]),(ByteArray.mk #[120,46,49])])) 9) 3)).2) 3) 24) ([(ByteArray.mk #[]),(ByteArray.mk #[97,32,98]),(ByteArray.mk #[34])])))
             (br (cIx ((lk0 (dval (dnext (dwdGN y50000 ([(ByteArray.mk #[115,101,114,118,101,114]),(ByteArray.mk #[97]),(ByteArray.mk #[120,46,49])])) 9) 3).toNat ([(dwdG y50000 ([(ByteArray.mk #[115,101,114,118,101,114]),(ByteArray.mk #[97]),(ByteArray.mk #[120,46,49])]))]) (dnext (dnext (dwdGN y50000 ([(ByteArray.mk #[115,101,114,118,101,114]),(ByteArray.mk #[97]),(ByteArray.mk #[120,46,49])])) 9) 3)).1) 0)
              (br (cLd ((lk0 (dval (dnext (dwdGN y50000 ([(ByteArray.mk #[115,101,114,118,101,114]),(ByteArray.mk #[97]),(ByteArray.mk #[120,46,49])])) 9) 3).toNat ([(dwdG y50000 ([(ByteArray.mk #[115,101,114,118,101,114]),(ByteArray.mk #[97]),(ByteArray.mk #[120,46,49])]))]) (dnext (dnext (dwdGN y50000 ([(ByteArray.mk #[115,101,114,118,101,114]),(ByteArray.mk #[97]),(ByteArray.mk #[120,46,49])])) 9) 3)).1) (Int.toNat 0))
               (br (cApp (y5) ([((List.set ((lk0 (dval (dnext (dwdGN y50000 ([(ByteArray.mk #[115,101,114,118,101,114]),(ByteArray.mk #[97]),(ByteArray.mk #[120,46,49])])) 9) 3).toNat ([(dwdG y50000 ([(ByteArray.mk #[115,101,114,118,101,114]),(ByteArray.mk #[97]),(ByteArray.mk #[120,46,49])]))]) (dnext (dnext (dwdGN y50000 ([(ByteArray.mk #[115,101,114,118,101,114]),(ByteArray.mk #[97]),(ByteArray.mk #[120,46,49])])) 9) 3)).1) (Int.toNat 0) (dwdG (dnext (dnext ((lk0 (dval (dnext (dwdGN y50000 ([(ByteArray.mk #[115,101,114,118,101,114]),(ByteArray.mk #[97]),(ByteArray.mk #[120,46,49])])) 9) 3).toNat ([(dwdG y50000 ([(ByteArray.mk #[115,101,114,118,101,114]),(ByteArray.mk #[97]),(ByteArray.mk #[120,46,49])]))]) (dnext (dnext (dwdGN y50000 ([(ByteArray.mk #[115,101,114,118,101,114]),(ByteArray.mk #[97]),(ByteArray.mk #[120,46,49])])) 9) 3)).2) 3) 24) ([(ByteArray.mk #[]),(ByteArray.mk #[97,32,98]),(ByteArray.mk #[34])]))),((false),(([]:List Blk),(((dval (dwdGN y50000 ([(ByteArray.mk #[115,101,114,118,101,114]),(ByteArray.mk #[97]),(ByteArray.mk #[120,46,49])])) 9)),()))))]) 64)
                (lp_f31_1 (x1) (isub .i64 (x6) 1) ((y5)++([((List.set ((lk0 (dval (dnext (dwdGN y50000 ([(ByteArray.mk #[115,101,114,118,101,114]),(ByteArray.mk #[97]),(ByteArray.mk #[120,46,49])])) 9) 3).toNat ([(dwdG y50000 ([(ByteArray.mk #[115,101,114,118,101,114]),(ByteArray.mk #[97]),(ByteArray.mk #[120,46,49])]))]) (dnext (dnext (dwdGN y50000 ([(ByteArray.mk #[115,101,114,118,101,114]),(ByteArray.mk #[97]),(ByteArray.mk #[120,46,49])])) 9) 3)).1) (Int.toNat 0) (dwdG (dnext (dnext ((lk0 (dval (dnext (dwdGN y50000 ([(ByteArray.mk #[115,101,114,118,101,114]),(ByteArray.mk #[97]),(ByteArray.mk #[120,46,49])])) 9) 3).toNat ([(dwdG y50000 ([(ByteArray.mk #[115,101,114,118,101,114]),(ByteArray.mk #[97]),(ByteArray.mk #[120,46,49])]))]) (dnext (dnext (dwdGN y50000 ([(ByteArray.mk #[115,101,114,118,101,114]),(ByteArray.mk #[97]),(ByteArray.mk #[120,46,49])])) 9) 3)).2) 3) 24) ([(ByteArray.mk #[]),(ByteArray.mk #[97,32,98]),(ByteArray.mk #[34])]))),((false),(([]:List Blk),(((dval (dwdGN y50000 ([(ByteArray.mk #[115,101,114,118,101,114]),(ByteArray.mk #[97]),(ByteArray.mk #[120,46,49])])) 9)),()))))])) (dwdGN (dnext (dnext ((lk0 (dval (dnext (dwdGN y50000 ([(ByteArray.mk #[115,101,114,118,101,114]),(ByteArray.mk #[97]),(ByteArray.mk #[120,46,49])])) 9) 3).toNat ([(dwdG y50000 ([(ByteArray.mk #[115,101,114,118,101,114]),(ByteArray.mk #[97]),(ByteArray.mk #[120,46,49])]))]) (dnext (dnext (dwdGN y50000 ([(ByteArray.mk #[115,101,114,118,101,114]),(ByteArray.mk #[97]),(ByteArray.mk #[120,46,49])])) 9) 3)).2) 3) 24) ([(ByteArray.mk #[]),(ByteArray.mk #[97,32,98]),(ByteArray.mk #[34])])))
                (none))
               (none))
              (none))
             (none))
            (br ((ieq (dval (dnext ((lk0 (dval (dnext (dwdGN y50000 ([(ByteArray.mk #[115,101,114,118,101,114]),(ByteArray.mk #[97]),(ByteArray.mk #[120,46,49])])) 9) 3).toNat ([(dwdG y50000 ([(ByteArray.mk #[115,101,114,118,101,114]),(ByteArray.mk #[97]),(ByteArray.mk #[120,46,49])]))]) (dnext (dnext (dwdGN y50000 ([(ByteArray.mk #[115,101,114,118,101,114]),(ByteArray.mk #[97]),(ByteArray.mk #[120,46,49])])) 9) 3)).2) 3) 24) 2))
             (br ((wdGOk (dnext (dnext ((lk0 (dval (dnext (dwdGN y50000 ([(ByteArray.mk #[115,101,114,118,101,114]),(ByteArray.mk #[97]),(ByteArray.mk #[120,46,49])])) 9) 3).toNat ([(dwdG y50000 ([(ByteArray.mk #[115,101,114,118,101,114]),(ByteArray.mk #[97]),(ByteArray.mk #[120,46,49])]))]) (dnext (dnext (dwdGN y50000 ([(ByteArray.mk #[115,101,114,118,101,114]),(ByteArray.mk #[97]),(ByteArray.mk #[120,46,49])])) 9) 3)).2) 3) 24) ([(ByteArray.mk #[97,10,98]),(ByteArray.mk #[127])])))
              (br (cApp ((lk0 (dval (dnext (dwdGN y50000 ([(ByteArray.mk #[115,101,114,118,101,114]),(ByteArray.mk #[97]),(ByteArray.mk #[120,46,49])])) 9) 3).toNat ([(dwdG y50000 ([(ByteArray.mk #[115,101,114,118,101,114]),(ByteArray.mk #[97]),(ByteArray.mk #[120,46,49])]))]) (dnext (dnext (dwdGN y50000 ([(ByteArray.mk #[115,101,114,118,101,114]),(ByteArray.mk #[97]),(ByteArray.mk #[120,46,49])])) 9) 3)).1) ([(dwdG (dnext (dnext ((lk0 (dval (dnext (dwdGN y50000 ([(ByteArray.mk #[115,101,114,118,101,114]),(ByteArray.mk #[97]),(ByteArray.mk #[120,46,49])])) 9) 3).toNat ([(dwdG y50000 ([(ByteArray.mk #[115,101,114,118,101,114]),(ByteArray.mk #[97]),(ByteArray.mk #[120,46,49])]))]) (dnext (dnext (dwdGN y50000 ([(ByteArray.mk #[115,101,114,118,101,114]),(ByteArray.mk #[97]),(ByteArray.mk #[120,46,49])])) 9) 3)).2) 3) 24) ([(ByteArray.mk #[97,10,98]),(ByteArray.mk #[127])]))]) 16)
               (br (cApp (y5) ([((((lk0 (dval (dnext (dwdGN y50000 ([(ByteArray.mk #[115,101,114,118,101,114]),(ByteArray.mk #[97]),(ByteArray.mk #[120,46,49])])) 9) 3).toNat ([(dwdG y50000 ([(ByteArray.mk #[115,101,114,118,101,114]),(ByteArray.mk #[97]),(ByteArray.mk #[120,46,49])]))]) (dnext (dnext (dwdGN y50000 ([(ByteArray.mk #[115,101,114,118,101,114]),(ByteArray.mk #[97]),(ByteArray.mk #[120,46,49])])) 9) 3)).1)++([(dwdG (dnext (dnext ((lk0 (dval (dnext (dwdGN y50000 ([(ByteArray.mk #[115,101,114,118,101,114]),(ByteArray.mk #[97]),(ByteArray.mk #[120,46,49])])) 9) 3).toNat ([(dwdG y50000 ([(ByteArray.mk #[115,101,114,118,101,114]),(ByteArray.mk #[97]),(ByteArray.mk #[120,46,49])]))]) (dnext (dnext (dwdGN y50000 ([(ByteArray.mk #[115,101,114,118,101,114]),(ByteArray.mk #[97]),(ByteArray.mk #[120,46,49])])) 9) 3)).2) 3) 24) ([(ByteArray.mk #[97,10,98]),(ByteArray.mk #[127])]))])),((false),(([]:List Blk),(((dval (dwdGN y50000 ([(ByteArray.mk #[115,101,114,118,101,114]),(ByteArray.mk #[97]),(ByteArray.mk #[120,46,49])])) 9)),()))))]) 64)
                (lp_f31_1 (x1) (isub .i64 (x6) 1) ((y5)++([((((lk0 (dval (dnext (dwdGN y50000 ([(ByteArray.mk #[115,101,114,118,101,114]),(ByteArray.mk #[97]),(ByteArray.mk #[120,46,49])])) 9) 3).toNat ([(dwdG y50000 ([(ByteArray.mk #[115,101,114,118,101,114]),(ByteArray.mk #[97]),(ByteArray.mk #[120,46,49])]))]) (dnext (dnext (dwdGN y50000 ([(ByteArray.mk #[115,101,114,118,101,114]),(ByteArray.mk #[97]),(ByteArray.mk #[120,46,49])])) 9) 3)).1)++([(dwdG (dnext (dnext ((lk0 (dval (dnext (dwdGN y50000 ([(ByteArray.mk #[115,101,114,118,101,114]),(ByteArray.mk #[97]),(ByteArray.mk #[120,46,49])])) 9) 3).toNat ([(dwdG y50000 ([(ByteArray.mk #[115,101,114,118,101,114]),(ByteArray.mk #[97]),(ByteArray.mk #[120,46,49])]))]) (dnext (dnext (dwdGN y50000 ([(ByteArray.mk #[115,101,114,118,101,114]),(ByteArray.mk #[97]),(ByteArray.mk #[120,46,49])])) 9) 3)).2) 3) 24) ([(ByteArray.mk #[97,10,98]),(ByteArray.mk #[127])]))])),((false),(([]:List Blk),(((dval (dwdGN y50000 ([(ByteArray.mk #[115,101,114,118,101,114]),(ByteArray.mk #[97]),(ByteArray.mk #[120,46,49])])) 9)),()))))])) (dwdGN (dnext (dnext ((lk0 (dval (dnext (dwdGN y50000 ([(ByteArray.mk #[115,101,114,118,101,114]),(ByteArray.mk #[97]),(ByteArray.mk #[120,46,49])])) 9) 3).toNat ([(dwdG y50000 ([(ByteArray.mk #[115,101,114,118,101,114]),(ByteArray.mk #[97]),(ByteArray.mk #[120,46,49])]))]) (dnext (dnext (dwdGN y50000 ([(ByteArray.mk #[115,101,114,118,101,114]),(ByteArray.mk #[97]),(ByteArray.mk #[120,46,49])])) 9) 3)).2) 3) 24) ([(ByteArray.mk #[97,10,98]),(ByteArray.mk #[127])])))
                (none))
               (none))
              (none))
             (br ((ieq (dval (dnext ((lk0 (dval (dnext (dwdGN y50000 ([(ByteArray.mk #[115,101,114,118,101,114]),(ByteArray.mk #[97]),(ByteArray.mk #[120,46,49])])) 9) 3).toNat ([(dwdG y50000 ([(ByteArray.mk #[115,101,114,118,101,114]),(ByteArray.mk #[97]),(ByteArray.mk #[120,46,49])]))]) (dnext (dnext (dwdGN y50000 ([(ByteArray.mk #[115,101,114,118,101,114]),(ByteArray.mk #[97]),(ByteArray.mk #[120,46,49])])) 9) 3)).2) 3) 24) 3))
              (br (cApp (y5) ([(((lk0 (dval (dnext (dwdGN y50000 ([(ByteArray.mk #[115,101,114,118,101,114]),(ByteArray.mk #[97]),(ByteArray.mk #[120,46,49])])) 9) 3).toNat ([(dwdG y50000 ([(ByteArray.mk #[115,101,114,118,101,114]),(ByteArray.mk #[97]),(ByteArray.mk #[120,46,49])]))]) (dnext (dnext (dwdGN y50000 ([(ByteArray.mk #[115,101,114,118,101,114]),(ByteArray.mk #[97]),(ByteArray.mk #[120,46,49])])) 9) 3)).1),(false,(([]:List Blk),(((dval (dwdGN y50000 ([(ByteArray.mk #[115,101,114,118,101,114]),(ByteArray.mk #[97]),(ByteArray.mk #[120,46,49])])) 9)),()))))]) 64)
               (lp_f31_1 (x1) (isub .i64 (x6) 1) ((y5)++([(((lk0 (dval (dnext (dwdGN y50000 ([(ByteArray.mk #[115,101,114,118,101,114]),(ByteArray.mk #[97]),(ByteArray.mk #[120,46,49])])) 9) 3).toNat ([(dwdG y50000 ([(ByteArray.mk #[115,101,114,118,101,114]),(ByteArray.mk #[97]),(ByteArray.mk #[120,46,49])]))]) (dnext (dnext (dwdGN y50000 ([(ByteArray.mk #[115,101,114,118,101,114]),(ByteArray.mk #[97]),(ByteArray.mk #[120,46,49])])) 9) 3)).1),(false,(([]:List Blk),(((dval (dwdGN y50000 ([(ByteArray.mk #[115,101,114,118,101,114]),(ByteArray.mk #[97]),(ByteArray.mk #[120,46,49])])) 9)),()))))])) (dnext (dnext ((lk0 (dval (dnext (dwdGN y50000 ([(ByteArray.mk #[115,101,114,118,101,114]),(ByteArray.mk #[97]),(ByteArray.mk #[120,46,49])])) 9) 3).toNat ([(dwdG y50000 ([(ByteArray.mk #[115,101,114,118,101,114]),(ByteArray.mk #[97]),(ByteArray.mk #[120,46,49])]))]) (dnext (dnext (dwdGN y50000 ([(ByteArray.mk #[115,101,114,118,101,114]),(ByteArray.mk #[97]),(ByteArray.mk #[120,46,49])])) 9) 3)).2) 3) 24))
               (none))
              (br (cApp (y5) ([(((lk0 (dval (dnext (dwdGN y50000 ([(ByteArray.mk #[115,101,114,118,101,114]),(ByteArray.mk #[97]),(ByteArray.mk #[120,46,49])])) 9) 3).toNat ([(dwdG y50000 ([(ByteArray.mk #[115,101,114,118,101,114]),(ByteArray.mk #[97]),(ByteArray.mk #[120,46,49])]))]) (dnext (dnext (dwdGN y50000 ([(ByteArray.mk #[115,101,114,118,101,114]),(ByteArray.mk #[97]),(ByteArray.mk #[120,46,49])])) 9) 3)).1),((false),(([]:List Blk),(((dval (dwdGN y50000 ([(ByteArray.mk #[115,101,114,118,101,114]),(ByteArray.mk #[97]),(ByteArray.mk #[120,46,49])])) 9)),()))))]) 64)
               (lp_f31_1 (x1) (isub .i64 (x6) 1) ((y5)++([(((lk0 (dval (dnext (dwdGN y50000 ([(ByteArray.mk #[115,101,114,118,101,114]),(ByteArray.mk #[97]),(ByteArray.mk #[120,46,49])])) 9) 3).toNat ([(dwdG y50000 ([(ByteArray.mk #[115,101,114,118,101,114]),(ByteArray.mk #[97]),(ByteArray.mk #[120,46,49])]))]) (dnext (dnext (dwdGN y50000 ([(ByteArray.mk #[115,101,114,118,101,114]),(ByteArray.mk #[97]),(ByteArray.mk #[120,46,49])])) 9) 3)).1),((false),(([]:List Blk),(((dval (dwdGN y50000 ([(ByteArray.mk #[115,101,114,118,101,114]),(ByteArray.mk #[97]),(ByteArray.mk #[120,46,49])])) 9)),()))))])) (dnext (dnext ((lk0 (dval (dnext (dwdGN y50000 ([(ByteArray.mk #[115,101,114,118,101,114]),(ByteArray.mk #[97]),(ByteArray.mk #[120,46,49])])) 9) 3).toNat ([(dwdG y50000 ([(ByteArray.mk #[115,101,114,118,101,114]),(ByteArray.mk #[97]),(ByteArray.mk #[120,46,49])]))]) (dnext (dnext (dwdGN y50000 ([(ByteArray.mk #[115,101,114,118,101,114]),(ByteArray.mk #[97]),(ByteArray.mk #[120,46,49])])) 9) 3)).2) 3) 24))
               (none))))))
          (none)))
        (none))
       (br ((nextOk ((lk0 (dval (dnext (dwdGN y50000 ([(ByteArray.mk #[115,101,114,118,101,114]),(ByteArray.mk #[97]),(ByteArray.mk #[120,46,49])])) 9) 3).toNat ([(dwdG y50000 ([(ByteArray.mk #[115,101,114,118,101,114]),(ByteArray.mk #[97]),(ByteArray.mk #[120,46,49])]))]) (dnext (dnext (dwdGN y50000 ([(ByteArray.mk #[115,101,114,118,101,114]),(ByteArray.mk #[97]),(ByteArray.mk #[120,46,49])])) 9) 3)).2) 24))
        (br ((ieq (dval ((lk0 (dval (dnext (dwdGN y50000 ([(ByteArray.mk #[115,101,114,118,101,114]),(ByteArray.mk #[97]),(ByteArray.mk #[120,46,49])])) 9) 3).toNat ([(dwdG y50000 ([(ByteArray.mk #[115,101,114,118,101,114]),(ByteArray.mk #[97]),(ByteArray.mk #[120,46,49])]))]) (dnext (dnext (dwdGN y50000 ([(ByteArray.mk #[115,101,114,118,101,114]),(ByteArray.mk #[97]),(ByteArray.mk #[120,46,49])])) 9) 3)).2) 24) 0))
         (br (cApp (y5) ([(([]:List ByteArray),((false),(([]:List Blk),(((dval (dwdGN y50000 ([(ByteArray.mk #[115,101,114,118,101,114]),(ByteArray.mk #[97]),(ByteArray.mk #[120,46,49])])) 9)),()))))]) 64)
          (lp_f31_1 (x1) (isub .i64 (x6) 1) ((y5)++([(([]:List ByteArray),((false),(([]:List Blk),(((dval (dwdGN y50000 ([(ByteArray.mk #[115,101,114,118,101,114]),(ByteArray.mk #[97]),(ByteArray.mk #[120,46,49])])) 9)),()))))])) (dnext ((lk0 (dval (dnext (dwdGN y50000 ([(ByteArray.mk #[115,101,114,118,101,114]),(ByteArray.mk #[97]),(ByteArray.mk #[120,46,49])])) 9) 3).toNat ([(dwdG y50000 ([(ByteArray.mk #[115,101,114,118,101,114]),(ByteArray.mk #[97]),(ByteArray.mk #[120,46,49])]))]) (dnext (dnext (dwdGN y50000 ([(ByteArray.mk #[115,101,114,118,101,114]),(ByteArray.mk #[97]),(ByteArray.mk #[120,46,49])])) 9) 3)).2) 24))
          (none))
         (br ((ieq (dval ((lk0 (dval (dnext (dwdGN y50000 ([(ByteArray.mk #[115,101,114,118,101,114]),(ByteArray.mk #[97]),(ByteArray.mk #[120,46,49])])) 9) 3).toNat ([(dwdG y50000 ([(ByteArray.mk #[115,101,114,118,101,114]),(ByteArray.mk #[97]),(ByteArray.mk #[120,46,49])]))]) (dnext (dnext (dwdGN y50000 ([(ByteArray.mk #[115,101,114,118,101,114]),(ByteArray.mk #[97]),(ByteArray.mk #[120,46,49])])) 9) 3)).2) 24) 1))
          (br ((wdGOk (dnext ((lk0 (dval (dnext (dwdGN y50000 ([(ByteArray.mk #[115,101,114,118,101,114]),(ByteArray.mk #[97]),(ByteArray.mk #[120,46,49])])) 9) 3).toNat ([(dwdG y50000 ([(ByteArray.mk #[115,101,114,118,101,114]),(ByteArray.mk #[97]),(ByteArray.mk #[120,46,49])]))]) (dnext (dnext (dwdGN y50000 ([(ByteArray.mk #[115,101,114,118,101,114]),(ByteArray.mk #[97]),(ByteArray.mk #[120,46,49])])) 9) 3)).2) 24) ([(ByteArray.mk #[]),(ByteArray.mk #[97,32,98]),(ByteArray.mk #[34])])))
           (br (cIx ((lk0 (dval (dnext (dwdGN y50000 ([(ByteArray.mk #[115,101,114,118,101,114]),(ByteArray.mk #[97]),(ByteArray.mk #[120,46,49])])) 9) 3).toNat ([(dwdG y50000 ([(ByteArray.mk #[115,101,114,118,101,114]),(ByteArray.mk #[97]),(ByteArray.mk #[120,46,49])]))]) (dnext (dnext (dwdGN y50000 ([(ByteArray.mk #[115,101,114,118,101,114]),(ByteArray.mk #[97]),(ByteArray.mk #[120,46,49])])) 9) 3)).1) 0)
            (br (cLd ((lk0 (dval (dnext (dwdGN y50000 ([(ByteArray.mk #[115,101,114,118,101,114]),(ByteArray.mk #[97]),(ByteArray.mk #[120,46,49])])) 9) 3).toNat ([(dwdG y50000 ([(ByteArray.mk #[115,101,114,118,101,114]),(ByteArray.mk #[97]),(ByteArray.mk #[120,46,49])]))]) (dnext (dnext (dwdGN y50000 ([(ByteArray.mk #[115,101,114,118,101,114]),(ByteArray.mk #[97]),(ByteArray.mk #[120,46,49])])) 9) 3)).1) (Int.toNat 0))
             (br (cApp (y5) ([((List.set ((lk0 (dval (dnext (dwdGN y50000 ([(ByteArray.mk #[115,101,114,118,101,114]),(ByteArray.mk #[97]),(ByteArray.mk #[120,46,49])])) 9) 3).toNat ([(dwdG y50000 ([(ByteArray.mk #[115,101,114,118,101,114]),(ByteArray.mk #[97]),(ByteArray.mk #[120,46,49])]))]) (dnext (dnext (dwdGN y50000 ([(ByteArray.mk #[115,101,114,118,101,114]),(ByteArray.mk #[97]),(ByteArray.mk #[120,46,49])])) 9) 3)).1) (Int.toNat 0) (dwdG (dnext ((lk0 (dval (dnext (dwdGN y50000 ([(ByteArray.mk #[115,101,114,118,101,114]),(ByteArray.mk #[97]),(ByteArray.mk #[120,46,49])])) 9) 3).toNat ([(dwdG y50000 ([(ByteArray.mk #[115,101,114,118,101,114]),(ByteArray.mk #[97]),(ByteArray.mk #[120,46,49])]))]) (dnext (dnext (dwdGN y50000 ([(ByteArray.mk #[115,101,114,118,101,114]),(ByteArray.mk #[97]),(ByteArray.mk #[120,46,49])])) 9) 3)).2) 24) ([(ByteArray.mk #[]),(ByteArray.mk #[97,32,98]),(ByteArray.mk #[34])]))),((false),(([]:List Blk),(((dval (dwdGN y50000 ([(ByteArray.mk #[115,101,114,118,101,114]),(ByteArray.mk #[97]),(ByteArray.mk #[120,46,49])])) 9)),()))))]) 64)
              (lp_f31_1 (x1) (isub .i64 (x6) 1) ((y5)++([((List.set ((lk0 (dval (dnext (dwdGN y50000 ([(ByteArray.mk #[115,101,114,118,101,114]),(ByteArray.mk #[97]),(ByteArray.mk #[120,46,49])])) 9) 3).toNat ([(dwdG y50000 ([(ByteArray.mk #[115,101,114,118,101,114]),(ByteArray.mk #[97]),(ByteArray.mk #[120,46,49])]))]) (dnext (dnext (dwdGN y50000 ([(ByteArray.mk #[115,101,114,118,101,114]),(ByteArray.mk #[97]),(ByteArray.mk #[120,46,49])])) 9) 3)).1) (Int.toNat 0) (dwdG (dnext ((lk0 (dval (dnext (dwdGN y50000 ([(ByteArray.mk #[115,101,114,118,101,114]),(ByteArray.mk #[97]),(ByteArray.mk #[120,46,49])])) 9) 3).toNat ([(dwdG y50000 ([(ByteArray.mk #[115,101,114,118,101,114]),(ByteArray.mk #[97]),(ByteArray.mk #[120,46,49])]))]) (dnext (dnext (dwdGN y50000 ([(ByteArray.mk #[115,101,114,118,101,114]),(ByteArray.mk #[97]),(ByteArray.mk #[120,46,49])])) 9) 3)).2) 24) ([(ByteArray.mk #[]),(ByteArray.mk #[97,32,98]),(ByteArray.mk #[34])]))),((false),(([]:List Blk),(((dval (dwdGN y50000 ([(ByteArray.mk #[115,101,114,118,101,114]),(ByteArray.mk #[97]),(ByteArray.mk #[120,46,49])])) 9)),()))))])) (dwdGN (dnext ((lk0 (dval (dnext (dwdGN y50000 ([(ByteArray.mk #[115,101,114,118,101,114]),(ByteArray.mk #[97]),(ByteArray.mk #[120,46,49])])) 9) 3).toNat ([(dwdG y50000 ([(ByteArray.mk #[115,101,114,118,101,114]),(ByteArray.mk #[97]),(ByteArray.mk #[120,46,49])]))]) (dnext (dnext (dwdGN y50000 ([(ByteArray.mk #[115,101,114,118,101,114]),(ByteArray.mk #[97]),(ByteArray.mk #[120,46,49])])) 9) 3)).2) 24) ([(ByteArray.mk #[]),(ByteArray.mk #[97,32,98]),(ByteArray.mk #[34])])))
              (none))
             (none))
            (none))
           (none))
          (br ((ieq (dval ((lk0 (dval (dnext (dwdGN y50000 ([(ByteArray.mk #[115,101,114,118,101,114]),(ByteArray.mk #[97]),(ByteArray.mk #[120,46,49])])) 9) 3).toNat ([(dwdG y50000 ([(ByteArray.mk #[115,101,114,118,101,114]),(ByteArray.mk #[97]),(ByteArray.mk #[120,46,49])]))]) (dnext (dnext (dwdGN y50000 ([(ByteArray.mk #[115,101,114,118,101,114]),(ByteArray.mk #[97]),(ByteArray.mk #[120,46,49])])) 9) 3)).2) 24) 2))
           (br ((wdGOk (dnext ((lk0 (dval (dnext (dwdGN y50000 ([(ByteArray.mk #[115,101,114,118,101,114]),(ByteArray.mk #[97]),(ByteArray.mk #[120,46,49])])) 9) 3).toNat ([(dwdG y50000 ([(ByteArray.mk #[115,101,114,118,101,114]),(ByteArray.mk #[97]),(ByteArray.mk #[120,46,49])]))]) (dnext (dnext (dwdGN y50000 ([(ByteArray.mk #[115,101,114,118,101,114]),(ByteArray.mk #[97]),(ByteArray.mk #[120,46,49])])) 9) 3)).2) 24) ([(ByteArray.mk #[97,10,98]),(ByteArray.mk #[127])])))
            (br (cApp ((lk0 (dval (dnext (dwdGN y50000 ([(ByteArray.mk #[115,101,114,118,101,114]),(ByteArray.mk #[97]),(ByteArray.mk #[120,46,49])])) 9) 3).toNat ([(dwdG y50000 ([(ByteArray.mk #[115,101,114,118,101,114]),(ByteArray.mk #[97]),(ByteArray.mk #[120,46,49])]))]) (dnext (dnext (dwdGN y50000 ([(ByteArray.mk #[115,101,114,118,101,114]),(ByteArray.mk #[97]),(ByteArray.mk #[120,46,49])])) 9) 3)).1) ([(dwdG (dnext ((lk0 (dval (dnext (dwdGN y50000 ([(ByteArray.mk #[115,101,114,118,101,114]),(ByteArray.mk #[97]),(ByteArray.mk #[120,46,49])])) 9) 3).toNat ([(dwdG y50000 ([(ByteArray.mk #[115,101,114,118,101,114]),(ByteArray.mk #[97]),(ByteArray.mk #[120,46,49])]))]) (dnext (dnext (dwdGN y50000 ([(ByteArray.mk #[115,101,114,118,101,114]),(ByteArray.mk #[97]),(ByteArray.mk #[120,46,49])])) 9) 3)).2) 24) ([(ByteArray.mk #[97,10,98]),(ByteArray.mk #[127])]))]) 16)
             (br (cApp (y5) ([((((lk0 (dval (dnext (dwdGN y50000 ([(ByteArray.mk #[115,101,114,118,101,114]),(ByteArray.mk #[97]),(ByteArray.mk #[120,46,49])])) 9) 3).toNat ([(dwdG y50000 ([(ByteArray.mk #[115,101,114,118,101,114]),(ByteArray.mk #[97]),(ByteArray.mk #[120,46,49])]))]) (dnext (dnext (dwdGN y50000 ([(ByteArray.mk #[115,101,114,118,101,114]),(ByteArray.mk #[97]),(ByteArray.mk #[120,46,49])])) 9) 3)).1)++([(dwdG (dnext ((lk0 (dval (dnext (dwdGN y50000 ([(ByteArray.mk #[115,101,114,118,101,114]),(ByteArray.mk #[97]),(ByteArray.mk #[120,46,49])])) 9) 3).toNat ([(dwdG y50000 ([(ByteArray.mk #[115,101,114,118,101,114]),(ByteArray.mk #[97]),(ByteArray.mk #[120,46,49])]))]) (dnext (dnext (dwdGN y50000 ([(ByteArray.mk #[115,101,114,118,101,114]),(ByteArray.mk #[97]),(ByteArray.mk #[120,46,49])])) 9) 3)).2) 24) ([(ByteArray.mk #[97,10,98]),(ByteArray.mk #[127])]))])),((false),(([]:List Blk),(((dval (dwdGN y50000 ([(ByteArray.mk #[115,101,114,118,101,114]),(ByteArray.mk #[97]),(ByteArray.mk #[120,46,49])])) 9)),()))))]) 64)
              (lp_f31_1 (x1) (isub .i64 (x6) 1) ((y5)++([((((lk0 (dval (dnext (dwdGN y50000 ([(ByteArray.mk #[115,101,114,118,101,114]),(ByteArray.mk #[97]),(ByteArray.mk #[120,46,49])])) 9) 3).toNat ([(dwdG y50000 ([(ByteArray.mk #[115,101,114,118,101,114]),(ByteArray.mk #[97]),(ByteArray.mk #[120,46,49])]))]) (dnext (dnext (dwdGN y50000 ([(ByteArray.mk #[115,101,114,118,101,114]),(ByteArray.mk #[97]),(ByteArray.mk #[120,46,49])])) 9) 3)).1)++([(dwdG (dnext ((lk0 (dval (dnext (dwdGN y50000 ([(ByteArray.mk #[115,101,114,118,101,114]),(ByteArray.mk #[97]),(ByteArray.mk #[120,46,49])])) 9) 3).toNat ([(dwdG y50000 ([(ByteArray.mk #[115,101,114,118,101,114]),(ByteArray.mk #[97]),(ByteArray.mk #[120,46,49])]))]) (dnext (dnext (dwdGN y50000 ([(ByteArray.mk #[115,101,114,118,101,114]),(ByteArray.mk #[97]),(ByteArray.mk #[120,46,49])])) 9) 3)).2) 24) ([(ByteArray.mk #[97,10,98]),(ByteArray.mk #[127])]))])),((false),(([]:List Blk),(((dval (dwdGN y50000 ([(ByteArray.mk #[115,101,114,118,101,114]),(ByteArray.mk #[97]),(ByteArray.mk #[120,46,49])])) 9)),()))))])) (dwdGN (dnext ((lk0 (dval (dnext (dwdGN y50000 ([(ByteArray.mk #[115,101,114,118,101,114]),(ByteArray.mk #[97]),(ByteArray.mk #[120,46,49])])) 9) 3).toNat ([(dwdG y50000 ([(ByteArray.mk #[115,101,114,118,101,114]),(ByteArray.mk #[97]),(ByteArray.mk #[120,46,49])]))]) (dnext (dnext (dwdGN y50000 ([(ByteArray.mk #[115,101,114,118,101,114]),(ByteArray.mk #[97]),(ByteArray.mk #[120,46,49])])) 9) 3)).2) 24) ([(ByteArray.mk #[97,10,98]),(ByteArray.mk #[127])])))
              (none))
             (none))
            (none))
           (br ((ieq (dval ((lk0 (dval (dnext (dwdGN y50000 ([(ByteArray.mk #[115,101,114,118,101,114]),(ByteArray.mk #[97]),(ByteArray.mk #[120,46,49])])) 9) 3).toNat ([(dwdG y50000 ([(ByteArray.mk #[115,101,114,118,101,114]),(ByteArray.mk #[97]),(ByteArray.mk #[120,46,49])]))]) (dnext (dnext (dwdGN y50000 ([(ByteArray.mk #[115,101,114,118,101,114]),(ByteArray.mk #[97]),(ByteArray.mk #[120,46,49])])) 9) 3)).2) 24) 3))
            (br (cApp (y5) ([(((lk0 (dval (dnext (dwdGN y50000 ([(ByteArray.mk #[115,101,114,118,101,114]),(ByteArray.mk #[97]),(ByteArray.mk #[120,46,49])])) 9) 3).toNat ([(dwdG y50000 ([(ByteArray.mk #[115,101,114,118,101,114]),(ByteArray.mk #[97]),(ByteArray.mk #[120,46,49])]))]) (dnext (dnext (dwdGN y50000 ([(ByteArray.mk #[115,101,114,118,101,114]),(ByteArray.mk #[97]),(ByteArray.mk #[120,46,49])])) 9) 3)).1),(false,(([]:List Blk),(((dval (dwdGN y50000 ([(ByteArray.mk #[115,101,114,118,101,114]),(ByteArray.mk #[97]),(ByteArray.mk #[120,46,49])])) 9)),()))))]) 64)
             (lp_f31_1 (x1) (isub .i64 (x6) 1) ((y5)++([(((lk0 (dval (dnext (dwdGN y50000 ([(ByteArray.mk #[115,101,114,118,101,114]),(ByteArray.mk #[97]),(ByteArray.mk #[120,46,49])])) 9) 3).toNat ([(dwdG y50000 ([(ByteArray.mk #[115,101,114,118,101,114]),(ByteArray.mk #[97]),(ByteArray.mk #[120,46,49])]))]) (dnext (dnext (dwdGN y50000 ([(ByteArray.mk #[115,101,114,118,101,114]),(ByteArray.mk #[97]),(ByteArray.mk #[120,46,49])])) 9) 3)).1),(false,(([]:List Blk),(((dval (dwdGN y50000 ([(ByteArray.mk #[115,101,114,118,101,114]),(ByteArray.mk #[97]),(ByteArray.mk #[120,46,49])])) 9)),()))))])) (dnext ((lk0 (dval (dnext (dwdGN y50000 ([(ByteArray.mk #[115,101,114,118,101,114]),(ByteArray.mk #[97]),(ByteArray.mk #[120,46,49])])) 9) 3).toNat ([(dwdG y50000 ([(ByteArray.mk #[115,101,114,118,101,114]),(ByteArray.mk #[97]),(ByteArray.mk #[120,46,49])]))]) (dnext (dnext (dwdGN y50000 ([(ByteArray.mk #[115,101,114,118,101,114]),(ByteArray.mk #[97]),(ByteArray.mk #[120,46,49])])) 9) 3)).2) 24))
             (none))
            (br (cApp (y5) ([(((lk0 (dval (dnext (dwdGN y50000 ([(ByteArray.mk #[115,101,114,118,101,114]),(ByteArray.mk #[97]),(ByteArray.mk #[120,46,49])])) 9) 3).toNat ([(dwdG y50000 ([(ByteArray.mk #[115,101,114,118,101,114]),(ByteArray.mk #[97]),(ByteArray.mk #[120,46,49])]))]) (dnext (dnext (dwdGN y50000 ([(ByteArray.mk #[115,101,114,118,101,114]),(ByteArray.mk #[97]),(ByteArray.mk #[120,46,49])])) 9) 3)).1),((false),(([]:List Blk),(((dval (dwdGN y50000 ([(ByteArray.mk #[115,101,114,118,101,114]),(ByteArray.mk #[97]),(ByteArray.mk #[120,46,49])])) 9)),()))))]) 64)
             (lp_f31_1 (x1) (isub .i64 (x6) 1) ((y5)++([(((lk0 (dval (dnext (dwdGN y50000 ([(ByteArray.mk #[115,101,114,118,101,114]),(ByteArray.mk #[97]),(ByteArray.mk #[120,46,49])])) 9) 3).toNat ([(dwdG y50000 ([(ByteArray.mk #[115,101,114,118,101,114]),(ByteArray.mk #[97]),(ByteArray.mk #[120,46,49])]))]) (dnext (dnext (dwdGN y50000 ([(ByteArray.mk #[115,101,114,118,101,114]),(ByteArray.mk #[97]),(ByteArray.mk #[120,46,49])])) 9) 3)).1),((false),(([]:List Blk),(((dval (dwdGN y50000 ([(ByteArray.mk #[115,101,114,118,101,114]),(ByteArray.mk #[97]),(ByteArray.mk #[120,46,49])])) 9)),()))))])) (dnext ((lk0 (dval (dnext (dwdGN y50000 ([(ByteArray.mk #[115,101,114,118,101,114]),(ByteArray.mk #[97]),(ByteArray.mk #[120,46,49])])) 9) 3).toNat ([(dwdG y50000 ([(ByteArray.mk #[115,101,114,118,101,114]),(ByteArray.mk #[97]),(ByteArray.mk #[120,46,49])]))]) (dnext (dnext (dwdGN y50000 ([(ByteArray.mk #[115,101,114,118,101,114]),(ByteArray.mk #[97]),(ByteArray.mk #[120,46,49])])) 9) 3)).2) 24))
             (none))))))
        (none)))
      (none))
     (none))
    (none))
   (none))
  (some (.exit 0,st_f31_1_e0 y5 y50000))
def la_f31_1 (x1:Int)(x6:Int)(y5:(List BlkT))(y50000:Dice):Option (Exit×VS):=some (.exit 0,st_f31_1_e0 ((lk1 (lsRec x1) (igt x1 0) x6.toNat y5 y50000).1) ((lk1 (lsRec x1) (igt x1 0) x6.toNat y5 y50000).2))
theorem be_f31_1 (x1:Int)(x6:Int)(y5:(List BlkT))(y50000:Dice):roundF g_f31 fg_f31_1 tb_f31_1 (st_f31_1 x1 x6 y5 y50000)=b_f31_1 x1 x6 y5 y50000:=by kernel_rfl
theorem ln_f31_1 (x1:Int)(x6:Int)(y5:(List BlkT))(y50000:Dice):lp_f31_1 x1 x6 y5 y50000=n_f31_1 x1 x6 y5 y50000:=(loopF_nxt _ _).trans (by
 rw [be_f31_1]
 simp only [b_f31_1,n_f31_1,nxt_br,nxt_n,nxt_r,nxt_e,nxt_0]
 rfl)
def r_f31 (d0:Dice)(p1:Int):Option (V×List VO):=
 br ((nextOk d0 4))
  (br ((lb1 p1 (dval d0 4) ([]:List BlkT) (dnext d0 4)))
   (some (.t (.sl tyBlkT) ((lk1 (lsRec p1) (igt p1 0) (dval d0 4).toNat ([]:List BlkT) (dnext d0 4)).1),[.box (.t tyDice ((lk1 (lsRec p1) (igt p1 0) (dval d0 4).toNat ([]:List BlkT) (dnext d0 4)).2))]))
   (none))
  (none)
theorem e_f31 (d0:Dice)(p1:Int):runF g_f31 tc_f31 rv_f31 false [.ptr 50000 0,.t tI p1] [.box (.t tyDice d0)]=r_f31 d0 p1:=by kernel_rfl
theorem ok_f31:Option.map (trC Tryd.prog) Tryd.f31.body=some tc_f31.er:=by kernel_rfl
theorem rok_f31:trVs Tryd.prog Tryd.f31.results.toList=some (rv_f31.map Prod.fst):=by kernel_rfl
theorem gk_f31:GOk Tryd.prog g_f31:=gok_of _ (by
 intro p hp
 simp only [List.mem_cons,List.not_mem_nil,or_false] at hp
 rcases hp with rfl|rfl|rfl|rfl
 ·exact ⟨en_f18,ms_f18⟩
 ·exact ⟨en_f31R,ms_f31R⟩
 ·exact ⟨en_f32,ms_f32⟩
 ·exact ⟨en_f52,ms_f52⟩)
theorem l_f31_0 (x1:Int)(x6:Int)(x8:Int)(y5:(List BlkT))(y7_1:Bool)(y7_3:Int)(y18:(List ByteArray))(y50000:Dice)(h:(lb0 x8 y18 y50000)=true):lp_f31_0 x1 x6 x8 y5 y7_1 y7_3 y18 y50000=la_f31_0 x1 x6 x8 y5 y7_1 y7_3 y18 y50000:=by
 obtain ⟨h0,hh⟩:=Bool.and_eq_true_iff.1 h
 obtain ⟨h1,h2,h3⟩:=cP_of hh
 clear h hh
 obtain ⟨k,rfl⟩:=Int.eq_ofNat_of_zero_le h1
 clear h1
 induction k generalizing y18 y50000 with
 |zero=>
  rw [ln_f31_0]
  rfl
 |succ k ih=>
  rw [ln_f31_0]
  have k1:dOk (dwdGN y50000 bl2)=true:=dOk_next h0
  have i1:isub .i64 ((k+1:Nat):Int) 1=(k:Int):=by rw [isub_in (by omega)];omega
  unfold n_f31_0
  rw [show igt ((k+1:Nat):Int) 0=true from decide_eq_true (by omega),br_true]
  have ih:=ih (y18++[dwdG y50000 bl2]) (dwdGN y50000 bl2) k1 (by omega) (by rw [List.length_append,List.length_singleton];omega)
  refine brY (Bool.and_eq_true_iff.2 ⟨h0,by decide⟩) (brY (cAppN (by decide) (by rw [List.length_singleton];omega)) ?_)
  rw [i1]
  exact ih
theorem l_f31_1 (x1:Int)(x6:Int)(y5:(List BlkT))(y50000:Dice)(h:(lb1 x1 x6 y5 y50000)=true):lp_f31_1 x1 x6 y5 y50000=la_f31_1 x1 x6 y5 y50000:=by
 obtain ⟨h0,hh⟩:=Bool.and_eq_true_iff.1 h
 obtain ⟨h1,h2,h3,h4,h5⟩:=cP_of hh
 clear h hh
 obtain ⟨i,rfl⟩:=Int.eq_ofNat_of_zero_le h4
 clear h4
 induction i generalizing y5 y50000 with
 |zero=>
  rw [ln_f31_1]
  rfl
 |succ i ih=>
  have hv:=dval_lt (d:=dnext (dwdGN y50000 bl1) 9) (n:=3) (by omega)
  have k1:dOk (dwdGN y50000 bl1)=true:=dOk_next h0
  have k2:dOk (dnext (dwdGN y50000 bl1) 9)=true:=dOk_next k1
  have k3:dOk (dnext (dnext (dwdGN y50000 bl1) 9) 3)=true:=dOk_next k2
  have i1:isub .i64 ((i+1:Nat):Int) 1=(i:Int):=by rw [isub_in (by omega)];omega
  obtain ⟨a1,a2,a3,a4⟩:=lA_ok y50000 h0
  have er:lk0 (dval (dnext (dwdGN y50000 bl1) 9) 3).toNat [dwdG y50000 bl1] (dnext (dnext (dwdGN y50000 bl1) 9) 3)=lA y50000:=rfl
  have la:la_f31_1 x1 ((i+1:Nat):Int) y5 y50000=la_f31_1 x1 (i:Int) (y5++[(lB (lsRec x1) (igt x1 0) (lA y50000) (dval (dwdGN y50000 bl1) 9)).1]) (lB (lsRec x1) (igt x1 0) (lA y50000) (dval (dwdGN y50000 bl1) 9)).2:=by
   unfold la_f31_1
   rw [Int.toNat_natCast,Int.toNat_natCast]
   rfl
  rw [la,ln_f31_1]
  have hz:lb0 (dval (dnext (dwdGN y50000 bl1) 9) 3) [dwdG y50000 bl1] (dnext (dnext (dwdGN y50000 bl1) 9) 3)=true:=Bool.and_eq_true_iff.2 ⟨k3,cP_in ⟨by omega,by omega,by rw [List.length_singleton];omega⟩⟩
  have fin: ∀ (x:BlkT) (d:Dice),dOk d=true->lp_f31_1 x1 (i:Int) (y5++[x]) d=la_f31_1 x1 (i:Int) (y5++[x]) d:=fun x d g1=>ih (y5++[x]) d g1 (by rw [List.length_append,List.length_singleton];omega)
  simp only [n_f31_1]
  rw [show igt ((i+1:Nat):Int) 0=true from decide_eq_true (by omega),br_true]
  refine brY (Bool.and_eq_true_iff.2 ⟨h0,by decide⟩) (brY (Bool.and_eq_true_iff.2 ⟨k1,by decide⟩) (brY (Bool.and_eq_true_iff.2 ⟨k2,by decide⟩) (brY hz ?_)))
  simp only [er,i1]
  generalize dval (dwdGN y50000 bl1) 9=ln
  generalize lA y50000=r at a1 a2 a3 a4
  have hyl:y5.length<=3:=by omega
  cases hdp:igt x1 0 with
  |false=>
   rw [br_false]
   refine (l_tail a4 a1 a2 hyl (F:=fun y d=>lp_f31_1 x1 (i:Int) y d)).trans ?_
   exact fin _ _ (lT_ok a2 a3 a4).2.2
  |true=>
   rw [br_true]
   have hx1:0<x1:=of_decide_eq_true hdp
   have i3:isub .i64 x1 1=x1-1:=isub_in (by omega)
   have kr:dOk (dnext r.2 3)=true:=dOk_next a4
   refine brY (Bool.and_eq_true_iff.2 ⟨Bool.and_eq_true_iff.2 ⟨a4,by decide⟩,by decide⟩) ?_
   have eb:lB (lsRec x1) true r ln=bif done r.2 3 then lT r.1 true ((lsRec x1 (dnext r.2 3)).1.map Blk.of) ln (lsRec x1 (dnext r.2 3)).2 else lT r.1 false [] ln (dnext r.2 3):=rfl
   rw [eb]
   cases hdn:done r.2 3 with
   |false=>
    rw [br_false,cond_false]
    refine (l_tail kr a1 a2 hyl (F:=fun y d=>lp_f31_1 x1 (i:Int) y d)).trans ?_
    exact fin _ _ (lT_ok a2 a3 kr).2.2
   |true=>
    rw [br_true,cond_true,i3]
    have hrec:lsRec x1 (dnext r.2 3)=lsG (x1-1).toNat (dnext r.2 3):=by
     unfold lsRec
     rw [if_neg (by omega),show x1.toNat-1=(x1-1).toNat by omega]
    have hq:=(lsG_ok (x1-1).toNat (dnext r.2 3) kr).2
    have hts:ls7S fuel (dnext r.2 3) (x1-1)=true:=by
     cases hfu:fuel with
     |zero=>omega
     |succ k=>exact Bool.and_eq_true_iff.2 ⟨kr,cP_in ⟨by omega,by omega,by omega⟩⟩
    rw [hrec]
    refine brY hts ?_
    refine (l_tail (d:=ls7N (dnext r.2 3) (x1-1)) hq a1 a2 hyl (F:=fun y d=>lp_f31_1 x1 (i:Int) y d)).trans ?_
    exact fin _ _ (lT_ok a2 a3 hq).2.2
theorem lo_f31_0: ∀ S l p,g_f31.L 0 (fgt fg_f31_0 S)=some (true,l)->pickA l=some p->loopF (roundF g_f31 fg_f31_0 tb_f31_0) S=some p:=
 lok_of (s:=sh_f31_0) ⟨by decide,by decide⟩ (by kernel_rfl) fun x y hok p hp=>by
 simp only [pickA_br,pickA_one] at hp
 exact (l_f31_0 x.2.1 x.2.2.2.1 x.2.2.2.2.2.1 y.1 y.2.1.2.1 y.2.1.2.2.2.1 y.2.2.1 y.2.2.2.2.2.2.2.1 (by simpa using hok)).trans hp
theorem lo_f31_1: ∀ S l p,g_f31.L 1 (fgt fg_f31_1 S)=some (true,l)->pickA l=some p->loopF (roundF g_f31 fg_f31_1 tb_f31_1) S=some p:=
 lok_of (s:=sh_f31_1) ⟨by decide,by decide⟩ (by kernel_rfl) fun x y hok p hp=>by
 simp only [pickA_br,pickA_one] at hp
 exact (l_f31_1 x.2.1 x.2.2.2.1 y.1 y.2.2.1 (by simpa using hok)).trans hp
theorem lk_f31:tc_f31.lok g_f31:=by
 repeat (first|exact trivial|exact lo_f31_0|exact lo_f31_1|refine ⟨?_, ?_⟩)
theorem s_f31 (d:Dice)(n:Int)(h:ls7S (fuel+1) d n=true):r_f31 d n=some (.t (.sl tyBlkT) (ls7F d n),[.box (.t tyDice (ls7N d n))]):=by
 obtain ⟨h1,h2⟩:=Bool.and_eq_true_iff.1 h
 obtain ⟨h2,h3,h4⟩:=cP_of h2
 have hv:=dval_lt (d:=d) (n:=4) (by omega)
 unfold r_f31
 refine brY (Bool.and_eq_true_iff.2 ⟨h1,by decide⟩) (brY (Bool.and_eq_true_iff.2 ⟨dOk_next h1,cP_in ⟨h2,h3,h4,by omega,by rw [List.length_nil];omega⟩⟩) ?_)
 have e:lk1 (lsRec n) (igt n 0) (dval d 4).toNat [] (dnext d 4)=lsG n.toNat d:=by
  obtain ⟨k,rfl⟩:=Int.eq_ofNat_of_zero_le h2
  rw [Int.toNat_natCast]
  cases k with
  |zero=>rfl
  |succ k=>
   have e1:lsRec ((k+1:Nat):Int)=lsG k:=by
    unfold lsRec
    rw [Int.toNat_natCast,if_neg (Nat.succ_ne_zero k),Nat.add_sub_cancel]
   have e2:igt ((k+1:Nat):Int) 0=true:=decide_eq_true (by omega)
   rw [e1,e2]
   rfl
 rw [e]
 rfl
theorem mr_f31:Meets Tryd.prog 31 (runF g_f31 tc_f31 rv_f31 false):=by
 obtain ⟨c,hc,hi⟩:=Option.map_eq_some_iff.1 ok_f31
 exact meets_of (by decide) Tryd.func31 hc hi Tryd.ntmps31 rok_f31 gk_f31 lk_f31 mixed
end
theorem ma_law07_list: ∀ N:Nat,Meets Tryd.prog 31 (strip (@sp_f31R ⟨N⟩))
 |0=>meets_zeroP fun d x=>by first|rfl|simp [ls7S]
 |N+1=>by
  letI:Fuel:=⟨N⟩
  haveI:Nonempty (PLift (Meets Tryd.prog 31 (strip sp_f31R))):=⟨⟨ma_law07_list N⟩⟩
  exact meets_specP mr_f31 rfl fun d x hok=>(e_f31 d x.1).trans (s_f31 d x.1 hok)
def sp_f31:Ent:=specP tyDice (.pr tI .nil) (fun d x=>(ls7Ok d x.1)) (fun d x=>(.t (.sl tyBlkT) (ls7F d x.1))) (fun d x=>(ls7N d x.1))
theorem ms_f31:Meets Tryd.prog 31 (strip sp_f31):=meets_fuelP ma_law07_list fun d x hok=>fuel_law07_list d x.1 hok
end
end Go.Proofs.YtkkoedniahnneaaDoor.K
namespace Go.Proofs.YtkkoedniahnneaaDoor.K
open Go.RowKit
noncomputable section
set_option linter.unusedSectionVars false
theorem notB {b:Bool}(h:(!b)=true):b=false:=by
 cases b
 ·rfl
 ·cases h
def bI (b:Int):Bool:=decide (0<=b/\b<=255)
theorem strOf_bl (s:ByteArray):strOf (bytesL s)=s:=by
 obtain ⟨⟨l⟩⟩:=s
 unfold strOf bytesL
 congr 1
 rw [List.map_map]
 have:(l.map ((fun n:Int=>UInt8.ofNat n.toNat) ∘ fun b:UInt8=>(b.toNat:Int)))=l:=by
  conv=>rhs;rw [←List.map_id l]
  refine List.map_congr_left fun b _=> ?_
  simp
 show (l.map _).toArray=_
 rw [this]
theorem bl_strOf {l:List Int}(h:l.all bI=true):bytesL (strOf l)=l:=by
 unfold strOf bytesL
 show (l.map _).map _=l
 rw [List.map_map]
 conv=>rhs;rw [←List.map_id l]
 refine List.map_congr_left fun b hb=> ?_
 have:=List.all_eq_true.1 h b hb
 simp only [bI,decide_eq_true_eq] at this
 simp only [Function.comp_apply,UInt8.toNat_ofNat',id_eq]
 omega
theorem bl_bI (s:ByteArray):(bytesL s).all bI=true:=by
 rw [List.all_eq_true]
 intro x hx
 obtain ⟨b,_,rfl⟩:=List.mem_map.1 hx
 have:=b.toNat_lt
 exact decide_eq_true (by omega)
theorem byt_ext (s:ByteArray)(a b:Nat):bytesL (s.extract a b)=((bytesL s).drop a).take (b-a):=by
 unfold bytesL
 rw [ByteArray.data_extract,Array.toList_extract,List.extract_eq_take_drop,List.map_take,List.map_drop]
theorem esc_bI: ∀ l:List Int,l.all bI=true->(escL l).all bI=true
 | [],_=>rfl
 |c::l,h=>by
  obtain ⟨h1,h2⟩:=Bool.and_eq_true_iff.1 h
  rw [escL_cons,List.all_append,esc_bI l h2,Bool.and_true]
  unfold escI
  cases ieq c 34||ieq c 92 with
  |true=>
   show (bI 92&&(bI c&&true))=true
   rw [h1]
   rfl
  |false=>
   show (bI c&&true)=true
   rw [h1]
   rfl
theorem qt_bl (w:ByteArray):bytesL (qtF w)=bif plnB w then bytesL w else 34::(escL (bytesL w)++[34]):=by
 unfold qtF
 cases plnB w with
 |true=>rfl
 |false=>
  show bytesL (strOf (qtI w))=_
  rw [bl_strOf]
  ·rfl
  ·show ([34]++escL (bytesL w)++[34]).all bI=true
   rw [List.all_append,List.all_append,esc_bI _ (bl_bI w)]
   rfl
theorem skL_bl: ∀ (b:List Int) (w:Bool) (c:Int) (R:List Int),b.all blkI=true->blkI c=false->ieq c 35=false→ ∃ k,skL (b++c::R) false w=(false,(b.length,(k,b.isEmpty&&w)))
 | [],w,c,R,_,h1,h2=>⟨0,by
  rw [List.nil_append,skL.eq_def]
  simp only [h1,h2,Bool.false_and,cond_false]
  rfl⟩
 |d::b,w,c,R,hb,h1,h2=>by
  obtain ⟨g1,g2⟩:=Bool.and_eq_true_iff.1 hb
  obtain ⟨k,hk⟩:=skL_bl b false c R g2 h1 h2
  refine ⟨k+(bif ieq d 10 then 1 else 0), ?_⟩
  rw [List.cons_append,skL.eq_def]
  simp only [g1,Bool.false_and,cond_false,cond_true,hk,Bool.and_false,List.length_cons]
  rfl
theorem skL_bl0: ∀ (b:List Int) (w:Bool),b.all blkI=true→ ∃ k,skL b false w=(false,(b.length,(k,b.isEmpty&&w)))
 | [],w,_=>⟨0,rfl⟩
 |d::b,w,hb=>by
  obtain ⟨g1,g2⟩:=Bool.and_eq_true_iff.1 hb
  obtain ⟨k,hk⟩:=skL_bl0 b false g2
  refine ⟨k+(bif ieq d 10 then 1 else 0), ?_⟩
  rw [skL.eq_def]
  simp only [g1,Bool.false_and,cond_false,cond_true,hk,Bool.and_false,List.length_cons]
  rfl
structure SkAt (x y:ParserXX) (S:List Int) (f:Bool):Prop where
 nx:nxP x=nxP.nxQ y
 text:y.1.1=x.1.1
 rest:lxR y=S
 flag:lxW y=f
 pos:0<=y.1.2.1
theorem sk_at {x:ParserXX}(h:lxOk2 x=true){b S:List Int}{k:Nat}{f:Bool}(hR:lxR x=b++S)(hk:skL (lxR x) false (lxW x)=(false,(b.length,(k,f)))):SkAt x (lxSk x (skL (lxR x) false (lxW x))) S f:=by
 obtain ⟨h1,h2,_,_,_⟩:=cP_of h
 refine ⟨?_,rfl, ?_, ?_, ?_⟩
 ·unfold nxP
  rw [hk]
  rfl
 ·rw [hk]
  show (bytesL x.1.1).drop (x.1.2.1+(b.length:Int)).toNat=S
  rw [show (x.1.2.1+(b.length:Int)).toNat=x.1.2.1.toNat+b.length by omega, ← List.drop_drop]
  show (lxR x).drop b.length=S
  rw [hR,List.drop_left]
 ·rw [hk]
  rfl
 ·rw [hk]
  show 0<=x.1.2.1+(b.length:Int)
  omega
theorem nxQ_end {y:ParserXX}(h1:0<=y.1.2.1)(h:lxR y=[]):(nxP.nxQ y).1=(0,(ByteArray.mk #[],(false,(lxL y,())))):=by
 have hl:(bytesL y.1.1).length<=y.1.2.1.toNat:=List.drop_eq_nil_iff.1 h
 rw [bytesG_len] at hl
 have e1:ige y.1.2.1 (slen y.1.1)=true:=decide_eq_true (by simp only [slen];omega)
 unfold nxP.nxQ
 rw [e1]
 rfl
theorem lxR_head {y:ParserXX}(h1:0<=y.1.2.1){c:Int}{R:List Int}(h:lxR y=c::R):ige y.1.2.1 (slen y.1.1)=false/\sgt y.1.1 y.1.2.1=c/\(bytesL y.1.1).drop (y.1.2.1+1).toNat=R:=by
 obtain ⟨⟨t,a,r1⟩,r⟩:=y
 simp only at h1
 obtain ⟨k,rfl⟩:=Int.eq_ofNat_of_zero_le h1
 have h:(bytesL t).drop k=c::R:=h
 have hk:k<(bytesL t).length:=by
  rcases Nat.lt_or_ge k (bytesL t).length with hk|hk
  ·exact hk
  ·rw [List.drop_eq_nil_of_le hk] at h
   cases h
 have hk2:k<t.size:=by rw [←bytesG_len];exact hk
 rw [List.drop_eq_getElem_cons hk,List.cons.injEq] at h
 refine ⟨decide_eq_false (by simp only [slen];omega), ?_, ?_⟩
 ·show sgt t (k:Int)=c
  rw [sgt_get hk2]
  exact h.1
 ·show (bytesL t).drop ((k:Int)+1).toNat=R
  rw [show ((k:Int)+1).toNat=k+1 by omega]
  exact h.2
theorem nxQ_sign {y:ParserXX}(h1:0<=y.1.2.1){c:Int}{R:List Int}(h:lxR y=c::R)(hc:(ieq c 59||(ieq c 123||ieq c 125))=true):(nxP.nxQ y).1=(c,(ByteArray.mk #[],(false,(lxL y,()))))/\lxR (nxP.nxQ y).2=R/\lxW (nxP.nxQ y).2=false:=by
 obtain ⟨e1,e2,e3⟩:=lxR_head h1 h
 unfold nxP.nxQ
 rw [e1,cond_false,e2,hc,cond_true]
 exact ⟨rfl,e3,rfl⟩
theorem qd_esc: ∀ (l R:List Int),l.all isClI=true->qd (escL l++34::R)=(true,(l,(escL l).length+1))
 | [],R,_=>by
  show qd (34::R)=_
  rw [qd.eq_def]
  rfl
 |c::l,R,h=>by
  obtain ⟨h1,h2⟩:=Bool.and_eq_true_iff.1 h
  have ih:=qd_esc l R h2
  rw [escL_cons]
  unfold escI
  have ecl:ieq 92 34=false:=rfl
  cases hc:ieq c 34||ieq c 92 with
  |true=>
   show qd (92::c::(escL l++34::R))=_
   rw [qd.eq_def]
   simp only [ecl,hc,ih,cond_true,cond_false,show ieq (92:Int) 92=true from rfl]
   simp only [cond_true,List.length_append,List.length_cons,List.length_nil]
   rw [show (escL l).length+1+2=0+1+1+(escL l).length+1 by omega]
  |false=>
   obtain ⟨g1,g2⟩:=Bool.or_eq_false_iff.1 hc
   show qd (c::(escL l++34::R))=_
   rw [qd.eq_def]
   simp only [g1,g2,h1,ih,cond_true,cond_false]
   simp only [List.length_append,List.length_cons,List.length_nil]
   rw [show (escL l).length+1+1=0+1+(escL l).length+1 by omega]
def nlt:List Int->Bool
 | []=>true
 |c::_=> !ltrB c
theorem ltL_all: ∀ (l R:List Int),l.all ltrB=true->nlt R=true->ltL (l++R)=l.length
 | [],[],_,_=>rfl
 | [],c::R,_,h=>by
  have h:(!ltrB c)=true:=h
  show ltL (c::R)=0
  unfold ltL
  rw [notB h]
  rfl
 |c::l,R,h,hR=>by
  obtain ⟨h1,h2⟩:=Bool.and_eq_true_iff.1 h
  rw [List.cons_append,List.length_cons, ← ltL_all l R h2 hR]
  show ltL (c::(l++R))=_
  rw [ltL,h1]
  rfl
theorem let_tab:((List.range 256).all fun n=> !ltrB (n:Int)||(!blkI (n:Int)&&(!ieq (n:Int) 35&&(!ieq (n:Int) 34&& !(ieq (n:Int) 59||(ieq (n:Int) 123||ieq (n:Int) 125))))))=true:=by kernel_rfl
theorem let_not {c:Int}(hb:bI c=true)(h:ltrB c=true):blkI c=false/\ieq c 35=false/\ieq c 34=false/\(ieq c 59||(ieq c 123||ieq c 125))=false:=by
 have hb:=of_decide_eq_true hb
 obtain ⟨n,rfl⟩:=Int.eq_ofNat_of_zero_le hb.1
 have:=List.all_eq_true.1 let_tab n (List.mem_range.2 (by omega))
 rw [h,Bool.not_true,Bool.false_or] at this
 obtain ⟨h1,this⟩:=Bool.and_eq_true_iff.1 this
 obtain ⟨h2,this⟩:=Bool.and_eq_true_iff.1 this
 obtain ⟨h3,h4⟩:=Bool.and_eq_true_iff.1 this
 exact ⟨notB h1,notB h2,notB h3,notB h4⟩
theorem nxQ_quoted {y:ParserXX}(h1:0<=y.1.2.1){l R:List Int}(hl:l.all isClI=true)(h:lxR y=34::(escL l++34::R))(hw:lxW y=false):(nxP.nxQ y).1=(119,(strOf l,(false,(lxL y,()))))/\lxR (nxP.nxQ y).2=R:=by
 obtain ⟨e1,e2,e3⟩:=lxR_head h1 h
 have q:=qd_esc l R hl
 have e4:nxP.nxQ y=(qdF ((y.1.1,(y.1.2.1,(lxL y,(true,())))),y.2),qdD ((y.1.1,(y.1.2.1,(lxL y,(true,())))),y.2)):=by
  unfold nxP.nxQ
  rw [e1,cond_false,e2,hw]
  rfl
 rw [e4]
 unfold qdF qdD lxTo
 simp only
 rw [e3,q]
 refine ⟨rfl, ?_⟩
 show (bytesL y.1.1).drop (y.1.2.1+(1+((escL l).length+1:Nat))).toNat=R
 rw [show (y.1.2.1+(1+(((escL l).length+1:Nat):Int))).toNat=(y.1.2.1+1).toNat+((escL l).length+1) by omega, ← List.drop_drop,e3,show escL l++34::R=(escL l++[34])++R by simp,List.drop_left' (by simp)]
theorem nxQ_plain {y:ParserXX}(h1:0<=y.1.2.1){w:ByteArray}{R:List Int}(hp:plnB w=true)(h:lxR y=bytesL w++R)(hR:nlt R=true)(hw:lxW y=false):(nxP.nxQ y).1=(119,(w,(true,(lxL y,()))))/\lxR (nxP.nxQ y).2=R:=by
 obtain ⟨p1,p2⟩:=Bool.and_eq_true_iff.1 hp
 have p2:=of_decide_eq_true p2
 have hz:=bytesG_len w
 have hlt:=ltL_all (bytesL w) R p1 hR
 rw [←h] at hlt
 have hi:=bl_bI w
 cases hb:bytesL w with
 |nil=>
  rw [hb] at hz
  simp only [List.length_nil] at hz
  omega
 |cons c l=>
  rw [hb] at hi p1
  obtain ⟨f1,f2,f3,f4⟩:=let_not (Bool.and_eq_true_iff.1 hi).1 (Bool.and_eq_true_iff.1 p1).1
  have h':=h
  rw [hb,List.cons_append] at h'
  obtain ⟨e1,e2,e3⟩:=lxR_head h1 h'
  have e4:nxP.nxQ y=((119,(ssl y.1.1 y.1.2.1 (y.1.2.1+ltL (lxR y)),(true,(lxL y,())))),lxTo ((y.1.1,(y.1.2.1,(lxL y,(true,())))),y.2) (ltL (lxR y))):=by
   unfold nxP.nxQ
   rw [e1,cond_false,e2,f4,cond_false,hw,f3,(Bool.and_eq_true_iff.1 p1).1]
   simp only [ine,f3,Bool.not_true,Bool.and_false,Bool.or_false,Bool.false_or,cond_false]
  rw [e4,hlt]
  have e5:ssl y.1.1 y.1.2.1 (y.1.2.1+((bytesL w).length:Int))=w:=by
   rw [←strOf_bl w]
   unfold ssl
   rw [←strOf_bl (ByteArray.extract _ _ _),byt_ext,strOf_bl w,show (y.1.2.1+((bytesL w).length:Int)).toNat-y.1.2.1.toNat=(bytesL w).length by omega]
   show strOf ((lxR y).take _)=_
   rw [h,List.take_left']
   ·exact strOf_bl w
   ·rfl
  refine ⟨?_, ?_⟩
  ·show ((119,(ssl _ _ _,_)):TokenX)=_
   rw [e5]
  ·show (bytesL y.1.1).drop (y.1.2.1+((bytesL w).length:Int)).toNat=R
   rw [show (y.1.2.1+((bytesL w).length:Int)).toNat=y.1.2.1.toNat+(bytesL w).length by omega, ← List.drop_drop]
   show (lxR y).drop _=R
   rw [h,List.drop_left]
abbrev TK:Type:=Int×(ByteArray×Bool)
def cur (x:ParserXX):TK:=(x.2.1.1,(x.2.1.2.1,x.2.1.2.2.1))
def sg (c:Int):TK:=(c,(ByteArray.mk #[],false))
def wtok (w:ByteArray):TK:=(119,(w,plnB w))
theorem tk_end {x:ParserXX}(h:lxOk2 x=true){b:List Int}(hb:b.all blkI=true)(hR:lxR x=b):cur (tkD x)=sg 0:=by
 obtain ⟨k,hk⟩:=skL_bl0 b (lxW x) hb
 have hk:skL (lxR x) false (lxW x)=(false,(b.length,(k,b.isEmpty&&lxW x))):=by rw [hR];exact hk
 have a:=sk_at (S:=[]) h (by rw [List.append_nil];exact hR) hk
 have q:=nxQ_end a.pos a.rest
 have e:nxF x=(nxP.nxQ (lxSk x (skL (lxR x) false (lxW x)))).1:=by
  unfold nxF
  rw [a.nx]
 show ((nxF x).1,((nxF x).2.1,(nxF x).2.2.1))=_
 rw [e,q]
 rfl
theorem sign_not {c:Int}(h:(ieq c 59||(ieq c 123||ieq c 125))=true):blkI c=false/\ieq c 35=false:=by
 have:c=59∨c=123∨c=125:=by
  rcases Bool.or_eq_true_iff.1 h with h|h
  ·exact .inl (eq_of_beq h)
  ·rcases Bool.or_eq_true_iff.1 h with h|h
   ·exact .inr (.inl (eq_of_beq h))
   ·exact .inr (.inr (eq_of_beq h))
 rcases this with rfl|rfl|rfl<;>exact ⟨rfl,rfl⟩
theorem tk_sign {x:ParserXX}(h:lxOk2 x=true){b:List Int}{c:Int}{R:List Int}(hb:b.all blkI=true)(hc:(ieq c 59||(ieq c 123||ieq c 125))=true)(hR:lxR x=b++c::R):cur (tkD x)=sg c/\lxR (tkD x)=R/\lxW (tkD x)=false:=by
 obtain ⟨c1,c2⟩:=sign_not hc
 obtain ⟨k,hk⟩:=skL_bl b (lxW x) c R hb c1 c2
 rw [←hR] at hk
 have a:=sk_at (S:=c::R) h hR hk
 obtain ⟨q1,q2,q3⟩:=nxQ_sign a.pos a.rest hc
 have e:nxP x=nxP.nxQ (lxSk x (skL (lxR x) false (lxW x))):=a.nx
 refine ⟨?_, ?_, ?_⟩
 ·show ((nxP x).1.1,((nxP x).1.2.1,(nxP x).1.2.2.1))=_
  rw [e,q1]
  rfl
 ·show lxR (nxP x).2=R
  rw [e]
  exact q2
 ·show lxW (nxP x).2=false
  rw [e]
  exact q3
theorem tk_word {x:ParserXX}(h:lxOk2 x=true){b:List Int}{w:ByteArray}{R:List Int}(hb:b.all blkI=true)(hw:clB w=true)(hf:(b.isEmpty&&lxW x)=false)(hn:nlt R=true)(hR:lxR x=b++(bytesL (qtF w)++R)):cur (tkD x)=wtok w/\lxR (tkD x)=R:=by
 rw [qt_bl] at hR
 cases hp:plnB w with
 |true=>
  rw [hp,cond_true] at hR
  have hi:=bl_bI w
  obtain ⟨p1,p2⟩:=Bool.and_eq_true_iff.1 hp
  have p2:=of_decide_eq_true p2
  have hz:=bytesG_len w
  obtain ⟨c,l,hcl⟩: ∃ c l,bytesL w=c::l:=by
   cases hq:bytesL w with
   |nil=>
    rw [hq] at hz
    simp only [List.length_nil] at hz
    omega
   |cons c l=>exact ⟨c,l,rfl⟩
  have hi2:=hi
  rw [hcl] at hi2 p1
  obtain ⟨f1,f2,f3,f4⟩:=let_not (Bool.and_eq_true_iff.1 hi2).1 (Bool.and_eq_true_iff.1 p1).1
  obtain ⟨k,hk⟩:=skL_bl b (lxW x) c (l++R) hb f1 f2
  have hR2:lxR x=b++c::(l++R):=by rw [hR,hcl];rfl
  rw [←hR2,hf] at hk
  have a:=sk_at h hR hk
  obtain ⟨q1,q2⟩:=nxQ_plain a.pos hp a.rest hn a.flag
  have e:nxP x=nxP.nxQ (lxSk x (skL (lxR x) false (lxW x))):=a.nx
  refine ⟨?_, ?_⟩
  ·show ((nxP x).1.1,((nxP x).1.2.1,(nxP x).1.2.2.1))=_
   unfold wtok
   rw [e,q1,hp]
  ·show lxR (nxP x).2=R
   rw [e]
   exact q2
 |false=>
  rw [hp,cond_false] at hR
  have hR2:lxR x=b++34::(escL (bytesL w)++34::R):=by rw [hR];simp
  obtain ⟨k,hk⟩:=skL_bl b (lxW x) 34 (escL (bytesL w)++34::R) hb rfl rfl
  rw [←hR2,hf] at hk
  have a:=sk_at h hR2 hk
  have hcl:(bytesL w).all isClI=true:=by
   rw [←clZ_eq] at hw
   exact hw
  obtain ⟨q1,q2⟩:=nxQ_quoted a.pos hcl a.rest a.flag
  have e:nxP x=nxP.nxQ (lxSk x (skL (lxR x) false (lxW x))):=a.nx
  refine ⟨?_, ?_⟩
  ·show ((nxP x).1.1,((nxP x).1.2.1,(nxP x).1.2.2.1))=_
   unfold wtok
   rw [e,q1,hp,strOf_bl]
  ·show lxR (nxP x).2=R
   rw [e]
   exact q2
end
end Go.Proofs.YtkkoedniahnneaaDoor.K
namespace Go.Proofs.YtkkoedniahnneaaDoor.K
open Go.RowKit
noncomputable section
set_option linter.unusedSectionVars false
def Has:ParserXX->List TK->Prop
 |_,[]=>True
 |x,t::ts=>cur x=t/\Has (tkD x) ts
mutual
def tkB:K.Blk->List TK
 |.mk ws o wi _=>ws.map wtok++(bif !o then [sg 59] else (sg 123::(tkL wi++[sg 125])))
def tkL:List K.Blk->List TK
 | []=>[]
 |b::r=>tkB b++tkL r
end
theorem nlt32 (l:List Int):nlt (32::l)=true:=by
 show (!ltrB 32)=true
 have:ltrB 32=false:=by kernel_rfl
 rw [this]
 rfl
theorem nlt59 (l:List Int):nlt (59::l)=true:=by
 show (!ltrB 59)=true
 have:ltrB 59=false:=by kernel_rfl
 rw [this]
 rfl
theorem nlt_wds {ws:List ByteArray}{S:List Int}(h:nlt S=true):nlt (wdsT ws++S)=true:=by
 cases ws with
 |nil=>exact h
 |cons w r=>exact nlt32 _
theorem ind_bl (n:Nat):(indL n).all blkI=true:=by
 unfold indL
 rw [List.all_replicate]
 cases n with
 |zero=>rfl
 |succ n=>
  rw [if_neg (by omega)]
  rfl
theorem wt_ok: ∀ (ws:List ByteArray) (x:ParserXX) (S:List Int) (ts:List TK),lxOk2 x=true->lxR x=wdsT ws++S->ws.all clB=true->nlt S=true->(∀ y,lxOk2 y=true->y.1.1=x.1.1->lxR y=S->Has (tkD y) ts)->Has (tkD x) (ws.map wtok++ts)
 | [],x,S,ts,hx,hR,_,_,k=>k x hx rfl hR
 |w::r,x,S,ts,hx,hR,hc,hS,k=>by
  obtain ⟨c1,c2⟩:=Bool.and_eq_true_iff.1 hc
  have hR2:lxR x=[32]++(bytesL (qtF w)++(wdsT r++S)):=by rw [hR,wdsT_cons];simp
  obtain ⟨q1,q2⟩:=tk_word hx (b:=[32]) rfl c1 rfl (nlt_wds hS) hR2
  have ht:=tk_ok hx
  exact ⟨q1,wt_ok r (tkD x) S ts ht.ok q2 c2 hS fun y hy e hy2=>k y hy (e.trans ht.text) hy2⟩
mutual
theorem tt_B: ∀ (b:K.Blk) (n:Nat) (x:ParserXX) (bb R:List Int) (ts:List TK),frB b=true->lxOk2 x=true->bb.all blkI=true->lxW x=false->lxR x=bb++(pnB b n++R)→
  (∀ y b',lxOk2 y=true->y.1.1=x.1.1->b'.all blkI=true->lxW y=false->lxR y=b'++R->Has (tkD y) ts)->Has (tkD x) (tkB b++ts)
 |.mk [] o wi ln,n,x,bb,R,ts,hf,_,_,_,_,_=>by cases hf
 |.mk (w::r) o wi ln,n,x,bb,R,ts,hf,hx,hb,hw,hR,k=>by
  obtain ⟨f1,f2⟩:=Bool.and_eq_true_iff.1 hf
  obtain ⟨_,f1⟩:=Bool.and_eq_true_iff.1 f1
  obtain ⟨f3,f4⟩:=Bool.and_eq_true_iff.1 f1
  obtain ⟨f5,f6⟩:=Bool.and_eq_true_iff.1 f4
  obtain ⟨f7,f8⟩:=Bool.and_eq_true_iff.1 f2
  have hbi:(bb++indL n).all blkI=true:=by rw [List.all_append,hb,ind_bl];rfl
  have ht:=tk_ok hx
  have hd:(fun z b'=>lxOk2 z=true/\z.1.1=x.1.1/\b'.all blkI=true/\lxW z=false/\lxR z=b'++R)=(fun (z:ParserXX) (b':List Int)=>lxOk2 z=true/\z.1.1=x.1.1/\b'.all blkI=true/\lxW z=false/\lxR z=b'++R):=rfl
  unfold pnB at hR
  unfold tkB
  cases o with
  |false=>
   have hR2:lxR x=(bb++indL n)++(bytesL (qtF w)++(wdsT r++59::([10]++R))):=by
    rw [hR]
    show bb++(((indL n++(bytesL (qtF w)++wdsT r))++[59,10])++R)=_
    simp
   obtain ⟨q1,q2⟩:=tk_word hx hbi f5 (by rw [hw,Bool.and_false]) (nlt_wds (nlt59 _)) hR2
   refine ⟨q1, ?_⟩
   show Has (tkD (tkD x)) ((r.map wtok++[sg 59])++ts)
   rw [List.append_assoc]
   refine wt_ok r (tkD x) (59::([10]++R)) ([sg 59]++ts) ht.ok q2 f6 (nlt59 _) fun y hy e hyR=> ?_
   obtain ⟨s1,s2,s3⟩:=tk_sign hy (b:=[]) (c:=59) rfl rfl hyR
   have hty:=tk_ok hy
   exact ⟨s1,k (tkD y) [10] hty.ok ((hty.text.trans e).trans ht.text) rfl s3 s2⟩
  |true=>
   have hR2:lxR x=(bb++indL n)++(bytesL (qtF w)++(wdsT r++32::123::([10]++(pnL wi (n+1)++(indL n++125::([10]++R)))))):=by
    rw [hR]
    show bb++(((indL n++(bytesL (qtF w)++wdsT r))++([32,123,10]++(pnL wi (n+1)++(indL n++[125,10]))))++R)=_
    simp
   obtain ⟨q1,q2⟩:=tk_word hx hbi f5 (by rw [hw,Bool.and_false]) (nlt_wds (nlt32 _)) hR2
   refine ⟨q1, ?_⟩
   show Has (tkD (tkD x)) ((r.map wtok++(sg 123::(tkL wi++[sg 125])))++ts)
   rw [List.append_assoc]
   refine wt_ok r (tkD x) _ _ ht.ok q2 f6 (nlt32 _) fun y hy e hyR=> ?_
   obtain ⟨s1,s2,s3⟩:=tk_sign hy (b:=[32]) (c:=123) rfl rfl hyR
   have hty:=tk_ok hy
   refine ⟨s1, ?_⟩
   show Has (tkD (tkD y)) ((tkL wi++[sg 125])++ts)
   rw [List.append_assoc]
   refine tt_L wi (n+1) (tkD y) [10] (indL n++125::([10]++R)) _ f8 hty.ok rfl s3 s2 fun z b' hz ez hb' hzw hzR=> ?_
   obtain ⟨u1,u2,u3⟩:=tk_sign hz (b:=b'++indL n) (c:=125) (by rw [List.all_append,hb',ind_bl];rfl) rfl (by rw [hzR,List.append_assoc])
   have htz:=tk_ok hz
   exact ⟨u1,k (tkD z) [10] htz.ok ((((htz.text.trans ez).trans hty.text).trans e).trans ht.text) rfl u3 u2⟩
theorem tt_L: ∀ (l:List K.Blk) (n:Nat) (x:ParserXX) (bb R:List Int) (ts:List TK),frL l=true->lxOk2 x=true->bb.all blkI=true->lxW x=false->lxR x=bb++(pnL l n++R)→
  (∀ y b',lxOk2 y=true->y.1.1=x.1.1->b'.all blkI=true->lxW y=false->lxR y=b'++R->Has (tkD y) ts)->Has (tkD x) (tkL l++ts)
 | [],n,x,bb,R,ts,_,hx,hb,hw,hR,k=>k x bb hx rfl hb hw hR
 |b::r,n,x,bb,R,ts,hf,hx,hb,hw,hR,k=>by
  obtain ⟨f1,f2⟩:=Bool.and_eq_true_iff.1 hf
  unfold pnL at hR
  unfold tkL
  rw [List.append_assoc] at hR ⊢
  exact tt_B b n x bb (pnL r n++R) (tkL r++ts) f1 hx hb hw hR fun y b' hy e hb' hyw hyR=>tt_L r n y b' R ts f2 hy hb' hyw hyR fun z b2 hz ez=>k z b2 hz (ez.trans e)
end
theorem ws_has: ∀ (ws acc:List ByteArray) (x:ParserXX) (t:TK) (ts:List TK),lxOk2 x=true->Has x (ws.map wtok++t::ts)->ieq t.1 119=false->(wsX acc x).1=acc++ws/\Has (wsX acc x).2 (t::ts)
 | [],acc,x,t,ts,hx,h,ht=>by
  have:ieq x.2.1.1 119=false:=by
   have e:x.2.1.1=t.1:=congrArg (fun q=>q.1) h.1
   rw [e]
   exact ht
  rw [wsX_not this]
  exact ⟨(List.append_nil acc).symm,h⟩
 |w::r,acc,x,t,ts,hx,h,ht=>by
  obtain ⟨h1,h2⟩:=h
  have e1:x.2.1.1=119:=congrArg (fun q=>q.1) h1
  have e2:x.2.1.2.1=w:=congrArg (fun q=>q.2.1) h1
  rw [wsX_word hx (by rw [e1];rfl),e2]
  obtain ⟨g1,g2⟩:=ws_has r (acc++[w]) (tkD x) t ts (tk_ok hx).ok h2 ht
  exact ⟨by rw [g1,List.append_assoc];rfl,g2⟩
theorem dS_no (x:ParserXX):dS false x=x:=by
 unfold dS
 rw [Bool.or_false]
structure PS (x:ParserXX) (ts:List TK):Prop where
 ok:okR x=true
 err:x.2.2.1=0
 deep:x.2.2.2.1=false
 has:Has x ts
theorem PS.tk {x:ParserXX}{t:TK}{ts:List TK}(h:PS x (t::ts)):PS (tkD x) ts:=by
 have ht:=tk_ok (okR_lx h.ok)
 exact ⟨okR_tk h.ok,by rw [ht.rest];exact h.err,by rw [ht.rest];exact h.deep,h.has.2⟩
theorem hd_has {lv:Int}{ws:List ByteArray}{x:ParserXX}{t:TK}{ts:List TK}(h:PS x (ws.map wtok++t::ts))(ht:ieq t.1 119=false)(hl:lv<=16)(hw:ws.length<=64):
  (wsX [] (dS (igt lv 16) x)).1=ws/\PS (hdX lv x) (t::ts):=by
 have e:igt lv 16=false:=decide_eq_false (by omega)
 obtain ⟨g1,g2⟩:=ws_has ws [] x t ts (okR_lx h.ok) h.has ht
 rw [List.nil_append] at g1
 have e2:hdX lv x=(wsX [] x).2:=by
  unfold hdX
  rw [e,dS_no,g1,show igt (llen ws) 64=false from decide_eq_false (by simp only [llen];omega),dS_no]
 obtain ⟨_,_,k3,_⟩:=wsX_ok _ [] x (okR_lx h.ok) (Nat.le_refl _)
 rw [e,dS_no,e2]
 exact ⟨g1,okR_ws _ [] x h.ok (Nat.le_refl _),by rw [k3];exact h.err,by rw [k3];exact h.deep,g2⟩
theorem sm_refl_w (ws:List ByteArray):eqW ws ws=true:=decide_eq_true rfl
theorem stX_end {lv:Int}{acc:List BlkT}{x:ParserXX}(h:okR x=true)(hs:x.2.1.1=0∨x.2.1.1=125):stX lv acc x=(acc,x):=by
 rw [stX_eq h]
 have:(!(ieq x.2.2.1 0&&(ine x.2.1.1 0&&ine x.2.1.1 125)))=true:=by
  rcases hs with hs|hs
  ·rw [hs]
   show (!(ieq x.2.2.1 0&&(false&&_)))=true
   rw [Bool.false_and,Bool.and_false]
   rfl
  ·rw [hs]
   show (!(ieq x.2.2.1 0&&(_&&false)))=true
   rw [Bool.and_false,Bool.and_false]
   rfl
 rw [this]
 rfl
mutual
theorem pt_B: ∀ (b:K.Blk) (lv:Int) (acc:List BlkT) (x:ParserXX) (t:TK) (ts:List TK),frB b=true->0<=lv->lv+dpB b<=17->moB b<=64->PS x (tkB b++t::ts)→
  ∃ (c:BlkT) (y:ParserXX),stX lv acc x=stX lv (acc++[c]) y/\smB b (Blk.of c)=true/\PS y (t::ts)
 |.mk [] o wi ln,lv,acc,x,t,ts,hf,_,_,_,_=>by cases hf
 |.mk (w::r) o wi ln,lv,acc,x,t,ts,hf,hl0,hd,hm,h=>by
  obtain ⟨f1,f2⟩:=Bool.and_eq_true_iff.1 hf
  obtain ⟨_,f1⟩:=Bool.and_eq_true_iff.1 f1
  obtain ⟨f3,f4⟩:=Bool.and_eq_true_iff.1 f1
  obtain ⟨f7,f8⟩:=Bool.and_eq_true_iff.1 f2
  have f3:plnB w=true:=f3
  have hdd:lv+((dpL wi:Nat)+1:Int)<=17:=hd
  have hmm:max (w::r).length (moL wi)<=64:=hm
  have hx:=h.ok
  unfold tkB at h
  have hcur:=h.has.1
  have e1:x.2.1.1=119:=congrArg (fun q=>q.1) hcur
  have e2:x.2.1.2.2.1=true:=(congrArg (fun q=>q.2.2) hcur).trans f3
  have hgo:(!(ieq x.2.2.1 0&&(ine x.2.1.1 0&&ine x.2.1.1 125)))=false:=by rw [h.err,e1];rfl
  have hno:(ine x.2.1.1 119|| !x.2.1.2.2.1)=false:=by rw [e1,e2];rfl
  rw [stX_eq hx,hgo,cond_false,hno,cond_false]
  generalize x.2.1.2.2.2.1=ln2
  cases o with
  |false=>
   have h:PS x (((w::r).map wtok++[sg 59])++t::ts):=h
   rw [List.append_assoc] at h
   obtain ⟨g1,g2⟩:=hd_has (lv:=lv) h rfl (by omega) (by omega)
   rw [g1]
   have s1:(hdX lv x).2.1.1=59:=congrArg (fun q=>q.1) g2.has.1
   refine ⟨((w::r),(false,([],(ln2,())))),tkD (hdX lv x), ?_, ?_,g2.tk⟩
   ·unfold stB
    rw [s1]
    rfl
   ·show (eqW (w::r) (w::r)&&((false==false)&&smL wi []))=true
    rw [sm_refl_w]
    have:wi=[]:=by
     rw [Bool.false_or] at f7
     exact List.isEmpty_iff.1 f7
    rw [this]
    rfl
  |true=>
   have h:PS x (((w::r).map wtok++(sg 123::(tkL wi++[sg 125])))++t::ts):=h
   rw [List.append_assoc] at h
   obtain ⟨g1,g2⟩:=hd_has (lv:=lv) h rfl (by omega) (by omega)
   rw [g1]
   have s1:(hdX lv x).2.1.1=123:=congrArg (fun q=>q.1) g2.has.1
   have g3:PS (tkD (hdX lv x)) ((tkL wi++[sg 125])++t::ts):=g2.tk
   rw [List.append_assoc] at g3
   obtain ⟨l',z,z1,z2,z3⟩:=pt_L wi (lv+1) [] (tkD (hdX lv x)) (sg 125) (t::ts) f8 (by omega) (by omega) (by omega) (.inr rfl) g3
   have u1:z.2.1.1=125:=congrArg (fun q=>q.1) z3.has.1
   refine ⟨((w::r),(true,(l'.map Blk.of,(ln2,())))),tkD z, ?_, ?_,z3.tk⟩
   ·unfold stB
    rw [s1,z1]
    unfold stC
    show (bif false then _ else bif true then bif ine z.2.2.1 0 then _ else bif ine z.2.1.1 125 then _ else _ else _)=_
    rw [z3.err,u1]
    rfl
   ·show (eqW (w::r) (w::r)&&((true==true)&&smL wi (l'.map Blk.of)))=true
    rw [sm_refl_w,z2]
    rfl
theorem pt_L: ∀ (l:List K.Blk) (lv:Int) (acc:List BlkT) (x:ParserXX) (t:TK) (ts:List TK),frL l=true->0<=lv->lv+dpL l<=17->moL l<=64->(t.1=0∨t.1=125)->PS x (tkL l++t::ts)→
  ∃ (l':List BlkT) (y:ParserXX),stX lv acc x=(acc++l',y)/\smL l (l'.map Blk.of)=true/\PS y (t::ts)
 | [],lv,acc,x,t,ts,_,_,_,_,ht,h=>by
  have h:PS x (t::ts):=h
  have e:x.2.1.1=t.1:=congrArg (fun q=>q.1) h.has.1
  exact ⟨[],x,by rw [stX_end h.ok (by rw [e];exact ht),List.append_nil],rfl,h⟩
 |b::r,lv,acc,x,t,ts,hf,hl0,hd,hm,ht,h=>by
  obtain ⟨f1,f2⟩:=Bool.and_eq_true_iff.1 hf
  have hd:lv+(max (dpB b) (dpL r):Nat)<=17:=hd
  have hm:max (moB b) (moL r)<=64:=hm
  unfold tkL at h
  rw [List.append_assoc] at h
  obtain ⟨t2,ts2,hts⟩: ∃ t2 ts2,tkL r++t::ts=t2::ts2:=by
   cases hq:tkL r++t::ts with
   |nil=>simp at hq
   |cons a b=>exact ⟨a,b,rfl⟩
  rw [hts] at h
  obtain ⟨c,y,y1,y2,y3⟩:=pt_B b lv acc x t2 ts2 f1 hl0 (by omega) (by omega) h
  rw [←hts] at y3
  obtain ⟨l',z,z1,z2,z3⟩:=pt_L r lv (acc++[c]) y t ts f2 hl0 (by omega) (by omega) ht y3
  refine ⟨c::l',z,by rw [y1,z1,List.append_assoc];rfl, ?_,z3⟩
  show (smB b (Blk.of c)&&smL r (l'.map Blk.of))=true
  rw [y2,z2]
  rfl
end
theorem wds_bI: ∀ ws:List ByteArray,(wdsT ws).all bI=true
 | []=>rfl
 |w::r=>by
  rw [wdsT_cons]
  show (bI 32&&(bytesL (qtF w)++wdsT r).all bI)=true
  rw [List.all_append,bl_bI,wds_bI r]
  rfl
theorem wdl_bI (ws:List ByteArray):(wdsL ws).all bI=true:=by
 cases ws with
 |nil=>rfl
 |cons w r=>
  show (bytesL (qtF w)++wdsT r).all bI=true
  rw [List.all_append,bl_bI,wds_bI r]
  rfl
theorem ind_bI (n:Nat):(indL n).all bI=true:=by
 unfold indL
 rw [List.all_replicate]
 cases n with
 |zero=>rfl
 |succ n=>
  rw [if_neg (by omega)]
  rfl
mutual
theorem pnB_bI: ∀ (b:K.Blk) (n:Nat),(pnB b n).all bI=true
 |.mk ws o wi ln,n=>by
  unfold pnB
  cases o with
  |false=>
   show ((indL n++wdsL ws)++[59,10]).all bI=true
   rw [List.all_append,List.all_append,ind_bI,wdl_bI]
   rfl
  |true=>
   show ((indL n++wdsL ws)++([32,123,10]++(pnL wi (n+1)++(indL n++[125,10])))).all bI=true
   rw [List.all_append,List.all_append,ind_bI,wdl_bI,List.all_append,List.all_append,List.all_append,ind_bI,pnL_bI wi (n+1)]
   rfl
theorem pnL_bI: ∀ (l:List K.Blk) (n:Nat),(pnL l n).all bI=true
 | [],_=>rfl
 |b::r,n=>by
  unfold pnL
  rw [List.all_append,pnB_bI b n,pnL_bI r n]
  rfl
end
theorem back {l:List BlkT}(hf:frT l=true)(hd:dpT l<=16)(hm:moT l<=64)(hs:(pnT l 0).length<=8192)(he:endN (strOf (pnT l 0))<=200): ∃ l',paB (strOf (pnT l 0))=(l',(0,0))/\smT l l'=true:=by
 have hz:(strOf (pnT l 0)).size=(pnT l 0).length:=strOf_size _
 have hbl:bytesL (strOf (pnT l 0))=pnT l 0:=bl_strOf (pnL_bI _ 0)
 generalize strOf (pnT l 0)=s at hz hbl he ⊢
 have hs8:s.size<=8192:=by omega
 obtain ⟨o1,o2,o3⟩:=okR_ps hs8
 have hhas:Has (tkD (psX s)) (tkL (l.map Blk.of)++[sg 0]):=by
  refine tt_L (l.map Blk.of) 0 (psX s) [] [] [sg 0] hf o3 rfl rfl ?_ fun y b' hy e hb' hyw hyR=> ?_
  ·show (bytesL s).drop 0=[]++(pnT l 0++[])
   rw [List.drop_zero,List.nil_append,List.append_nil]
   exact hbl
  ·rw [List.append_nil] at hyR
   exact ⟨tk_end hy hb' hyR,trivial⟩
 obtain ⟨l',y,y1,y2,y3⟩:=pt_L (l.map Blk.of) 1 [] (tkD (psX s)) (sg 0) [] hf (by omega) (by show (1:Int)+(dpT l:Nat)<=17;omega) hm (.inl rfl) ⟨o1,by rw [(tk_ok o3).rest];rfl,by rw [(tk_ok o3).rest];rfl,hhas⟩
 rw [List.nil_append] at y1
 refine ⟨l', ?_,y2⟩
 rw [paB_in hs8 he]
 have ey:psY s=y:=by
  show (stX 1 [] (tkD (psX s))).2=y
  rw [y1]
 have es:y.2.1.1=0:=congrArg (fun q=>q.1) y3.has.1
 have ez:psZ s=y:=by
  unfold psZ
  rw [ey,es,y3.err]
  rfl
 have ef:stF (tkD (psX s)) 1=l':=by
  unfold stF stBad
  rw [y1,y3.err]
  show (bif ieq _ 0&&false then [] else l')=l'
  rw [Bool.and_false]
  rfl
 rw [ez,y3.err,y3.deep,ef]
 rfl
mutual
theorem sm_B: ∀ a b:K.Blk,smB a b=true->(∀ n,pnB a n=pnB b n)/\dpB a=dpB b/\frB a=frB b/\moB a=moB b
 |.mk ws o wi _,.mk ws2 o2 wi2 _,h=>by
  obtain ⟨h1,h2⟩:=Bool.and_eq_true_iff.1 h
  obtain ⟨h2,h3⟩:=Bool.and_eq_true_iff.1 h2
  obtain rfl:ws=ws2:=of_decide_eq_true h1
  obtain rfl:o=o2:=eq_of_beq h2
  obtain ⟨g1,g2,g3,g4⟩:=sm_L wi wi2 h3
  have g5:wi.isEmpty=wi2.isEmpty:=by
   cases wi with
   |nil=>
    cases wi2 with
    |nil=>rfl
    |cons b s=>cases h3
   |cons a r=>
    cases wi2 with
    |nil=>cases h3
    |cons b s=>rfl
  refine ⟨fun n=> ?_, ?_, ?_, ?_⟩
  ·unfold pnB
   rw [g1]
  ·show dpL wi+1=dpL wi2+1
   rw [g2]
  ·unfold frB
   rw [g3,g5]
  ·unfold moB
   rw [g4]
theorem sm_L: ∀ a b:List K.Blk,smL a b=true->(∀ n,pnL a n=pnL b n)/\dpL a=dpL b/\frL a=frL b/\moL a=moL b
 | [],[],_=>⟨fun _=>rfl,rfl,rfl,rfl⟩
 | [],_::_,h=>by cases h
 |_::_,[],h=>by cases h
 |a::r,b::s,h=>by
  obtain ⟨h1,h2⟩:=Bool.and_eq_true_iff.1 h
  obtain ⟨g1,g2,g3,g4⟩:=sm_B a b h1
  obtain ⟨k1,k2,k3,k4⟩:=sm_L r s h2
  refine ⟨fun n=> ?_, ?_, ?_, ?_⟩
  ·unfold pnL
   rw [g1,k1]
  ·show max (dpB a) (dpL r)=max (dpB b) (dpL s)
   rw [g2,k2]
  ·show (frB a&&frL r)=(frB b&&frL s)
   rw [g3,k3]
  ·show max (moB a) (moL r)=max (moB b) (moL s)
   rw [g4,k4]
end
theorem pnt_err {l:List BlkT}{s:ByteArray}(h:pntF l=(s,0)):chF l=0/\(pnT l 0).length<=8192/\endN (strOf (pnT l 0))<=200/\s=strOf (pnT l 0):=by
 unfold pntF at h
 cases hc:ine (chF l) 0 with
 |true=>
  rw [hc,cond_true] at h
  have h2:chF l=0:=congrArg (fun q=>q.2) h
  rw [h2] at hc
  cases hc
 |false=>
  rw [hc,cond_false] at h
  by_cases h8:8192<(pnT l 0).length
  ·rw [decide_eq_true h8,cond_true] at h
   have h2:(3:Int)=0:=congrArg (fun q=>q.2) h
   cases h2
  ·rw [decide_eq_false h8,cond_false] at h
   cases h2:igt (endN (strOf (pnT l 0))) 200 with
   |true=>
    rw [h2,cond_true] at h
    have h2:(3:Int)=0:=congrArg (fun q=>q.2) h
    cases h2
   |false=>
    rw [h2,cond_false] at h
    exact ⟨bne_eq_false_iff_eq.1 hc,by omega,by have:=of_decide_eq_false h2;omega,(congrArg (fun q=>q.1) h).symm⟩
theorem chk_ok {l:List BlkT}(h:chF l=0):frT l=true/\dpT l<=16/\moT l<=64:=by
 unfold chF at h
 cases hf:frT l with
 |false=>rw [hf] at h;cases h
 |true=>
  rw [hf,Bool.not_true,cond_false] at h
  cases hd:decide (16<dpT l)||decide (64<moT l) with
  |true=>rw [hd] at h;cases h
  |false=>
   obtain ⟨h1,h2⟩:=Bool.or_eq_false_iff.1 hd
   have h1:=of_decide_eq_false h1
   have h2:=of_decide_eq_false h2
   exact ⟨rfl,by omega,by omega⟩
theorem par_pnt {l:List BlkT}{s:ByteArray}(h:pntF l=(s,0)): ∃ l',paB s=(l',(0,0))/\smT l l'=true/\pntF l'=(s,0):=by
 obtain ⟨h1,h2,h3,rfl⟩:=pnt_err h
 obtain ⟨f1,f2,f3⟩:=chk_ok h1
 obtain ⟨l',k1,k2⟩:=back f1 f2 f3 h2 h3
 refine ⟨l',k1,k2, ?_⟩
 obtain ⟨e1,e2,e3,e4⟩:=sm_L _ _ k2
 have ec:chF l'=chF l:=by
  unfold chF frT dpT moT
  rw [e2,e3,e4]
 have ep:pnT l' 0=pnT l 0:=(e1 0).symm
 rw [←h]
 unfold pntF
 rw [ec,ep]
end
end Go.Proofs.YtkkoedniahnneaaDoor.K
namespace Go.Proofs.YtkkoedniahnneaaDoor.K
open Go.RowKit
noncomputable section
set_option linter.unusedSectionVars false
theorem qt_len (w:ByteArray):(bytesL (qtF w)).length<=2*w.size+2:=by
 have h1:=bytesG_len w
 have h2:=escL_len (bytesL w)
 rw [qt_bl]
 cases plnB w with
 |true=>
  rw [cond_true]
  omega
 |false=>
  rw [cond_false,List.length_cons,List.length_append,List.length_singleton]
  omega
theorem wdsT_len (B:Nat): ∀ ws:List ByteArray,(∀ s∈ws,s.size<=B)->(wdsT ws).length<=ws.length*(2*B+3)
 | [],_=>Nat.zero_le _
 |w::r,h=>by
  have h1:=qt_len w
  have h2:=h w List.mem_cons_self
  have h3:=wdsT_len B r fun s hs=>h s (List.mem_cons_of_mem _ hs)
  rw [wdsT_cons,List.length_cons,List.length_append,List.length_cons,Nat.add_mul,Nat.one_mul]
  omega
theorem wdsL_len (B:Nat){ws:List ByteArray}(h: ∀ s∈ws,s.size<=B):(wdsL ws).length<=ws.length*(2*B+3):=by
 cases ws with
 |nil=>exact Nat.zero_le _
 |cons w r=>
  have h1:=wdsT_len B (w::r) h
  rw [wdsT_cons,List.length_cons] at h1
  show (bytesL (qtF w)++wdsT r).length<=_
  omega
theorem indL_n (n:Nat):(indL n).length=2*n:=List.length_replicate
theorem pnO_max (x:BlkT)(n:Nat):(pnO x n).length<=4*n+(wdsL x.1).length+5+(bif x.2.1 then (pnT (x.2.2.1.map Blk.un) (n+1)).length else 0):=by
 unfold pnO
 cases x.2.1 with
 |false=>
  simp only [Bool.not_false,cond_true,cond_false,List.length_append,indL_n,List.length_cons,List.length_nil]
  omega
 |true=>
  simp only [Bool.not_true,cond_true,cond_false,List.length_append,indL_n,List.length_cons,List.length_nil]
  omega
theorem pnT_all (n B:Nat): ∀ l:List BlkT,(∀ x∈l,(pnO x n).length<=B)->(pnT l n).length<=l.length*B
 | [],_=>Nat.zero_le _
 |x::l,h=>by
  have h1:=pnT_all n B l fun y hy=>h y (List.mem_cons_of_mem _ hy)
  have h2:=h x List.mem_cons_self
  have e:pnT (x::l) n=pnO x n++pnT l n:=prT_cons x l n
  rw [e,List.length_append,List.length_cons,Nat.add_mul,Nat.one_mul]
  omega
def Sb:Nat->Nat
 |0=>400
 |n+1=>4*Sb n
theorem Sb_ge: ∀ n,400<=Sb n
 |0=>Nat.le_refl _
 |n+1=>by
  have:=Sb_ge n
  show 400<=4*Sb n
  omega
theorem pnO_sm {x:BlkT}{k B:Nat}(hw:smW x.1)(hk:k<=10)(hi:(pnT (x.2.2.1.map Blk.un) (k+1)).length<=B):(pnO x k).length<=105+B:=by
 have h1:=pnO_max x k
 have h2:=wdsL_len 6 hw.2
 have h3:=hw.1
 have h4:x.1.length*(2*6+3)<=4*15:=Nat.mul_le_mul h3 (by decide)
 cases hq:x.2.1 with
 |true=>
  rw [hq,cond_true] at h1
  omega
 |false=>
  rw [hq,cond_false] at h1
  omega
theorem pnT_nil (n:Nat):(pnT [] n).length=0:=rfl
theorem SM_len: ∀ (n:Nat) (l:List BlkT) (k:Nat),SM n l->k+n<=10->(pnT l k).length<=Sb n
 |0,l,k,h,hk=>by
  obtain ⟨h1,h2⟩:=h
  have h3:=pnT_all k 105 l fun x hx=>by
   obtain ⟨a,b⟩:=h2 x hx
   exact pnO_sm (B:=0) a (by omega) (by rw [b];exact Nat.le_refl _)
  have h4:l.length*105<=3*105:=Nat.mul_le_mul h1 (Nat.le_refl _)
  show _<=400
  omega
 |n+1,l,k,h,hk=>by
  obtain ⟨h1,h2⟩:=h
  have hb:=Sb_ge n
  have h3:=pnT_all k (105+Sb n) l fun x hx=>by
   obtain ⟨a,b⟩:=h2 x hx
   refine pnO_sm a (by omega) ?_
   rcases b with b|b
   ·rw [b]
    exact Nat.zero_le _
   ·exact SM_len n _ (k+1) b (by omega)
  have h4:l.length*(105+Sb n)<=3*(105+Sb n):=Nat.mul_le_mul h1 (Nat.le_refl _)
  show _<=4*Sb n
  omega
theorem ls_pnt {n:Nat}{d:Dice}(h:dOk d=true)(hn:n<=3):pntOk (lsG n d).1=true:=by
 have h1:=SM_len n _ 0 (lsG_ok n d h).1 (by omega)
 have h2:Sb n<=25600:=by
  have:n=0∨n=1∨n=2∨n=3:=by omega
  rcases this with rfl|rfl|rfl|rfl<;>decide
 exact Bool.and_eq_true_iff.2 ⟨ls_okT h hn,cP_in (by omega)⟩
theorem ws_cnt: ∀ (m:Nat) (ws:List ByteArray) (x:ParserXX),lxOk2 x=true->ieq x.2.1.1 119=true->rmX x<=m->(wsX ws x).2.2.1.1=59∨(wsX ws x).2.2.1.1=123->(wsX ws x).1.length+rmX (wsX ws x).2<=ws.length+rmX x/\ws.length+1<=(wsX ws x).1.length
 |m,ws,x,hx,hq,hm,hs=>by
  have ht:=tk_ok hx
  rw [wsX_word hx hq] at hs ⊢
  have hl:(ws++[x.2.1.2.1]).length=ws.length+1:=by rw [List.length_append,List.length_singleton]
  cases hn:ieq (tkD x).2.1.1 119 with
  |false=>
   rw [wsX_not hn] at hs ⊢
   have:=ht.adv (by rcases hs with h|h;exact .inr (.inl h);exact .inr (.inr (.inl h)))
   simp only
   exact ⟨by omega,by omega⟩
  |true=>
   have h1:=ht.adv (.inl (eq_of_beq hn))
   cases m with
   |zero=>omega
   |succ m=>
    obtain ⟨g1,g2⟩:=ws_cnt m _ (tkD x) ht.ok hn (by omega) hs
    exact ⟨by omega,by omega⟩
theorem ws_sm: ∀ (m:Nat) (ws:List ByteArray) (x:ParserXX),lxOk2 x=true->rmX x<=m->(∀ s∈ws,s.size<=1000000)->TS x→ ∀ s∈(wsX ws x).1,s.size<=1000000
 |m,ws,x,hx,hm,hw,ht=>by
  cases hq:ieq x.2.1.1 119 with
  |false=>
   rw [wsX_not hq]
   exact hw
  |true=>
   have hk:=tk_ok hx
   rw [wsX_word hx hq]
   have hw2: ∀ s∈ws++[x.2.1.2.1],s.size<=1000000:=fun s hs=>by
    rcases List.mem_append.1 hs with hs|hs
    ·exact hw s hs
    ·rw [List.mem_singleton.1 hs]
     exact ht
   cases hn:ieq (tkD x).2.1.1 119 with
   |false=>
    rw [wsX_not hn]
    exact hw2
   |true=>
    have h1:=hk.adv (.inl (eq_of_beq hn))
    cases m with
    |zero=>omega
    |succ m=>exact ws_sm m _ (tkD x) hk.ok (by omega) hw2 (tok_sz hx)
theorem st_len: ∀ (N n:Nat) (lv:Int) (acc:List BlkT) (x:ParserXX),okR x=true->TS x->n+rmX x<=10000->(pnT (stG N lv acc x).1 n).length+2100000*rmX (stG N lv acc x).2<=(pnT acc n).length+2100000*rmX x
 |0,_,_,_,_,_,_,_=>Nat.le_refl _
 |N+1,n,lv,acc,x,hx,ht,hn=>by
  rw [stG_eq]
  cases !(ieq x.2.2.1 0&&(ine x.2.1.1 0&&ine x.2.1.1 125)) with
  |true=>exact Nat.le_refl _
  |false=>
   rw [cond_false]
   cases hc:ine x.2.1.1 119|| !x.2.1.2.2.1 with
   |true=>
    rw [cond_true]
    show _+2100000*rmX (flD x)<=_
    rw [rm_fl]
    exact Nat.le_refl _
   |false=>
    rw [cond_false]
    have hq:ieq x.2.1.1 119=true:=by
     cases hz:ieq x.2.1.1 119 with
     |true=>rfl
     |false=>
      rw [show ine x.2.1.1 119= !ieq x.2.1.1 119 from rfl,hz] at hc
      cases hc
    obtain ⟨h1,h2⟩:=hd_ok (lv:=lv) hx
    have ha:=hd_adv (lv:=lv) hx hq
    have hz:=ws_sm _ [] (dS (igt lv 16) x) (okR_lx (okR_dS hx)) (Nat.le_refl _) (fun s hs=>by cases hs) ht
    have hcnt:(hdX lv x).2.1.1=59∨(hdX lv x).2.1.1=123->(wsX [] (dS (igt lv 16) x)).1.length+rmX (hdX lv x)<=0+rmX x/\0+1<=(wsX [] (dS (igt lv 16) x)).1.length:=ws_cnt _ [] (dS (igt lv 16) x) (okR_lx (okR_dS hx)) hq (Nat.le_refl _)
    generalize (wsX [] (dS (igt lv 16) x)).1=ws at hz hcnt ⊢
    generalize hdX lv x=y at h1 h2 ha hcnt ⊢
    have k1:=rm_tk h1
    have ts:=tok_sz (okR_lx h1)
    have hwl:=wdsL_len 1000000 hz
    unfold stB
    cases h59:ieq y.2.1.1 59 with
    |true=>
     rw [cond_true]
     have hr:=ha (.inl (eq_of_beq h59))
     obtain ⟨c1,c2⟩:=hcnt (.inl (eq_of_beq h59))
     have ih:=st_len N n lv (acc++[(ws,(false,([],(x.2.1.2.2.2.1,()))))]) (tkD y) (okR_tk h1) ts (by omega)
     rw [pnT_app,pnT_one,List.length_append] at ih
     have ho:(pnO (ws,(false,([],(x.2.1.2.2.2.1,())))) n).length<=4*n+(wdsL ws).length+5+0:=pnO_max (ws,(false,([],(x.2.1.2.2.2.1,())))) n
     refine Nat.le_trans ih ?_
     omega
    |false=>
     rw [cond_false]
     cases h123:ieq y.2.1.1 123 with
     |false=>
      rw [cond_false]
      show _+2100000*rmX (flD y)<=_
      rw [rm_fl]
      show (pnT acc n).length+_<=_
      omega
     |true=>
      rw [cond_true]
      have hr:=ha (.inr (eq_of_beq h123))
      obtain ⟨c1,c2⟩:=hcnt (.inr (eq_of_beq h123))
      have hi:=st_len N (n+1) (lv+1) [] (tkD y) (okR_tk h1) ts (by omega)
      rw [pnT_nil] at hi
      obtain ⟨g1,g2⟩:=stG_ok N (lv+1) [] (tkD y) (okR_tk h1)
      generalize stG N (lv+1) [] (tkD y)=i at g1 g2 hi ⊢
      unfold stC
      cases ine i.2.2.2.1 0 with
      |true=>
       rw [cond_true]
       show (pnT acc n).length+2100000*rmX i.2<=_
       omega
      |false=>
       rw [cond_false]
       cases ine i.2.2.1.1 125 with
       |true=>
        rw [cond_true]
        show (pnT acc n).length+2100000*rmX (flD i.2)<=_
        rw [rm_fl]
        omega
       |false=>
        rw [cond_false]
        have k2:=rm_tk g1
        have ih:=st_len N n lv (acc++[(ws,(true,(i.1.map Blk.of,(x.2.1.2.2.2.1,()))))]) (tkD i.2) (okR_tk g1) (tok_sz (okR_lx g1)) (by omega)
        rw [pnT_app,pnT_one,List.length_append] at ih
        have ho:(pnO (ws,(true,(i.1.map Blk.of,(x.2.1.2.2.2.1,())))) n).length<=4*n+(wdsL ws).length+5+(pnT ((i.1.map Blk.of).map Blk.un) (n+1)).length:=pnO_max (ws,(true,(i.1.map Blk.of,(x.2.1.2.2.2.1,())))) n
        rw [of_un_map] at ho
        refine Nat.le_trans ih ?_
        omega
theorem pa_is (s:ByteArray):(paB s).1=[]∨(s.size<=8192/\(paB s).1=(stX 1 [] (tkD (psX s))).1):=by
 by_cases h1:s.size<=8192
 ·by_cases h2:endN s<=200
  ·rw [paB_in h1 h2]
   cases ine (psZ s).2.2.1 0 with
   |true=>exact .inl rfl
   |false=>
    cases (psZ s).2.2.2.1 with
    |true=>exact .inl rfl
    |false=>
     show stF (tkD (psX s)) 1=[]∨(_/\stF (tkD (psX s)) 1=_)
     unfold stF
     cases stBad 1 [] (tkD (psX s)) with
     |true=>exact .inl rfl
     |false=>exact .inr ⟨h1,rfl⟩
  ·refine .inl ?_
   unfold paB
   rw [show igt (slen s) 8192=false from decide_eq_false (by simp only [slen];omega),show igt (endN s) 200=true from decide_eq_true (by omega)]
   rfl
 ·refine .inl ?_
  unfold paB
  rw [show igt (slen s) 8192=true from decide_eq_true (by simp only [slen];omega)]
  rfl
theorem pa_pnt (s:ByteArray):pntOk (paB s).1=true:=by
 refine Bool.and_eq_true_iff.2 ⟨okT_pa,cP_in ?_⟩
 rcases pa_is s with h|⟨h1,h⟩
 ·rw [h]
  exact Nat.zero_le _
 ·rw [h]
  obtain ⟨o1,o2,o3⟩:=okR_ps h1
  have:=st_len (rmX (tkD (psX s))+1) 0 1 [] (tkD (psX s)) o1 (tok_sz o3) (by omega)
  rw [pnT_nil] at this
  show (pnT (stG (rmX (tkD (psX s))+1) 1 [] (tkD (psX s))).1 0).length<=_
  omega
theorem pnt_name (l:List BlkT):nameG (pntF l).1=true:=by
 have e0:nameG (ByteArray.mk #[])=true:=by kernel_rfl
 unfold pntF
 cases ine (chF l) 0 with
 |true=>exact e0
 |false=>
  rw [cond_false]
  by_cases h8:8192<(pnT l 0).length
  ·rw [decide_eq_true h8]
   exact e0
  ·rw [decide_eq_false h8,cond_false]
   cases igt (endN (strOf (pnT l 0))) 200 with
   |true=>exact e0
   |false=>exact decide_eq_true (by
     show (strOf (pnT l 0)).size<=_
     rw [strOf_size]
     omega)
end
end Go.Proofs.YtkkoedniahnneaaDoor.K
namespace Go.Proofs.YtkkoedniahnneaaDoor.K
open Go.RowKit
noncomputable section
set_option linter.unusedSectionVars false
def bbT (_:List Int)(_:ByteArray):Bool:=true
def bb0 (s:ByteArray)(i:Int)(d:Dice):Bool:=dOk d&&cP (0<=i/\i<=2/\s.size<=20000)
def fg_f9_0:Fg:=⟨[(1,some .str),(5,none),(14,some tI)],[(33,some tyDice),(5033,none),(10033,none),(15033,none)]⟩
def tb_f9_0:TC:=(.sq (.sq (.reg [(oV 85 14),(oP 86 (.bin false .lss (.t 85) (cI 2)))]) (.cd (.t 86) .sk (.fg ⟨[],[]⟩ (.ex 0)))) (.sq (.bk 1 (.sq (.sq (.reg [(oV 90 1),(oC 91 42 [(.t 90)]),(oV 89 91),(oP 92 (.ext 0 (.t 89))),(oP 93 (.ext 1 (.t 89))),(oP 94 (.ext 2 (.t 89))),(oV 15 92),(oV 16 93),(oV 17 94)]) (.sq (.reg [(oV 95 17),(oP 96 (.bin false .eql (.t 95) (cI 0)))]) (.cd (.t 96) (.sq (.reg [(oV 98 15),(oC 99 24 [(.t 98)]),(oV 97 99),(oP 100 (.ext 0 (.t 97))),(oP 101 (.ext 1 (.t 97))),(oV 18 100),(oV 19 101)]) (.sq (.reg [(oV 103 18),(oC 104 42 [(.t 103)]),(oV 102 104),(oP 105 (.ext 0 (.t 102))),(oP 106 (.ext 1 (.t 102))),(oP 107 (.ext 2 (.t 102))),(oV 20 105),(oV 21 106),(oV 22 107)]) (.sq (.reg [(oV 108 19),(oP 109 (.bin false .eql (.t 108) (cI 0))),(oV 110 109),(oQ 111 110 true (.mv (.t 22))),(oQ 112 110 true (.bin false .neq (.t 111) (cI 0))),(oQ 113 110 true (.mv (.t 112))),(oQ 114 113 false (.mv (.t 15))),(oQ 115 113 false (.mv (.t 20))),(oG 116 113 false (.call 40 [(.t 114),(.t 115)])),(oQ 117 113 false (.nt (.t 116))),(oQ 118 110 true (.pick (.t 113) (cB true) (.t 117))),(oP 119 (.pick (.t 110) (.t 118) (cB false)))]) (.cd (.t 119) (.sq (.reg [(oP 4 (.mv (cB false)))]) (.fg ⟨[(4,some .bool)],[]⟩ .rt)) .sk)))) .sk))) (.reg [(oV 120 5),(oC 121 22 [(.t 120),(cI 2)]),(oV 1 121)]))) (.reg [(oV 87 14),(oP 88 (.bin false .add (.t 87) (cI 1))),(oV 14 88)])))
def tc_f9:TC:=(.sq (.reg [(oP 4 (.mv (cB false)))]) (.sq (.sq (.reg [(oV 23 0),(oC 24 13 [(.t 23)]),(oP 25 (.nt (.t 24))),(oV 26 25),(oQ 27 26 false (.mv (.t 1))),(oQ 28 26 false (.len true (.t 27))),(oQ 29 26 false (.bin false .gtr (.t 28) (cI 3000))),(oP 30 (.pick (.t 26) (cB true) (.t 29)))]) (.cd (.t 30) (.sq (.reg [(oC 31 21 []),(oV 4 31)]) .rt) .sk)) (.sq (.reg [(oV 32 0),(oC 33 15 [(.t 32)]),(oV 5 33)]) (.sq (.reg [(oV 34 5),(oC 35 31 [(.t 34),(cI 3)]),(oV 6 35)]) (.sq (.reg [(oV 37 6),(oC 38 24 [(.t 37)]),(oV 36 38),(oP 39 (.ext 0 (.t 36))),(oP 40 (.ext 1 (.t 36))),(oV 7 39),(oV 8 40)]) (.sq (.sq (.reg [(oV 41 8),(oP 42 (.bin false .eql (.t 41) (cI 0))),(oV 43 6),(oC 44 33 [(.t 43)]),(oP 45 (.bin false .eql (.t 44) (cI 0))),(oP 46 (.bin true .neq (.t 42) (.t 45))),(oV 47 46),(oQ 48 47 true (.mv (.t 8))),(oQ 49 47 true (.bin false .neq (.t 48) (cI 3))),(oP 50 (.pick (.t 47) (.t 49) (cB false)))]) (.cd (.t 50) (.sq (.reg [(oP 4 (.mv (cB false)))]) .rt) .sk)) (.sq (.sq (.reg [(oV 51 8),(oP 52 (.bin false .eql (.t 51) (cI 0)))]) (.cd (.t 52) (.sq (.reg [(oV 54 7),(oC 55 42 [(.t 54)]),(oV 53 55),(oP 56 (.ext 0 (.t 53))),(oP 57 (.ext 1 (.t 53))),(oP 58 (.ext 2 (.t 53))),(oV 9 56),(oV 10 57),(oV 11 58)]) (.sq (.reg [(oV 60 9),(oC 61 24 [(.t 60)]),(oV 59 61),(oP 62 (.ext 0 (.t 59))),(oP 63 (.ext 1 (.t 59))),(oV 12 62),(oV 13 63)]) (.sq (.reg [(oV 64 11),(oP 65 (.bin false .neq (.t 64) (cI 0))),(oV 66 65),(oQ 67 66 false (.mv (.t 10))),(oQ 68 66 false (.bin false .neq (.t 67) (cI 0))),(oP 69 (.pick (.t 66) (cB true) (.t 68))),(oV 70 69),(oQ 71 70 false (.mv (.t 13))),(oQ 72 70 false (.bin false .neq (.t 71) (cI 0))),(oP 73 (.pick (.t 70) (cB true) (.t 72))),(oV 74 73),(oQ 75 74 false (.mv (.t 6))),(oQ 76 74 false (.mv (.t 9))),(oG 77 74 false (.call 40 [(.t 75),(.t 76)])),(oQ 78 74 false (.nt (.t 77))),(oP 79 (.pick (.t 74) (cB true) (.t 78))),(oV 80 79),(oQ 81 80 false (.mv (.t 7))),(oQ 82 80 false (.mv (.t 12))),(oQ 83 80 false (.bin false .neq (.t 81) (.t 82))),(oP 84 (.pick (.t 80) (cB true) (.t 83)))]) (.cd (.t 84) (.sq (.reg [(oP 4 (.mv (cB false)))]) .rt) .sk)))) .sk)) (.sq (.sq (.reg [(oP 14 (.mv (cI 0)))]) (.bk 0 (.lp 0 fg_f9_0 tb_f9_0))) (.sq (.reg [(oC 122 21 []),(oV 4 122)]) .rt)))))))))
def rv_f9:List (RV×Option Ty):=[((.t 4),some .bool)]
abbrev sh_f9_0:Sh:=⟨[(1,.ty .str),(5,.ptr 33 0),(14,.ty tI)],[(33,.box tyDice),(5033,.no),(10033,.no),(15033,.no)]⟩
def st_f9_0 (x1:ByteArray)(x14:Int)(y33:Dice):VS:=sh_f9_0.st (x1,(),x14,()) (y33,(),(),(),())
abbrev sh_f9_0_ret:Sh:=⟨[(4,.ty .bool)],[]⟩
def st_f9_0_ret (x4:Bool):VS:=sh_f9_0_ret.st (x4,()) ()
abbrev sh_f9_0_e0:Sh:=⟨[],[]⟩
def st_f9_0_e0  : VS:=sh_f9_0_e0.st () ()
-- loop 0: (x1 : ByteArray) (x14 : Int) (y33 : Dice); out: ('ret',) (x4 : Bool); ('exit', 0)
def L_f9_0:VS->Option (Bool×List (Bool×Exit×VS)):=mkL sh_f9_0 (fun x y=>(bb0 x.1 x.2.2.1 y.1)) (fun x y=>[(true,.exit 0,st_f9_0_e0)])
def g_f9:G:=⟨TYs,[],123,EL [(13,sp_f13),(15,sp_f15),(21,sp_f21),(22,sp_f22),(24,sp_f24),(31,sp_f31),(33,sp_f33),(40,sp_f40),(42,sp_f42)],keeps,(Ls [L_f9_0]),IL [],RL []⟩
def b_f9_0_1 (x1:ByteArray)(x14:Int)(y33:Dice):Option (Exit×VS):=
 br ((tx7Ok y33 2))
  (some (.normal,st_f9_0 (tx7F y33 2) (iadd .i64 x14 1) (tx7N y33 2)))
  (none)
def b_f9_0 (x1:ByteArray)(x14:Int)(y33:Dice):Option (Exit×VS):=
 br ((ilt x14 2))
  (br ((paOk x1))
   (br ((ieq (((paB x1).2).2) 0))
    (br ((pntOk ((paB x1).1)))
     (br ((paOk ((pntF ((paB x1).1)).1)))
      (br ((ieq ((pntF ((paB x1).1)).2) 0))
       (br ((ine (((paB ((pntF ((paB x1).1)).1)).2).2) 0))
        (some (.ret,st_f9_0_ret false))
        (br ((okST ((paB x1).1) ((paB ((pntF ((paB x1).1)).1)).1)))
         (br ((!(smT ((paB x1).1) ((paB ((pntF ((paB x1).1)).1)).1))))
          (some (.ret,st_f9_0_ret false))
          (b_f9_0_1 x1 x14 y33))
         (none)))
       (b_f9_0_1 x1 x14 y33))
      (none))
     (none))
    (b_f9_0_1 x1 x14 y33))
   (none))
  (some (.exit 0,st_f9_0_e0))
noncomputable def lp_f9_0 (x1:ByteArray)(x14:Int)(y33:Dice):Option (Exit×VS):=loopF (roundF g_f9 fg_f9_0 tb_f9_0) (st_f9_0 x1 x14 y33)
noncomputable def n_f9_0_1 (x1:ByteArray)(x14:Int)(y33:Dice):Option (Exit×VS):=
 br ((tx7Ok y33 2))
  (lp_f9_0 (tx7F y33 2) (iadd .i64 x14 1) (tx7N y33 2))
  (none)
noncomputable def n_f9_0 (x1:ByteArray)(x14:Int)(y33:Dice):Option (Exit×VS):=
 br ((ilt x14 2))
  (br ((paOk x1))
   (br ((ieq (((paB x1).2).2) 0))
    (br ((pntOk ((paB x1).1)))
     (br ((paOk ((pntF ((paB x1).1)).1)))
      (br ((ieq ((pntF ((paB x1).1)).2) 0))
       (br ((ine (((paB ((pntF ((paB x1).1)).1)).2).2) 0))
        (some (.ret,st_f9_0_ret false))
        (br ((okST ((paB x1).1) ((paB ((pntF ((paB x1).1)).1)).1)))
         (br ((!(smT ((paB x1).1) ((paB ((pntF ((paB x1).1)).1)).1))))
          (some (.ret,st_f9_0_ret false))
          (n_f9_0_1 x1 x14 y33))
         (none)))
       (n_f9_0_1 x1 x14 y33))
      (none))
     (none))
    (n_f9_0_1 x1 x14 y33))
   (none))
  (some (.exit 0,st_f9_0_e0))
def la_f9_0 (x1:ByteArray)(x14:Int)(y33:Dice):Option (Exit×VS):=some (.exit 0,st_f9_0_e0)
theorem be_f9_0 (x1:ByteArray)(x14:Int)(y33:Dice):roundF g_f9 fg_f9_0 tb_f9_0 (st_f9_0 x1 x14 y33)=b_f9_0 x1 x14 y33:=by kernel_rfl
theorem ln_f9_0 (x1:ByteArray)(x14:Int)(y33:Dice):lp_f9_0 x1 x14 y33=n_f9_0 x1 x14 y33:=(loopF_nxt _ _).trans (by
 rw [be_f9_0]
 simp only [b_f9_0,b_f9_0_1,n_f9_0,n_f9_0_1,nxt_br,nxt_n,nxt_r,nxt_e,nxt_0]
 rfl)
def r_f9_2 (p0:(List Int))(p1:ByteArray):Option (V×List VO):=
 br ((bb0 p1 (0:Int) (ls7N (roll p0) 3)))
  (some (.t .bool awk7,[]))
  (none)
def r_f9_1 (p0:(List Int))(p1:ByteArray):Option (V×List VO):=
 br ((ieq ((pntF (ls7F (roll p0) 3)).2) 0))
  (br ((paOk ((pntF (ls7F (roll p0) 3)).1)))
   (br ((pntOk ((paB ((pntF (ls7F (roll p0) 3)).1)).1)))
    (br ((ine (((paB ((pntF (ls7F (roll p0) 3)).1)).2).2) 0))
     (some (.t .bool false,[]))
     (br ((ine (((paB ((pntF (ls7F (roll p0) 3)).1)).2).1) 0))
      (some (.t .bool false,[]))
      (br ((ine ((pntF ((paB ((pntF (ls7F (roll p0) 3)).1)).1)).2) 0))
       (some (.t .bool false,[]))
       (br ((okST (ls7F (roll p0) 3) ((paB ((pntF (ls7F (roll p0) 3)).1)).1)))
        (br ((!(smT (ls7F (roll p0) 3) ((paB ((pntF (ls7F (roll p0) 3)).1)).1))))
         (some (.t .bool false,[]))
         (br ((sne ((pntF (ls7F (roll p0) 3)).1) ((pntF ((paB ((pntF (ls7F (roll p0) 3)).1)).1)).1)))
          (some (.t .bool false,[]))
          (r_f9_2 p0 p1)))
        (none)))))
    (none))
   (none))
  (r_f9_2 p0 p1)
def r_f9 (p0:(List Int))(p1:ByteArray):Option (V×List VO):=
 br ((!(light p0)))
  (some (.t .bool awk7,[]))
  (br ((igt (slen p1) 3000))
   (some (.t .bool awk7,[]))
   (br ((ls7Ok (roll p0) 3))
    (br ((pntOk (ls7F (roll p0) 3)))
     (br ((okT (ls7F (roll p0) 3)))
      (br ((bneq (ieq ((pntF (ls7F (roll p0) 3)).2) 0) (ieq (chF (ls7F (roll p0) 3)) 0)))
       (br ((ine ((pntF (ls7F (roll p0) 3)).2) 3))
        (some (.t .bool false,[]))
        (r_f9_1 p0 p1))
       (r_f9_1 p0 p1))
      (none))
     (none))
    (none)))
theorem e_f9 (p0:(List Int))(p1:ByteArray):runF g_f9 tc_f9 rv_f9 false [.t (.sl tI) p0,.t .str p1] []=r_f9 p0 p1:=by kernel_rfl
theorem ok_f9:Option.map (trC Tryd.prog) Tryd.f9.body=some tc_f9.er:=by kernel_rfl
theorem rok_f9:trVs Tryd.prog Tryd.f9.results.toList=some (rv_f9.map Prod.fst):=by kernel_rfl
theorem gk_f9:GOk Tryd.prog g_f9:=gok_of _ (by
 intro p hp
 simp only [List.mem_cons,List.not_mem_nil,or_false] at hp
 rcases hp with rfl|rfl|rfl|rfl|rfl|rfl|rfl|rfl|rfl
 ·exact ⟨en_f13,ms_f13⟩
 ·exact ⟨en_f15,ms_f15⟩
 ·exact ⟨en_f21,ms_f21⟩
 ·exact ⟨en_f22,ms_f22⟩
 ·exact ⟨en_f24,ms_f24⟩
 ·exact ⟨en_f31,ms_f31⟩
 ·exact ⟨en_f33,ms_f33⟩
 ·exact ⟨en_f40,ms_f40⟩
 ·exact ⟨en_f42,ms_f42⟩)
theorem nm_le {s:ByteArray}{n:Nat}(h:s.size<=n)(hn:n<=1000000):nameG s=true:=decide_eq_true (by omega)
theorem l_f9_0 (x1:ByteArray)(x14:Int)(y33:Dice)(h:(bb0 x1 x14 y33)=true):lp_f9_0 x1 x14 y33=la_f9_0 x1 x14 y33:=by
 obtain ⟨h1,h2⟩:=Bool.and_eq_true_iff.1 h
 obtain ⟨h2,h3,h4⟩:=cP_of h2
 clear h
 have la: ∀ (s s2:ByteArray) (i i2:Int) (d d2:Dice),la_f9_0 s i d=la_f9_0 s2 i2 d2:=fun _ _ _ _ _ _=>rfl
 have key: ∀ (j:Nat) (s:ByteArray) (i:Int) (d:Dice),(2-i).toNat=j->dOk d=true->0<=i->i<=2->s.size<=20000->lp_f9_0 s i d=la_f9_0 s i d:=by
  intro j
  induction j with
  |zero=>
   intro s i d hj hd g1 g2 g3
   have e2:ilt i 2=false:=decide_eq_false (by omega)
   rw [ln_f9_0]
   unfold n_f9_0
   rw [e2,br_false]
   rfl
  |succ j ih=>
   intro s i d hj hd g1 g2 g3
   have e2:ilt i 2=true:=decide_eq_true (by omega)
   have hn:n_f9_0_1 s i d=la_f9_0 s i d:=by
    unfold n_f9_0_1
    obtain ⟨t1,t2⟩:=txG_ok 2 d hd
    have t3:=Bn_le 2 (by decide)
    rw [show iadd .i64 i 1=i+1 from iadd_in (by omega)]
    refine brY (Bool.and_eq_true_iff.2 ⟨hd,cP_in ⟨by decide,by decide⟩⟩) ?_
    refine (ih (tx7F d 2) (i+1) (tx7N d 2) (by omega) t2 (by omega) (by omega) ?_).trans (la _ _ _ _ _ _)
    show (txG 2 d).1.size<=20000
    omega
   rw [ln_f9_0]
   unfold n_f9_0
   rw [e2,br_true]
   refine brY (nm_le g3 (by decide)) ?_
   rw [hn]
   cases ieq (paB s).2.2 0 with
   |false=>rfl
   |true=>
    rw [br_true,pa_pnt,br_true,show paOk (pntF (paB s).1).1=true from pnt_name _,br_true]
    cases he:ieq (pntF (paB s).1).2 0 with
    |false=>rfl
    |true=>
     obtain ⟨l',k1,k2,k3⟩:=par_pnt (l:=(paB s).1) (s:=(pntF (paB s).1).1) (by rw [←show (pntF (paB s).1).2=0 from eq_of_beq he])
     have hk:okST (paB s).1 l'=true:=okT_pa
     rw [k1,br_true]
     simp only
     rw [hk,k2]
     rfl
 exact key _ x1 x14 y33 rfl h1 h2 h3 h4
theorem lo_f9_0: ∀ S l p,g_f9.L 0 (fgt fg_f9_0 S)=some (true,l)->pickA l=some p->loopF (roundF g_f9 fg_f9_0 tb_f9_0) S=some p:=
 lok_of (s:=sh_f9_0) ⟨by decide,by decide⟩ (by kernel_rfl) fun x y hok p hp=>by
 simp only [pickA_br,pickA_one] at hp
 exact (l_f9_0 x.1 x.2.2.1 y.1 (by simpa using hok)).trans hp
theorem lk_f9:tc_f9.lok g_f9:=by
 repeat (first|exact trivial|exact lo_f9_0|refine ⟨?_, ?_⟩)
theorem s_f9 (l:List Int)(s:ByteArray):r_f9 l s=some (.t .bool (bbT l s),[]):=by
 simp only [r_f9,r_f9_1,r_f9_2]
 cases hL:light l with
 |false=>rfl
 |true=>
  rw [Bool.not_true,br_false]
  cases h3:igt (slen s) 3000 with
  |true=>rfl
  |false=>
   have hs:s.size<=3000:=by
    have:=of_decide_eq_false h3
    simp only [slen] at this
    omega
   have hd:=dOk_roll hL
   obtain ⟨_,d2⟩:=lsG_ok 3 (roll l) hd
   have hT:bb0 s 0 (ls7N (roll l) 3)=true:=Bool.and_eq_true_iff.2 ⟨d2,cP_in ⟨by decide,by decide,by omega⟩⟩
   have hp:pntOk (ls7F (roll l) 3)=true:=ls_pnt (n:=3) hd (by decide)
   have hk:okT (ls7F (roll l) 3)=true:=ls_okT (n:=3) hd (by decide)
   rw [br_false]
   refine brY (Bool.and_eq_true_iff.2 ⟨hd,cP_in ⟨by decide,by decide⟩⟩) ?_
   rw [hp,br_true,hk,br_true,hT,br_true]
   generalize ls7F (roll l) 3=x at hp hk ⊢
   have hc:bneq (ieq (pntF x).2 0) (ieq (chF x) 0)=false∨(ine (pntF x).2 3=false/\ieq (pntF x).2 0=false):=by
    unfold pntF
    cases hq:ine (chF x) 0 with
    |true=>
     refine .inl ?_
     show (ieq (chF x) 0 != ieq (chF x) 0)=false
     cases ieq (chF x) 0<;>rfl
    |false=>
     rw [cond_false]
     have he:chF x=0:=bne_eq_false_iff_eq.1 hq
     rw [he]
     cases decide (8192<(pnT x 0).length) with
     |true=>exact .inr ⟨rfl,rfl⟩
     |false=>
      rw [cond_false]
      cases igt (endN (strOf (pnT x 0))) 200 with
      |true=>exact .inr ⟨rfl,rfl⟩
      |false=>exact .inl rfl
   have hm:br (ieq (pntF x).2 0) (br (paOk (pntF x).1) (br (pntOk (paB (pntF x).1).1) (br (ine (paB (pntF x).1).2.2 0) (some (V.t .bool false,([]:List VO))) (br (ine (paB (pntF x).1).2.1 0) (some (V.t .bool false,[])) (br (ine (pntF (paB (pntF x).1).1).2 0) (some (V.t .bool false,[]))
     (br (okST x (paB (pntF x).1).1) (br (!smT x (paB (pntF x).1).1) (some (V.t .bool false,[])) (br (sne (pntF x).1 (pntF (paB (pntF x).1).1).1) (some (V.t .bool false,[])) (some (V.t .bool awk7,[])))) none)))) none) none) (some (V.t .bool awk7,[]))=some (V.t .bool true,[]):=by
    cases he:ieq (pntF x).2 0 with
    |false=>rfl
    |true=>
     obtain ⟨l',k1,k2,k3⟩:=par_pnt (l:=x) (s:=(pntF x).1) (by rw [←show (pntF x).2=0 from eq_of_beq he])
     have hk2:okST x l'=true:=hk
     have hpp:=pa_pnt (pntF x).1
     rw [br_true,show paOk (pntF x).1=true from pnt_name _,br_true,hpp,br_true,k1]
     simp only
     rw [k3]
     simp only
     rw [hk2,k2,show sne (pntF x).1 (pntF x).1=false by unfold sne;simp]
     rfl
   rw [hm]
   rcases hc with hc|⟨hc,_⟩
   ·rw [hc]
    rfl
   ·rw [hc]
    cases bneq (ieq (pntF x).2 0) (ieq (chF x) 0)<;>rfl
def sp_f9:Ent:=spec (.pr (.sl tI) (.pr .str .nil)) (fun x=>true) (fun x=>(.t .bool (bbT x.1 x.2.1)))
theorem ms_f9:Meets Tryd.prog 9 (strip sp_f9):=by
 obtain ⟨c,hc,hi⟩:=Option.map_eq_some_iff.1 ok_f9
 exact meets_spec (R:=runF g_f9 tc_f9 rv_f9 false) (meets_of (by decide) Tryd.func9 hc hi Tryd.ntmps9 rok_f9 gk_f9 lk_f9 mixed) fun x _=>(e_f9 x.1 x.2.1).trans (s_f9 x.1 x.2.1)
theorem walkBlocksBack (z0:(List Int))(z1:ByteArray)(W:World)(v0:Value)(v1:Value)(c0:C noX W (fun _=> .no) (V.t (.sl tI) z0).d v0)(c1:C noX W (fun _=> .no) (V.t .str z1).d v1)(w0:Ty.wf (.sl tI) z0)(w1:Ty.wf .str z1):
  Calls Tryd.prog 9 #[v0,v1] W fun r w'=>r= .returned (.bool true)/\Below W.heap.size W w':=
 calls_true (by decide) ms_f9 (args:=[.t (.sl tI) z0,.t .str z1]) (strip_spec (x:=(z0,z1,())) rfl (rfl)) (by simp only [V.ds,Cs];exact ⟨_,_,rfl,c0,_,_,rfl,c1,rfl⟩)
end
end Go.Proofs.YtkkoedniahnneaaDoor.K
