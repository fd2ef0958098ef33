import Derived.Test.YtkkoedniahnneaaDoorQ5
set_option linter.unusedSimpArgs false
set_option linter.unusedVariables false
set_option linter.unusedSectionVars false
namespace Go.Proofs.YtkkoedniahnneaaDoor.K
open Go.RowKit
noncomputable section
set_option linter.unusedSectionVars false
abbrev bl1:List ByteArray:=[(ByteArray.mk #[115,101,114,118,101,114]),(ByteArray.mk #[97]),(ByteArray.mk #[120,46,49])]
abbrev bl2:List ByteArray:=[(ByteArray.mk #[118]),(ByteArray.mk #[]),(ByteArray.mk #[97,32,98]),(ByteArray.mk #[113,34,114]),(ByteArray.mk #[98,92,99]),(ByteArray.mk #[35,32,120]),(ByteArray.mk #[59]),(ByteArray.mk #[116,9,117])]
abbrev bl3:List ByteArray:=[(ByteArray.mk #[]),(ByteArray.mk #[97,32,98]),(ByteArray.mk #[34])]
abbrev bl4:List ByteArray:=[(ByteArray.mk #[97,10,98]),(ByteArray.mk #[127])]
abbrev WD:Type:=List ByteArray×Dice
abbrev LD:Type:=List BlkT×Dice
def lk0:Nat->List ByteArray->Dice->WD
 |0,y,d=>(y,d)
 |k+1,y,d=>lk0 k (y++[dwdG d bl2]) (dwdGN d bl2)
def lT (ws:List ByteArray)(o:Bool)(wi:List Blk)(ln:Int)(d:Dice):BlkT×Dice:=
 bif ieq (dval d 24) 0 then (([],(o,(wi,(ln,())))),dnext d 24) else
 bif ieq (dval d 24) 1 then ((ws.set (Int.toNat 0) (dwdG (dnext d 24) bl3),(o,(wi,(ln,())))),dwdGN (dnext d 24) bl3) else
 bif ieq (dval d 24) 2 then ((ws++[dwdG (dnext d 24) bl4],(o,(wi,(ln,())))),dwdGN (dnext d 24) bl4) else
 bif ieq (dval d 24) 3 then ((ws,(false,(wi,(ln,())))),dnext d 24) else ((ws,(o,(wi,(ln,())))),dnext d 24)
def lA (d:Dice):WD:=lk0 (dval (dnext (dwdGN d bl1) 9) 3).toNat [dwdG d bl1] (dnext (dnext (dwdGN d bl1) 9) 3)
def lB (rec:Dice->LD)(dep:Bool)(r:WD)(ln:Int):BlkT×Dice:=
 bif dep then (bif done r.2 3 then lT r.1 true ((rec (dnext r.2 3)).1.map Blk.of) ln (rec (dnext r.2 3)).2 else lT r.1 false [] ln (dnext r.2 3)) else lT r.1 false [] ln r.2
def lk1 (rec:Dice->LD)(dep:Bool):Nat->List BlkT->Dice->LD
 |0,y,d=>(y,d)
 |i+1,y,d=>lk1 rec dep i (y++[(lB rec dep (lA d) (dval (dwdGN d bl1) 9)).1]) (lB rec dep (lA d) (dval (dwdGN d bl1) 9)).2
def lsG:Nat->Dice->LD
 |0,d=>lk1 (fun d=>([],d)) false (dval d 4).toNat [] (dnext d 4)
 |n+1,d=>lk1 (lsG n) true (dval d 4).toNat [] (dnext d 4)
def ls7F (d:Dice)(n:Int):List BlkT:=(lsG n.toNat d).1
def ls7N (d:Dice)(n:Int):Dice:=(lsG n.toNat d).2
def ls7S:Nat->Dice->Int->Bool
 |0,_,_=>false
 |k+1,d,n=>dOk d&&cP (0<=n/\n<=k/\n<=3)
def ls7Ok (d:Dice)(n:Int):Bool:=dOk d&&cP (0<=n/\n<=3)
theorem fuel_law07_list (d:Dice)(n:Int)(h:ls7Ok d n=true): ∃ N,ls7S N d n=true:=by
 obtain ⟨h1,h2⟩:=Bool.and_eq_true_iff.1 h
 obtain ⟨h2,h3⟩:=cP_of h2
 exact ⟨4,Bool.and_eq_true_iff.2 ⟨h1,cP_in ⟨h2,h3,h3⟩⟩⟩
def smW (ws:List ByteArray):Prop:=ws.length<=4∧ ∀ s∈ws,s.size<=6
def SM:Nat->List BlkT->Prop
 |0,l=>l.length<=3∧ ∀ x∈l,smW x.1/\x.2.2.1=[]
 |n+1,l=>l.length<=3∧ ∀ x∈l,smW x.1/\(x.2.2.1=[]∨SM n (x.2.2.1.map Blk.un))
theorem lk0_ok: ∀ (k:Nat) (y:List ByteArray) (d:Dice),dOk d=true->(∀ s∈y,s.size<=6)->(lk0 k y d).1.length=y.length+k/\(∀ s∈(lk0 k y d).1,s.size<=6)/\dOk (lk0 k y d).2=true
 |0,y,d,h,hy=>⟨rfl,hy,h⟩
 |k+1,y,d,h,hy=>by
  obtain ⟨h1,h2,h3⟩:=lk0_ok k (y++[dwdG d bl2]) (dwdGN d bl2) (dOk_next h) (fun s hs=>by
   rcases List.mem_append.1 hs with hs|hs
   ·exact hy s hs
   ·rw [List.mem_singleton.1 hs]
    exact dwd_size (by kernel_rfl))
  rw [List.length_append,List.length_singleton] at h1
  exact ⟨by show (lk0 k _ _).1.length=_;omega,h2,h3⟩
theorem lA_ok (d:Dice)(h:dOk d=true):0<(lA d).1.length/\(lA d).1.length<=3/\(∀ s∈(lA d).1,s.size<=6)/\dOk (lA d).2=true:=by
 have hv:=dval_lt (d:=dnext (dwdGN d bl1) 9) (n:=3) (by omega)
 obtain ⟨h1,h2,h3⟩:=lk0_ok (dval (dnext (dwdGN d bl1) 9) 3).toNat [dwdG d bl1] (dnext (dnext (dwdGN d bl1) 9) 3) (dOk_next (dOk_next (dOk_next h))) (fun s hs=>by
  rw [List.mem_singleton.1 hs]
  exact dwd_size (by kernel_rfl))
 rw [List.length_singleton] at h1
 exact ⟨by show 0<(lk0 _ _ _).1.length;omega,by show (lk0 _ _ _).1.length<=3;omega,h2,h3⟩
theorem lT_ok {ws:List ByteArray}{o:Bool}{wi:List Blk}{ln:Int}{d:Dice}(h1:ws.length<=3)(h2: ∀ s∈ws,s.size<=6)(h:dOk d=true):smW (lT ws o wi ln d).1.1/\(lT ws o wi ln d).1.2.2.1=wi/\dOk (lT ws o wi ln d).2=true:=by
 unfold lT
 cases ieq (dval d 24) 0 with
 |true=>exact ⟨⟨Nat.zero_le _,fun s hs=>by cases hs⟩,rfl,show dOk (dnext d 24)=true from dOk_next h⟩
 |false=>
  rw [cond_false]
  cases ieq (dval d 24) 1 with
  |true=>
   refine ⟨⟨by show (ws.set _ _).length<=4;rw [List.length_set];omega,fun s hs=> ?_⟩,rfl,show dOk (dwdGN (dnext d 24) bl3)=true from dOk_next (dOk_next h)⟩
   rcases List.mem_or_eq_of_mem_set hs with hs|hs
   ·exact h2 s hs
   ·rw [hs]
    exact dwd_size (by kernel_rfl)
  |false=>
   rw [cond_false]
   cases ieq (dval d 24) 2 with
   |true=>
    refine ⟨⟨by show (ws++[_]).length<=4;rw [List.length_append,List.length_singleton];omega,fun s hs=> ?_⟩,rfl,show dOk (dwdGN (dnext d 24) bl4)=true from dOk_next (dOk_next h)⟩
    rcases List.mem_append.1 hs with hs|hs
    ·exact h2 s hs
    ·rw [List.mem_singleton.1 hs]
     exact dwd_size (by kernel_rfl)
   |false=>
    rw [cond_false]
    cases ieq (dval d 24) 3 with
    |true=>exact ⟨⟨by show ws.length<=4;omega,h2⟩,rfl,show dOk (dnext d 24)=true from dOk_next h⟩
    |false=>exact ⟨⟨by show ws.length<=4;omega,h2⟩,rfl,show dOk (dnext d 24)=true from dOk_next h⟩
theorem of_un_map (l:List BlkT):(l.map Blk.of).map Blk.un=l:=by rw [List.map_map,show (Blk.un ∘ Blk.of)=id from funext Blk.un_of,List.map_id]
theorem lB_ok {rec:Dice->LD}{dep:Bool}{Q:List BlkT->Prop}(hr:dep=true→ ∀ d,dOk d=true->Q (rec d).1/\dOk (rec d).2=true){r:WD}{ln:Int}(h1:r.1.length<=3)(h2: ∀ s∈r.1,s.size<=6)(h:dOk r.2=true):
  smW (lB rec dep r ln).1.1/\((lB rec dep r ln).1.2.2.1=[]∨(dep=true/\Q ((lB rec dep r ln).1.2.2.1.map Blk.un)))/\dOk (lB rec dep r ln).2=true:=by
 unfold lB
 cases dep with
 |false=>
  obtain ⟨a,b,c⟩:=lT_ok (o:=false) (wi:=[]) (ln:=ln) h1 h2 h
  exact ⟨a,.inl b,c⟩
 |true=>
  rw [cond_true]
  cases done r.2 3 with
  |false=>
   obtain ⟨a,b,c⟩:=lT_ok (o:=false) (wi:=[]) (ln:=ln) h1 h2 (dOk_next (n:=3) h)
   exact ⟨a,.inl b,c⟩
  |true=>
   obtain ⟨q1,q2⟩:=hr rfl (dnext r.2 3) (dOk_next h)
   obtain ⟨a,b,c⟩:=lT_ok (o:=true) (wi:=(rec (dnext r.2 3)).1.map Blk.of) (ln:=ln) h1 h2 q2
   refine ⟨a,.inr ⟨rfl, ?_⟩,c⟩
   rw [cond_true,b,of_un_map]
   exact q1
theorem lk1_ok {rec:Dice->LD}{dep:Bool}{Q:List BlkT->Prop}(hr:dep=true→ ∀ d,dOk d=true->Q (rec d).1/\dOk (rec d).2=true): ∀ (i:Nat) (y:List BlkT) (d:Dice),dOk d=true->(∀ x∈y,smW x.1/\(x.2.2.1=[]∨(dep=true/\Q (x.2.2.1.map Blk.un))))→
  (lk1 rec dep i y d).1.length=y.length+i/\(∀ x∈(lk1 rec dep i y d).1,smW x.1/\(x.2.2.1=[]∨(dep=true/\Q (x.2.2.1.map Blk.un))))/\dOk (lk1 rec dep i y d).2=true
 |0,y,d,h,hy=>⟨rfl,hy,h⟩
 |i+1,y,d,h,hy=>by
  obtain ⟨a1,a2,a3,a4⟩:=lA_ok d h
  obtain ⟨b1,b2,b3⟩:=lB_ok (ln:=dval (dwdGN d bl1) 9) hr a2 a3 a4
  obtain ⟨c1,c2,c3⟩:=lk1_ok hr i (y++[(lB rec dep (lA d) (dval (dwdGN d bl1) 9)).1]) (lB rec dep (lA d) (dval (dwdGN d bl1) 9)).2 b3 (fun x hx=>by
   rcases List.mem_append.1 hx with hx|hx
   ·exact hy x hx
   ·rw [List.mem_singleton.1 hx]
    exact ⟨b1,b2⟩)
  rw [List.length_append,List.length_singleton] at c1
  exact ⟨by show (lk1 rec dep i _ _).1.length=_;omega,c2,c3⟩
theorem lsG_ok: ∀ (n:Nat) (d:Dice),dOk d=true->SM n (lsG n d).1/\dOk (lsG n d).2=true
 |0,d,h=>by
  have hv:=dval_lt (d:=d) (n:=4) (by omega)
  obtain ⟨h1,h2,h3⟩:=lk1_ok (rec:=fun d=>([],d)) (dep:=false) (Q:=fun _=>True) (fun h=>by cases h) (dval d 4).toNat [] (dnext d 4) (dOk_next h) (fun x hx=>by cases hx)
  rw [List.length_nil] at h1
  refine ⟨⟨by show (lk1 _ _ _ _ _).1.length<=3;omega,fun x hx=> ?_⟩,h3⟩
  obtain ⟨a,b⟩:=h2 x hx
  exact ⟨a,b.elim id (fun q=>by cases q.1)⟩
 |n+1,d,h=>by
  have hv:=dval_lt (d:=d) (n:=4) (by omega)
  obtain ⟨h1,h2,h3⟩:=lk1_ok (rec:=lsG n) (dep:=true) (Q:=SM n) (fun _ d hd=>lsG_ok n d hd) (dval d 4).toNat [] (dnext d 4) (dOk_next h) (fun x hx=>by cases hx)
  rw [List.length_nil] at h1
  refine ⟨⟨by show (lk1 _ _ _ _ _).1.length<=3;omega,fun x hx=> ?_⟩,h3⟩
  obtain ⟨a,b⟩:=h2 x hx
  exact ⟨a,b.imp id (fun q=>q.2)⟩
theorem sm_wsz {ws:List ByteArray}(h:smW ws):ws.length<=100000/\ws.all wsz=true:=⟨by have:=h.1;omega,List.all_eq_true.2 fun s hs=>decide_eq_true (by have:=h.2 s hs;omega)⟩
theorem SM_ok: ∀ (n:Nat) (l:List BlkT),SM n l->okB (n+2) l=true
 |0,l,h=>by
  obtain ⟨h1,h2⟩:=h
  refine Bool.and_eq_true_iff.2 ⟨decide_eq_true (by omega),List.all_eq_true.2 fun x hx=> ?_⟩
  obtain ⟨a,b⟩:=h2 x hx
  obtain ⟨c1,c2⟩:=sm_wsz a
  exact Bool.and_eq_true_iff.2 ⟨decide_eq_true c1,Bool.and_eq_true_iff.2 ⟨c2,by rw [b];rfl⟩⟩
 |n+1,l,h=>by
  obtain ⟨h1,h2⟩:=h
  refine Bool.and_eq_true_iff.2 ⟨decide_eq_true (by omega),List.all_eq_true.2 fun x hx=> ?_⟩
  obtain ⟨a,b⟩:=h2 x hx
  obtain ⟨c1,c2⟩:=sm_wsz a
  refine Bool.and_eq_true_iff.2 ⟨decide_eq_true c1,Bool.and_eq_true_iff.2 ⟨c2, ?_⟩⟩
  rcases b with b|b
  ·rw [b]
   rfl
  ·exact SM_ok n _ b
theorem ls_okT {n:Nat}{d:Dice}(h:dOk d=true)(hn:n<=3):okT (lsG n d).1=true:=cP_in ⟨n+2,okN_i (SM_ok n _ (lsG_ok n d h).1) (by omega)⟩
theorem l_tail {F:List BlkT->Dice->Option (Exit×VS)}{y:List BlkT}{ws:List ByteArray}{o:Bool}{wi:List Blk}{ln:Int}{d:Dice}(hd:dOk d=true)(h0:0<ws.length)(h1:ws.length<=3)(hy:y.length<=3):
  br (nextOk d 24) (br (ieq (dval d 24) 0) (br (cApp y [(([]:List ByteArray),(o,(wi,(ln,()))))] 64) (F (y++[(([]:List ByteArray),(o,(wi,(ln,()))))]) (dnext d 24)) none)
   (br (ieq (dval d 24) 1) (br (wdGOk (dnext d 24) bl3) (br (cIx ws 0) (br (cLd ws (Int.toNat 0)) (br (cApp y [((List.set ws (Int.toNat 0) (dwdG (dnext d 24) bl3)),(o,(wi,(ln,()))))] 64) (F (y++[((List.set ws (Int.toNat 0) (dwdG (dnext d 24) bl3)),(o,(wi,(ln,()))))]) (dwdGN (dnext d 24) bl3)) none) none) none) none)
    (br (ieq (dval d 24) 2) (br (wdGOk (dnext d 24) bl4) (br (cApp ws [dwdG (dnext d 24) bl4] 16) (br (cApp y [((ws++[dwdG (dnext d 24) bl4]),(o,(wi,(ln,()))))] 64) (F (y++[((ws++[dwdG (dnext d 24) bl4]),(o,(wi,(ln,()))))]) (dwdGN (dnext d 24) bl4)) none) none) none)
     (br (ieq (dval d 24) 3) (br (cApp y [(ws,(false,(wi,(ln,()))))] 64) (F (y++[(ws,(false,(wi,(ln,()))))]) (dnext d 24)) none)
      (br (cApp y [(ws,(o,(wi,(ln,()))))] 64) (F (y++[(ws,(o,(wi,(ln,()))))]) (dnext d 24)) none))))) none
   = F (y++[(lT ws o wi ln d).1]) (lT ws o wi ln d).2:=by
 have cA: ∀ x:BlkT,cApp y [x] 64=true:=fun x=>cAppN (by decide) (by rw [List.length_singleton];omega)
 have hn:dOk (dnext d 24)=true:=dOk_next hd
 refine brY (Bool.and_eq_true_iff.2 ⟨hd,by decide⟩) ?_
 unfold lT
 cases ieq (dval d 24) 0 with
 |true=>
  rw [br_true,cond_true]
  exact brY (cA _) rfl
 |false=>
  rw [br_false,cond_false]
  cases ieq (dval d 24) 1 with
  |true=>
   rw [br_true,cond_true]
   exact brY (Bool.and_eq_true_iff.2 ⟨hn,by decide⟩) (brY (decide_eq_true (by omega)) (brY (decide_eq_true h0) (brY (cA _) rfl)))
  |false=>
   rw [br_false,cond_false]
   cases ieq (dval d 24) 2 with
   |true=>
    rw [br_true,cond_true]
    exact brY (Bool.and_eq_true_iff.2 ⟨hn,by decide⟩) (brY (cAppN (by decide) (by rw [List.length_singleton];omega)) (brY (cA _) rfl))
   |false=>
    rw [br_false,cond_false]
    cases ieq (dval d 24) 3 with
    |true=>
     rw [br_true,cond_true]
     exact brY (cA _) rfl
    |false=>
     rw [br_false,cond_false]
     exact brY (cA _) rfl
def lb0 (k:Int)(y:List ByteArray)(d:Dice):Bool:=dOk d&&cP (0<=k/\k<=2/\(y.length:Int)+k<=3)
def lsRec (n:Int):Dice->LD:=if n.toNat=0 then fun d=>([],d) else lsG (n.toNat-1)
theorem en_f31:Entered Tryd.prog 31:= .inr ⟨by decide,_,Tryd.func31,by kernel_rfl,by kernel_rfl⟩
def sp_f31R [Fuel]:Ent:=specP tyDice (.pr tI .nil) (fun d x=>(ls7S fuel d x.1)) (fun d x=>(.t (.sl tyBlkT) (ls7F d x.1))) (fun d x=>(ls7N d x.1))
theorem en_f31R:Entered Tryd.prog 31:=en_f31
section
variable [Fuel][Nonempty (PLift (Meets Tryd.prog 31 (strip sp_f31R)))]
theorem ms_f31R:Meets Tryd.prog 31 (strip sp_f31R):=(Classical.choice (inferInstance:Nonempty (PLift (Meets Tryd.prog 31 (strip sp_f31R))))).down
def lb1 [Fuel](n i:Int)(y:List BlkT)(d:Dice):Bool:=dOk d&&cP (0<=n/\n<=fuel/\n<=3/\0<=i/\(y.length:Int)+i<=3)
def dr_f31_0:List DO:=[(.mk (oP 28 (.fa 0 (.t 7))) []),(.mk (oL 29 28) [0]),(.mk (oV 30 0) []),(.mk (oM 31 (.bs 9 1 8 [(.v (.string (ByteArray.mk #[]))),(.v (.string (ByteArray.mk #[]))),(.v (.string (ByteArray.mk #[]))),(.v (.string (ByteArray.mk #[]))),(.v (.string (ByteArray.mk #[]))),(.v (.string (ByteArray.mk #[]))),(.v (.string (ByteArray.mk #[]))),(.v (.string (ByteArray.mk #[])))] [(0,1,(.c (.v (.string (ByteArray.mk #[118]))))),(1,1,(.c (.v (.string (ByteArray.mk #[]))))),(2,1,(.c (.v (.string (ByteArray.mk #[97,32,98]))))),(3,1,(.c (.v (.string (ByteArray.mk #[113,34,114]))))),(4,1,(.c (.v (.string (ByteArray.mk #[98,92,99]))))),(5,1,(.c (.v (.string (ByteArray.mk #[35,32,120]))))),(6,1,(.c (.v (.string (ByteArray.mk #[59]))))),(7,1,(.c (.v (.string (ByteArray.mk #[116,9,117])))))])) []),(.mk (oC 32 32 [(.t 30),(.t 31)]) [2,3]),(.mk (oM 33 (.bs 9 1 1 [(.v (.string (ByteArray.mk #[])))] [(0,1,(.t 32))])) [4]),(.mk (oM 34 (.app 9 1 16 (.t 29) (.t 33))) [1,5,4]),(.mk (oP 35 (.fa 0 (.t 7))) [0,1,2,3,4,5,6]),(.mk (.mk none none (.m (.st 1 (.t 35) (.t 34)))) [7,6,6,0,1,2,3,4,5,6])]
def dr_f31_1:List DO:=[(.mk (oP 55 (.fa 0 (.t 7))) []),(.mk (oL 56 55) [0]),(.mk (oV 57 0) []),(.mk (oM 58 (.bs 9 1 3 [(.v (.string (ByteArray.mk #[]))),(.v (.string (ByteArray.mk #[]))),(.v (.string (ByteArray.mk #[])))] [(0,1,(.c (.v (.string (ByteArray.mk #[]))))),(1,1,(.c (.v (.string (ByteArray.mk #[97,32,98]))))),(2,1,(.c (.v (.string (ByteArray.mk #[34])))))])) []),(.mk (oC 59 32 [(.t 57),(.t 58)]) [2,3]),(.mk (oP 60 (.ix 1 (.t 56) (cI 0))) [1,0,1,2,3,4]),(.mk (.mk none none (.m (.st 1 (.t 60) (.t 59)))) [5,4,4,0,1,2,3,4])]
def dr_f31_2:List DO:=[(.mk (oP 63 (.fa 0 (.t 7))) []),(.mk (oL 64 63) [0]),(.mk (oV 65 0) []),(.mk (oM 66 (.bs 9 1 2 [(.v (.string (ByteArray.mk #[]))),(.v (.string (ByteArray.mk #[])))] [(0,1,(.c (.v (.string (ByteArray.mk #[97,10,98]))))),(1,1,(.c (.v (.string (ByteArray.mk #[127])))))])) []),(.mk (oC 67 32 [(.t 65),(.t 66)]) [2,3]),(.mk (oM 68 (.bs 9 1 1 [(.v (.string (ByteArray.mk #[])))] [(0,1,(.t 67))])) [4]),(.mk (oM 69 (.app 9 1 16 (.t 64) (.t 68))) [1,5,4]),(.mk (oP 70 (.fa 0 (.t 7))) [0,1,2,3,4,5,6]),(.mk (.mk none none (.m (.st 1 (.t 70) (.t 69)))) [7,6,6,0,1,2,3,4,5,6])]
def fg_f31_0:Fg:=⟨[(0,none),(1,some tI),(5,none),(6,some tI),(7,none),(8,some tI)],[(5,none),(7,none),(18,none),(34,none),(69,none),(77,none),(20700,none),(50000,some tyDice)]⟩
def tb_f31_0:TC:=(.sq (.sq (.reg [(oV 24 8),(oP 25 (.bin false .gtr (.t 24) (cI 0)))]) (.cd (.t 25) .sk (.fg ⟨[(0,none),(1,some tI),(5,none),(6,some tI),(7,none)],[(5,none),(7,some tyBlkT),(18,none),(34,none),(69,none),(77,none),(20700,none),(50000,some tyDice)]⟩ (.ex 2)))) (.sq (.bk 3 (.dr dr_f31_0 [(0,[7,18,34,69,20700]),(1,[7,18,34,69,20700]),(2,[50000]),(3,[]),(4,[32,5032,10032,15032,50000]),(5,[]),(6,[7,18,34,69,5034,10034,15034,20700]),(7,[7,18,34,69,20700]),(8,[7,18,34,69,20700])] (.of [0,1,2,3,4,5,6,7,8]))) (.reg [(oV 26 8),(oP 27 (.bin false .sub (.t 26) (cI 1))),(oV 8 27)])))
def fg_f31_1:Fg:=⟨[(0,none),(1,some tI),(5,none),(6,some tI)],[(5,none),(77,none),(50000,some tyDice)]⟩
def tb_f31_1:TC:=(.sq (.sq (.reg [(oV 11 6),(oP 12 (.bin false .gtr (.t 11) (cI 0)))]) (.cd (.t 12) .sk (.fg ⟨[(5,none)],[(5,none),(77,none),(50000,some tyDice)]⟩ (.ex 0)))) (.sq (.bk 1 (.sq (.reg [(oV 15 0),(oM 16 (.bs 9 1 3 [(.v (.string (ByteArray.mk #[]))),(.v (.string (ByteArray.mk #[]))),(.v (.string (ByteArray.mk #[])))] [(0,1,(.c (.v (.string (ByteArray.mk #[115,101,114,118,101,114]))))),(1,1,(.c (.v (.string (ByteArray.mk #[97]))))),(2,1,(.c (.v (.string (ByteArray.mk #[120,46,49])))))])),(oC 17 32 [(.t 15),(.t 16)]),(oM 18 (.bs 9 1 1 [(.v (.string (ByteArray.mk #[])))] [(0,1,(.t 17))])),(oV 19 0),(oC 20 18 [(.t 19),(cI 9)]),(oP 21 (.bd [(.v (.slice none 0 0)),(.v (.bool false)),(.v (.slice none 0 0)),(.v (.int .i64 0))] [(0,1,(.t 18)),(3,1,(.t 20))])),(oM 7 (.new [(.v (.slice none 0 0)),(.v (.bool false)),(.v (.slice none 0 0)),(.v (.int .i64 0))])),(.mk none none (.m (.st 4 (.t 7) (.t 21))))]) (.sq (.sq (.reg [(oV 22 0),(oC 23 18 [(.t 22),(cI 3)]),(oV 8 23)]) (.bk 2 (.nf 7 0 9 20700 (.lp 0 fg_f31_0 tb_f31_0)))) (.sq (.sq (.reg [(oV 36 1),(oP 37 (.bin false .gtr (.t 36) (cI 0))),(oV 38 37),(oQ 39 38 true (.mv (.t 0))),(oG 40 38 true (.call 52 [(.t 39),(cI 3)])),(oP 41 (.pick (.t 38) (.t 40) (cB false)))]) (.cd (.t 41) (.sq (.reg [(oP 42 (.fa 1 (.t 7))),(.mk none none (.m (.st 1 (.t 42) (cB true))))]) (.reg [(oV 43 0),(oV 44 1),(oP 45 (.bin false .sub (.t 44) (cI 1))),(oC 46 31 [(.t 43),(.t 45)]),(oP 47 (.fa 2 (.t 7))),(.mk none none (.m (.st 1 (.t 47) (.t 46))))])) .sk)) (.sq (.sq (.reg [(oV 48 0),(oC 49 18 [(.t 48),(cI 24)])]) (.bk 4 (.sq (.reg [(oP 51 (.bin false .eql (.t 49) (cI 0))),(oV 50 51)]) (.cd (.t 50) (.reg [(oP 52 (.fa 0 (.t 7))),(.mk none none (.m (.st 1 (.t 52) (.c (.v (.slice none 0 0))))))]) (.sq (.reg [(oP 54 (.bin false .eql (.t 49) (cI 1))),(oV 53 54)]) (.cd (.t 53) (.dr dr_f31_1 [(0,[7,18,34,69,20700]),(1,[7,18,34,69,20700]),(2,[50000]),(3,[]),(4,[59,5059,10059,15059,50000]),(5,[18,34,69,20700]),(6,[7,18,34,69,20700])] (.of [0,1,2,3,4,5,6])) (.sq (.reg [(oP 62 (.bin false .eql (.t 49) (cI 2))),(oV 61 62)]) (.cd (.t 61) (.dr dr_f31_2 [(0,[7,18,34,69,20700]),(1,[7,18,34,69,20700]),(2,[50000]),(3,[]),(4,[67,5067,10067,15067,50000]),(5,[]),(6,[7,18,34,69,5069,10069,15069,20700]),(7,[7,18,34,69,20700]),(8,[7,18,34,69,20700])] (.of [0,1,2,3,4,5,6,7,8])) (.sq (.reg [(oP 72 (.bin false .eql (.t 49) (cI 3))),(oV 71 72)]) (.cd (.t 71) (.reg [(oP 73 (.fa 1 (.t 7))),(.mk none none (.m (.st 1 (.t 73) (cB false))))]) .sk)))))))))) (.reg [(oV 74 5),(oM 75 (.ld true 4 (.t 7))),(oM 76 (.bs 38 4 1 [(.v (.slice none 0 0)),(.v (.bool false)),(.v (.slice none 0 0)),(.v (.int .i64 0))] [(0,4,(.t 75))])),(oM 77 (.app 38 4 64 (.t 74) (.t 76))),(oV 5 77)])))))) (.reg [(oV 13 6),(oP 14 (.bin false .sub (.t 13) (cI 1))),(oV 6 14)])))
def tc_f31:TC:=(.sq (.reg [(oP 4 (.mv (.c (.v (.slice none 0 0)))))]) (.sq (.reg [(oP 5 (.mv (.c (.v (.slice none 0 0)))))]) (.sq (.sq (.reg [(oV 9 0),(oC 10 18 [(.t 9),(cI 4)]),(oV 6 10)]) (.bk 0 (.nf 7 0 9 20700 (.nw 5 38 (.lp 1 fg_f31_1 tb_f31_1))))) (.sq (.reg [(oV 78 5),(oV 4 78)]) .rt))))
def rv_f31:List (RV×Option Ty):=[((.t 4),some (.sl tyBlkT))]
abbrev sh_f31_0:Sh:=⟨[(0,.ptr 50000 0),(1,.ty tI),(5,.ms 5),(6,.ty tI),(7,.ptr 7 0),(8,.ty tI)],[(5,.arr 38 tyBlkT),(7,.bag [.ms 18,.ty .bool,.nl,.ty tI]),(18,.arr 9 .str),(34,.no),(69,.no),(77,.no),(20700,.no),(50000,.box tyDice)]⟩
def st_f31_0 (x1:Int)(x6:Int)(x8:Int)(y5:(List BlkT))(y7_1:Bool)(y7_3:Int)(y18:(List ByteArray))(y50000:Dice):VS:=sh_f31_0.st ((),x1,(),x6,(),x8,()) (y5,((),y7_1,(),y7_3,()),y18,(),(),(),(),y50000,())
abbrev sh_f31_0_e2:Sh:=⟨[(0,.ptr 50000 0),(1,.ty tI),(5,.ms 5),(6,.ty tI),(7,.ptr 7 0)],[(5,.arr 38 tyBlkT),(7,.bag [.ms 18,.ty .bool,.nl,.ty tI]),(18,.arr 9 .str),(34,.no),(69,.no),(77,.no),(20700,.no),(50000,.box tyDice)]⟩
def st_f31_0_e2 (x1:Int)(x6:Int)(y5:(List BlkT))(y7_1:Bool)(y7_3:Int)(y18:(List ByteArray))(y50000:Dice):VS:=sh_f31_0_e2.st ((),x1,(),x6,(),()) (y5,((),y7_1,(),y7_3,()),y18,(),(),(),(),y50000,())
-- loop 0: (x1 : Int) (x6 : Int) (x8 : Int) (y5 : (List BlkT)) (y7_1 : Bool) (y7_3 : Int) (y18 : (List ByteArray)) (y50000 : Dice); out: ('exit', 2) (x1 : Int) (x6 : Int) (y5 : (List BlkT)) (y7_1 : Bool) (y7_3 : Int) (y18 : (List ByteArray)) (y50000 : Dice)
abbrev sh_f31_1:Sh:=⟨[(0,.ptr 50000 0),(1,.ty tI),(5,.ms 5),(6,.ty tI)],[(5,.arr 38 tyBlkT),(77,.no),(50000,.box tyDice)]⟩
def st_f31_1 (x1:Int)(x6:Int)(y5:(List BlkT))(y50000:Dice):VS:=sh_f31_1.st ((),x1,(),x6,()) (y5,(),y50000,())
abbrev sh_f31_1_e0:Sh:=⟨[(5,.ms 5)],[(5,.arr 38 tyBlkT),(77,.no),(50000,.box tyDice)]⟩
def st_f31_1_e0 (y5:(List BlkT))(y50000:Dice):VS:=sh_f31_1_e0.st ((),()) (y5,(),y50000,())
-- loop 1: (x1 : Int) (x6 : Int) (y5 : (List BlkT)) (y50000 : Dice); out: ('exit', 0) (y5 : (List BlkT)) (y50000 : Dice)
def L_f31_0:VS->Option (Bool×List (Bool×Exit×VS)):=mkL sh_f31_0 (fun x y=>(lb0 x.2.2.2.2.2.1 y.2.2.1 y.2.2.2.2.2.2.2.1)) (fun x y=>[(true,.exit 2,st_f31_0_e2 (x.2.1) (x.2.2.2.1) (y.1) (y.2.1.2.1) (y.2.1.2.2.2.1) ((lk0 x.2.2.2.2.2.1.toNat y.2.2.1 y.2.2.2.2.2.2.2.1).1) ((lk0 x.2.2.2.2.2.1.toNat y.2.2.1 y.2.2.2.2.2.2.2.1).2))])
def L_f31_1:VS->Option (Bool×List (Bool×Exit×VS)):=mkL sh_f31_1 (fun x y=>(lb1 x.2.1 x.2.2.2.1 y.1 y.2.2.1)) (fun x y=>[(true,.exit 0,st_f31_1_e0 ((lk1 (lsRec x.2.1) (igt x.2.1 0) x.2.2.2.1.toNat y.1 y.2.2.1).1) ((lk1 (lsRec x.2.1) (igt x.2.1 0) x.2.2.2.1.toNat y.1 y.2.2.1).2))])
def g_f31:G:=⟨TYs,[18],79,EL [(18,sp_f18),(31,sp_f31R),(32,sp_f32),(52,sp_f52)],keeps,(Ls [L_f31_0,L_f31_1]),IL [],RL []⟩
def b_f31_0 (x1:Int)(x6:Int)(x8:Int)(y5:(List BlkT))(y7_1:Bool)(y7_3:Int)(y18:(List ByteArray))(y50000:Dice):Option (Exit×VS):=
 br ((igt x8 0))
  (br ((wdGOk y50000 ([(ByteArray.mk #[118]),(ByteArray.mk #[]),(ByteArray.mk #[97,32,98]),(ByteArray.mk #[113,34,114]),(ByteArray.mk #[98,92,99]),(ByteArray.mk #[35,32,120]),(ByteArray.mk #[59]),(ByteArray.mk #[116,9,117])])))
   (br (cApp y18 ([(dwdG y50000 ([(ByteArray.mk #[118]),(ByteArray.mk #[]),(ByteArray.mk #[97,32,98]),(ByteArray.mk #[113,34,114]),(ByteArray.mk #[98,92,99]),(ByteArray.mk #[35,32,120]),(ByteArray.mk #[59]),(ByteArray.mk #[116,9,117])]))]) 16)
    (some (.normal,st_f31_0 x1 x6 (isub .i64 x8 1) y5 y7_1 y7_3 (y18++([(dwdG y50000 ([(ByteArray.mk #[118]),(ByteArray.mk #[]),(ByteArray.mk #[97,32,98]),(ByteArray.mk #[113,34,114]),(ByteArray.mk #[98,92,99]),(ByteArray.mk #[35,32,120]),(ByteArray.mk #[59]),(ByteArray.mk #[116,9,117])]))])) (dwdGN y50000 ([(ByteArray.mk #[118]),(ByteArray.mk #[]),(ByteArray.mk #[97,32,98]),(ByteArray.mk #[113,34,114]),(ByteArray.mk #[98,92,99]),(ByteArray.mk #[35,32,120]),(ByteArray.mk #[59]),(ByteArray.mk #[116,9,117])]))))
    (none))
   (none))
  (some (.exit 2,st_f31_0_e2 x1 x6 y5 y7_1 y7_3 y18 y50000))
noncomputable def lp_f31_0 (x1:Int)(x6:Int)(x8:Int)(y5:(List BlkT))(y7_1:Bool)(y7_3:Int)(y18:(List ByteArray))(y50000:Dice):Option (Exit×VS):=loopF (roundF g_f31 fg_f31_0 tb_f31_0) (st_f31_0 x1 x6 x8 y5 y7_1 y7_3 y18 y50000)
noncomputable def n_f31_0 (x1:Int)(x6:Int)(x8:Int)(y5:(List BlkT))(y7_1:Bool)(y7_3:Int)(y18:(List ByteArray))(y50000:Dice):Option (Exit×VS):=
 br ((igt x8 0))
  (br ((wdGOk y50000 ([(ByteArray.mk #[118]),(ByteArray.mk #[]),(ByteArray.mk #[97,32,98]),(ByteArray.mk #[113,34,114]),(ByteArray.mk #[98,92,99]),(ByteArray.mk #[35,32,120]),(ByteArray.mk #[59]),(ByteArray.mk #[116,9,117])])))
   (br (cApp y18 ([(dwdG y50000 ([(ByteArray.mk #[118]),(ByteArray.mk #[]),(ByteArray.mk #[97,32,98]),(ByteArray.mk #[113,34,114]),(ByteArray.mk #[98,92,99]),(ByteArray.mk #[35,32,120]),(ByteArray.mk #[59]),(ByteArray.mk #[116,9,117])]))]) 16)
    (lp_f31_0 x1 x6 (isub .i64 x8 1) y5 y7_1 y7_3 (y18++([(dwdG y50000 ([(ByteArray.mk #[118]),(ByteArray.mk #[]),(ByteArray.mk #[97,32,98]),(ByteArray.mk #[113,34,114]),(ByteArray.mk #[98,92,99]),(ByteArray.mk #[35,32,120]),(ByteArray.mk #[59]),(ByteArray.mk #[116,9,117])]))])) (dwdGN y50000 ([(ByteArray.mk #[118]),(ByteArray.mk #[]),(ByteArray.mk #[97,32,98]),(ByteArray.mk #[113,34,114]),(ByteArray.mk #[98,92,99]),(ByteArray.mk #[35,32,120]),(ByteArray.mk #[59]),(ByteArray.mk #[116,9,117])])))
    (none))
   (none))
  (some (.exit 2,st_f31_0_e2 x1 x6 y5 y7_1 y7_3 y18 y50000))
def la_f31_0 (x1:Int)(x6:Int)(x8:Int)(y5:(List BlkT))(y7_1:Bool)(y7_3:Int)(y18:(List ByteArray))(y50000:Dice):Option (Exit×VS):=some (.exit 2,st_f31_0_e2 (x1) (x6) (y5) (y7_1) (y7_3) ((lk0 x8.toNat y18 y50000).1) ((lk0 x8.toNat y18 y50000).2))
theorem be_f31_0 (x1:Int)(x6:Int)(x8:Int)(y5:(List BlkT))(y7_1:Bool)(y7_3:Int)(y18:(List ByteArray))(y50000:Dice):roundF g_f31 fg_f31_0 tb_f31_0 (st_f31_0 x1 x6 x8 y5 y7_1 y7_3 y18 y50000)=b_f31_0 x1 x6 x8 y5 y7_1 y7_3 y18 y50000:=by kernel_rfl
theorem ln_f31_0 (x1:Int)(x6:Int)(x8:Int)(y5:(List BlkT))(y7_1:Bool)(y7_3:Int)(y18:(List ByteArray))(y50000:Dice):lp_f31_0 x1 x6 x8 y5 y7_1 y7_3 y18 y50000=n_f31_0 x1 x6 x8 y5 y7_1 y7_3 y18 y50000:=(loopF_nxt _ _).trans (by
 rw [be_f31_0]
 simp only [b_f31_0,n_f31_0,nxt_br,nxt_n,nxt_r,nxt_e,nxt_0]
 rfl)
def b_f31_1 (x1:Int)(x6:Int)(y5:(List BlkT))(y50000:Dice):Option (Exit×VS):=
 br ((igt x6 0))
  (br ((wdGOk y50000 ([(ByteArray.mk #[115,101,114,118,101,114]),(ByteArray.mk #[97]),(ByteArray.mk #[120,46,49])])))
   (br ((nextOk (dwdGN y50000 ([(ByteArray.mk #[115,101,114,118,101,114]),(ByteArray.mk #[97]),(ByteArray.mk #[120,46,49])])) 9))
    (br ((nextOk (dnext (dwdGN y50000 ([(ByteArray.mk #[115,101,114,118,101,114]),(ByteArray.mk #[97]),(ByteArray.mk #[120,46,49])])) 9) 3))
     (br ((lb0 (dval (dnext (dwdGN y50000 ([(ByteArray.mk #[115,101,114,118,101,114]),(ByteArray.mk #[97]),(ByteArray.mk #[120,46,49])])) 9) 3) ([(dwdG y50000 ([(ByteArray.mk #[115,101,114,118,101,114]),(ByteArray.mk #[97]),(ByteArray.mk #[120,46,49])]))]) (dnext (dnext (dwdGN y50000 ([(ByteArray.mk #[115,101,114,118,101,114]),(ByteArray.mk #[97]),(ByteArray.mk #[120,46,49])])) 9) 3)))
      (br ((igt (x1) 0))
       (br ((oneOk ((lk0 (dval (dnext (dwdGN y50000 ([(ByteArray.mk #[115,101,114,118,101,114]),(ByteArray.mk #[97]),(ByteArray.mk #[120,46,49])])) 9) 3).toNat ([(dwdG y50000 ([(ByteArray.mk #[115,101,114,118,101,114]),(ByteArray.mk #[97]),(ByteArray.mk #[120,46,49])]))]) (dnext (dnext (dwdGN y50000 ([(ByteArray.mk #[115,101,114,118,101,114]),(ByteArray.mk #[97]),(ByteArray.mk #[120,46,49])])) 9) 3)).2) 3))
        (br ((done ((lk0 (dval (dnext (dwdGN y50000 ([(ByteArray.mk #[115,101,114,118,101,114]),(ByteArray.mk #[97]),(ByteArray.mk #[120,46,49])])) 9) 3).toNat ([(dwdG y50000 ([(ByteArray.mk #[115,101,114,118,101,114]),(ByteArray.mk #[97]),(ByteArray.mk #[120,46,49])]))]) (dnext (dnext (dwdGN y50000 ([(ByteArray.mk #[115,101,114,118,101,114]),(ByteArray.mk #[97]),(ByteArray.mk #[120,46,49])])) 9) 3)).2) 3))
         (br ((ls7S fuel (dnext ((lk0 (dval (dnext (dwdGN y50000 ([(ByteArray.mk #[115,101,114,118,101,114]),(ByteArray.mk #[97]),(ByteArray.mk #[120,46,49])])) 9) 3).toNat ([(dwdG y50000 ([(ByteArray.mk #[115,101,114,118,101,114]),(ByteArray.mk #[97]),(ByteArray.mk #[120,46,49])]))]) (dnext (dnext (dwdGN y50000 ([(ByteArray.mk #[115,101,114,118,101,114]),(ByteArray.mk #[97]),(ByteArray.mk #[120,46,49])])) 9) 3)).2) 3) (isub .i64 (x1) 1)))
          (br ((nextOk (ls7N (dnext ((lk0 (dval (dnext (dwdGN y50000 ([(ByteArray.mk #[115,101,114,118,101,114]),(ByteArray.mk #[97]),(ByteArray.mk #[120,46,49])])) 9) 3).toNat ([(dwdG y50000 ([(ByteArray.mk #[115,101,114,118,101,114]),(ByteArray.mk #[97]),(ByteArray.mk #[120,46,49])]))]) (dnext (dnext (dwdGN y50000 ([(ByteArray.mk #[115,101,114,118,101,114]),(ByteArray.mk #[97]),(ByteArray.mk #[120,46,49])])) 9) 3)).2) 3) (isub .i64 (x1) 1)) 24))
           (br ((ieq (dval (ls7N (dnext ((lk0 (dval (dnext (dwdGN y50000 ([(ByteArray.mk #[115,101,114,118,101,114]),(ByteArray.mk #[97]),(ByteArray.mk #[120,46,49])])) 9) 3).toNat ([(dwdG y50000 ([(ByteArray.mk #[115,101,114,118,101,114]),(ByteArray.mk #[97]),(ByteArray.mk #[120,46,49])]))]) (dnext (dnext (dwdGN y50000 ([(ByteArray.mk #[115,101,114,118,101,114]),(ByteArray.mk #[97]),(ByteArray.mk #[120,46,49])])) 9) 3)).2) 3) (isub .i64 (x1) 1)) 24) 0))
            (br (cApp (y5) ([(([]:List ByteArray),(true,((List.map Blk.of (ls7F (dnext ((lk0 (dval (dnext (dwdGN y50000 ([(ByteArray.mk #[115,101,114,118,101,114]),(ByteArray.mk #[97]),(ByteArray.mk #[120,46,49])])) 9) 3).toNat ([(dwdG y50000 ([(ByteArray.mk #[115,101,114,118,101,114]),(ByteArray.mk #[97]),(ByteArray.mk #[120,46,49])]))]) (dnext (dnext (dwdGN y50000 ([(ByteArray.mk #[115,101,114,118,101,114]),(ByteArray.mk #[97]),(ByteArray.mk #[120,46,49])])) 9) 3)).2) 3) (isub .i64 (x1) 1))),(((dval (dwdGN y50000 ([(ByteArray.mk #[115,101,114,118,101,114]),(ByteArray.mk #[97]),(ByteArray.mk #[120,46,49])])) 9)),()))))]) 64)
             (some (.normal,st_f31_1 (x1) (isub .i64 (x6) 1) ((y5)++([(([]:List ByteArray),(true,((List.map Blk.of (ls7F (dnext ((lk0 (dval (dnext (dwdGN y50000 ([(ByteArray.mk #[115,101,114,118,101,114]),(ByteArray.mk #[97]),(ByteArray.mk #[120,46,49])])) 9) 3).toNat ([(dwdG y50000 ([(ByteArray.mk #[115,101,114,118,101,114]),(ByteArray.mk #[97]),(ByteArray.mk #[120,46,49])]))]) (dnext (dnext (dwdGN y50000 ([(ByteArray.mk #[115,101,114,118,101,114]),(ByteArray.mk #[97]),(ByteArray.mk #[120,46,49])])) 9) 3)).2) 3) (isub .i64 (x1) 1))),(((dval (dwdGN y50000 ([(ByteArray.mk #[115,101,114,118,101,114]),(ByteArray.mk #[97]),(ByteArray.mk #[120,46,49])])) 9)),()))))])) (dnext (ls7N (dnext ((lk0 (dval (dnext (dwdGN y50000 ([(ByteArray.mk #[115,101,114,118,101,114]),(ByteArray.mk #[97]),(ByteArray.mk #[120,46,49])])) 9) 3).toNat ([(dwdG y50000 ([(ByteArray.mk #[115,101,114,118,101,114]),(ByteArray.mk #[97]),(ByteArray.mk #[120,46,49])]))]) (dnext (dnext (dwdGN y50000 ([(ByteArray.mk #[115,101,114,118,101,114]),(ByteArray.mk #[97]),(ByteArray.mk #[120,46,49])])) 9) 3)).2) 3) (isub .i64 (x1) 1)) 24)))
             (none))
            (br ((ieq (dval (ls7N (dnext ((lk0 (dval (dnext (dwdGN y50000 ([(ByteArray.mk #[115,101,114,118,101,114]),(ByteArray.mk #[97]),(ByteArray.mk #[120,46,49])])) 9) 3).toNat ([(dwdG y50000 ([(ByteArray.mk #[115,101,114,118,101,114]),(ByteArray.mk #[97]),(ByteArray.mk #[120,46,49])]))]) (dnext (dnext (dwdGN y50000 ([(ByteArray.mk #[115,101,114,118,101,114]),(ByteArray.mk #[97]),(ByteArray.mk #[120,46,49])])) 9) 3)).2) 3) (isub .i64 (x1) 1)) 24) 1))
             (br ((wdGOk (dnext (ls7N (dnext ((lk0 (dval (dnext (dwdGN y50000 ([(ByteArray.mk #[115,101,114,118,101,114]),(ByteArray.mk #[97]),(ByteArray.mk #[120,46,49])])) 9) 3).toNat ([(dwdG y50000 ([(ByteArray.mk #[115,101,114,118,101,114]),(ByteArray.mk #[97]),(ByteArray.mk #[120,46,49])]))]) (dnext (dnext (dwdGN y50000 ([(ByteArray.mk #[115,101,114,118,101,114]),(ByteArray.mk #[97]),(ByteArray.mk #[120,46,49])])) 9) 3)).2) 3) (isub .i64 (x1) 1)) 24) ([(ByteArray.mk #[]),(ByteArray.mk #[97,32,98]),(ByteArray.mk #[34])])))
              (br (cIx ((lk0 (dval (dnext (dwdGN y50000 ([(ByteArray.mk #[115,101,114,118,101,114]),(ByteArray.mk #[97]),(ByteArray.mk #[120,46,49])])) 9) 3).toNat ([(dwdG y50000 ([(ByteArray.mk #[115,101,114,118,101,114]),(ByteArray.mk #[97]),(ByteArray.mk #[120,46,49])]))]) (dnext (dnext (dwdGN y50000 ([(ByteArray.mk #[115,101,114,118,101,114]),(ByteArray.mk #[97]),(ByteArray.mk #[120,46,49])])) 9) 3)).1) 0)
               (br (cLd ((lk0 (dval (dnext (dwdGN y50000 ([(ByteArray.mk #[115,101,114,118,101,114]),(ByteArray.mk #[97]),(ByteArray.mk #[120,46,49])])) 9) 3).toNat ([(dwdG y50000 ([(ByteArray.mk #[115,101,114,118,101,114]),(ByteArray.mk #[97]),(ByteArray.mk #[120,46,49])]))]) (dnext (dnext (dwdGN y50000 ([(ByteArray.mk #[115,101,114,118,101,114]),(ByteArray.mk #[97]),(ByteArray.mk #[120,46,49])])) 9) 3)).1) (Int.toNat 0))
                (br (cApp (y5) ([((List.set ((lk0 (dval (dnext (dwdGN y50000 ([(ByteArray.mk #[115,101,114,118,101,114]),(ByteArray.mk #[97]),(ByteArray.mk #[120,46,49])])) 9) 3).toNat ([(dwdG y50000 ([(ByteArray.mk #[115,101,114,118,101,114]),(ByteArray.mk #[97]),(ByteArray.mk #[120,46,49])]))]) (dnext (dnext (dwdGN y50000 ([(ByteArray.mk #[115,101,114,118,101,114]),(ByteArray.mk #[97]),(ByteArray.mk #[120,46,49])])) 9) 3)).1) (Int.toNat 0) (dwdG (dnext (ls7N (dnext ((lk0 (dval (dnext (dwdGN y50000 ([(ByteArray.mk #[115,101,114,118,101,114]),(ByteArray.mk #[97]),(ByteArray.mk #[120,46,49])])) 9) 3).toNat ([(dwdG y50000 ([(ByteArray.mk #[115,101,114,118,101,114]),(ByteArray.mk #[97]),(ByteArray.mk #[120,46,49])]))]) (dnext (dnext (dwdGN y50000 ([(ByteArray.mk #[115,101,114,118,101,114]),(ByteArray.mk #[97]),(ByteArray.mk #[120,46,49])])) 9) 3)).2) 3) (isub .i64 (x1) 1)) 24) ([(ByteArray.mk #[]),(ByteArray.mk #[97,32,98]),(ByteArray.mk #[34])]))),(true,((List.map Blk.of (ls7F (dnext ((lk0 (dval (dnext (dwdGN y50000 ([(ByteArray.mk #[115,101,114,118,101,114]),(ByteArray.mk #[97]),(ByteArray.mk #[120,46,49])])) 9) 3).toNat ([(dwdG y50000 ([(ByteArray.mk #[115,101,114,118,101,114]),(ByteArray.mk #[97]),(ByteArray.mk #[120,46,49])]))]) (dnext (dnext (dwdGN y50000 ([(ByteArray.mk #[115,101,114,118,101,114]),(ByteArray.mk #[97]),(ByteArray.mk #[120,46,49])])) 9) 3)).2) 3) (isub .i64 (x1) 1))),(((dval (dwdGN y50000 ([(ByteArray.mk #[115,101,114,118,101,114]),(ByteArray.mk #[97]),(ByteArray.mk #[120,46,49])])) 9)),()))))]) 64)
                 (some (.normal,st_f31_1 (x1) (isub .i64 (x6) 1) ((y5)++([((List.set ((lk0 (dval (dnext (dwdGN y50000 ([(ByteArray.mk #[115,101,114,118,101,114]),(ByteArray.mk #[97]),(ByteArray.mk #[120,46,49])])) 9) 3).toNat ([(dwdG y50000 ([(ByteArray.mk #[115,101,114,118,101,114]),(ByteArray.mk #[97]),(ByteArray.mk #[120,46,49])]))]) (dnext (dnext (dwdGN y50000 ([(ByteArray.mk #[115,101,114,118,101,114]),(ByteArray.mk #[97]),(ByteArray.mk #[120,46,49])])) 9) 3)).1) (Int.toNat 0) (dwdG (dnext (ls7N (dnext ((lk0 (dval (dnext (dwdGN y50000 ([(ByteArray.mk #[115,101,114,118,101,114]),(ByteArray.mk #[97]),(ByteArray.mk #[120,46,49])])) 9) 3).toNat ([(dwdG y50000 ([(ByteArray.mk #[115,101,114,118,101,114]),(ByteArray.mk #[97]),(ByteArray.mk #[120,46,49])]))]) (dnext (dnext (dwdGN y50000 ([(ByteArray.mk #[115,101,114,118,101,114]),(ByteArray.mk #[97]),(ByteArray.mk #[120,46,49])])) 9) 3)).2) 3) (isub .i64 (x1) 1)) 24) ([(ByteArray.mk #[]),(ByteArray.mk #[97,32,98]),(ByteArray.mk #[34])]))),(true,((List.map Blk.of (ls7F (dnext ((lk0 (dval (dnext (dwdGN y50000 ([(ByteArray.mk #[115,101,114,118,101,114]),(ByteArray.mk #[97]),(ByteArray.mk #[120,46,49])])) 9) 3).toNat ([(dwdG y50000 ([(ByteArray.mk #[115,101,114,118,101,114]),(ByteArray.mk #[97]),(ByteArray.mk #[120,46,49])]))]) (dnext (dnext (dwdGN y50000 ([(ByteArray.mk #[115,101,114,118,101,114]),(ByteArray.mk #[97]),(ByteArray.mk #[120,46,49])])) 9) 3)).2) 3) (isub .i64 (x1) 1))),(((dval (dwdGN y50000 ([(ByteArray.mk #[115,101,114,118,101,114]),(ByteArray.mk #[97]),(ByteArray.mk #[120,46,49])])) 9)),()))))])) (dwdGN (dnext (ls7N (dnext ((lk0 (dval (dnext (dwdGN y50000 ([(ByteArray.mk #[115,101,114,118,101,114]),(ByteArray.mk #[97]),(ByteArray.mk #[120,46,49])])) 9) 3).toNat ([(dwdG y50000 ([(ByteArray.mk #[115,101,114,118,101,114]),(ByteArray.mk #[97]),(ByteArray.mk #[120,46,49])]))]) (dnext (dnext (dwdGN y50000 ([(ByteArray.mk #[115,101,114,118,101,114]),(ByteArray.mk #[97]),(ByteArray.mk #[120,46,49])])) 9) 3)).2) 3) (isub .i64 (x1) 1)) 24) ([(ByteArray.mk #[]),(ByteArray.mk #[97,32,98]),(ByteArray.mk #[34])]))))
                 (none))
                (none))
               (none))
              (none))
             (br ((ieq (dval (ls7N (dnext ((lk0 (dval (dnext (dwdGN y50000 ([(ByteArray.mk #[115,101,114,118,101,114]),(ByteArray.mk #[97]),(ByteArray.mk #[120,46,49])])) 9) 3).toNat ([(dwdG y50000 ([(ByteArray.mk #[115,101,114,118,101,114]),(ByteArray.mk #[97]),(ByteArray.mk #[120,46,49])]))]) (dnext (dnext (dwdGN y50000 ([(ByteArray.mk #[115,101,114,118,101,114]),(ByteArray.mk #[97]),(ByteArray.mk #[120,46,49])])) 9) 3)).2) 3) (isub .i64 (x1) 1)) 24) 2))
              (br ((wdGOk (dnext (ls7N (dnext ((lk0 (dval (dnext (dwdGN y50000 ([(ByteArray.mk #[115,101,114,118,101,114]),(ByteArray.mk #[97]),(ByteArray.mk #[120,46,49])])) 9) 3).toNat ([(dwdG y50000 ([(ByteArray.mk #[115,101,114,118,101,114]),(ByteArray.mk #[97]),(ByteArray.mk #[120,46,49])]))]) (dnext (dnext (dwdGN y50000 ([(ByteArray.mk #[115,101,114,118,101,114]),(ByteArray.mk #[97]),(ByteArray.mk #[120,46,49])])) 9) 3)).2) 3) (isub .i64 (x1) 1)) 24) ([(ByteArray.mk #[97,10,98]),(ByteArray.mk #[127])])))
               (br (cApp ((lk0 (dval (dnext (dwdGN y50000 ([(ByteArray.mk #[115,101,114,118,101,114]),(ByteArray.mk #[97]),(ByteArray.mk #[120,46,49])])) 9) 3).toNat ([(dwdG y50000 ([(ByteArray.mk #[115,101,114,118,101,114]),(ByteArray.mk #[97]),(ByteArray.mk #[120,46,49])]))]) (dnext (dnext (dwdGN y50000 ([(ByteArray.mk #[115,101,114,118,101,114]),(ByteArray.mk #[97]),(ByteArray.mk #[120,46,49])])) 9) 3)).1) ([(dwdG (dnext (ls7N (dnext ((lk0 (dval (dnext (dwdGN y50000 ([(ByteArray.mk #[115,101,114,118,101,114]),(ByteArray.mk #[97]),(ByteArray.mk #[120,46,49])])) 9) 3).toNat ([(dwdG y50000 ([(ByteArray.mk #[115,101,114,118,101,114]),(ByteArray.mk #[97]),(ByteArray.mk #[120,46,49])]))]) (dnext (dnext (dwdGN y50000 ([(ByteArray.mk #[115,101,114,118,101,114]),(ByteArray.mk #[97]),(ByteArray.mk #[120,46,49])])) 9) 3)).2) 3) (isub .i64 (x1) 1)) 24) ([(ByteArray.mk #[97,10,98]),(ByteArray.mk #[127])]))]) 16)
                (br (cApp (y5) ([((((lk0 (dval (dnext (dwdGN y50000 ([(ByteArray.mk #[115,101,114,118,101,114]),(ByteArray.mk #[97]),(ByteArray.mk #[120,46,49])])) 9) 3).toNat ([(dwdG y50000 ([(ByteArray.mk #[115,101,114,118,101,114]),(ByteArray.mk #[97]),(ByteArray.mk #[120,46,49])]))]) (dnext (dnext (dwdGN y50000 ([(ByteArray.mk #[115,101,114,118,101,114]),(ByteArray.mk #[97]),(ByteArray.mk #[120,46,49])])) 9) 3)).1)++([(dwdG (dnext (ls7N (dnext ((lk0 (dval (dnext (dwdGN y50000 ([(ByteArray.mk #[115,101,114,118,101,114]),(ByteArray.mk #[97]),(ByteArray.mk #[120,46,49])])) 9) 3).toNat ([(dwdG y50000 ([(ByteArray.mk #[115,101,114,118,101,114]),(ByteArray.mk #[97]),(ByteArray.mk #[120,46,49])]))]) (dnext (dnext (dwdGN y50000 ([(ByteArray.mk #[115,101,114,118,101,114]),(ByteArray.mk #[97]),(ByteArray.mk #[120,46,49])])) 9) 3)).2) 3) (isub .i64 (x1) 1)) 24) ([(ByteArray.mk #[97,10,98]),(ByteArray.mk #[127])]))])),(true,((List.map Blk.of (ls7F (dnext ((lk0 (dval (dnext (dwdGN y50000 ([(ByteArray.mk #[115,101,114,118,101,114]),(ByteArray.mk #[97]),(ByteArray.mk #[120,46,49])])) 9) 3).toNat ([(dwdG y50000 ([(ByteArray.mk #[115,101,114,118,101,114]),(ByteArray.mk #[97]),(ByteArray.mk #[120,46,49])]))]) (dnext (dnext (dwdGN y50000 ([(ByteArray.mk #[115,101,114,118,101,114]),(ByteArray.mk #[97]),(ByteArray.mk #[120,46,49])])) 9) 3)).2) 3) (isub .i64 (x1) 1))),(((dval (dwdGN y50000 ([(ByteArray.mk #[115,101,114,118,101,114]),(ByteArray.mk #[97]),(ByteArray.mk #[120,46,49])])) 9)),()))))]) 64)
                 (some (.normal,st_f31_1 (x1) (isub .i64 (x6) 1) ((y5)++([((((lk0 (dval (dnext (dwdGN y50000 ([(ByteArray.mk #[115,101,114,118,101,114]),(ByteArray.mk #[97]),(ByteArray.mk #[120,46,49])])) 9) 3).toNat ([(dwdG y50000 ([(ByteArray.mk #[115,101,114,118,101,114]),(ByteArray.mk #[97]),(ByteArray.mk #[120,46,49])]))]) (dnext (dnext (dwdGN y50000 ([(ByteArray.mk #[115,101,114,118,101,114]),(ByteArray.mk #[97]),(ByteArray.mk #[120,46,49])])) 9) 3)).1)++([(dwdG (dnext (ls7N (dnext ((lk0 (dval (dnext (dwdGN y50000 ([(ByteArray.mk #[115,101,114,118,101,114]),(ByteArray.mk #[97]),(ByteArray.mk #[120,46,49])])) 9) 3).toNat ([(dwdG y50000 ([(ByteArray.mk #[115,101,114,118,101,114]),(ByteArray.mk #[97]),(ByteArray.mk #[120,46,49])]))]) (dnext (dnext (dwdGN y50000 ([(ByteArray.mk #[115,101,114,118,101,114]),(ByteArray.mk #[97]),(ByteArray.mk #[120,46,49])])) 9) 3)).2) 3) (isub .i64 (x1) 1)) 24) ([(ByteArray.mk #[97,10,98]),(ByteArray.mk #[127])]))])),(true,((List.map Blk.of (ls7F (dnext ((lk0 (dval (dnext (dwdGN y50000 ([(ByteArray.mk #[115,101,114,118,101,114]),(ByteArray.mk #[97]),(ByteArray.mk #[120,46,49])])) 9) 3).toNat ([(dwdG y50000 ([(ByteArray.mk #[115,101,114,118,101,114]),(ByteArray.mk #[97]),(ByteArray.mk #[120,46,49])]))]) (dnext (dnext (dwdGN y50000 ([(ByteArray.mk #[115,101,114,118,101,114]),(ByteArray.mk #[97]),(ByteArray.mk #[120,46,49])])) 9) 3)).2) 3) (isub .i64 (x1) 1))),(((dval (dwdGN y50000 ([(ByteArray.mk #[115,101,114,118,101,114]),(ByteArray.mk #[97]),(ByteArray.mk #[120,46,49])])) 9)),()))))])) (dwdGN (dnext (ls7N (dnext ((lk0 (dval (dnext (dwdGN y50000 ([(ByteArray.mk #[115,101,114,118,101,114]),(ByteArray.mk #[97]),(ByteArray.mk #[120,46,49])])) 9) 3).toNat ([(dwdG y50000 ([(ByteArray.mk #[115,101,114,118,101,114]),(ByteArray.mk #[97]),(ByteArray.mk #[120,46,49])]))]) (dnext (dnext (dwdGN y50000 ([(ByteArray.mk #[115,101,114,118,101,114]),(ByteArray.mk #[97]),(ByteArray.mk #[120,46,49])])) 9) 3)).2) 3) (isub .i64 (x1) 1)) 24) ([(ByteArray.mk #[97,10,98]),(ByteArray.mk #[127])]))))
                 (none))
                (none))
               (none))
              (br ((ieq (dval (ls7N (dnext ((lk0 (dval (dnext (dwdGN y50000 ([(ByteArray.mk #[115,101,114,118,101,114]),(ByteArray.mk #[97]),(ByteArray.mk #[120,46,49])])) 9) 3).toNat ([(dwdG y50000 ([(ByteArray.mk #[115,101,114,118,101,114]),(ByteArray.mk #[97]),(ByteArray.mk #[120,46,49])]))]) (dnext (dnext (dwdGN y50000 ([(ByteArray.mk #[115,101,114,118,101,114]),(ByteArray.mk #[97]),(ByteArray.mk #[120,46,49])])) 9) 3)).2) 3) (isub .i64 (x1) 1)) 24) 3))
               (br (cApp (y5) ([(((lk0 (dval (dnext (dwdGN y50000 ([(ByteArray.mk #[115,101,114,118,101,114]),(ByteArray.mk #[97]),(ByteArray.mk #[120,46,49])])) 9) 3).toNat ([(dwdG y50000 ([(ByteArray.mk #[115,101,114,118,101,114]),(ByteArray.mk #[97]),(ByteArray.mk #[120,46,49])]))]) (dnext (dnext (dwdGN y50000 ([(ByteArray.mk #[115,101,114,118,101,114]),(ByteArray.mk #[97]),(ByteArray.mk #[120,46,49])])) 9) 3)).1),(false,((List.map Blk.of (ls7F (dnext ((lk0 (dval (dnext (dwdGN y50000 ([(ByteArray.mk #[115,101,114,118,101,114]),(ByteArray.mk #[97]),(ByteArray.mk #[120,46,49])])) 9) 3).toNat ([(dwdG y50000 ([(ByteArray.mk #[115,101,114,118,101,114]),(ByteArray.mk #[97]),(ByteArray.mk #[120,46,49])]))]) (dnext (dnext (dwdGN y50000 ([(ByteArray.mk #[115,101,114,118,101,114]),(ByteArray.mk #[97]),(ByteArray.mk #[120,46,49])])) 9) 3)).2) 3) (isub .i64 (x1) 1))),(((dval (dwdGN y50000 ([(ByteArray.mk #[115,101,114,118,101,114]),(ByteArray.mk #[97]),(ByteArray.mk #[120,46,49])])) 9)),()))))]) 64)
                (some (.normal,st_f31_1 (x1) (isub .i64 (x6) 1) ((y5)++([(((lk0 (dval (dnext (dwdGN y50000 ([(ByteArray.mk #[115,101,114,118,101,114]),(ByteArray.mk #[97]),(ByteArray.mk #[120,46,49])])) 9) 3).toNat ([(dwdG y50000 ([(ByteArray.mk #[115,101,114,118,101,114]),(ByteArray.mk #[97]),(ByteArray.mk #[120,46,49])]))]) (dnext (dnext (dwdGN y50000 ([(ByteArray.mk #[115,101,114,118,101,114]),(ByteArray.mk #[97]),(ByteArray.mk #[120,46,49])])) 9) 3)).1),(false,((List.map Blk.of (ls7F (dnext ((lk0 (dval (dnext (dwdGN y50000 ([(ByteArray.mk #[115,101,114,118,101,114]),(ByteArray.mk #[97]),(ByteArray.mk #[120,46,49])])) 9) 3).toNat ([(dwdG y50000 ([(ByteArray.mk #[115,101,114,118,101,114]),(ByteArray.mk #[97]),(ByteArray.mk #[120,46,49])]))]) (dnext (dnext (dwdGN y50000 ([(ByteArray.mk #[115,101,114,118,101,114]),(ByteArray.mk #[97]),(ByteArray.mk #[120,46,49])])) 9) 3)).2) 3) (isub .i64 (x1) 1))),(((dval (dwdGN y50000 ([(ByteArray.mk #[115,101,114,118,101,114]),(ByteArray.mk #[97]),(ByteArray.mk #[120,46,49])])) 9)),()))))])) (dnext (ls7N (dnext ((lk0 (dval (dnext (dwdGN y50000 ([(ByteArray.mk #[115,101,114,118,101,114]),(ByteArray.mk #[97]),(ByteArray.mk #[120,46,49])])) 9) 3).toNat ([(dwdG y50000 ([(ByteArray.mk #[115,101,114,118,101,114]),(ByteArray.mk #[97]),(ByteArray.mk #[120,46,49])]))]) (dnext (dnext (dwdGN y50000 ([(ByteArray.mk #[115,101,114,118,101,114]),(ByteArray.mk #[97]),(ByteArray.mk #[120,46,49])])) 9) 3)).2) 3) (isub .i64 (x1) 1)) 24)))
                (none))
               (br (cApp (y5) ([(((lk0 (dval (dnext (dwdGN y50000 ([(ByteArray.mk #[115,101,114,118,101,114]),(ByteArray.mk #[97]),(ByteArray.mk #[120,46,49])])) 9) 3).toNat ([(dwdG y50000 ([(ByteArray.mk #[115,101,114,118,101,114]),(ByteArray.mk #[97]),(ByteArray.mk #[120,46,49])]))]) (dnext (dnext (dwdGN y50000 ([(ByteArray.mk #[115,101,114,118,101,114]),(ByteArray.mk #[97]),(ByteArray.mk #[120,46,49])])) 9) 3)).1),(true,((List.map Blk.of (ls7F (dnext ((lk0 (dval (dnext (dwdGN y50000 ([(ByteArray.mk #[115,101,114,118,101,114]),(ByteArray.mk #[97]),(ByteArray.mk #[120,46,49])])) 9) 3).toNat ([(dwdG y50000 ([(ByteArray.mk #[115,101,114,118,101,114]),(ByteArray.mk #[97]),(ByteArray.mk #[120,46,49])]))]) (dnext (dnext (dwdGN y50000 ([(ByteArray.mk #[115,101,114,118,101,114]),(ByteArray.mk #[97]),(ByteArray.mk #[120,46,49])])) 9) 3)).2) 3) (isub .i64 (x1) 1))),(((dval (dwdGN y50000 ([(ByteArray.mk #[115,101,114,118,101,114]),(ByteArray.mk #[97]),(ByteArray.mk #[120,46,49])])) 9)),()))))]) 64)
                (some (.normal,st_f31_1 (x1) (isub .i64 (x6) 1) ((y5)++([(((lk0 (dval (dnext (dwdGN y50000 ([(ByteArray.mk #[115,101,114,118,101,114]),(ByteArray.mk #[97]),(ByteArray.mk #[120,46,49])])) 9) 3).toNat ([(dwdG y50000 ([(ByteArray.mk #[115,101,114,118,101,114]),(ByteArray.mk #[97]),(ByteArray.mk #[120,46,49])]))]) (dnext (dnext (dwdGN y50000 ([(ByteArray.mk #[115,101,114,118,101,114]),(ByteArray.mk #[97]),(ByteArray.mk #[120,46,49])])) 9) 3)).1),(true,((List.map Blk.of (ls7F (dnext ((lk0 (dval (dnext (dwdGN y50000 ([(ByteArray.mk #[115,101,114,118,101,114]),(ByteArray.mk #[97]),(ByteArray.mk #[120,46,49])])) 9) 3).toNat ([(dwdG y50000 ([(ByteArray.mk #[115,101,114,118,101,114]),(ByteArray.mk #[97]),(ByteArray.mk #[120,46,49])]))]) (dnext (dnext (dwdGN y50000 ([(ByteArray.mk #[115,101,114,118,101,114]),(ByteArray.mk #[97]),(ByteArray.mk #[120,46,49])])) 9) 3)).2) 3) (isub .i64 (x1) 1))),(((dval (dwdGN y50000 ([(ByteArray.mk #[115,101,114,118,101,114]),(ByteArray.mk #[97]),(ByteArray.mk #[120,46,49])])) 9)),()))))])) (dnext (ls7N (dnext ((lk0 (dval (dnext (dwdGN y50000 ([(ByteArray.mk #[115,101,114,118,101,114]),(ByteArray.mk #[97]),(ByteArray.mk #[120,46,49])])) 9) 3).toNat ([(dwdG y50000 ([(ByteArray.mk #[115,101,114,118,101,114]),(ByteArray.mk #[97]),(ByteArray.mk #[120,46,49])]))]) (dnext (dnext (dwdGN y50000 ([(ByteArray.mk #[115,101,114,118,101,114]),(ByteArray.mk #[97]),(ByteArray.mk #[120,46,49])])) 9) 3)).2) 3) (isub .i64 (x1) 1)) 24)))
                (none))))))
           (none))
          (none))
         (br ((nextOk (dnext ((lk0 (dval (dnext (dwdGN y50000 ([(ByteArray.mk #[115,101,114,118,101,114]),(ByteArray.mk #[97]),(ByteArray.mk #[120,46,49])])) 9) 3).toNat ([(dwdG y50000 ([(ByteArray.mk #[115,101,114,118,101,114]),(ByteArray.mk #[97]),(ByteArray.mk #[120,46,49])]))]) (dnext (dnext (dwdGN y50000 ([(ByteArray.mk #[115,101,114,118,101,114]),(ByteArray.mk #[97]),(ByteArray.mk #[120,46,49])])) 9) 3)).2) 3) 24))
          (br ((ieq (dval (dnext ((lk0 (dval (dnext (dwdGN y50000 ([(ByteArray.mk #[115,101,114,118,101,114]),(ByteArray.mk #[97]),(ByteArray.mk #[120,46,49])])) 9) 3).toNat ([(dwdG y50000 ([(ByteArray.mk #[115,101,114,118,101,114]),(ByteArray.mk #[97]),(ByteArray.mk #[120,46,49])]))]) (dnext (dnext (dwdGN y50000 ([(ByteArray.mk #[115,101,114,118,101,114]),(ByteArray.mk #[97]),(ByteArray.mk #[120,46,49])])) 9) 3)).2) 3) 24) 0))
           (br (cApp (y5) ([(([]:List ByteArray),((false),(([]:List Blk),(((dval (dwdGN y50000 ([(ByteArray.mk #[115,101,114,118,101,114]),(ByteArray.mk #[97]),(ByteArray.mk #[120,46,49])])) 9)),()))))]) 64)
            (some (.normal,st_f31_1 (x1) (isub .i64 (x6) 1) ((y5)++([(([]:List ByteArray),((false),(([]:List Blk),(((dval (dwdGN y50000 ([(ByteArray.mk #[115,101,114,118,101,114]),(ByteArray.mk #[97]),(ByteArray.mk #[120,46,49])])) 9)),()))))])) (dnext (dnext ((lk0 (dval (dnext (dwdGN y50000 ([(ByteArray.mk #[115,101,114,118,101,114]),(ByteArray.mk #[97]),(ByteArray.mk #[120,46,49])])) 9) 3).toNat ([(dwdG y50000 ([(ByteArray.mk #[115,101,114,118,101,114]),(ByteArray.mk #[97]),(ByteArray.mk #[120,46,49])]))]) (dnext (dnext (dwdGN y50000 ([(ByteArray.mk #[115,101,114,118,101,114]),(ByteArray.mk #[97]),(ByteArray.mk #[120,46,49])])) 9) 3)).2) 3) 24)))
            (none))
           (br ((ieq (dval (dnext ((lk0 (dval (dnext (dwdGN y50000 ([(ByteArray.mk #[115,101,114,118,101,114]),(ByteArray.mk #[97]),(ByteArray.mk #[120,46,49])])) 9) 3).toNat ([(dwdG y50000 ([(ByteArray.mk #[115,101,114,118,101,114]),(ByteArray.mk #[97]),(ByteArray.mk #[120,46,49])]))]) (dnext (dnext (dwdGN y50000 ([(ByteArray.mk #[115,101,114,118,101,114]),(ByteArray.mk #[97]),(ByteArray.mk #[120,46,49])])) 9) 3)).2) 3) 24) 1))
            (br ((wdGOk (dnext (dnext ((lk0 (dval (dnext (dwdGN y50000 ([(ByteArray.mk #[115,101,114,118,101,114]),(ByteArray.mk #[97]),(ByteArray.mk #[120,46,49])])) 9) 3).toNat ([(dwdG y50000 ([(ByteArray.mk #[115,101,114,118,101,114]),(ByteArray.mk #[97]),(ByteArray.mk #[120,46,49])]))]) (dnext (dnext (dwdGN y50000 ([(ByteArray.mk #[115,101,114,118,101,114]),(ByteArray.mk #[97]),(ByteArray.mk #[120,46,49])])) 9) 3)).2) 3) 24) ([(ByteArray.mk #[]),(ByteArray.mk #[97,32,98]),(ByteArray.mk #[34])])))
             (br (cIx ((lk0 (dval (dnext (dwdGN y50000 ([(ByteArray.mk #[115,101,114,118,101,114]),(ByteArray.mk #[97]),(ByteArray.mk #[120,46,49])])) 9) 3).toNat ([(dwdG y50000 ([(ByteArray.mk #[115,101,114,118,101,114]),(ByteArray.mk #[97]),(ByteArray.mk #[120,46,49])]))]) (dnext (dnext (dwdGN y50000 ([(ByteArray.mk #[115,101,114,118,101,114]),(ByteArray.mk #[97]),(ByteArray.mk #[120,46,49])])) 9) 3)).1) 0)
              (br (cLd ((lk0 (dval (dnext (dwdGN y50000 ([(ByteArray.mk #[115,101,114,118,101,114]),(ByteArray.mk #[97]),(ByteArray.mk #[120,46,49])])) 9) 3).toNat ([(dwdG y50000 ([(ByteArray.mk #[115,101,114,118,101,114]),(ByteArray.mk #[97]),(ByteArray.mk #[120,46,49])]))]) (dnext (dnext (dwdGN y50000 ([(ByteArray.mk #[115,101,114,118,101,114]),(ByteArray.mk #[97]),(ByteArray.mk #[120,46,49])])) 9) 3)).1) (Int.toNat 0))
               (br (cApp (y5) ([((List.set ((lk0 (dval (dnext (dwdGN y50000 ([(ByteArray.mk #[115,101,114,118,101,114]),(ByteArray.mk #[97]),(ByteArray.mk #[120,46,49])])) 9) 3).toNat ([(dwdG y50000 ([(ByteArray.mk #[115,101,114,118,101,114]),(ByteArray.mk #[97]),(ByteArray.mk #[120,46,49])]))]) (dnext (dnext (dwdGN y50000 ([(ByteArray.mk #[115,101,114,118,101,114]),(ByteArray.mk #[97]),(ByteArray.mk #[120,46,49])])) 9) 3)).1) (Int.toNat 0) (dwdG (dnext (dnext ((lk0 (dval (dnext (dwdGN y50000 ([(ByteArray.mk #[115,101,114,118,101,114]),(ByteArray.mk #[97]),(ByteArray.mk #[120,46,49])])) 9) 3).toNat ([(dwdG y50000 ([(ByteArray.mk #[115,101,114,118,101,114]),(ByteArray.mk #[97]),(ByteArray.mk #[120,46,49])]))]) (dnext (dnext (dwdGN y50000 ([(ByteArray.mk #[115,101,114,118,101,114]),(ByteArray.mk #[97]),(ByteArray.mk #[120,46,49])])) 9) 3)).2) 3) 24) ([(ByteArray.mk #[]),(ByteArray.mk #[97,32,98]),(ByteArray.mk #[34])]))),((false),(([]:List Blk),(((dval (dwdGN y50000 ([(ByteArray.mk #[115,101,114,118,101,114]),(ByteArray.mk #[97]),(ByteArray.mk #[120,46,49])])) 9)),()))))]) 64)
                (some (.normal,st_f31_1 (x1) (isub .i64 (x6) 1) ((y5)++([((List.set ((lk0 (dval (dnext (dwdGN y50000 ([(ByteArray.mk #[115,101,114,118,101,114]),(ByteArray.mk #[97]),(ByteArray.mk #[120,46,49])])) 9) 3).toNat ([(dwdG y50000 ([(ByteArray.mk #[115,101,114,118,101,114]),(ByteArray.mk #[97]),(ByteArray.mk #[120,46,49])]))]) (dnext (dnext (dwdGN y50000 ([(ByteArray.mk #[115,101,114,118,101,114]),(ByteArray.mk #[97]),(ByteArray.mk #[120,46,49])])) 9) 3)).1) (Int.toNat 0) (dwdG (dnext (dnext ((lk0 (dval (dnext (dwdGN y50000 ([(ByteArray.mk #[115,101,114,118,101,114]),(ByteArray.mk #[97]),(ByteArray.mk #[120,46,49])])) 9) 3).toNat ([(dwdG y50000 ([(ByteArray.mk #[115,101,114,118,101,114]),(ByteArray.mk #[97]),(ByteArray.mk #[120,46,49])]))]) (dnext (dnext (dwdGN y50000 ([(ByteArray.mk #[115,101,114,118,101,114]),(ByteArray.mk #[97]),(ByteArray.mk #[120,46,49])])) 9) 3)).2) 3) 24) ([(ByteArray.mk #[]),(ByteArray.mk #[97,32,98]),(ByteArray.mk #[34])]))),((false),(([]:List Blk),(((dval (dwdGN y50000 ([(ByteArray.mk #[115,101,114,118,101,114]),(ByteArray.mk #[97]),(ByteArray.mk #[120,46,49])])) 9)),()))))])) (dwdGN (dnext (dnext ((lk0 (dval (dnext (dwdGN y50000 ([(ByteArray.mk #[115,101,114,118,101,114]),(ByteArray.mk #[97]),(ByteArray.mk #[120,46,49])])) 9) 3).toNat ([(dwdG y50000 ([(ByteArray.mk #[115,101,114,118,101,114]),(ByteArray.mk #[97]),(ByteArray.mk #[120,46,49])]))]) (dnext (dnext (dwdGN y50000 ([(ByteArray.mk #[115,101,114,118,101,114]),(ByteArray.mk #[97]),(ByteArray.mk #[120,46,49])])) 9) 3)).2) 3) 24) ([(ByteArray.mk #[]),(ByteArray.mk #[97,32,98]),(ByteArray.mk #[34])]))))
                (none))
               (none))
              (none))
             (none))
            (br ((ieq (dval (dnext ((lk0 (dval (dnext (dwdGN y50000 ([(ByteArray.mk #[115,101,114,118,101,114]),(ByteArray.mk #[97]),(ByteArray.mk #[120,46,49])])) 9) 3).toNat ([(dwdG y50000 ([(ByteArray.mk #[115,101,114,118,101,114]),(ByteArray.mk #[97]),(ByteArray.mk #[120,46,49])]))]) (dnext (dnext (dwdGN y50000 ([(ByteArray.mk #[115,101,114,118,101,114]),(ByteArray.mk #[97]),(ByteArray.mk #[120,46,49])])) 9) 3)).2) 3) 24) 2))
             (br ((wdGOk (dnext (dnext ((lk0 (dval (dnext (dwdGN y50000 ([(ByteArray.mk #[115,101,114,118,101,114]),(ByteArray.mk #[97]),(ByteArray.mk #[120,46,49])])) 9) 3).toNat ([(dwdG y50000 ([(ByteArray.mk #[115,101,114,118,101,114]),(ByteArray.mk #[97]),(ByteArray.mk #[120,46,49])]))]) (dnext (dnext (dwdGN y50000 ([(ByteArray.mk #[115,101,114,118,101,114]),(ByteArray.mk #[97]),(ByteArray.mk #[120,46,49])])) 9) 3)).2) 3) 24) ([(ByteArray.mk #[97,10,98]),(ByteArray.mk #[127])])))
              (br (cApp ((lk0 (dval (dnext (dwdGN y50000 ([(ByteArray.mk #[115,101,114,118,101,114]),(ByteArray.mk #[97]),(ByteArray.mk #[120,46,49])])) 9) 3).toNat ([(dwdG y50000 ([(ByteArray.mk #[115,101,114,118,101,114]),(ByteArray.mk #[97]),(ByteArray.mk #[120,46,49])]))]) (dnext (dnext (dwdGN y50000 ([(ByteArray.mk #[115,101,114,118,101,114]),(ByteArray.mk #[97]),(ByteArray.mk #[120,46,49])])) 9) 3)).1) ([(dwdG (dnext (dnext ((lk0 (dval (dnext (dwdGN y50000 ([(ByteArray.mk #[115,101,114,118,101,114]),(ByteArray.mk #[97]),(ByteArray.mk #[120,46,49])])) 9) 3).toNat ([(dwdG y50000 ([(ByteArray.mk #[115,101,114,118,101,114]),(ByteArray.mk #[97]),(ByteArray.mk #[120,46,49])]))]) (dnext (dnext (dwdGN y50000 ([(ByteArray.mk #[115,101,114,118,101,114]),(ByteArray.mk #[97]),(ByteArray.mk #[120,46,49])])) 9) 3)).2) 3) 24) ([(ByteArray.mk #[97,10,98]),(ByteArray.mk #[127])]))]) 16)
               (br (cApp (y5) ([((((lk0 (dval (dnext (dwdGN y50000 ([(ByteArray.mk #[115,101,114,118,101,114]),(ByteArray.mk #[97]),(ByteArray.mk #[120,46,49])])) 9) 3).toNat ([(dwdG y50000 ([(ByteArray.mk #[115,101,114,118,101,114]),(ByteArray.mk #[97]),(ByteArray.mk #[120,46,49])]))]) (dnext (dnext (dwdGN y50000 ([(ByteArray.mk #[115,101,114,118,101,114]),(ByteArray.mk #[97]),(ByteArray.mk #[120,46,49])])) 9) 3)).1)++([(dwdG (dnext (dnext ((lk0 (dval (dnext (dwdGN y50000 ([(ByteArray.mk #[115,101,114,118,101,114]),(ByteArray.mk #[97]),(ByteArray.mk #[120,46,49])])) 9) 3).toNat ([(dwdG y50000 ([(ByteArray.mk #[115,101,114,118,101,114]),(ByteArray.mk #[97]),(ByteArray.mk #[120,46,49])]))]) (dnext (dnext (dwdGN y50000 ([(ByteArray.mk #[115,101,114,118,101,114]),(ByteArray.mk #[97]),(ByteArray.mk #[120,46,49])])) 9) 3)).2) 3) 24) ([(ByteArray.mk #[97,10,98]),(ByteArray.mk #[127])]))])),((false),(([]:List Blk),(((dval (dwdGN y50000 ([(ByteArray.mk #[115,101,114,118,101,114]),(ByteArray.mk #[97]),(ByteArray.mk #[120,46,49])])) 9)),()))))]) 64)
                (some (.normal,st_f31_1 (x1) (isub .i64 (x6) 1) ((y5)++([((((lk0 (dval (dnext (dwdGN y50000 ([(ByteArray.mk #[115,101,114,118,101,114]),(ByteArray.mk #[97]),(ByteArray.mk #[120,46,49])])) 9) 3).toNat ([(dwdG y50000 ([(ByteArray.mk #[115,101,114,118,101,114]),(ByteArray.mk #[97]),(ByteArray.mk #[120,46,49])]))]) (dnext (dnext (dwdGN y50000 ([(ByteArray.mk #[115,101,114,118,101,114]),(ByteArray.mk #[97]),(ByteArray.mk #[120,46,49])])) 9) 3)).1)++([(dwdG (dnext (dnext ((lk0 (dval (dnext (dwdGN y50000 ([(ByteArray.mk #[115,101,114,118,101,114]),(ByteArray.mk #[97]),(ByteArray.mk #[120,46,49])])) 9) 3).toNat ([(dwdG y50000 ([(ByteArray.mk #[115,101,114,118,101,114]),(ByteArray.mk #[97]),(ByteArray.mk #[120,46,49])]))]) (dnext (dnext (dwdGN y50000 ([(ByteArray.mk #[115,101,114,118,101,114]),(ByteArray.mk #[97]),(ByteArray.mk #[120,46,49])])) 9) 3)).2) 3) 24) ([(ByteArray.mk #[97,10,98]),(ByteArray.mk #[127])]))])),((false),(([]:List Blk),(((dval (dwdGN y50000 ([(ByteArray.mk #[115,101,114,118,101,114]),(ByteArray.mk #[97]),(ByteArray.mk #[120,46,49])])) 9)),()))))])) (dwdGN (dnext (dnext ((lk0 (dval (dnext (dwdGN y50000 ([(ByteArray.mk #[115,101,114,118,101,114]),(ByteArray.mk #[97]),(ByteArray.mk #[120,46,49])])) 9) 3).toNat ([(dwdG y50000 ([(ByteArray.mk #[115,101,114,118,101,114]),(ByteArray.mk #[97]),(ByteArray.mk #[120,46,49])]))]) (dnext (dnext (dwdGN y50000 ([(ByteArray.mk #[115,101,114,118,101,114]),(ByteArray.mk #[97]),(ByteArray.mk #[120,46,49])])) 9) 3)).2) 3) 24) ([(ByteArray.mk #[97,10,98]),(ByteArray.mk #[127])]))))
                (none))
               (none))
              (none))
             (br ((ieq (dval (dnext ((lk0 (dval (dnext (dwdGN y50000 ([(ByteArray.mk #[115,101,114,118,101,114]),(ByteArray.mk #[97]),(ByteArray.mk #[120,46,49])])) 9) 3).toNat ([(dwdG y50000 ([(ByteArray.mk #[115,101,114,118,101,114]),(ByteArray.mk #[97]),(ByteArray.mk #[120,46,49])]))]) (dnext (dnext (dwdGN y50000 ([(ByteArray.mk #[115,101,114,118,101,114]),(ByteArray.mk #[97]),(ByteArray.mk #[120,46,49])])) 9) 3)).2) 3) 24) 3))
              (br (cApp (y5) ([(((lk0 (dval (dnext (dwdGN y50000 ([(ByteArray.mk #[115,101,114,118,101,114]),(ByteArray.mk #[97]),(ByteArray.mk #[120,46,49])])) 9) 3).toNat ([(dwdG y50000 ([(ByteArray.mk #[115,101,114,118,101,114]),(ByteArray.mk #[97]),(ByteArray.mk #[120,46,49])]))]) (dnext (dnext (dwdGN y50000 ([(ByteArray.mk #[115,101,114,118,101,114]),(ByteArray.mk #[97]),(ByteArray.mk #[120,46,49])])) 9) 3)).1),(false,(([]:List Blk),(((dval (dwdGN y50000 ([(ByteArray.mk #[115,101,114,118,101,114]),(ByteArray.mk #[97]),(ByteArray.mk #[120,46,49])])) 9)),()))))]) 64)
               (some (.normal,st_f31_1 (x1) (isub .i64 (x6) 1) ((y5)++([(((lk0 (dval (dnext (dwdGN y50000 ([(ByteArray.mk #[115,101,114,118,101,114]),(ByteArray.mk #[97]),(ByteArray.mk #[120,46,49])])) 9) 3).toNat ([(dwdG y50000 ([(ByteArray.mk #[115,101,114,118,101,114]),(ByteArray.mk #[97]),(ByteArray.mk #[120,46,49])]))]) (dnext (dnext (dwdGN y50000 ([(ByteArray.mk #[115,101,114,118,101,114]),(ByteArray.mk #[97]),(ByteArray.mk #[120,46,49])])) 9) 3)).1),(false,(([]:List Blk),(((dval (dwdGN y50000 ([(ByteArray.mk #[115,101,114,118,101,114]),(ByteArray.mk #[97]),(ByteArray.mk #[120,46,49])])) 9)),()))))])) (dnext (dnext ((lk0 (dval (dnext (dwdGN y50000 ([(ByteArray.mk #[115,101,114,118,101,114]),(ByteArray.mk #[97]),(ByteArray.mk #[120,46,49])])) 9) 3).toNat ([(dwdG y50000 ([(ByteArray.mk #[115,101,114,118,101,114]),(ByteArray.mk #[97]),(ByteArray.mk #[120,46,49])]))]) (dnext (dnext (dwdGN y50000 ([(ByteArray.mk #[115,101,114,118,101,114]),(ByteArray.mk #[97]),(ByteArray.mk #[120,46,49])])) 9) 3)).2) 3) 24)))
               (none))
              (br (cApp (y5) ([(((lk0 (dval (dnext (dwdGN y50000 ([(ByteArray.mk #[115,101,114,118,101,114]),(ByteArray.mk #[97]),(ByteArray.mk #[120,46,49])])) 9) 3).toNat ([(dwdG y50000 ([(ByteArray.mk #[115,101,114,118,101,114]),(ByteArray.mk #[97]),(ByteArray.mk #[120,46,49])]))]) (dnext (dnext (dwdGN y50000 ([(ByteArray.mk #[115,101,114,118,101,114]),(ByteArray.mk #[97]),(ByteArray.mk #[120,46,49])])) 9) 3)).1),((false),(([]:List Blk),(((dval (dwdGN y50000 ([(ByteArray.mk #[115,101,114,118,101,114]),(ByteArray.mk #[97]),(ByteArray.mk #[120,46,49])])) 9)),()))))]) 64)
               (some (.normal,st_f31_1 (x1) (isub .i64 (x6) 1) ((y5)++([(((lk0 (dval (dnext (dwdGN y50000 ([(ByteArray.mk #[115,101,114,118,101,114]),(ByteArray.mk #[97]),(ByteArray.mk #[120,46,49])])) 9) 3).toNat ([(dwdG y50000 ([(ByteArray.mk #[115,101,114,118,101,114]),(ByteArray.mk #[97]),(ByteArray.mk #[120,46,49])]))]) (dnext (dnext (dwdGN y50000 ([(ByteArray.mk #[115,101,114,118,101,114]),(ByteArray.mk #[97]),(ByteArray.mk #[120,46,49])])) 9) 3)).1),((false),(([]:List Blk),(((dval (dwdGN y50000 ([(ByteArray.mk #[115,101,114,118,101,114]),(ByteArray.mk #[97]),(ByteArray.mk #[120,46,49])])) 9)),()))))])) (dnext (dnext ((lk0 (dval (dnext (dwdGN y50000 ([(ByteArray.mk #[115,101,114,118,101,114]),(ByteArray.mk #[97]),(ByteArray.mk #[120,46,49])])) 9) 3).toNat ([(dwdG y50000 ([(ByteArray.mk #[115,101,114,118,101,114]),(ByteArray.mk #[97]),(ByteArray.mk #[120,46,49])]))]) (dnext (dnext (dwdGN y50000 ([(ByteArray.mk #[115,101,114,118,101,114]),(ByteArray.mk #[97]),(ByteArray.mk #[120,46,49])])) 9) 3)).2) 3) 24)))
               (none))))))
          (none)))
        (none))
       (br ((nextOk ((lk0 (dval (dnext (dwdGN y50000 ([(ByteArray.mk #[115,101,114,118,101,114]),(ByteArray.mk #[97]),(ByteArray.mk #[120,46,49])])) 9) 3).toNat ([(dwdG y50000 ([(ByteArray.mk #[115,101,114,118,101,114]),(ByteArray.mk #[97]),(ByteArray.mk #[120,46,49])]))]) (dnext (dnext (dwdGN y50000 ([(ByteArray.mk #[115,101,114,118,101,114]),(ByteArray.mk #[97]),(ByteArray.mk #[120,46,49])])) 9) 3)).2) 24))
        (br ((ieq (dval ((lk0 (dval (dnext (dwdGN y50000 ([(ByteArray.mk #[115,101,114,118,101,114]),(ByteArray.mk #[97]),(ByteArray.mk #[120,46,49])])) 9) 3).toNat ([(dwdG y50000 ([(ByteArray.mk #[115,101,114,118,101,114]),(ByteArray.mk #[97]),(ByteArray.mk #[120,46,49])]))]) (dnext (dnext (dwdGN y50000 ([(ByteArray.mk #[115,101,114,118,101,114]),(ByteArray.mk #[97]),(ByteArray.mk #[120,46,49])])) 9) 3)).2) 24) 0))
         (br (cApp (y5) ([(([]:List ByteArray),((false),(([]:List Blk),(((dval (dwdGN y50000 ([(ByteArray.mk #[115,101,114,118,101,114]),(ByteArray.mk #[97]),(ByteArray.mk #[120,46,49])])) 9)),()))))]) 64)
          (some (.normal,st_f31_1 (x1) (isub .i64 (x6) 1) ((y5)++([(([]:List ByteArray),((false),(([]:List Blk),(((dval (dwdGN y50000 ([(ByteArray.mk #[115,101,114,118,101,114]),(ByteArray.mk #[97]),(ByteArray.mk #[120,46,49])])) 9)),()))))])) (dnext ((lk0 (dval (dnext (dwdGN y50000 ([(ByteArray.mk #[115,101,114,118,101,114]),(ByteArray.mk #[97]),(ByteArray.mk #[120,46,49])])) 9) 3).toNat ([(dwdG y50000 ([(ByteArray.mk #[115,101,114,118,101,114]),(ByteArray.mk #[97]),(ByteArray.mk #[120,46,49])]))]) (dnext (dnext (dwdGN y50000 ([(ByteArray.mk #[115,101,114,118,101,114]),(ByteArray.mk #[97]),(ByteArray.mk #[120,46,49])])) 9) 3)).2) 24)))
          (none))
         (br ((ieq (dval ((lk0 (dval (dnext (dwdGN y50000 ([(ByteArray.mk #[115,101,114,118,101,114]),(ByteArray.mk #[97]),(ByteArray.mk #[120,46,49])])) 9) 3).toNat ([(dwdG y50000 ([(ByteArray.mk #[115,101,114,118,101,114]),(ByteArray.mk #[97]),(ByteArray.mk #[120,46,49])]))]) (dnext (dnext (dwdGN y50000 ([(ByteArray.mk #[115,101,114,118,101,114]),(ByteArray.mk #[97]),(ByteArray.mk #[120,46,49])])) 9) 3)).2) 24) 1))
          (br ((wdGOk (dnext ((lk0 (dval (dnext (dwdGN y50000 ([(ByteArray.mk #[115,101,114,118,101,114]),(ByteArray.mk #[97]),(ByteArray.mk #[120,46,49])])) 9) 3).toNat ([(dwdG y50000 ([(ByteArray.mk #[115,101,114,118,101,114]),(ByteArray.mk #[97]),(ByteArray.mk #[120,46,49])]))]) (dnext (dnext (dwdGN y50000 ([(ByteArray.mk #[115,101,114,118,101,114]),(ByteArray.mk #[97]),(ByteArray.mk #[120,46,49])])) 9) 3)).2) 24) ([(ByteArray.mk #[]),(ByteArray.mk #[97,32,98]),(ByteArray.mk #[34])])))
           (br (cIx ((lk0 (dval (dnext (dwdGN y50000 ([(ByteArray.mk #[115,101,114,118,101,114]),(ByteArray.mk #[97]),(ByteArray.mk #[120,46,49])])) 9) 3).toNat ([(dwdG y50000 ([(ByteArray.mk #[115,101,114,118,101,114]),(ByteArray.mk #[97]),(ByteArray.mk #[120,46,49])]))]) (dnext (dnext (dwdGN y50000 ([(ByteArray.mk #[115,101,114,118,101,114]),(ByteArray.mk #[97]),(ByteArray.mk #[120,46,49])])) 9) 3)).1) 0)
            (br (cLd ((lk0 (dval (dnext (dwdGN y50000 ([(ByteArray.mk #[115,101,114,118,101,114]),(ByteArray.mk #[97]),(ByteArray.mk #[120,46,49])])) 9) 3).toNat ([(dwdG y50000 ([(ByteArray.mk #[115,101,114,118,101,114]),(ByteArray.mk #[97]),(ByteArray.mk #[120,46,49])]))]) (dnext (dnext (dwdGN y50000 ([(ByteArray.mk #[115,101,114,118,101,114]),(ByteArray.mk #[97]),(ByteArray.mk #[120,46,49])])) 9) 3)).1) (Int.toNat 0))
             (br (cApp (y5) ([((List.set ((lk0 (dval (dnext (dwdGN y50000 ([(ByteArray.mk #[115,101,114,118,101,114]),(ByteArray.mk #[97]),(ByteArray.mk #[120,46,49])])) 9) 3).toNat ([(dwdG y50000 ([(ByteArray.mk #[115,101,114,118,101,114]),(ByteArray.mk #[97]),(ByteArray.mk #[120,46,49])]))]) (dnext (dnext (dwdGN y50000 ([(ByteArray.mk #[115,101,114,118,101,114]),(ByteArray.mk #[97]),(ByteArray.mk #[120,46,49])])) 9) 3)).1) (Int.toNat 0) (dwdG (dnext ((lk0 (dval (dnext (dwdGN y50000 ([(ByteArray.mk #[115,101,114,118,101,114]),(ByteArray.mk #[97]),(ByteArray.mk #[120,46,49])])) 9) 3).toNat ([(dwdG y50000 ([(ByteArray.mk #[115,101,114,118,101,114]),(ByteArray.mk #[97]),(ByteArray.mk #[120,46,49])]))]) (dnext (dnext (dwdGN y50000 ([(ByteArray.mk #[115,101,114,118,101,114]),(ByteArray.mk #[97]),(ByteArray.mk #[120,46,49])])) 9) 3)).2) 24) ([(ByteArray.mk #[]),(ByteArray.mk #[97,32,98]),(ByteArray.mk #[34])]))),((false),(([]:List Blk),(((dval (dwdGN y50000 ([(ByteArray.mk #[115,101,114,118,101,114]),(ByteArray.mk #[97]),(ByteArray.mk #[120,46,49])])) 9)),()))))]) 64)
              (some (.normal,st_f31_1 (x1) (isub .i64 (x6) 1) ((y5)++([((List.set ((lk0 (dval (dnext (dwdGN y50000 ([(ByteArray.mk #[115,101,114,118,101,114]),(ByteArray.mk #[97]),(ByteArray.mk #[120,46,49])])) 9) 3).toNat ([(dwdG y50000 ([(ByteArray.mk #[115,101,114,118,101,114]),(ByteArray.mk #[97]),(ByteArray.mk #[120,46,49])]))]) (dnext (dnext (dwdGN y50000 ([(ByteArray.mk #[115,101,114,118,101,114]),(ByteArray.mk #[97]),(ByteArray.mk #[120,46,49])])) 9) 3)).1) (Int.toNat 0) (dwdG (dnext ((lk0 (dval (dnext (dwdGN y50000 ([(ByteArray.mk #[115,101,114,118,101,114]),(ByteArray.mk #[97]),(ByteArray.mk #[120,46,49])])) 9) 3).toNat ([(dwdG y50000 ([(ByteArray.mk #[115,101,114,118,101,114]),(ByteArray.mk #[97]),(ByteArray.mk #[120,46,49])]))]) (dnext (dnext (dwdGN y50000 ([(ByteArray.mk #[115,101,114,118,101,114]),(ByteArray.mk #[97]),(ByteArray.mk #[120,46,49])])) 9) 3)).2) 24) ([(ByteArray.mk #[]),(ByteArray.mk #[97,32,98]),(ByteArray.mk #[34])]))),((false),(([]:List Blk),(((dval (dwdGN y50000 ([(ByteArray.mk #[115,101,114,118,101,114]),(ByteArray.mk #[97]),(ByteArray.mk #[120,46,49])])) 9)),()))))])) (dwdGN (dnext ((lk0 (dval (dnext (dwdGN y50000 ([(ByteArray.mk #[115,101,114,118,101,114]),(ByteArray.mk #[97]),(ByteArray.mk #[120,46,49])])) 9) 3).toNat ([(dwdG y50000 ([(ByteArray.mk #[115,101,114,118,101,114]),(ByteArray.mk #[97]),(ByteArray.mk #[120,46,49])]))]) (dnext (dnext (dwdGN y50000 ([(ByteArray.mk #[115,101,114,118,101,114]),(ByteArray.mk #[97]),(ByteArray.mk #[120,46,49])])) 9) 3)).2) 24) ([(ByteArray.mk #[]),(ByteArray.mk #[97,32,98]),(ByteArray.mk #[34])]))))
              (none))
             (none))
            (none))
           (none))
          (br ((ieq (dval ((lk0 (dval (dnext (dwdGN y50000 ([(ByteArray.mk #[115,101,114,118,101,114]),(ByteArray.mk #[97]),(ByteArray.mk #[120,46,49])])) 9) 3).toNat ([(dwdG y50000 ([(ByteArray.mk #[115,101,114,118,101,114]),(ByteArray.mk #[97]),(ByteArray.mk #[120,46,49])]))]) (dnext (dnext (dwdGN y50000 ([(ByteArray.mk #[115,101,114,118,101,114]),(ByteArray.mk #[97]),(ByteArray.mk #[120,46,49])])) 9) 3)).2) 24) 2))
           (br ((wdGOk (dnext ((lk0 (dval (dnext (dwdGN y50000 ([(ByteArray.mk #[115,101,114,118,101,114]),(ByteArray.mk #[97]),(ByteArray.mk #[120,46,49])])) 9) 3).toNat ([(dwdG y50000 ([(ByteArray.mk #[115,101,114,118,101,114]),(ByteArray.mk #[97]),(ByteArray.mk #[120,46,49])]))]) (dnext (dnext (dwdGN y50000 ([(ByteArray.mk #[115,101,114,118,101,114]),(ByteArray.mk #[97]),(ByteArray.mk #[120,46,49])])) 9) 3)).2) 24) ([(ByteArray.mk #[97,10,98]),(ByteArray.mk #[127])])))
            (br (cApp ((lk0 (dval (dnext (dwdGN y50000 ([(ByteArray.mk #[115,101,114,118,101,114]),(ByteArray.mk #[97]),(ByteArray.mk #[120,46,49])])) 9) 3).toNat ([(dwdG y50000 ([(ByteArray.mk #[115,101,114,118,101,114]),(ByteArray.mk #[97]),(ByteArray.mk #[120,46,49])]))]) (dnext (dnext (dwdGN y50000 ([(ByteArray.mk #[115,101,114,118,101,114]),(ByteArray.mk #[97]),(ByteArray.mk #[120,46,49])])) 9) 3)).1) ([(dwdG (dnext ((lk0 (dval (dnext (dwdGN y50000 ([(ByteArray.mk #[115,101,114,118,101,114]),(ByteArray.mk #[97]),(ByteArray.mk #[120,46,49])])) 9) 3).toNat ([(dwdG y50000 ([(ByteArray.mk #[115,101,114,118,101,114]),(ByteArray.mk #[97]),(ByteArray.mk #[120,46,49])]))]) (dnext (dnext (dwdGN y50000 ([(ByteArray.mk #[115,101,114,118,101,114]),(ByteArray.mk #[97]),(ByteArray.mk #[120,46,49])])) 9) 3)).2) 24) ([(ByteArray.mk #[97,10,98]),(ByteArray.mk #[127])]))]) 16)
             (br (cApp (y5) ([((((lk0 (dval (dnext (dwdGN y50000 ([(ByteArray.mk #[115,101,114,118,101,114]),(ByteArray.mk #[97]),(ByteArray.mk #[120,46,49])])) 9) 3).toNat ([(dwdG y50000 ([(ByteArray.mk #[115,101,114,118,101,114]),(ByteArray.mk #[97]),(ByteArray.mk #[120,46,49])]))]) (dnext (dnext (dwdGN y50000 ([(ByteArray.mk #[115,101,114,118,101,114]),(ByteArray.mk #[97]),(ByteArray.mk #[120,46,49])])) 9) 3)).1)++([(dwdG (dnext ((lk0 (dval (dnext (dwdGN y50000 ([(ByteArray.mk #[115,101,114,118,101,114]),(ByteArray.mk #[97]),(ByteArray.mk #[120,46,49])])) 9) 3).toNat ([(dwdG y50000 ([(ByteArray.mk #[115,101,114,118,101,114]),(ByteArray.mk #[97]),(ByteArray.mk #[120,46,49])]))]) (dnext (dnext (dwdGN y50000 ([(ByteArray.mk #[115,101,114,118,101,114]),(ByteArray.mk #[97]),(ByteArray.mk #[120,46,49])])) 9) 3)).2) 24) ([(ByteArray.mk #[97,10,98]),(ByteArray.mk #[127])]))])),((false),(([]:List Blk),(((dval (dwdGN y50000 ([(ByteArray.mk #[115,101,114,118,101,114]),(ByteArray.mk #[97]),(ByteArray.mk #[120,46,49])])) 9)),()))))]) 64)
              (some (.normal,st_f31_1 (x1) (isub .i64 (x6) 1) ((y5)++([((((lk0 (dval (dnext (dwdGN y50000 ([(ByteArray.mk #[115,101,114,118,101,114]),(ByteArray.mk #[97]),(ByteArray.mk #[120,46,49])])) 9) 3).toNat ([(dwdG y50000 ([(ByteArray.mk #[115,101,114,118,101,114]),(ByteArray.mk #[97]),(ByteArray.mk #[120,46,49])]))]) (dnext (dnext (dwdGN y50000 ([(ByteArray.mk #[115,101,114,118,101,114]),(ByteArray.mk #[97]),(ByteArray.mk #[120,46,49])])) 9) 3)).1)++([(dwdG (dnext ((lk0 (dval (dnext (dwdGN y50000 ([(ByteArray.mk #[115,101,114,118,101,114]),(ByteArray.mk #[97]),(ByteArray.mk #[120,46,49])])) 9) 3).toNat ([(dwdG y50000 ([(ByteArray.mk #[115,101,114,118,101,114]),(ByteArray.mk #[97]),(ByteArray.mk #[120,46,49])]))]) (dnext (dnext (dwdGN y50000 ([(ByteArray.mk #[115,101,114,118,101,114]),(ByteArray.mk #[97]),(ByteArray.mk #[120,46,49])])) 9) 3)).2) 24) ([(ByteArray.mk #[97,10,98]),(ByteArray.mk #[127])]))])),((false),(([]:List Blk),(((dval (dwdGN y50000 ([(ByteArray.mk #[115,101,114,118,101,114]),(ByteArray.mk #[97]),(ByteArray.mk #[120,46,49])])) 9)),()))))])) (dwdGN (dnext ((lk0 (dval (dnext (dwdGN y50000 ([(ByteArray.mk #[115,101,114,118,101,114]),(ByteArray.mk #[97]),(ByteArray.mk #[120,46,49])])) 9) 3).toNat ([(dwdG y50000 ([(ByteArray.mk #[115,101,114,118,101,114]),(ByteArray.mk #[97]),(ByteArray.mk #[120,46,49])]))]) (dnext (dnext (dwdGN y50000 ([(ByteArray.mk #[115,101,114,118,101,114]),(ByteArray.mk #[97]),(ByteArray.mk #[120,46,49])])) 9) 3)).2) 24) ([(ByteArray.mk #[97,10,98]),(ByteArray.mk #[127])]))))
              (none))
             (none))
            (none))
           (br ((ieq (dval ((lk0 (dval (dnext (dwdGN y50000 ([(ByteArray.mk #[115,101,114,118,101,114]),(ByteArray.mk #[97]),(ByteArray.mk #[120,46,49])])) 9) 3).toNat ([(dwdG y50000 ([(ByteArray.mk #[115,101,114,118,101,114]),(ByteArray.mk #[97]),(ByteArray.mk #[120,46,49])]))]) (dnext (dnext (dwdGN y50000 ([(ByteArray.mk #[115,101,114,118,101,114]),(ByteArray.mk #[97]),(ByteArray.mk #[120,46,49])])) 9) 3)).2) 24) 3))
            (br (cApp (y5) ([(((lk0 (dval (dnext (dwdGN y50000 ([(ByteArray.mk #[115,101,114,118,101,114]),(ByteArray.mk #[97]),(ByteArray.mk #[120,46,49])])) 9) 3).toNat ([(dwdG y50000 ([(ByteArray.mk #[115,101,114,118,101,114]),(ByteArray.mk #[97]),(ByteArray.mk #[120,46,49])]))]) (dnext (dnext (dwdGN y50000 ([(ByteArray.mk #[115,101,114,118,101,114]),(ByteArray.mk #[97]),(ByteArray.mk #[120,46,49])])) 9) 3)).1),(false,(([]:List Blk),(((dval (dwdGN y50000 ([(ByteArray.mk #[115,101,114,118,101,114]),(ByteArray.mk #[97]),(ByteArray.mk #[120,46,49])])) 9)),()))))]) 64)
             (some (.normal,st_f31_1 (x1) (isub .i64 (x6) 1) ((y5)++([(((lk0 (dval (dnext (dwdGN y50000 ([(ByteArray.mk #[115,101,114,118,101,114]),(ByteArray.mk #[97]),(ByteArray.mk #[120,46,49])])) 9) 3).toNat ([(dwdG y50000 ([(ByteArray.mk #[115,101,114,118,101,114]),(ByteArray.mk #[97]),(ByteArray.mk #[120,46,49])]))]) (dnext (dnext (dwdGN y50000 ([(ByteArray.mk #[115,101,114,118,101,114]),(ByteArray.mk #[97]),(ByteArray.mk #[120,46,49])])) 9) 3)).1),(false,(([]:List Blk),(((dval (dwdGN y50000 ([(ByteArray.mk #[115,101,114,118,101,114]),(ByteArray.mk #[97]),(ByteArray.mk #[120,46,49])])) 9)),()))))])) (dnext ((lk0 (dval (dnext (dwdGN y50000 ([(ByteArray.mk #[115,101,114,118,101,114]),(ByteArray.mk #[97]),(ByteArray.mk #[120,46,49])])) 9) 3).toNat ([(dwdG y50000 ([(ByteArray.mk #[115,101,114,118,101,114]),(ByteArray.mk #[97]),(ByteArray.mk #[120,46,49])]))]) (dnext (dnext (dwdGN y50000 ([(ByteArray.mk #[115,101,114,118,101,114]),(ByteArray.mk #[97]),(ByteArray.mk #[120,46,49])])) 9) 3)).2) 24)))
             (none))
            (br (cApp (y5) ([(((lk0 (dval (dnext (dwdGN y50000 ([(ByteArray.mk #[115,101,114,118,101,114]),(ByteArray.mk #[97]),(ByteArray.mk #[120,46,49])])) 9) 3).toNat ([(dwdG y50000 ([(ByteArray.mk #[115,101,114,118,101,114]),(ByteArray.mk #[97]),(ByteArray.mk #[120,46,49])]))]) (dnext (dnext (dwdGN y50000 ([(ByteArray.mk #[115,101,114,118,101,114]),(ByteArray.mk #[97]),(ByteArray.mk #[120,46,49])])) 9) 3)).1),((false),(([]:List Blk),(((dval (dwdGN y50000 ([(ByteArray.mk #[115,101,114,118,101,114]),(ByteArray.mk #[97]),(ByteArray.mk #[120,46,49])])) 9)),()))))]) 64)
             (some (.normal,st_f31_1 (x1) (isub .i64 (x6) 1) ((y5)++([(((lk0 (dval (dnext (dwdGN y50000 ([(ByteArray.mk #[115,101,114,118,101,114]),(ByteArray.mk #[97]),(ByteArray.mk #[120,46,49])])) 9) 3).toNat ([(dwdG y50000 ([(ByteArray.mk #[115,101,114,118,101,114]),(ByteArray.mk #[97]),(ByteArray.mk #[120,46,49])]))]) (dnext (dnext (dwdGN y50000 ([(ByteArray.mk #[115,101,114,118,101,114]),(ByteArray.mk #[97]),(ByteArray.mk #[120,46,49])])) 9) 3)).1),((false),(([]:List Blk),(((dval (dwdGN y50000 ([(ByteArray.mk #[115,101,114,118,101,114]),(ByteArray.mk #[97]),(ByteArray.mk #[120,46,49])])) 9)),()))))])) (dnext ((lk0 (dval (dnext (dwdGN y50000 ([(ByteArray.mk #[115,101,114,118,101,114]),(ByteArray.mk #[97]),(ByteArray.mk #[120,46,49])])) 9) 3).toNat ([(dwdG y50000 ([(ByteArray.mk #[115,101,114,118,101,114]),(ByteArray.mk #[97]),(ByteArray.mk #[120,46,49])]))]) (dnext (dnext (dwdGN y50000 ([(ByteArray.mk #[115,101,114,118,101,114]),(ByteArray.mk #[97]),(ByteArray.mk #[120,46,49])])) 9) 3)).2) 24)))
             (none))))))
        (none)))
      (none))
     (none))
    (none))
   (none))
  (some (.exit 0,st_f31_1_e0 y5 y50000))
noncomputable def lp_f31_1 (x1:Int)(x6:Int)(y5:(List BlkT))(y50000:Dice):Option (Exit×VS):=loopF (roundF g_f31 fg_f31_1 tb_f31_1) (st_f31_1 x1 x6 y5 y50000)
noncomputable def n_f31_1 (x1:Int)(x6:Int)(y5:(List BlkT))(y50000:Dice):Option (Exit×VS):=
 br ((igt x6 0))
  (br ((wdGOk y50000 ([(ByteArray.mk #[115,101,114,118,101,114]),(ByteArray.mk #[97]),(ByteArray.mk #[120,46,49])])))
   (br ((nextOk (dwdGN y50000 ([(ByteArray.mk #[115,101,114,118,101,114]),(ByteArray.mk #[97]),(ByteArray.mk #[120,46,49])])) 9))
    (br ((nextOk (dnext (dwdGN y50000 ([(ByteArray.mk #[115,101,114,118,101,114]),(ByteArray.mk #[97]),(ByteArray.mk #[120,46,49])])) 9) 3))
     (br ((lb0 (dval (dnext (dwdGN y50000 ([(ByteArray.mk #[115,101,114,118,101,114]),(ByteArray.mk #[97]),(ByteArray.mk #[120,46,49])])) 9) 3) ([(dwdG y50000 ([(ByteArray.mk #[115,101,114,118,101,114]),(ByteArray.mk #[97]),(ByteArray.mk #[120,46,49])]))]) (dnext (dnext (dwdGN y50000 ([(ByteArray.mk #[115,101,114,118,101,114]),(ByteArray.mk #[97]),(ByteArray.mk #[120,46,49])])) 9) 3)))
      (br ((igt (x1) 0))
       (br ((oneOk ((lk0 (dval (dnext (dwdGN y50000 ([(ByteArray.mk #[115,101,114,118,101,114]),(ByteArray.mk #[97]),(ByteArray.mk #[120,46,49])])) 9) 3).toNat ([(dwdG y50000 ([(ByteArray.mk #[115,101,114,118,101,114]),(ByteArray.mk #[97]),(ByteArray.mk #[120,46,49])]))]) (dnext (dnext (dwdGN y50000 ([(ByteArray.mk #[115,101,114,118,101,114]),(ByteArray.mk #[97]),(ByteArray.mk #[120,46,49])])) 9) 3)).2) 3))
        (br ((done ((lk0 (dval (dnext (dwdGN y50000 ([(ByteArray.mk #[115,101,114,118,101,114]),(ByteArray.mk #[97]),(ByteArray.mk #[120,46,49])])) 9) 3).toNat ([(dwdG y50000 ([(ByteArray.mk #[115,101,114,118,101,114]),(ByteArray.mk #[97]),(ByteArray.mk #[120,46,49])]))]) (dnext (dnext (dwdGN y50000 ([(ByteArray.mk #[115,101,114,118,101,114]),(ByteArray.mk #[97]),(ByteArray.mk #[120,46,49])])) 9) 3)).2) 3))
         (br ((ls7S fuel (dnext ((lk0 (dval (dnext (dwdGN y50000 ([(ByteArray.mk #[115,101,114,118,101,114]),(ByteArray.mk #[97]),(ByteArray.mk #[120,46,49])])) 9) 3).toNat ([(dwdG y50000 ([(ByteArray.mk #[115,101,114,118,101,114]),(ByteArray.mk #[97]),(ByteArray.mk #[120,46,49])]))]) (dnext (dnext (dwdGN y50000 ([(ByteArray.mk #[115,101,114,118,101,114]),(ByteArray.mk #[97]),(ByteArray.mk #[120,46,49])])) 9) 3)).2) 3) (isub .i64 (x1) 1)))
          (br ((nextOk (ls7N (dnext ((lk0 (dval (dnext (dwdGN y50000 ([(ByteArray.mk #[115,101,114,118,101,114]),(ByteArray.mk #[97]),(ByteArray.mk #[120,46,49])])) 9) 3).toNat ([(dwdG y50000 ([(ByteArray.mk #[115,101,114,118,101,114]),(ByteArray.mk #[97]),(ByteArray.mk #[120,46,49])]))]) (dnext (dnext (dwdGN y50000 ([(ByteArray.mk #[115,101,114,118,101,114]),(ByteArray.mk #[97]),(ByteArray.mk #[120,46,49])])) 9) 3)).2) 3) (isub .i64 (x1) 1)) 24))
           (br ((ieq (dval (ls7N (dnext ((lk0 (dval (dnext (dwdGN y50000 ([(ByteArray.mk #[115,101,114,118,101,114]),(ByteArray.mk #[97]),(ByteArray.mk #[120,46,49])])) 9) 3).toNat ([(dwdG y50000 ([(ByteArray.mk #[115,101,114,118,101,114]),(ByteArray.mk #[97]),(ByteArray.mk #[120,46,49])]))]) (dnext (dnext (dwdGN y50000 ([(ByteArray.mk #[115,101,114,118,101,114]),(ByteArray.mk #[97]),(ByteArray.mk #[120,46,49])])) 9) 3)).2) 3) (isub .i64 (x1) 1)) 24) 0))
            (br (cApp (y5) ([(([]:List ByteArray),(true,((List.map Blk.of (ls7F (dnext ((lk0 (dval (dnext (dwdGN y50000 ([(ByteArray.mk #[115,101,114,118,101,114]),(ByteArray.mk #[97]),(ByteArray.mk #[120,46,49])])) 9) 3).toNat ([(dwdG y50000 ([(ByteArray.mk #[115,101,114,118,101,114]),(ByteArray.mk #[97]),(ByteArray.mk #[120,46,49])]))]) (dnext (dnext (dwdGN y50000 ([(ByteArray.mk #[115,101,114,118,101,114]),(ByteArray.mk #[97]),(ByteArray.mk #[120,46,49])])) 9) 3)).2) 3) (isub .i64 (x1) 1))),(((dval (dwdGN y50000 ([(ByteArray.mk #[115,101,114,118,101,114]),(ByteArray.mk #[97]),(ByteArray.mk #[120,46,49])])) 9)),()))))]) 64)
             (lp_f31_1 (x1) (isub .i64 (x6) 1) ((y5)++([(([]:List ByteArray),(true,((List.map Blk.of (ls7F (dnext ((lk0 (dval (dnext (dwdGN y50000 ([(ByteArray.mk #[115,101,114,118,101,114]),(ByteArray.mk #[97]),(ByteArray.mk #[120,46,49])])) 9) 3).toNat ([(dwdG y50000 ([(ByteArray.mk #[115,101,114,118,101,114]),(ByteArray.mk #[97]),(ByteArray.mk #[120,46,49])]))]) (dnext (dnext (dwdGN y50000 ([(ByteArray.mk #[115,101,114,118,101,114]),(ByteArray.mk #[97]),(ByteArray.mk #[120,46,49])])) 9) 3)).2) 3) (isub .i64 (x1) 1))),(((dval (dwdGN y50000 ([(ByteArray.mk #[115,101,114,118,101,114]),(ByteArray.mk #[97]),(ByteArray.mk #[120,46,49])])) 9)),()))))])) (dnext (ls7N (dnext ((lk0 (dval (dnext (dwdGN y50000 ([(ByteArray.mk #[115,101,114,118,101,114]),(ByteArray.mk #[97]),(ByteArray.mk #[120,46,49])])) 9) 3).toNat ([(dwdG y50000 ([(ByteArray.mk #[115,101,114,118,101,114]),(ByteArray.mk #[97]),(ByteArray.mk #[120,46,49])]))]) (dnext (dnext (dwdGN y50000 ([(ByteArray.mk #[115,101,114,118,101,114]),(ByteArray.mk #[97]),(ByteArray.mk #[120,46,49])])) 9) 3)).2) 3) (isub .i64 (x1) 1)) 24))
             (none))
            (br ((ieq (dval (ls7N (dnext ((lk0 (dval (dnext (dwdGN y50000 ([(ByteArray.mk #[115,101,114,118,101,114]),(ByteArray.mk #[97]),(ByteArray.mk #[120,46,49])])) 9) 3).toNat ([(dwdG y50000 ([(ByteArray.mk #[115,101,114,118,101,114]),(ByteArray.mk #[97]),(ByteArray.mk #[120,46,49])]))]) (dnext (dnext (dwdGN y50000 ([(ByteArray.mk #[115,101,114,118,101,114]),(ByteArray.mk #[97]),(ByteArray.mk #[120,46,49])])) 9) 3)).2) 3) (isub .i64 (x1) 1)) 24) 1))
             (br ((wdGOk (dnext (ls7N (dnext ((lk0 (dval (dnext (dwdGN y50000 ([(ByteArray.mk #[115,101,114,118,101,114]),(ByteArray.mk #[97]),(ByteArray.mk #[120,46,49])])) 9) 3).toNat ([(dwdG y50000 ([(ByteArray.mk #[115,101,114,118,101,114]),(ByteArray.mk #[97]),(ByteArray.mk #[120,46,49])]))]) (dnext (dnext (dwdGN y50000 ([(ByteArray.mk #[115,101,114,118,101,114]),(ByteArray.mk #[97]),(ByteArray.mk #[120,46,49])])) 9) 3)).2) 3) (isub .i64 (x1) 1)) 24) ([(ByteArray.mk #[]),(ByteArray.mk #[97,32,98]),(ByteArray.mk #[34])])))
              (br (cIx ((lk0 (dval (dnext (dwdGN y50000 ([(ByteArray.mk #[115,101,114,118,101,114]),(ByteArray.mk #[97]),(ByteArray.mk #[120,46,49])])) 9) 3).toNat ([(dwdG y50000 ([(ByteArray.mk #[115,101,114,118,101,114]),(ByteArray.mk #[97]),(ByteArray.mk #[120,46,49])]))]) (dnext (dnext (dwdGN y50000 ([(ByteArray.mk #[115,101,114,118,101,114]),(ByteArray.mk #[97]),(ByteArray.mk #[120,46,49])])) 9) 3)).1) 0)
               (br (cLd ((lk0 (dval (dnext (dwdGN y50000 ([(ByteArray.mk #[115,101,114,118,101,114]),(ByteArray.mk #[97]),(ByteArray.mk #[120,46,49])])) 9) 3).toNat ([(dwdG y50000 ([(ByteArray.mk #[115,101,114,118,101,114]),(ByteArray.mk #[97]),(ByteArray.mk #[120,46,49])]))]) (dnext (dnext (dwdGN y50000 ([(ByteArray.mk #[115,101,114,118,101,114]),(ByteArray.mk #[97]),(ByteArray.mk #[120,46,49])])) 9) 3)).1) (Int.toNat 0))
                (br (cApp (y5) ([((List.set ((lk0 (dval (dnext (dwdGN y50000 ([(ByteArray.mk #[115,101,114,118,101,114]),(ByteArray.mk #[97]),(ByteArray.mk #[120,46,49])])) 9) 3).toNat ([(dwdG y50000 ([(ByteArray.mk #[115,101,114,118,101,114]),(ByteArray.mk #[97]),(ByteArray.mk #[120,46,49])]))]) (dnext (dnext (dwdGN y50000 ([(ByteArray.mk #[115,101,114,118,101,114]),(ByteArray.mk #[97]),(ByteArray.mk #[120,46,49])])) 9) 3)).1) (Int.toNat 0) (dwdG (dnext (ls7N (dnext ((lk0 (dval (dnext (dwdGN y50000 ([(ByteArray.mk #[115,101,114,118,101,114]),(ByteArray.mk #[97]),(ByteArray.mk #[120,46,49])])) 9) 3).toNat ([(dwdG y50000 ([(ByteArray.mk #[115,101,114,118,101,114]),(ByteArray.mk #[97]),(ByteArray.mk #[120,46,49])]))]) (dnext (dnext (dwdGN y50000 ([(ByteArray.mk #[115,101,114,118,101,114]),(ByteArray.mk #[97]),(ByteArray.mk #[120,46,49])])) 9) 3)).2) 3) (isub .i64 (x1) 1)) 24) ([(ByteArray.mk #[]),(ByteArray.mk #[97,32,98]),(ByteArray.mk #[34])]))),(true,((List.map Blk.of (ls7F (dnext ((lk0 (dval (dnext (dwdGN y50000 ([(ByteArray.mk #[115,101,114,118,101,114]),(ByteArray.mk #[97]),(ByteArray.mk #[120,46,49])])) 9) 3).toNat ([(dwdG y50000 ([(ByteArray.mk #[115,101,114,118,101,114]),(ByteArray.mk #[97]),(ByteArray.mk #[120,46,49])]))]) (dnext (dnext (dwdGN y50000 ([(ByteArray.mk #[115,101,114,118,101,114]),(ByteArray.mk #[97]),(ByteArray.mk #[120,46,49])])) 9) 3)).2) 3) (isub .i64 (x1) 1))),(((dval (dwdGN y50000 ([(ByteArray.mk #[115,101,114,118,101,114]),(ByteArray.mk #[97]),(ByteArray.mk #[120,46,49])])) 9)),()))))]) 64)
                 (lp_f31_1 (x1) (isub .i64 (x6) 1) ((y5)++([((List.set ((lk0 (dval (dnext (dwdGN y50000 ([(ByteArray.mk #[115,101,114,118,101,114]),(ByteArray.mk #[97]),(ByteArray.mk #[120,46,49])])) 9) 3).toNat ([(dwdG y50000 ([(ByteArray.mk #[115,101,114,118,101,114]),(ByteArray.mk #[97]),(ByteArray.mk #[120,46,49])]))]) (dnext (dnext (dwdGN y50000 ([(ByteArray.mk #[115,101,114,118,101,114]),(ByteArray.mk #[97]),(ByteArray.mk #[120,46,49])])) 9) 3)).1) (Int.toNat 0) (dwdG (dnext (ls7N (dnext ((lk0 (dval (dnext (dwdGN y50000 ([(ByteArray.mk #[115,101,114,118,101,114]),(ByteArray.mk #[97]),(ByteArray.mk #[120,46,49])])) 9) 3).toNat ([(dwdG y50000 ([(ByteArray.mk #[115,101,114,118,101,114]),(ByteArray.mk #[97]),(ByteArray.mk #[120,46,49])]))]) (dnext (dnext (dwdGN y50000 ([(ByteArray.mk #[115,101,114,118,101,114]),(ByteArray.mk #[97]),(ByteArray.mk #[120,46,49])])) 9) 3)).2) 3) (isub .i64 (x1) 1)) 24) ([(ByteArray.mk #[]),(ByteArray.mk #[97,32,98]),(ByteArray.mk #[34])]))),(true,((List.map Blk.of (ls7F (dnext ((lk0 (dval (dnext (dwdGN y50000 ([(ByteArray.mk #[115,101,114,118,101,114]),(ByteArray.mk #[97]),(ByteArray.mk #[120,46,49])])) 9) 3).toNat ([(dwdG y50000 ([(ByteArray.mk #[115,101,114,118,101,114]),(ByteArray.mk #[97]),(ByteArray.mk #[120,46,49])]))]) (dnext (dnext (dwdGN y50000 ([(ByteArray.mk #[115,101,114,118,101,114]),(ByteArray.mk #[97]),(ByteArray.mk #[120,46,49])])) 9) 3)).2) 3) (isub .i64 (x1) 1))),(((dval (dwdGN y50000 ([(ByteArray.mk #[115,101,114,118,101,114]),(ByteArray.mk #[97]),(ByteArray.mk #[120,46,49])])) 9)),()))))])) (dwdGN (dnext (ls7N (dnext ((lk0 (dval (dnext (dwdGN y50000 ([(ByteArray.mk #[115,101,114,118,101,114]),(ByteArray.mk #[97]),(ByteArray.mk #[120,46,49])])) 9) 3).toNat ([(dwdG y50000 ([(ByteArray.mk #[115,101,114,118,101,114]),(ByteArray.mk #[97]),(ByteArray.mk #[120,46,49])]))]) (dnext (dnext (dwdGN y50000 ([(ByteArray.mk #[115,101,114,118,101,114]),(ByteArray.mk #[97]),(ByteArray.mk #[120,46,49])])) 9) 3)).2) 3) (isub .i64 (x1) 1)) 24) ([(ByteArray.mk #[]),(ByteArray.mk #[97,32,98]),(ByteArray.mk #[34])])))
                 (none))
                (none))
               (none))
              (none))
             (br ((ieq (dval (ls7N (dnext ((lk0 (dval (dnext (dwdGN y50000 ([(ByteArray.mk #[115,101,114,118,101,114]),(ByteArray.mk #[97]),(ByteArray.mk #[120,46,49])])) 9) 3).toNat ([(dwdG y50000 ([(ByteArray.mk #[115,101,114,118,101,114]),(ByteArray.mk #[97]),(ByteArray.mk #[120,46,49])]))]) (dnext (dnext (dwdGN y50000 ([(ByteArray.mk #[115,101,114,118,101,114]),(ByteArray.mk #[97]),(ByteArray.mk #[120,46,49])])) 9) 3)).2) 3) (isub .i64 (x1) 1)) 24) 2))
              (br ((wdGOk (dnext (ls7N (dnext ((lk0 (dval (dnext (dwdGN y50000 ([(ByteArray.mk #[115,101,114,118,101,114]),(ByteArray.mk #[97]),(ByteArray.mk #[120,46,49])])) 9) 3).toNat ([(dwdG y50000 ([(ByteArray.mk #[115,101,114,118,101,114]),(ByteArray.mk #[97]),(ByteArray.mk #[120,46,49])]))]) (dnext (dnext (dwdGN y50000 ([(ByteArray.mk #[115,101,114,118,101,114]),(ByteArray.mk #[97]),(ByteArray.mk #[120,46,49])])) 9) 3)).2) 3) (isub .i64 (x1) 1)) 24) ([(ByteArray.mk #[97,10,98]),(ByteArray.mk #[127])])))
               (br (cApp ((lk0 (dval (dnext (dwdGN y50000 ([(ByteArray.mk #[115,101,114,118,101,114]),(ByteArray.mk #[97]),(ByteArray.mk #[120,46,49])])) 9) 3).toNat ([(dwdG y50000 ([(ByteArray.mk #[115,101,114,118,101,114]),(ByteArray.mk #[97]),(ByteArray.mk #[120,46,49])]))]) (dnext (dnext (dwdGN y50000 ([(ByteArray.mk #[115,101,114,118,101,114]),(ByteArray.mk #[97]),(ByteArray.mk #[120,46,49])])) 9) 3)).1) ([(dwdG (dnext (ls7N (dnext ((lk0 (dval (dnext (dwdGN y50000 ([(ByteArray.mk #[115,101,114,118,101,114]),(ByteArray.mk #[97]),(ByteArray.mk #[120,46,49])])) 9) 3).toNat ([(dwdG y50000 ([(ByteArray.mk #[115,101,114,118,101,114]),(ByteArray.mk #[97]),(ByteArray.mk #[120,46,49])]))]) (dnext (dnext (dwdGN y50000 ([(ByteArray.mk #[115,101,114,118,101,114]),(ByteArray.mk #[97]),(ByteArray.mk #[120,46,49])])) 9) 3)).2) 3) (isub .i64 (x1) 1)) 24) ([(ByteArray.mk #[97,10,98]),(ByteArray.mk #[127])]))]) 16)
                (br (cApp (y5) ([((((lk0 (dval (dnext (dwdGN y50000 ([(ByteArray.mk #[115,101,114,118,101,114]),(ByteArray.mk #[97]),(ByteArray.mk #[120,46,49])])) 9) 3).toNat ([(dwdG y50000 ([(ByteArray.mk #[115,101,114,118,101,114]),(ByteArray.mk #[97]),(ByteArray.mk #[120,46,49])]))]) (dnext (dnext (dwdGN y50000 ([(ByteArray.mk #[115,101,114,118,101,114]),(ByteArray.mk #[97]),(ByteArray.mk #[120,46,49])])) 9) 3)).1)++([(dwdG (dnext (ls7N (dnext ((lk0 (dval (dnext (dwdGN y50000 ([(ByteArray.mk #[115,101,114,118,101,114]),(ByteArray.mk #[97]),(ByteArray.mk #[120,46,49])])) 9) 3).toNat ([(dwdG y50000 ([(ByteArray.mk #[115,101,114,118,101,114]),(ByteArray.mk #[97]),(ByteArray.mk #[120,46,49])]))]) (dnext (dnext (dwdGN y50000 ([(ByteArray.mk #[115,101,114,118,101,114]),(ByteArray.mk #[97]),(ByteArray.mk #[120,46,49])])) 9) 3)).2) 3) (isub .i64 (x1) 1)) 24) ([(ByteArray.mk #[97,10,98]),(ByteArray.mk #[127])]))])),(true,((List.map Blk.of (ls7F (dnext ((lk0 (dval (dnext (dwdGN y50000 ([(ByteArray.mk #[115,101,114,118,101,114]),(ByteArray.mk #[97]),(ByteArray.mk #[120,46,49])])) 9) 3).toNat ([(dwdG y50000 ([(ByteArray.mk #[115,101,114,118,101,114]),(ByteArray.mk #[97]),(ByteArray.mk #[120,46,49])]))]) (dnext (dnext (dwdGN y50000 ([(ByteArray.mk #[115,101,114,118,101,114]),(ByteArray.mk #[97]),(ByteArray.mk #[120,46,49])])) 9) 3)).2) 3) (isub .i64 (x1) 1))),(((dval (dwdGN y50000 ([(ByteArray.mk #[115,101,114,118,101,114]),(ByteArray.mk #[97]),(ByteArray.mk #[120,46,49])])) 9)),()))))]) 64)
                 (lp_f31_1 (x1) (isub .i64 (x6) 1) ((y5)++([((((lk0 (dval (dnext (dwdGN y50000 ([(ByteArray.mk #[115,101,114,118,101,114]),(ByteArray.mk #[97]),(ByteArray.mk #[120,46,49])])) 9) 3).toNat ([(dwdG y50000 ([(ByteArray.mk #[115,101,114,118,101,114]),(ByteArray.mk #[97]),(ByteArray.mk #[120,46,49])]))]) (dnext (dnext (dwdGN y50000 ([(ByteArray.mk #[115,101,114,118,101,114]),(ByteArray.mk #[97]),(ByteArray.mk #[120,46,49])])) 9) 3)).1)++([(dwdG (dnext (ls7N (dnext ((lk0 (dval (dnext (dwdGN y50000 ([(ByteArray.mk #[115,101,114,118,101,114]),(ByteArray.mk #[97]),(ByteArray.mk #[120,46,49])])) 9) 3).toNat ([(dwdG y50000 ([(ByteArray.mk #[115,101,114,118,101,114]),(ByteArray.mk #[97]),(ByteArray.mk #[120,46,49])]))]) (dnext (dnext (dwdGN y50000 ([(ByteArray.mk #[115,101,114,118,101,114]),(ByteArray.mk #[97]),(ByteArray.mk #[120,46,49])])) 9) 3)).2) 3) (isub .i64 (x1) 1)) 24) ([(ByteArray.mk #[97,10,98]),(ByteArray.mk #[127])]))])),(true,((List.map Blk.of (ls7F (dnext ((lk0 (dval (dnext (dwdGN y50000 ([(ByteArray.mk #[115,101,114,118,101,114]),(ByteArray.mk #[97]),(ByteArray.mk #[120,46,49])])) 9) 3).toNat ([(dwdG y50000 ([(ByteArray.mk #[115,101,114,118,101,114]),(ByteArray.mk #[97]),(ByteArray.mk #[120,46,49])]))]) (dnext (dnext (dwdGN y50000 ([(ByteArray.mk #[115,101,114,118,101,114]),(ByteArray.mk #[97]),(ByteArray.mk #[120,46,49])])) 9) 3)).2) 3) (isub .i64 (x1) 1))),(((dval (dwdGN y50000 ([(ByteArray.mk #[115,101,114,118,101,114]),(ByteArray.mk #[97]),(ByteArray.mk #[120,46,49])])) 9)),()))))])) (dwdGN (dnext (ls7N (dnext ((lk0 (dval (dnext (dwdGN y50000 ([(ByteArray.mk #[115,101,114,118,101,114]),(ByteArray.mk #[97]),(ByteArray.mk #[120,46,49])])) 9) 3).toNat ([(dwdG y50000 ([(ByteArray.mk #[115,101,114,118,101,114]),(ByteArray.mk #[97]),(ByteArray.mk #[120,46,49])]))]) (dnext (dnext (dwdGN y50000 ([(ByteArray.mk #[115,101,114,118,101,114]),(ByteArray.mk #[97]),(ByteArray.mk #[120,46,49])])) 9) 3)).2) 3) (isub .i64 (x1) 1)) 24) ([(ByteArray.mk #[97,10,98]),(ByteArray.mk #[127])])))
                 (none))
                (none))
               (none))
              (br ((ieq (dval (ls7N (dnext ((lk0 (dval (dnext (dwdGN y50000 ([(ByteArray.mk #[115,101,114,118,101,114]),(ByteArray.mk #[97]),(ByteArray.mk #[120,46,49])])) 9) 3).toNat ([(dwdG y50000 ([(ByteArray.mk #[115,101,114,118,101,114]),(ByteArray.mk #[97]),(ByteArray.mk #[120,46,49])]))]) (dnext (dnext (dwdGN y50000 ([(ByteArray.mk #[115,101,114,118,101,114]),(ByteArray.mk #[97]),(ByteArray.mk #[120,46,49])])) 9) 3)).2) 3) (isub .i64 (x1) 1)) 24) 3))
               (br (cApp (y5) ([(((lk0 (dval (dnext (dwdGN y50000 ([(ByteArray.mk #[115,101,114,118,101,114]),(ByteArray.mk #[97]),(ByteArray.mk #[120,46,49])])) 9) 3).toNat ([(dwdG y50000 ([(ByteArray.mk #[115,101,114,118,101,114]),(ByteArray.mk #[97]),(ByteArray.mk #[120,46,49])]))]) (dnext (dnext (dwdGN y50000 ([(ByteArray.mk #[115,101,114,118,101,114]),(ByteArray.mk #[97]),(ByteArray.mk #[120,46,49])])) 9) 3)).1),(false,((List.map Blk.of (ls7F (dnext ((lk0 (dval (dnext (dwdGN y50000 ([(ByteArray.mk #[115,101,114,118,101,114]),(ByteArray.mk #[97]),(ByteArray.mk #[120,46,49])])) 9) 3).toNat ([(dwdG y50000 ([(ByteArray.mk #[115,101,114,118,101,114]),(ByteArray.mk #[97]),(ByteArray.mk #[120,46,49])]))]) (dnext (dnext (dwdGN y50000 ([(ByteArray.mk #[115,101,114,118,101,114]),(ByteArray.mk #[97]),(ByteArray.mk #[120,46,49])])) 9) 3)).2) 3) (isub .i64 (x1) 1))),(((dval (dwdGN y50000 ([(ByteArray.mk #[115,101,114,118,101,114]),(ByteArray.mk #[97]),(ByteArray.mk #[120,46,49])])) 9)),()))))]) 64)
                (lp_f31_1 (x1) (isub .i64 (x6) 1) ((y5)++([(((lk0 (dval (dnext (dwdGN y50000 ([(ByteArray.mk #[115,101,114,118,101,114]),(ByteArray.mk #[97]),(ByteArray.mk #[120,46,49])])) 9) 3).toNat ([(dwdG y50000 ([(ByteArray.mk #[115,101,114,118,101,114]),(ByteArray.mk #[97]),(ByteArray.mk #[120,46,49])]))]) (dnext (dnext (dwdGN y50000 ([(ByteArray.mk #[115,101,114,118,101,114]),(ByteArray.mk #[97]),(ByteArray.mk #[120,46,49])])) 9) 3)).1),(false,((List.map Blk.of (ls7F (dnext ((lk0 (dval (dnext (dwdGN y50000 ([(ByteArray.mk #[115,101,114,118,101,114]),(ByteArray.mk #[97]),(ByteArray.mk #[120,46,49])])) 9) 3).toNat ([(dwdG y50000 ([(ByteArray.mk #[115,101,114,118,101,114]),(ByteArray.mk #[97]),(ByteArray.mk #[120,46,49])]))]) (dnext (dnext (dwdGN y50000 ([(ByteArray.mk #[115,101,114,118,101,114]),(ByteArray.mk #[97]),(ByteArray.mk #[120,46,49])])) 9) 3)).2) 3) (isub .i64 (x1) 1))),(((dval (dwdGN y50000 ([(ByteArray.mk #[115,101,114,118,101,114]),(ByteArray.mk #[97]),(ByteArray.mk #[120,46,49])])) 9)),()))))])) (dnext (ls7N (dnext ((lk0 (dval (dnext (dwdGN y50000 ([(ByteArray.mk #[115,101,114,118,101,114]),(ByteArray.mk #[97]),(ByteArray.mk #[120,46,49])])) 9) 3).toNat ([(dwdG y50000 ([(ByteArray.mk #[115,101,114,118,101,114]),(ByteArray.mk #[97]),(ByteArray.mk #[120,46,49])]))]) (dnext (dnext (dwdGN y50000 ([(ByteArray.mk #[115,101,114,118,101,114]),(ByteArray.mk #[97]),(ByteArray.mk #[120,46,49])])) 9) 3)).2) 3) (isub .i64 (x1) 1)) 24))
                (none))
               (br (cApp (y5) ([(((lk0 (dval (dnext (dwdGN y50000 ([(ByteArray.mk #[115,101,114,118,101,114]),(ByteArray.mk #[97]),(ByteArray.mk #[120,46,49])])) 9) 3).toNat ([(dwdG y50000 ([(ByteArray.mk #[115,101,114,118,101,114]),(ByteArray.mk #[97]),(ByteArray.mk #[120,46,49])]))]) (dnext (dnext (dwdGN y50000 ([(ByteArray.mk #[115,101,114,118,101,114]),(ByteArray.mk #[97]),(ByteArray.mk #[120,46,49])])) 9) 3)).1),(true,((List.map Blk.of (ls7F (dnext ((lk0 (dval (dnext (dwdGN y50000 ([(ByteArray.mk #[115,101,114,118,101,114]),(ByteArray.mk #[97]),(ByteArray.mk #[120,46,49])])) 9) 3).toNat ([(dwdG y50000 ([(ByteArray.mk #[115,101,114,118,101,114]),(ByteArray.mk #[97]),(ByteArray.mk #[120,46,49])]))]) (dnext (dnext (dwdGN y50000 ([(ByteArray.mk #[115,101,114,118,101,114]),(ByteArray.mk #[97]),(ByteArray.mk #[120,46,49])])) 9) 3)).2) 3) (isub .i64 (x1) 1))),(((dval (dwdGN y50000 ([(ByteArray.mk #[115,101,114,118,101,114]),(ByteArray.mk #[97]),(ByteArray.mk #[120,46,49])])) 9)),()))))]) 64)
                (lp_f31_1 (x1) (isub .i64 (x6) 1) ((y5)++([(((lk0 (dval (dnext (dwdGN y50000 ([(ByteArray.mk #[115,101,114,118,101,114]),(ByteArray.mk #[97]),(ByteArray.mk #[120,46,49])])) 9) 3).toNat ([(dwdG y50000 ([(ByteArray.mk #[115,101,114,118,101,114]),(ByteArray.mk #[97]),(ByteArray.mk #[120,46,49])]))]) (dnext (dnext (dwdGN y50000 ([(ByteArray.mk #[115,101,114,118,101,114]),(ByteArray.mk #[97]),(ByteArray.mk #[120,46,49])])) 9) 3)).1),(true,((List.map Blk.of (ls7F (dnext ((lk0 (dval (dnext (dwdGN y50000 ([(ByteArray.mk #[115,101,114,118,101,114]),(ByteArray.mk #[97]),(ByteArray.mk #[120,46,49])])) 9) 3).toNat ([(dwdG y50000 ([(ByteArray.mk #[115,101,114,118,101,114]),(ByteArray.mk #[97]),(ByteArray.mk #[120,46,49])]))]) (dnext (dnext (dwdGN y50000 ([(ByteArray.mk #[115,101,114,118,101,114]),(ByteArray.mk #[97]),(ByteArray.mk #[120,46,49])])) 9) 3)).2) 3) (isub .i64 (x1) 1))),(((dval (dwdGN y50000 ([(ByteArray.mk #[115,101,114,118,101,114]),(ByteArray.mk #[97]),(ByteArray.mk #[120,46,49])])) 9)),()))))])) (dnext (ls7N (dnext ((lk0 (dval (dnext (dwdGN y50000 ([(ByteArray.mk #[115,101,114,118,101,114]),(ByteArray.mk #[97]),(ByteArray.mk #[120,46,49])])) 9) 3).toNat ([(dwdG y50000 ([(ByteArray.mk #[115,101,114,118,101,114]),(ByteArray.mk #[97]),(ByteArray.mk #[120,46,49])]))]) (dnext (dnext (dwdGN y50000 ([(ByteArray.mk #[115,101,114,118,101,114]),(ByteArray.mk #[97]),(ByteArray.mk #[120,46,49])])) 9) 3)).2) 3) (isub .i64 (x1) 1)) 24))
                (none))))))
           (none))
          (none))
         (br ((nextOk (dnext ((lk0 (dval (dnext (dwdGN y50000 ([(ByteArray.mk #[115,101,114,118,101,114]),(ByteArray.mk #[97]),(ByteArray.mk #[120,46,49])])) 9) 3).toNat ([(dwdG y50000 ([(ByteArray.mk #[115,101,114,118,101,114]),(ByteArray.mk #[97]),(ByteArray.mk #[120,46,49])]))]) (dnext (dnext (dwdGN y50000 ([(ByteArray.mk #[115,101,114,118,101,114]),(ByteArray.mk #[97]),(ByteArray.mk #[120,46,49])])) 9) 3)).2) 3) 24))
          (br ((ieq (dval (dnext ((lk0 (dval (dnext (dwdGN y50000 ([(ByteArray.mk #[115,101,114,118,101,114]),(ByteArray.mk #[97]),(ByteArray.mk #[120,46,49])])) 9) 3).toNat ([(dwdG y50000 ([(ByteArray.mk #[115,101,114,118,101,114]),(ByteArray.mk #[97]),(ByteArray.mk #[120,46,49])]))]) (dnext (dnext (dwdGN y50000 ([(ByteArray.mk #[115,101,114,118,101,114]),(ByteArray.mk #[97]),(ByteArray.mk #[120,46,49])])) 9) 3)).2) 3) 24) 0))
           (br (cApp (y5) ([(([]:List ByteArray),((false),(([]:List Blk),(((dval (dwdGN y50000 ([(ByteArray.mk #[115,101,114,118,101,114]),(ByteArray.mk #[97]),(ByteArray.mk #[120,46,49])])) 9)),()))))]) 64)
            (lp_f31_1 (x1) (isub .i64 (x6) 1) ((y5)++([(([]:List ByteArray),((false),(([]:List Blk),(((dval (dwdGN y50000 ([(ByteArray.mk #[115,101,114,118,101,114]),(ByteArray.mk #[97]),(ByteArray.mk #[120,46,49])])) 9)),()))))])) (dnext (dnext ((lk0 (dval (dnext (dwdGN y50000 ([(ByteArray.mk #[115,101,114,118,101,114]),(ByteArray.mk #[97]),(ByteArray.mk #[120,46,49])])) 9) 3).toNat ([(dwdG y50000 ([(ByteArray.mk #[115,101,114,118,101,114]),(ByteArray.mk #[97]),(ByteArray.mk #[120,46,49])]))]) (dnext (dnext (dwdGN y50000 ([(ByteArray.mk #[115,101,114,118,101,114]),(ByteArray.mk #[97]),(ByteArray.mk #[120,46,49])])) 9) 3)).2) 3) 24))
            (none))
           (br ((ieq (dval (dnext ((lk0 (dval (dnext (dwdGN y50000 ([(ByteArray.mk #[115,101,114,118,101,114]),(ByteArray.mk #[97]),(ByteArray.mk #[120,46,49])])) 9) 3).toNat ([(dwdG y50000 ([(ByteArray.mk #[115,101,114,118,101,114]),(ByteArray.mk #[97]),(ByteArray.mk #[120,46,49])]))]) (dnext (dnext (dwdGN y50000 ([(ByteArray.mk #[115,101,114,118,101,114]),(ByteArray.mk #[97]),(ByteArray.mk #[120,46,49])])) 9) 3)).2) 3) 24) 1))
            (br ((wdGOk (dnext (dnext ((lk0 (dval (dnext (dwdGN y50000 ([(ByteArray.mk #[115,101,114,118,101,114]),(ByteArray.mk #[97]),(ByteArray.mk #[120,46,49])])) 9) 3).toNat ([(dwdG y50000 ([(ByteArray.mk #[115,101,114,118,101,114]),(ByteArray.mk #[97]),(ByteArray.mk #[120,46,49])]))]) (dnext (dnext (dwdGN y50000 ([(ByteArray.mk #[115,101,114,118,101,114]),(ByteArray.mk #[97]),(ByteArray.mk #[120,46,49])])) 9) 3)).2) 3) 24) ([(ByteArray.mk #[]),(ByteArray.mk #[97,32,98]),(ByteArray.mk #[34])])))
             (br (cIx ((lk0 (dval (dnext (dwdGN y50000 ([(ByteArray.mk #[115,101,114,118,101,114]),(ByteArray.mk #[97]),(ByteArray.mk #[120,46,49])])) 9) 3).toNat ([(dwdG y50000 ([(ByteArray.mk #[115,101,114,118,101,114]),(ByteArray.mk #[97]),(ByteArray.mk #[120,46,49])]))]) (dnext (dnext (dwdGN y50000 ([(ByteArray.mk #[115,101,114,118,101,114]),(ByteArray.mk #[97]),(ByteArray.mk #[120,46,49])])) 9) 3)).1) 0)
              (br (cLd ((lk0 (dval (dnext (dwdGN y50000 ([(ByteArray.mk #[115,101,114,118,101,114]),(ByteArray.mk #[97]),(ByteArray.mk #[120,46,49])])) 9) 3).toNat ([(dwdG y50000 ([(ByteArray.mk #[115,101,114,118,101,114]),(ByteArray.mk #[97]),(ByteArray.mk #[120,46,49])]))]) (dnext (dnext (dwdGN y50000 ([(ByteArray.mk #[115,101,114,118,101,114]),(ByteArray.mk #[97]),(ByteArray.mk #[120,46,49])])) 9) 3)).1) (Int.toNat 0))
               (br (cApp (y5) ([((List.set ((lk0 (dval (dnext (dwdGN y50000 ([(ByteArray.mk #[115,101,114,118,101,114]),(ByteArray.mk #[97]),(ByteArray.mk #[120,46,49])])) 9) 3).toNat ([(dwdG y50000 ([(ByteArray.mk #[115,101,114,118,101,114]),(ByteArray.mk #[97]),(ByteArray.mk #[120,46,49])]))]) (dnext (dnext (dwdGN y50000 ([(ByteArray.mk #[115,101,114,118,101,114]),(ByteArray.mk #[97]),(ByteArray.mk #[120,46,49])])) 9) 3)).1) (Int.toNat 0) (dwdG (dnext (dnext ((lk0 (dval (dnext (dwdGN y50000 ([(ByteArray.mk #[115,101,114,118,101,114]),(ByteArray.mk #[97]),(ByteArray.mk #[120,46,49])])) 9) 3).toNat ([(dwdG y50000 ([(ByteArray.mk #[115,101,114,118,101,114]),(ByteArray.mk #[97]),(ByteArray.mk #[120,46,49])]))]) (dnext (dnext (dwdGN y50000 ([(ByteArray.mk #[115,101,114,118,101,114]),(ByteArray.mk #[97]),(ByteArray.mk #[120,46,49])])) 9) 3)).2) 3) 24) ([(ByteArray.mk #[]),(ByteArray.mk #[97,32,98]),(ByteArray.mk #[34])]))),((false),(([]:List Blk),(((dval (dwdGN y50000 ([(ByteArray.mk #[115,101,114,118,101,114]),(ByteArray.mk #[97]),(ByteArray.mk #[120,46,49])])) 9)),()))))]) 64)
                (lp_f31_1 (x1) (isub .i64 (x6) 1) ((y5)++([((List.set ((lk0 (dval (dnext (dwdGN y50000 ([(ByteArray.mk #[115,101,114,118,101,114]),(ByteArray.mk #[97]),(ByteArray.mk #[120,46,49])])) 9) 3).toNat ([(dwdG y50000 ([(ByteArray.mk #[115,101,114,118,101,114]),(ByteArray.mk #[97]),(ByteArray.mk #[120,46,49])]))]) (dnext (dnext (dwdGN y50000 ([(ByteArray.mk #[115,101,114,118,101,114]),(ByteArray.mk #[97]),(ByteArray.mk #[120,46,49])])) 9) 3)).1) (Int.toNat 0) (dwdG (dnext (dnext ((lk0 (dval (dnext (dwdGN y50000 ([(ByteArray.mk #[115,101,114,118,101,114]),(ByteArray.mk #[97]),(ByteArray.mk #[120,46,49])])) 9) 3).toNat ([(dwdG y50000 ([(ByteArray.mk #[115,101,114,118,101,114]),(ByteArray.mk #[97]),(ByteArray.mk #[120,46,49])]))]) (dnext (dnext (dwdGN y50000 ([(ByteArray.mk #[115,101,114,118,101,114]),(ByteArray.mk #[97]),(ByteArray.mk #[120,46,49])])) 9) 3)).2) 3) 24) ([(ByteArray.mk #[]),(ByteArray.mk #[97,32,98]),(ByteArray.mk #[34])]))),((false),(([]:List Blk),(((dval (dwdGN y50000 ([(ByteArray.mk #[115,101,114,118,101,114]),(ByteArray.mk #[97]),(ByteArray.mk #[120,46,49])])) 9)),()))))])) (dwdGN (dnext (dnext ((lk0 (dval (dnext (dwdGN y50000 ([(ByteArray.mk #[115,101,114,118,101,114]),(ByteArray.mk #[97]),(ByteArray.mk #[120,46,49])])) 9) 3).toNat ([(dwdG y50000 ([(ByteArray.mk #[115,101,114,118,101,114]),(ByteArray.mk #[97]),(ByteArray.mk #[120,46,49])]))]) (dnext (dnext (dwdGN y50000 ([(ByteArray.mk #[115,101,114,118,101,114]),(ByteArray.mk #[97]),(ByteArray.mk #[120,46,49])])) 9) 3)).2) 3) 24) ([(ByteArray.mk #[]),(ByteArray.mk #[97,32,98]),(ByteArray.mk #[34])])))
                (none))
               (none))
              (none))
             (none))
            (br ((ieq (dval (dnext ((lk0 (dval (dnext (dwdGN y50000 ([(ByteArray.mk #[115,101,114,118,101,114]),(ByteArray.mk #[97]),(ByteArray.mk #[120,46,49])])) 9) 3).toNat ([(dwdG y50000 ([(ByteArray.mk #[115,101,114,118,101,114]),(ByteArray.mk #[97]),(ByteArray.mk #[120,46,49])]))]) (dnext (dnext (dwdGN y50000 ([(ByteArray.mk #[115,101,114,118,101,114]),(ByteArray.mk #[97]),(ByteArray.mk #[120,46,49])])) 9) 3)).2) 3) 24) 2))
             (br ((wdGOk (dnext (dnext ((lk0 (dval (dnext (dwdGN y50000 ([(ByteArray.mk #[115,101,114,118,101,114]),(ByteArray.mk #[97]),(ByteArray.mk #[120,46,49])])) 9) 3).toNat ([(dwdG y50000 ([(ByteArray.mk #[115,101,114,118,101,114]),(ByteArray.mk #[97]),(ByteArray.mk #[120,46,49])]))]) (dnext (dnext (dwdGN y50000 ([(ByteArray.mk #[115,101,114,118,101,114]),(ByteArray.mk #[97]),(ByteArray.mk #[120,46,49])])) 9) 3)).2) 3) 24) ([(ByteArray.mk #[97,10,98]),(ByteArray.mk #[127])])))
              (br (cApp ((lk0 (dval (dnext (dwdGN y50000 ([(ByteArray.mk #[115,101,114,118,101,114]),(ByteArray.mk #[97]),(ByteArray.mk #[120,46,49])])) 9) 3).toNat ([(dwdG y50000 ([(ByteArray.mk #[115,101,114,118,101,114]),(ByteArray.mk #[97]),(ByteArray.mk #[120,46,49])]))]) (dnext (dnext (dwdGN y50000 ([(ByteArray.mk #[115,101,114,118,101,114]),(ByteArray.mk #[97]),(ByteArray.mk #[120,46,49])])) 9) 3)).1) ([(dwdG (dnext (dnext ((lk0 (dval (dnext (dwdGN y50000 ([(ByteArray.mk #[115,101,114,118,101,114]),(ByteArray.mk #[97]),(ByteArray.mk #[120,46,49])])) 9) 3).toNat ([(dwdG y50000 ([(ByteArray.mk #[115,101,114,118,101,114]),(ByteArray.mk #[97]),(ByteArray.mk #[120,46,49])]))]) (dnext (dnext (dwdGN y50000 ([(ByteArray.mk #[115,101,114,118,101,114]),(ByteArray.mk #[97]),(ByteArray.mk #[120,46,49])])) 9) 3)).2) 3) 24) ([(ByteArray.mk #[97,10,98]),(ByteArray.mk #[127])]))]) 16)
               (br (cApp (y5) ([((((lk0 (dval (dnext (dwdGN y50000 ([(ByteArray.mk #[115,101,114,118,101,114]),(ByteArray.mk #[97]),(ByteArray.mk #[120,46,49])])) 9) 3).toNat ([(dwdG y50000 ([(ByteArray.mk #[115,101,114,118,101,114]),(ByteArray.mk #[97]),(ByteArray.mk #[120,46,49])]))]) (dnext (dnext (dwdGN y50000 ([(ByteArray.mk #[115,101,114,118,101,114]),(ByteArray.mk #[97]),(ByteArray.mk #[120,46,49])])) 9) 3)).1)++([(dwdG (dnext (dnext ((lk0 (dval (dnext (dwdGN y50000 ([(ByteArray.mk #[115,101,114,118,101,114]),(ByteArray.mk #[97]),(ByteArray.mk #[120,46,49])])) 9) 3).toNat ([(dwdG y50000 ([(ByteArray.mk #[115,101,114,118,101,114]),(ByteArray.mk #[97]),(ByteArray.mk #[120,46,49])]))]) (dnext (dnext (dwdGN y50000 ([(ByteArray.mk #[115,101,114,118,101,114]),(ByteArray.mk #[97]),(ByteArray.mk #[120,46,49])])) 9) 3)).2) 3) 24) ([(ByteArray.mk #[97,10,98]),(ByteArray.mk #[127])]))])),((false),(([]:List Blk),(((dval (dwdGN y50000 ([(ByteArray.mk #[115,101,114,118,101,114]),(ByteArray.mk #[97]),(ByteArray.mk #[120,46,49])])) 9)),()))))]) 64)
                (lp_f31_1 (x1) (isub .i64 (x6) 1) ((y5)++([((((lk0 (dval (dnext (dwdGN y50000 ([(ByteArray.mk #[115,101,114,118,101,114]),(ByteArray.mk #[97]),(ByteArray.mk #[120,46,49])])) 9) 3).toNat ([(dwdG y50000 ([(ByteArray.mk #[115,101,114,118,101,114]),(ByteArray.mk #[97]),(ByteArray.mk #[120,46,49])]))]) (dnext (dnext (dwdGN y50000 ([(ByteArray.mk #[115,101,114,118,101,114]),(ByteArray.mk #[97]),(ByteArray.mk #[120,46,49])])) 9) 3)).1)++([(dwdG (dnext (dnext ((lk0 (dval (dnext (dwdGN y50000 ([(ByteArray.mk #[115,101,114,118,101,114]),(ByteArray.mk #[97]),(ByteArray.mk #[120,46,49])])) 9) 3).toNat ([(dwdG y50000 ([(ByteArray.mk #[115,101,114,118,101,114]),(ByteArray.mk #[97]),(ByteArray.mk #[120,46,49])]))]) (dnext (dnext (dwdGN y50000 ([(ByteArray.mk #[115,101,114,118,101,114]),(ByteArray.mk #[97]),(ByteArray.mk #[120,46,49])])) 9) 3)).2) 3) 24) ([(ByteArray.mk #[97,10,98]),(ByteArray.mk #[127])]))])),((false),(([]:List Blk),(((dval (dwdGN y50000 ([(ByteArray.mk #[115,101,114,118,101,114]),(ByteArray.mk #[97]),(ByteArray.mk #[120,46,49])])) 9)),()))))])) (dwdGN (dnext (dnext ((lk0 (dval (dnext (dwdGN y50000 ([(ByteArray.mk #[115,101,114,118,101,114]),(ByteArray.mk #[97]),(ByteArray.mk #[120,46,49])])) 9) 3).toNat ([(dwdG y50000 ([(ByteArray.mk #[115,101,114,118,101,114]),(ByteArray.mk #[97]),(ByteArray.mk #[120,46,49])]))]) (dnext (dnext (dwdGN y50000 ([(ByteArray.mk #[115,101,114,118,101,114]),(ByteArray.mk #[97]),(ByteArray.mk #[120,46,49])])) 9) 3)).2) 3) 24) ([(ByteArray.mk #[97,10,98]),(ByteArray.mk #[127])])))
                (none))
               (none))
              (none))
             (br ((ieq (dval (dnext ((lk0 (dval (dnext (dwdGN y50000 ([(ByteArray.mk #[115,101,114,118,101,114]),(ByteArray.mk #[97]),(ByteArray.mk #[120,46,49])])) 9) 3).toNat ([(dwdG y50000 ([(ByteArray.mk #[115,101,114,118,101,114]),(ByteArray.mk #[97]),(ByteArray.mk #[120,46,49])]))]) (dnext (dnext (dwdGN y50000 ([(ByteArray.mk #[115,101,114,118,101,114]),(ByteArray.mk #[97]),(ByteArray.mk #[120,46,49])])) 9) 3)).2) 3) 24) 3))
              (br (cApp (y5) ([(((lk0 (dval (dnext (dwdGN y50000 ([(ByteArray.mk #[115,101,114,118,101,114]),(ByteArray.mk #[97]),(ByteArray.mk #[120,46,49])])) 9) 3).toNat ([(dwdG y50000 ([(ByteArray.mk #[115,101,114,118,101,114]),(ByteArray.mk #[97]),(ByteArray.mk #[120,46,49])]))]) (dnext (dnext (dwdGN y50000 ([(ByteArray.mk #[115,101,114,118,101,114]),(ByteArray.mk #[97]),(ByteArray.mk #[120,46,49])])) 9) 3)).1),(false,(([]:List Blk),(((dval (dwdGN y50000 ([(ByteArray.mk #[115,101,114,118,101,114]),(ByteArray.mk #[97]),(ByteArray.mk #[120,46,49])])) 9)),()))))]) 64)
               (lp_f31_1 (x1) (isub .i64 (x6) 1) ((y5)++([(((lk0 (dval (dnext (dwdGN y50000 ([(ByteArray.mk #[115,101,114,118,101,114]),(ByteArray.mk #[97]),(ByteArray.mk #[120,46,49])])) 9) 3).toNat ([(dwdG y50000 ([(ByteArray.mk #[115,101,114,118,101,114]),(ByteArray.mk #[97]),(ByteArray.mk #[120,46,49])]))]) (dnext (dnext (dwdGN y50000 ([(ByteArray.mk #[115,101,114,118,101,114]),(ByteArray.mk #[97]),(ByteArray.mk #[120,46,49])])) 9) 3)).1),(false,(([]:List Blk),(((dval (dwdGN y50000 ([(ByteArray.mk #[115,101,114,118,101,114]),(ByteArray.mk #[97]),(ByteArray.mk #[120,46,49])])) 9)),()))))])) (dnext (dnext ((lk0 (dval (dnext (dwdGN y50000 ([(ByteArray.mk #[115,101,114,118,101,114]),(ByteArray.mk #[97]),(ByteArray.mk #[120,46,49])])) 9) 3).toNat ([(dwdG y50000 ([(ByteArray.mk #[115,101,114,118,101,114]),(ByteArray.mk #[97]),(ByteArray.mk #[120,46,49])]))]) (dnext (dnext (dwdGN y50000 ([(ByteArray.mk #[115,101,114,118,101,114]),(ByteArray.mk #[97]),(ByteArray.mk #[120,46,49])])) 9) 3)).2) 3) 24))
               (none))
              (br (cApp (y5) ([(((lk0 (dval (dnext (dwdGN y50000 ([(ByteArray.mk #[115,101,114,118,101,114]),(ByteArray.mk #[97]),(ByteArray.mk #[120,46,49])])) 9) 3).toNat ([(dwdG y50000 ([(ByteArray.mk #[115,101,114,118,101,114]),(ByteArray.mk #[97]),(ByteArray.mk #[120,46,49])]))]) (dnext (dnext (dwdGN y50000 ([(ByteArray.mk #[115,101,114,118,101,114]),(ByteArray.mk #[97]),(ByteArray.mk #[120,46,49])])) 9) 3)).1),((false),(([]:List Blk),(((dval (dwdGN y50000 ([(ByteArray.mk #[115,101,114,118,101,114]),(ByteArray.mk #[97]),(ByteArray.mk #[120,46,49])])) 9)),()))))]) 64)
               (lp_f31_1 (x1) (isub .i64 (x6) 1) ((y5)++([(((lk0 (dval (dnext (dwdGN y50000 ([(ByteArray.mk #[115,101,114,118,101,114]),(ByteArray.mk #[97]),(ByteArray.mk #[120,46,49])])) 9) 3).toNat ([(dwdG y50000 ([(ByteArray.mk #[115,101,114,118,101,114]),(ByteArray.mk #[97]),(ByteArray.mk #[120,46,49])]))]) (dnext (dnext (dwdGN y50000 ([(ByteArray.mk #[115,101,114,118,101,114]),(ByteArray.mk #[97]),(ByteArray.mk #[120,46,49])])) 9) 3)).1),((false),(([]:List Blk),(((dval (dwdGN y50000 ([(ByteArray.mk #[115,101,114,118,101,114]),(ByteArray.mk #[97]),(ByteArray.mk #[120,46,49])])) 9)),()))))])) (dnext (dnext ((lk0 (dval (dnext (dwdGN y50000 ([(ByteArray.mk #[115,101,114,118,101,114]),(ByteArray.mk #[97]),(ByteArray.mk #[120,46,49])])) 9) 3).toNat ([(dwdG y50000 ([(ByteArray.mk #[115,101,114,118,101,114]),(ByteArray.mk #[97]),(ByteArray.mk #[120,46,49])]))]) (dnext (dnext (dwdGN y50000 ([(ByteArray.mk #[115,101,114,118,101,114]),(ByteArray.mk #[97]),(ByteArray.mk #[120,46,49])])) 9) 3)).2) 3) 24))
               (none))))))
          (none)))
        (none))
       (br ((nextOk ((lk0 (dval (dnext (dwdGN y50000 ([(ByteArray.mk #[115,101,114,118,101,114]),(ByteArray.mk #[97]),(ByteArray.mk #[120,46,49])])) 9) 3).toNat ([(dwdG y50000 ([(ByteArray.mk #[115,101,114,118,101,114]),(ByteArray.mk #[97]),(ByteArray.mk #[120,46,49])]))]) (dnext (dnext (dwdGN y50000 ([(ByteArray.mk #[115,101,114,118,101,114]),(ByteArray.mk #[97]),(ByteArray.mk #[120,46,49])])) 9) 3)).2) 24))
        (br ((ieq (dval ((lk0 (dval (dnext (dwdGN y50000 ([(ByteArray.mk #[115,101,114,118,101,114]),(ByteArray.mk #[97]),(ByteArray.mk #[120,46,49])])) 9) 3).toNat ([(dwdG y50000 ([(ByteArray.mk #[115,101,114,118,101,114]),(ByteArray.mk #[97]),(ByteArray.mk #[120,46,49])]))]) (dnext (dnext (dwdGN y50000 ([(ByteArray.mk #[115,101,114,118,101,114]),(ByteArray.mk #[97]),(ByteArray.mk #[120,46,49])])) 9) 3)).2) 24) 0))
         (br (cApp (y5) ([(([]:List ByteArray),((false),(([]:List Blk),(((dval (dwdGN y50000 ([(ByteArray.mk #[115,101,114,118,101,114]),(ByteArray.mk #[97]),(ByteArray.mk #[120,46,49])])) 9)),()))))]) 64)
          (lp_f31_1 (x1) (isub .i64 (x6) 1) ((y5)++([(([]:List ByteArray),((false),(([]:List Blk),(((dval (dwdGN y50000 ([(ByteArray.mk #[115,101,114,118,101,114]),(ByteArray.mk #[97]),(ByteArray.mk #[120,46,49])])) 9)),()))))])) (dnext ((lk0 (dval (dnext (dwdGN y50000 ([(ByteArray.mk #[115,101,114,118,101,114]),(ByteArray.mk #[97]),(ByteArray.mk #[120,46,49])])) 9) 3).toNat ([(dwdG y50000 ([(ByteArray.mk #[115,101,114,118,101,114]),(ByteArray.mk #[97]),(ByteArray.mk #[120,46,49])]))]) (dnext (dnext (dwdGN y50000 ([(ByteArray.mk #[115,101,114,118,101,114]),(ByteArray.mk #[97]),(ByteArray.mk #[120,46,49])])) 9) 3)).2) 24))
          (none))
         (br ((ieq (dval ((lk0 (dval (dnext (dwdGN y50000 ([(ByteArray.mk #[115,101,114,118,101,114]),(ByteArray.mk #[97]),(ByteArray.mk #[120,46,49])])) 9) 3).toNat ([(dwdG y50000 ([(ByteArray.mk #[115,101,114,118,101,114]),(ByteArray.mk #[97]),(ByteArray.mk #[120,46,49])]))]) (dnext (dnext (dwdGN y50000 ([(ByteArray.mk #[115,101,114,118,101,114]),(ByteArray.mk #[97]),(ByteArray.mk #[120,46,49])])) 9) 3)).2) 24) 1))
          (br ((wdGOk (dnext ((lk0 (dval (dnext (dwdGN y50000 ([(ByteArray.mk #[115,101,114,118,101,114]),(ByteArray.mk #[97]),(ByteArray.mk #[120,46,49])])) 9) 3).toNat ([(dwdG y50000 ([(ByteArray.mk #[115,101,114,118,101,114]),(ByteArray.mk #[97]),(ByteArray.mk #[120,46,49])]))]) (dnext (dnext (dwdGN y50000 ([(ByteArray.mk #[115,101,114,118,101,114]),(ByteArray.mk #[97]),(ByteArray.mk #[120,46,49])])) 9) 3)).2) 24) ([(ByteArray.mk #[]),(ByteArray.mk #[97,32,98]),(ByteArray.mk #[34])])))
           (br (cIx ((lk0 (dval (dnext (dwdGN y50000 ([(ByteArray.mk #[115,101,114,118,101,114]),(ByteArray.mk #[97]),(ByteArray.mk #[120,46,49])])) 9) 3).toNat ([(dwdG y50000 ([(ByteArray.mk #[115,101,114,118,101,114]),(ByteArray.mk #[97]),(ByteArray.mk #[120,46,49])]))]) (dnext (dnext (dwdGN y50000 ([(ByteArray.mk #[115,101,114,118,101,114]),(ByteArray.mk #[97]),(ByteArray.mk #[120,46,49])])) 9) 3)).1) 0)
            (br (cLd ((lk0 (dval (dnext (dwdGN y50000 ([(ByteArray.mk #[115,101,114,118,101,114]),(ByteArray.mk #[97]),(ByteArray.mk #[120,46,49])])) 9) 3).toNat ([(dwdG y50000 ([(ByteArray.mk #[115,101,114,118,101,114]),(ByteArray.mk #[97]),(ByteArray.mk #[120,46,49])]))]) (dnext (dnext (dwdGN y50000 ([(ByteArray.mk #[115,101,114,118,101,114]),(ByteArray.mk #[97]),(ByteArray.mk #[120,46,49])])) 9) 3)).1) (Int.toNat 0))
             (br (cApp (y5) ([((List.set ((lk0 (dval (dnext (dwdGN y50000 ([(ByteArray.mk #[115,101,114,118,101,114]),(ByteArray.mk #[97]),(ByteArray.mk #[120,46,49])])) 9) 3).toNat ([(dwdG y50000 ([(ByteArray.mk #[115,101,114,118,101,114]),(ByteArray.mk #[97]),(ByteArray.mk #[120,46,49])]))]) (dnext (dnext (dwdGN y50000 ([(ByteArray.mk #[115,101,114,118,101,114]),(ByteArray.mk #[97]),(ByteArray.mk #[120,46,49])])) 9) 3)).1) (Int.toNat 0) (dwdG (dnext ((lk0 (dval (dnext (dwdGN y50000 ([(ByteArray.mk #[115,101,114,118,101,114]),(ByteArray.mk #[97]),(ByteArray.mk #[120,46,49])])) 9) 3).toNat ([(dwdG y50000 ([(ByteArray.mk #[115,101,114,118,101,114]),(ByteArray.mk #[97]),(ByteArray.mk #[120,46,49])]))]) (dnext (dnext (dwdGN y50000 ([(ByteArray.mk #[115,101,114,118,101,114]),(ByteArray.mk #[97]),(ByteArray.mk #[120,46,49])])) 9) 3)).2) 24) ([(ByteArray.mk #[]),(ByteArray.mk #[97,32,98]),(ByteArray.mk #[34])]))),((false),(([]:List Blk),(((dval (dwdGN y50000 ([(ByteArray.mk #[115,101,114,118,101,114]),(ByteArray.mk #[97]),(ByteArray.mk #[120,46,49])])) 9)),()))))]) 64)
              (lp_f31_1 (x1) (isub .i64 (x6) 1) ((y5)++([((List.set ((lk0 (dval (dnext (dwdGN y50000 ([(ByteArray.mk #[115,101,114,118,101,114]),(ByteArray.mk #[97]),(ByteArray.mk #[120,46,49])])) 9) 3).toNat ([(dwdG y50000 ([(ByteArray.mk #[115,101,114,118,101,114]),(ByteArray.mk #[97]),(ByteArray.mk #[120,46,49])]))]) (dnext (dnext (dwdGN y50000 ([(ByteArray.mk #[115,101,114,118,101,114]),(ByteArray.mk #[97]),(ByteArray.mk #[120,46,49])])) 9) 3)).1) (Int.toNat 0) (dwdG (dnext ((lk0 (dval (dnext (dwdGN y50000 ([(ByteArray.mk #[115,101,114,118,101,114]),(ByteArray.mk #[97]),(ByteArray.mk #[120,46,49])])) 9) 3).toNat ([(dwdG y50000 ([(ByteArray.mk #[115,101,114,118,101,114]),(ByteArray.mk #[97]),(ByteArray.mk #[120,46,49])]))]) (dnext (dnext (dwdGN y50000 ([(ByteArray.mk #[115,101,114,118,101,114]),(ByteArray.mk #[97]),(ByteArray.mk #[120,46,49])])) 9) 3)).2) 24) ([(ByteArray.mk #[]),(ByteArray.mk #[97,32,98]),(ByteArray.mk #[34])]))),((false),(([]:List Blk),(((dval (dwdGN y50000 ([(ByteArray.mk #[115,101,114,118,101,114]),(ByteArray.mk #[97]),(ByteArray.mk #[120,46,49])])) 9)),()))))])) (dwdGN (dnext ((lk0 (dval (dnext (dwdGN y50000 ([(ByteArray.mk #[115,101,114,118,101,114]),(ByteArray.mk #[97]),(ByteArray.mk #[120,46,49])])) 9) 3).toNat ([(dwdG y50000 ([(ByteArray.mk #[115,101,114,118,101,114]),(ByteArray.mk #[97]),(ByteArray.mk #[120,46,49])]))]) (dnext (dnext (dwdGN y50000 ([(ByteArray.mk #[115,101,114,118,101,114]),(ByteArray.mk #[97]),(ByteArray.mk #[120,46,49])])) 9) 3)).2) 24) ([(ByteArray.mk #[]),(ByteArray.mk #[97,32,98]),(ByteArray.mk #[34])])))
              (none))
             (none))
            (none))
           (none))
          (br ((ieq (dval ((lk0 (dval (dnext (dwdGN y50000 ([(ByteArray.mk #[115,101,114,118,101,114]),(ByteArray.mk #[97]),(ByteArray.mk #[120,46,49])])) 9) 3).toNat ([(dwdG y50000 ([(ByteArray.mk #[115,101,114,118,101,114]),(ByteArray.mk #[97]),(ByteArray.mk #[120,46,49])]))]) (dnext (dnext (dwdGN y50000 ([(ByteArray.mk #[115,101,114,118,101,114]),(ByteArray.mk #[97]),(ByteArray.mk #[120,46,49])])) 9) 3)).2) 24) 2))
           (br ((wdGOk (dnext ((lk0 (dval (dnext (dwdGN y50000 ([(ByteArray.mk #[115,101,114,118,101,114]),(ByteArray.mk #[97]),(ByteArray.mk #[120,46,49])])) 9) 3).toNat ([(dwdG y50000 ([(ByteArray.mk #[115,101,114,118,101,114]),(ByteArray.mk #[97]),(ByteArray.mk #[120,46,49])]))]) (dnext (dnext (dwdGN y50000 ([(ByteArray.mk #[115,101,114,118,101,114]),(ByteArray.mk #[97]),(ByteArray.mk #[120,46,49])])) 9) 3)).2) 24) ([(ByteArray.mk #[97,10,98]),(ByteArray.mk #[127])])))
            (br (cApp ((lk0 (dval (dnext (dwdGN y50000 ([(ByteArray.mk #[115,101,114,118,101,114]),(ByteArray.mk #[97]),(ByteArray.mk #[120,46,49])])) 9) 3).toNat ([(dwdG y50000 ([(ByteArray.mk #[115,101,114,118,101,114]),(ByteArray.mk #[97]),(ByteArray.mk #[120,46,49])]))]) (dnext (dnext (dwdGN y50000 ([(ByteArray.mk #[115,101,114,118,101,114]),(ByteArray.mk #[97]),(ByteArray.mk #[120,46,49])])) 9) 3)).1) ([(dwdG (dnext ((lk0 (dval (dnext (dwdGN y50000 ([(ByteArray.mk #[115,101,114,118,101,114]),(ByteArray.mk #[97]),(ByteArray.mk #[120,46,49])])) 9) 3).toNat ([(dwdG y50000 ([(ByteArray.mk #[115,101,114,118,101,114]),(ByteArray.mk #[97]),(ByteArray.mk #[120,46,49])]))]) (dnext (dnext (dwdGN y50000 ([(ByteArray.mk #[115,101,114,118,101,114]),(ByteArray.mk #[97]),(ByteArray.mk #[120,46,49])])) 9) 3)).2) 24) ([(ByteArray.mk #[97,10,98]),(ByteArray.mk #[127])]))]) 16)
             (br (cApp (y5) ([((((lk0 (dval (dnext (dwdGN y50000 ([(ByteArray.mk #[115,101,114,118,101,114]),(ByteArray.mk #[97]),(ByteArray.mk #[120,46,49])])) 9) 3).toNat ([(dwdG y50000 ([(ByteArray.mk #[115,101,114,118,101,114]),(ByteArray.mk #[97]),(ByteArray.mk #[120,46,49])]))]) (dnext (dnext (dwdGN y50000 ([(ByteArray.mk #[115,101,114,118,101,114]),(ByteArray.mk #[97]),(ByteArray.mk #[120,46,49])])) 9) 3)).1)++([(dwdG (dnext ((lk0 (dval (dnext (dwdGN y50000 ([(ByteArray.mk #[115,101,114,118,101,114]),(ByteArray.mk #[97]),(ByteArray.mk #[120,46,49])])) 9) 3).toNat ([(dwdG y50000 ([(ByteArray.mk #[115,101,114,118,101,114]),(ByteArray.mk #[97]),(ByteArray.mk #[120,46,49])]))]) (dnext (dnext (dwdGN y50000 ([(ByteArray.mk #[115,101,114,118,101,114]),(ByteArray.mk #[97]),(ByteArray.mk #[120,46,49])])) 9) 3)).2) 24) ([(ByteArray.mk #[97,10,98]),(ByteArray.mk #[127])]))])),((false),(([]:List Blk),(((dval (dwdGN y50000 ([(ByteArray.mk #[115,101,114,118,101,114]),(ByteArray.mk #[97]),(ByteArray.mk #[120,46,49])])) 9)),()))))]) 64)
              (lp_f31_1 (x1) (isub .i64 (x6) 1) ((y5)++([((((lk0 (dval (dnext (dwdGN y50000 ([(ByteArray.mk #[115,101,114,118,101,114]),(ByteArray.mk #[97]),(ByteArray.mk #[120,46,49])])) 9) 3).toNat ([(dwdG y50000 ([(ByteArray.mk #[115,101,114,118,101,114]),(ByteArray.mk #[97]),(ByteArray.mk #[120,46,49])]))]) (dnext (dnext (dwdGN y50000 ([(ByteArray.mk #[115,101,114,118,101,114]),(ByteArray.mk #[97]),(ByteArray.mk #[120,46,49])])) 9) 3)).1)++([(dwdG (dnext ((lk0 (dval (dnext (dwdGN y50000 ([(ByteArray.mk #[115,101,114,118,101,114]),(ByteArray.mk #[97]),(ByteArray.mk #[120,46,49])])) 9) 3).toNat ([(dwdG y50000 ([(ByteArray.mk #[115,101,114,118,101,114]),(ByteArray.mk #[97]),(ByteArray.mk #[120,46,49])]))]) (dnext (dnext (dwdGN y50000 ([(ByteArray.mk #[115,101,114,118,101,114]),(ByteArray.mk #[97]),(ByteArray.mk #[120,46,49])])) 9) 3)).2) 24) ([(ByteArray.mk #[97,10,98]),(ByteArray.mk #[127])]))])),((false),(([]:List Blk),(((dval (dwdGN y50000 ([(ByteArray.mk #[115,101,114,118,101,114]),(ByteArray.mk #[97]),(ByteArray.mk #[120,46,49])])) 9)),()))))])) (dwdGN (dnext ((lk0 (dval (dnext (dwdGN y50000 ([(ByteArray.mk #[115,101,114,118,101,114]),(ByteArray.mk #[97]),(ByteArray.mk #[120,46,49])])) 9) 3).toNat ([(dwdG y50000 ([(ByteArray.mk #[115,101,114,118,101,114]),(ByteArray.mk #[97]),(ByteArray.mk #[120,46,49])]))]) (dnext (dnext (dwdGN y50000 ([(ByteArray.mk #[115,101,114,118,101,114]),(ByteArray.mk #[97]),(ByteArray.mk #[120,46,49])])) 9) 3)).2) 24) ([(ByteArray.mk #[97,10,98]),(ByteArray.mk #[127])])))
              (none))
             (none))
            (none))
           (br ((ieq (dval ((lk0 (dval (dnext (dwdGN y50000 ([(ByteArray.mk #[115,101,114,118,101,114]),(ByteArray.mk #[97]),(ByteArray.mk #[120,46,49])])) 9) 3).toNat ([(dwdG y50000 ([(ByteArray.mk #[115,101,114,118,101,114]),(ByteArray.mk #[97]),(ByteArray.mk #[120,46,49])]))]) (dnext (dnext (dwdGN y50000 ([(ByteArray.mk #[115,101,114,118,101,114]),(ByteArray.mk #[97]),(ByteArray.mk #[120,46,49])])) 9) 3)).2) 24) 3))
            (br (cApp (y5) ([(((lk0 (dval (dnext (dwdGN y50000 ([(ByteArray.mk #[115,101,114,118,101,114]),(ByteArray.mk #[97]),(ByteArray.mk #[120,46,49])])) 9) 3).toNat ([(dwdG y50000 ([(ByteArray.mk #[115,101,114,118,101,114]),(ByteArray.mk #[97]),(ByteArray.mk #[120,46,49])]))]) (dnext (dnext (dwdGN y50000 ([(ByteArray.mk #[115,101,114,118,101,114]),(ByteArray.mk #[97]),(ByteArray.mk #[120,46,49])])) 9) 3)).1),(false,(([]:List Blk),(((dval (dwdGN y50000 ([(ByteArray.mk #[115,101,114,118,101,114]),(ByteArray.mk #[97]),(ByteArray.mk #[120,46,49])])) 9)),()))))]) 64)
             (lp_f31_1 (x1) (isub .i64 (x6) 1) ((y5)++([(((lk0 (dval (dnext (dwdGN y50000 ([(ByteArray.mk #[115,101,114,118,101,114]),(ByteArray.mk #[97]),(ByteArray.mk #[120,46,49])])) 9) 3).toNat ([(dwdG y50000 ([(ByteArray.mk #[115,101,114,118,101,114]),(ByteArray.mk #[97]),(ByteArray.mk #[120,46,49])]))]) (dnext (dnext (dwdGN y50000 ([(ByteArray.mk #[115,101,114,118,101,114]),(ByteArray.mk #[97]),(ByteArray.mk #[120,46,49])])) 9) 3)).1),(false,(([]:List Blk),(((dval (dwdGN y50000 ([(ByteArray.mk #[115,101,114,118,101,114]),(ByteArray.mk #[97]),(ByteArray.mk #[120,46,49])])) 9)),()))))])) (dnext ((lk0 (dval (dnext (dwdGN y50000 ([(ByteArray.mk #[115,101,114,118,101,114]),(ByteArray.mk #[97]),(ByteArray.mk #[120,46,49])])) 9) 3).toNat ([(dwdG y50000 ([(ByteArray.mk #[115,101,114,118,101,114]),(ByteArray.mk #[97]),(ByteArray.mk #[120,46,49])]))]) (dnext (dnext (dwdGN y50000 ([(ByteArray.mk #[115,101,114,118,101,114]),(ByteArray.mk #[97]),(ByteArray.mk #[120,46,49])])) 9) 3)).2) 24))
             (none))
            (br (cApp (y5) ([(((lk0 (dval (dnext (dwdGN y50000 ([(ByteArray.mk #[115,101,114,118,101,114]),(ByteArray.mk #[97]),(ByteArray.mk #[120,46,49])])) 9) 3).toNat ([(dwdG y50000 ([(ByteArray.mk #[115,101,114,118,101,114]),(ByteArray.mk #[97]),(ByteArray.mk #[120,46,49])]))]) (dnext (dnext (dwdGN y50000 ([(ByteArray.mk #[115,101,114,118,101,114]),(ByteArray.mk #[97]),(ByteArray.mk #[120,46,49])])) 9) 3)).1),((false),(([]:List Blk),(((dval (dwdGN y50000 ([(ByteArray.mk #[115,101,114,118,101,114]),(ByteArray.mk #[97]),(ByteArray.mk #[120,46,49])])) 9)),()))))]) 64)
             (lp_f31_1 (x1) (isub .i64 (x6) 1) ((y5)++([(((lk0 (dval (dnext (dwdGN y50000 ([(ByteArray.mk #[115,101,114,118,101,114]),(ByteArray.mk #[97]),(ByteArray.mk #[120,46,49])])) 9) 3).toNat ([(dwdG y50000 ([(ByteArray.mk #[115,101,114,118,101,114]),(ByteArray.mk #[97]),(ByteArray.mk #[120,46,49])]))]) (dnext (dnext (dwdGN y50000 ([(ByteArray.mk #[115,101,114,118,101,114]),(ByteArray.mk #[97]),(ByteArray.mk #[120,46,49])])) 9) 3)).1),((false),(([]:List Blk),(((dval (dwdGN y50000 ([(ByteArray.mk #[115,101,114,118,101,114]),(ByteArray.mk #[97]),(ByteArray.mk #[120,46,49])])) 9)),()))))])) (dnext ((lk0 (dval (dnext (dwdGN y50000 ([(ByteArray.mk #[115,101,114,118,101,114]),(ByteArray.mk #[97]),(ByteArray.mk #[120,46,49])])) 9) 3).toNat ([(dwdG y50000 ([(ByteArray.mk #[115,101,114,118,101,114]),(ByteArray.mk #[97]),(ByteArray.mk #[120,46,49])]))]) (dnext (dnext (dwdGN y50000 ([(ByteArray.mk #[115,101,114,118,101,114]),(ByteArray.mk #[97]),(ByteArray.mk #[120,46,49])])) 9) 3)).2) 24))
             (none))))))
        (none)))
      (none))
     (none))
    (none))
   (none))
  (some (.exit 0,st_f31_1_e0 y5 y50000))
def la_f31_1 (x1:Int)(x6:Int)(y5:(List BlkT))(y50000:Dice):Option (Exit×VS):=some (.exit 0,st_f31_1_e0 ((lk1 (lsRec x1) (igt x1 0) x6.toNat y5 y50000).1) ((lk1 (lsRec x1) (igt x1 0) x6.toNat y5 y50000).2))
theorem be_f31_1 (x1:Int)(x6:Int)(y5:(List BlkT))(y50000:Dice):roundF g_f31 fg_f31_1 tb_f31_1 (st_f31_1 x1 x6 y5 y50000)=b_f31_1 x1 x6 y5 y50000:=by kernel_rfl
theorem ln_f31_1 (x1:Int)(x6:Int)(y5:(List BlkT))(y50000:Dice):lp_f31_1 x1 x6 y5 y50000=n_f31_1 x1 x6 y5 y50000:=(loopF_nxt _ _).trans (by
 rw [be_f31_1]
 simp only [b_f31_1,n_f31_1,nxt_br,nxt_n,nxt_r,nxt_e,nxt_0]
 rfl)
def r_f31 (d0:Dice)(p1:Int):Option (V×List VO):=
 br ((nextOk d0 4))
  (br ((lb1 p1 (dval d0 4) ([]:List BlkT) (dnext d0 4)))
   (some (.t (.sl tyBlkT) ((lk1 (lsRec p1) (igt p1 0) (dval d0 4).toNat ([]:List BlkT) (dnext d0 4)).1),[.box (.t tyDice ((lk1 (lsRec p1) (igt p1 0) (dval d0 4).toNat ([]:List BlkT) (dnext d0 4)).2))]))
   (none))
  (none)
theorem e_f31 (d0:Dice)(p1:Int):runF g_f31 tc_f31 rv_f31 false [.ptr 50000 0,.t tI p1] [.box (.t tyDice d0)]=r_f31 d0 p1:=by kernel_rfl
theorem ok_f31:Option.map (trC Tryd.prog) Tryd.f31.body=some tc_f31.er:=by kernel_rfl
theorem rok_f31:trVs Tryd.prog Tryd.f31.results.toList=some (rv_f31.map Prod.fst):=by kernel_rfl
theorem gk_f31:GOk Tryd.prog g_f31:=gok_of _ (by
 intro p hp
 simp only [List.mem_cons,List.not_mem_nil,or_false] at hp
 rcases hp with rfl|rfl|rfl|rfl
 ·exact ⟨en_f18,ms_f18⟩
 ·exact ⟨en_f31R,ms_f31R⟩
 ·exact ⟨en_f32,ms_f32⟩
 ·exact ⟨en_f52,ms_f52⟩)
theorem l_f31_0 (x1:Int)(x6:Int)(x8:Int)(y5:(List BlkT))(y7_1:Bool)(y7_3:Int)(y18:(List ByteArray))(y50000:Dice)(h:(lb0 x8 y18 y50000)=true):lp_f31_0 x1 x6 x8 y5 y7_1 y7_3 y18 y50000=la_f31_0 x1 x6 x8 y5 y7_1 y7_3 y18 y50000:=by
 obtain ⟨h0,hh⟩:=Bool.and_eq_true_iff.1 h
 obtain ⟨h1,h2,h3⟩:=cP_of hh
 clear h hh
 obtain ⟨k,rfl⟩:=Int.eq_ofNat_of_zero_le h1
 clear h1
 induction k generalizing y18 y50000 with
 |zero=>
  rw [ln_f31_0]
  rfl
 |succ k ih=>
  rw [ln_f31_0]
  have k1:dOk (dwdGN y50000 bl2)=true:=dOk_next h0
  have i1:isub .i64 ((k+1:Nat):Int) 1=(k:Int):=by rw [isub_in (by omega)];omega
  unfold n_f31_0
  rw [show igt ((k+1:Nat):Int) 0=true from decide_eq_true (by omega),br_true]
  have ih:=ih (y18++[dwdG y50000 bl2]) (dwdGN y50000 bl2) k1 (by omega) (by rw [List.length_append,List.length_singleton];omega)
  refine brY (Bool.and_eq_true_iff.2 ⟨h0,by decide⟩) (brY (cAppN (by decide) (by rw [List.length_singleton];omega)) ?_)
  rw [i1]
  exact ih
theorem l_f31_1 (x1:Int)(x6:Int)(y5:(List BlkT))(y50000:Dice)(h:(lb1 x1 x6 y5 y50000)=true):lp_f31_1 x1 x6 y5 y50000=la_f31_1 x1 x6 y5 y50000:=by
 obtain ⟨h0,hh⟩:=Bool.and_eq_true_iff.1 h
 obtain ⟨h1,h2,h3,h4,h5⟩:=cP_of hh
 clear h hh
 obtain ⟨i,rfl⟩:=Int.eq_ofNat_of_zero_le h4
 clear h4
 induction i generalizing y5 y50000 with
 |zero=>
  rw [ln_f31_1]
  rfl
 |succ i ih=>
  have hv:=dval_lt (d:=dnext (dwdGN y50000 bl1) 9) (n:=3) (by omega)
  have k1:dOk (dwdGN y50000 bl1)=true:=dOk_next h0
  have k2:dOk (dnext (dwdGN y50000 bl1) 9)=true:=dOk_next k1
  have k3:dOk (dnext (dnext (dwdGN y50000 bl1) 9) 3)=true:=dOk_next k2
  have i1:isub .i64 ((i+1:Nat):Int) 1=(i:Int):=by rw [isub_in (by omega)];omega
  obtain ⟨a1,a2,a3,a4⟩:=lA_ok y50000 h0
  have er:lk0 (dval (dnext (dwdGN y50000 bl1) 9) 3).toNat [dwdG y50000 bl1] (dnext (dnext (dwdGN y50000 bl1) 9) 3)=lA y50000:=rfl
  have la:la_f31_1 x1 ((i+1:Nat):Int) y5 y50000=la_f31_1 x1 (i:Int) (y5++[(lB (lsRec x1) (igt x1 0) (lA y50000) (dval (dwdGN y50000 bl1) 9)).1]) (lB (lsRec x1) (igt x1 0) (lA y50000) (dval (dwdGN y50000 bl1) 9)).2:=by
   unfold la_f31_1
   rw [Int.toNat_natCast,Int.toNat_natCast]
   rfl
  rw [la,ln_f31_1]
  have hz:lb0 (dval (dnext (dwdGN y50000 bl1) 9) 3) [dwdG y50000 bl1] (dnext (dnext (dwdGN y50000 bl1) 9) 3)=true:=Bool.and_eq_true_iff.2 ⟨k3,cP_in ⟨by omega,by omega,by rw [List.length_singleton];omega⟩⟩
  have fin: ∀ (x:BlkT) (d:Dice),dOk d=true->lp_f31_1 x1 (i:Int) (y5++[x]) d=la_f31_1 x1 (i:Int) (y5++[x]) d:=fun x d g1=>ih (y5++[x]) d g1 (by rw [List.length_append,List.length_singleton];omega)
  simp only [n_f31_1]
  rw [show igt ((i+1:Nat):Int) 0=true from decide_eq_true (by omega),br_true]
  refine brY (Bool.and_eq_true_iff.2 ⟨h0,by decide⟩) (brY (Bool.and_eq_true_iff.2 ⟨k1,by decide⟩) (brY (Bool.and_eq_true_iff.2 ⟨k2,by decide⟩) (brY hz ?_)))
  simp only [er,i1]
  generalize dval (dwdGN y50000 bl1) 9=ln
  generalize lA y50000=r at a1 a2 a3 a4
  have hyl:y5.length<=3:=by omega
  cases hdp:igt x1 0 with
  |false=>
   rw [br_false]
   refine (l_tail a4 a1 a2 hyl (F:=fun y d=>lp_f31_1 x1 (i:Int) y d)).trans ?_
   exact fin _ _ (lT_ok a2 a3 a4).2.2
  |true=>
   rw [br_true]
   have hx1:0<x1:=of_decide_eq_true hdp
   have i3:isub .i64 x1 1=x1-1:=isub_in (by omega)
   have kr:dOk (dnext r.2 3)=true:=dOk_next a4
   refine brY (Bool.and_eq_true_iff.2 ⟨Bool.and_eq_true_iff.2 ⟨a4,by decide⟩,by decide⟩) ?_
   have eb:lB (lsRec x1) true r ln=bif done r.2 3 then lT r.1 true ((lsRec x1 (dnext r.2 3)).1.map Blk.of) ln (lsRec x1 (dnext r.2 3)).2 else lT r.1 false [] ln (dnext r.2 3):=rfl
   rw [eb]
   cases hdn:done r.2 3 with
   |false=>
    rw [br_false,cond_false]
    refine (l_tail kr a1 a2 hyl (F:=fun y d=>lp_f31_1 x1 (i:Int) y d)).trans ?_
    exact fin _ _ (lT_ok a2 a3 kr).2.2
   |true=>
    rw [br_true,cond_true,i3]
    have hrec:lsRec x1 (dnext r.2 3)=lsG (x1-1).toNat (dnext r.2 3):=by
     unfold lsRec
     rw [if_neg (by omega),show x1.toNat-1=(x1-1).toNat by omega]
    have hq:=(lsG_ok (x1-1).toNat (dnext r.2 3) kr).2
    have hts:ls7S fuel (dnext r.2 3) (x1-1)=true:=by
     cases hfu:fuel with
     |zero=>omega
     |succ k=>exact Bool.and_eq_true_iff.2 ⟨kr,cP_in ⟨by omega,by omega,by omega⟩⟩
    rw [hrec]
    refine brY hts ?_
    refine (l_tail (d:=ls7N (dnext r.2 3) (x1-1)) hq a1 a2 hyl (F:=fun y d=>lp_f31_1 x1 (i:Int) y d)).trans ?_
    exact fin _ _ (lT_ok a2 a3 hq).2.2
theorem lo_f31_0: ∀ S l p,g_f31.L 0 (fgt fg_f31_0 S)=some (true,l)->pickA l=some p->loopF (roundF g_f31 fg_f31_0 tb_f31_0) S=some p:=
 lok_of (s:=sh_f31_0) ⟨by decide,by decide⟩ (by kernel_rfl) fun x y hok p hp=>by
 simp only [pickA_br,pickA_one] at hp
 exact (l_f31_0 x.2.1 x.2.2.2.1 x.2.2.2.2.2.1 y.1 y.2.1.2.1 y.2.1.2.2.2.1 y.2.2.1 y.2.2.2.2.2.2.2.1 (by simpa using hok)).trans hp
theorem lo_f31_1: ∀ S l p,g_f31.L 1 (fgt fg_f31_1 S)=some (true,l)->pickA l=some p->loopF (roundF g_f31 fg_f31_1 tb_f31_1) S=some p:=
 lok_of (s:=sh_f31_1) ⟨by decide,by decide⟩ (by kernel_rfl) fun x y hok p hp=>by
 simp only [pickA_br,pickA_one] at hp
 exact (l_f31_1 x.2.1 x.2.2.2.1 y.1 y.2.2.1 (by simpa using hok)).trans hp
theorem lk_f31:tc_f31.lok g_f31:=by
 repeat (first|exact trivial|exact lo_f31_0|exact lo_f31_1|refine ⟨?_, ?_⟩)
theorem s_f31 (d:Dice)(n:Int)(h:ls7S (fuel+1) d n=true):r_f31 d n=some (.t (.sl tyBlkT) (ls7F d n),[.box (.t tyDice (ls7N d n))]):=by
 obtain ⟨h1,h2⟩:=Bool.and_eq_true_iff.1 h
 obtain ⟨h2,h3,h4⟩:=cP_of h2
 have hv:=dval_lt (d:=d) (n:=4) (by omega)
 unfold r_f31
 refine brY (Bool.and_eq_true_iff.2 ⟨h1,by decide⟩) (brY (Bool.and_eq_true_iff.2 ⟨dOk_next h1,cP_in ⟨h2,h3,h4,by omega,by rw [List.length_nil];omega⟩⟩) ?_)
 have e:lk1 (lsRec n) (igt n 0) (dval d 4).toNat [] (dnext d 4)=lsG n.toNat d:=by
  obtain ⟨k,rfl⟩:=Int.eq_ofNat_of_zero_le h2
  rw [Int.toNat_natCast]
  cases k with
  |zero=>rfl
  |succ k=>
   have e1:lsRec ((k+1:Nat):Int)=lsG k:=by
    unfold lsRec
    rw [Int.toNat_natCast,if_neg (Nat.succ_ne_zero k),Nat.add_sub_cancel]
   have e2:igt ((k+1:Nat):Int) 0=true:=decide_eq_true (by omega)
   rw [e1,e2]
   rfl
 rw [e]
 rfl
theorem mr_f31:Meets Tryd.prog 31 (runF g_f31 tc_f31 rv_f31 false):=by
 obtain ⟨c,hc,hi⟩:=Option.map_eq_some_iff.1 ok_f31
 exact meets_of (by decide) Tryd.func31 hc hi Tryd.ntmps31 rok_f31 gk_f31 lk_f31 mixed
end
theorem ma_law07_list: ∀ N:Nat,Meets Tryd.prog 31 (strip (@sp_f31R ⟨N⟩))
 |0=>meets_zeroP fun d x=>by first|rfl|simp [ls7S]
 |N+1=>by
  letI:Fuel:=⟨N⟩
  haveI:Nonempty (PLift (Meets Tryd.prog 31 (strip sp_f31R))):=⟨⟨ma_law07_list N⟩⟩
  exact meets_specP mr_f31 rfl fun d x hok=>(e_f31 d x.1).trans (s_f31 d x.1 hok)
def sp_f31:Ent:=specP tyDice (.pr tI .nil) (fun d x=>(ls7Ok d x.1)) (fun d x=>(.t (.sl tyBlkT) (ls7F d x.1))) (fun d x=>(ls7N d x.1))
theorem ms_f31:Meets Tryd.prog 31 (strip sp_f31):=meets_fuelP ma_law07_list fun d x hok=>fuel_law07_list d x.1 hok
end
end Go.Proofs.YtkkoedniahnneaaDoor.K
namespace Go.Proofs.YtkkoedniahnneaaDoor.K
open Go.RowKit
noncomputable section
set_option linter.unusedSectionVars false
abbrev fws:List ByteArray:=[(ByteArray.mk #[115,101,114,118,101,114]),(ByteArray.mk #[97]),(ByteArray.mk #[120,46,49]),(ByteArray.mk #[110,111,110,101])]
def fi0 (l:List BlkT)(ws:List ByteArray)(i:Int)(f:List BlkT)(k m:Int):Bool:=cP (okT l=true/\0<=i/\i<ws.length/\f=fdT l (lgt .str ws i.toNat)/\0<=m/\m<=l.length/\k=((l.take m.toNat).filter (fdX (lgt .str ws i.toNat))).length)
def fwN (l:List BlkT):List ByteArray->Nat
 | []=>0
 |w::r=>(fdT l w).length+fwN l r
def fi1 (l:List BlkT)(ws:List ByteArray)(n i:Int):Bool:=cP (okT l=true/\0<=i/\i<=ws.length/\ws.length<=10/\0<=n/\n+100000*((ws.length:Int)-i)<=10000000)
theorem fd_one {l:List BlkT}{m:Nat}{w:ByteArray}(h:m<l.length)(hp:fdX w l[m]=true):((l.take m).filter (fdX w)).length<(fdT l w).length/\(fdT l w)[((l.take m).filter (fdX w)).length]? = some l[m]/\((l.take (m+1)).filter (fdX w)).length=((l.take m).filter (fdX w)).length+1:=by
 have e:fdT l w=(l.take m).filter (fdX w)++l[m]::(l.drop (m+1)).filter (fdX w):=by
  unfold fdT
  conv=>lhs;rw [←List.take_append_drop m l,List.filter_append,List.drop_eq_getElem_cons h,List.filter_cons_of_pos hp]
 refine ⟨?_, ?_, ?_⟩
 ·rw [e,List.length_append,List.length_cons]
  omega
 ·rw [e,List.getElem?_append_right (Nat.le_refl _),Nat.sub_self]
  rfl
 ·rw [List.take_succ_eq_append_getElem h,List.filter_append,List.length_append,List.filter_cons_of_pos hp]
  rfl
theorem fd_no {l:List BlkT}{m:Nat}{w:ByteArray}(h:m<l.length)(hp:fdX w l[m]=false):((l.take (m+1)).filter (fdX w)).length=((l.take m).filter (fdX w)).length:=by
 rw [List.take_succ_eq_append_getElem h,List.filter_append,List.length_append,List.filter_cons_of_neg (by rw [hp];simp)]
 rfl
theorem fw_sum: ∀ l:List BlkT,fwN l fws<=l.length
 | []=>Nat.le_refl _
 |x::l=>by
  have ih:=fw_sum l
  have q: ∀ w,(fdT (x::l) w).length=(bif fdX w x then 1 else 0)+(fdT l w).length:=fun w=>by
   unfold fdT
   cases h:fdX w x with
   |true=>
    rw [List.filter_cons_of_pos h,List.length_cons]
    show _=1+_
    omega
   |false=>
    rw [List.filter_cons_of_neg (by rw [h];simp)]
    show _=0+_
    omega
  have hs:(bif fdX (ByteArray.mk #[115,101,114,118,101,114]) x then 1 else 0)+((bif fdX (ByteArray.mk #[97]) x then 1 else 0)+((bif fdX (ByteArray.mk #[120,46,49]) x then 1 else 0)+(bif fdX (ByteArray.mk #[110,111,110,101]) x then 1 else 0)))<=1:=by
   obtain ⟨ws,r⟩:=x
   unfold fdX
   cases ws with
   |nil=>exact Nat.zero_le _
   |cons s ws=>
    show (bif seq s _ then 1 else 0)+((bif seq s _ then 1 else 0)+((bif seq s _ then 1 else 0)+(bif seq s _ then 1 else 0)))<=1
    rw [seq_dec,seq_dec,seq_dec,seq_dec]
    by_cases h1:s=ByteArray.mk #[115,101,114,118,101,114]
    ·subst h1
     decide
    ·rw [decide_eq_false h1]
     by_cases h2:s=ByteArray.mk #[97]
     ·subst h2
      decide
     ·rw [decide_eq_false h2]
      by_cases h3:s=ByteArray.mk #[120,46,49]
      ·subst h3
       decide
      ·rw [decide_eq_false h3]
       by_cases h4:s=ByteArray.mk #[110,111,110,101]
       ·subst h4
        decide
       ·rw [decide_eq_false h4]
        decide
  show (fdT (x::l) _).length+((fdT (x::l) _).length+((fdT (x::l) _).length+((fdT (x::l) _).length+0)))<=l.length+1
  rw [q,q,q,q]
  have ih:(fdT l (ByteArray.mk #[115,101,114,118,101,114])).length+((fdT l (ByteArray.mk #[97])).length+((fdT l (ByteArray.mk #[120,46,49])).length+((fdT l (ByteArray.mk #[110,111,110,101])).length+0)))<=l.length:=ih
  omega
def fndT (_:List Int):Bool:=true
def dr_f10_0:List DO:=[(.mk (oV 42 4) []),(.mk (oV 43 10) []),(.mk (oP 44 (.ix 4 (.t 42) (.t 43))) [0,1]),(.mk (oP 45 (.fa 0 (.t 44))) [2]),(.mk (oL 46 45) [3]),(.mk (oP 47 (.len false (.t 46))) [4]),(.mk (oP 48 (.bin false .gtr (.t 47) (cI 0))) [5]),(.mk (oV 49 48) [6]),(.mk (oQ 50 49 true (.mv (.t 4))) [7]),(.mk (oQ 51 49 true (.mv (.t 10))) [7]),(.mk (oQ 52 49 true (.ix 4 (.t 50) (.t 51))) [8,9,7]),(.mk (oQ 53 49 true (.fa 0 (.t 52))) [10,7]),(.mk (oG 54 49 true (.m (.ld false 1 (.t 53)))) [11,7]),(.mk (oQ 55 49 true (.ix 1 (.t 54) (cI 0))) [12,7]),(.mk (oG 56 49 true (.m (.ld false 1 (.t 55)))) [13,7]),(.mk (oQ 57 49 true (.mv (.t 5))) [7]),(.mk (oQ 58 49 true (.mv (.t 7))) [7]),(.mk (oQ 59 49 true (.ix 1 (.t 57) (.t 58))) [15,16,7]),(.mk (oG 60 49 true (.m (.ld false 1 (.t 59)))) [17,7]),(.mk (oQ 61 49 true (.bin false .eql (.t 56) (.t 60))) [14,18,7]),(.mk (oP 62 (.pick (.t 49) (.t 61) (cB false))) [7,19])]
def dr_f10_1:List DO:=[(.mk (oV 63 9) []),(.mk (oV 64 8) []),(.mk (oP 65 (.len false (.t 64))) [1]),(.mk (oP 66 (.bin false .geq (.t 63) (.t 65))) [0,2]),(.mk (oV 67 66) [3]),(.mk (oQ 68 67 false (.mv (.t 8))) [4]),(.mk (oQ 69 67 false (.mv (.t 9))) [4]),(.mk (oQ 70 67 false (.ix 4 (.t 68) (.t 69))) [5,6,4]),(.mk (oQ 71 67 false (.fa 0 (.t 70))) [7,4]),(.mk (oG 72 67 false (.m (.ld false 1 (.t 71)))) [8,4]),(.mk (oQ 73 67 false (.mv (.t 4))) [4]),(.mk (oQ 74 67 false (.mv (.t 10))) [4]),(.mk (oQ 75 67 false (.ix 4 (.t 73) (.t 74))) [10,11,4]),(.mk (oQ 76 67 false (.fa 0 (.t 75))) [12,4]),(.mk (oG 77 67 false (.m (.ld false 1 (.t 76)))) [13,4]),(.mk (oG 78 67 false (.call 43 [(.t 72),(.t 77)])) [9,14,4,4]),(.mk (oQ 79 67 false (.nt (.t 78))) [15,4]),(.mk (oP 80 (.pick (.t 67) (cB true) (.t 79))) [4,16]),(.mk (oV 81 80) [17,15]),(.mk (oQ 82 81 false (.mv (.t 8))) [18]),(.mk (oQ 83 81 false (.mv (.t 9))) [18]),(.mk (oQ 84 81 false (.ix 4 (.t 82) (.t 83))) [19,20,18]),(.mk (oQ 85 81 false (.fa 2 (.t 84))) [21,18]),(.mk (oG 86 81 false (.m (.ld false 1 (.t 85)))) [22,18]),(.mk (oQ 87 81 false (.mv (.t 4))) [18]),(.mk (oQ 88 81 false (.mv (.t 10))) [18]),(.mk (oQ 89 81 false (.ix 4 (.t 87) (.t 88))) [24,25,18]),(.mk (oQ 90 81 false (.fa 2 (.t 89))) [26,18]),(.mk (oG 91 81 false (.m (.ld false 1 (.t 90)))) [27,18]),(.mk (oG 92 81 false (.call 40 [(.t 86),(.t 91)])) [23,28,18,18]),(.mk (oQ 93 81 false (.nt (.t 92))) [29,18]),(.mk (oP 94 (.pick (.t 81) (cB true) (.t 93))) [18,30])]
def fg_f10_0:Fg:=⟨[(4,some (.sl tyBlkT)),(5,some (.sl .str)),(6,some tI),(7,some tI),(8,some (.sl tyBlkT)),(9,some tI),(10,some tI)],[]⟩
def tb_f10_0:TC:=(.sq (.sq (.reg [(oV 36 10),(oV 37 4),(oP 38 (.len false (.t 37))),(oP 39 (.bin false .lss (.t 36) (.t 38)))]) (.cd (.t 39) .sk (.fg ⟨[(4,some (.sl tyBlkT)),(5,some (.sl .str)),(6,some tI),(7,some tI),(8,some (.sl tyBlkT)),(9,some tI)],[]⟩ (.ex 2)))) (.sq (.bk 3 (.sq (.dr dr_f10_0 [(0,[]),(1,[]),(2,[]),(3,[]),(4,[]),(5,[]),(6,[]),(7,[]),(8,[]),(9,[]),(10,[]),(11,[]),(12,[]),(13,[]),(14,[]),(15,[]),(16,[]),(17,[]),(18,[]),(19,[]),(20,[])] (.of [0,1,2,3,4,5,6,7,8,9,10,11,12,13,14,15,16,17,18,19,20])) (.cd (.t 62) (.sq (.sq (.dr dr_f10_1 [(0,[]),(1,[]),(2,[]),(3,[]),(4,[]),(5,[]),(6,[]),(7,[]),(8,[]),(9,[]),(10,[]),(11,[]),(12,[]),(13,[]),(14,[]),(15,[]),(16,[]),(17,[]),(18,[]),(19,[]),(20,[]),(21,[]),(22,[]),(23,[]),(24,[]),(25,[]),(26,[]),(27,[]),(28,[]),(29,[]),(30,[]),(31,[])] (.of [0,1,2,3,4,5,6,7,8,9,10,11,12,13,14,15,16,17,18,19,20,21,22,23,24,25,26,27,28,29,30,31])) (.cd (.t 94) (.sq (.reg [(oP 2 (.mv (cB false)))]) (.fg ⟨[(2,some .bool)],[]⟩ .rt)) .sk)) (.reg [(oV 95 9),(oP 96 (.bin false .add (.t 95) (cI 1))),(oV 9 96)])) .sk))) (.reg [(oV 40 10),(oP 41 (.bin false .add (.t 40) (cI 1))),(oV 10 41)])))
def fg_f10_1:Fg:=⟨[(4,some (.sl tyBlkT)),(5,some (.sl .str)),(6,some tI),(7,some tI)],[]⟩
def tb_f10_1:TC:=(.sq (.sq (.reg [(oV 20 7),(oV 21 5),(oP 22 (.len false (.t 21))),(oP 23 (.bin false .lss (.t 20) (.t 22)))]) (.cd (.t 23) .sk (.fg ⟨[(4,some (.sl tyBlkT)),(6,some tI)],[]⟩ (.ex 0)))) (.sq (.bk 1 (.sq (.reg [(oV 26 4),(oV 27 5),(oV 28 7),(oP 29 (.ix 1 (.t 27) (.t 28))),(oL 30 29),(oC 31 38 [(.t 26),(.t 30)]),(oV 8 31)]) (.sq (.reg [(oV 32 6),(oV 33 8),(oP 34 (.len false (.t 33))),(oP 35 (.bin false .add (.t 32) (.t 34))),(oV 6 35)]) (.sq (.reg [(oP 9 (.mv (cI 0)))]) (.sq (.sq (.reg [(oP 10 (.mv (cI 0)))]) (.bk 2 (.lp 0 fg_f10_0 tb_f10_0))) (.sq (.reg [(oV 97 9),(oV 98 8),(oP 99 (.len false (.t 98))),(oP 100 (.bin false .neq (.t 97) (.t 99)))]) (.cd (.t 100) (.sq (.reg [(oP 2 (.mv (cB false)))]) (.fg ⟨[(2,some .bool)],[]⟩ .rt)) .sk))))))) (.reg [(oV 24 7),(oP 25 (.bin false .add (.t 24) (cI 1))),(oV 7 25)])))
def tc_f10:TC:=(.sq (.reg [(oP 2 (.mv (cB false)))]) (.sq (.sq (.reg [(oV 11 0),(oC 12 13 [(.t 11)]),(oP 13 (.nt (.t 12)))]) (.cd (.t 13) (.sq (.reg [(oC 14 21 []),(oV 2 14)]) .rt) .sk)) (.sq (.reg [(oV 15 0),(oC 16 15 [(.t 15)]),(oV 3 16)]) (.sq (.reg [(oV 17 3),(oC 18 31 [(.t 17),(cI 2)]),(oV 4 18)]) (.sq (.reg [(oM 19 (.bs 9 1 4 [(.v (.string (ByteArray.mk #[]))),(.v (.string (ByteArray.mk #[]))),(.v (.string (ByteArray.mk #[]))),(.v (.string (ByteArray.mk #[])))] [(0,1,(.c (.v (.string (ByteArray.mk #[115,101,114,118,101,114]))))),(1,1,(.c (.v (.string (ByteArray.mk #[97]))))),(2,1,(.c (.v (.string (ByteArray.mk #[120,46,49]))))),(3,1,(.c (.v (.string (ByteArray.mk #[110,111,110,101])))))])),(oV 5 19)]) (.sq (.reg [(oP 6 (.mv (cI 0)))]) (.sq (.sq (.reg [(oP 7 (.mv (cI 0)))]) (.bk 0 (.lp 1 fg_f10_1 tb_f10_1))) (.sq (.reg [(oV 101 6),(oV 102 4),(oP 103 (.len false (.t 102))),(oP 104 (.bin false .leq (.t 101) (.t 103))),(oV 105 104),(oG 106 105 true (.call 21 [])),(oP 107 (.pick (.t 105) (.t 106) (cB false))),(oV 2 107)]) .rt))))))))
def rv_f10:List (RV×Option Ty):=[((.t 2),some .bool)]
abbrev sh_f10_0:Sh:=⟨[(4,.ty (.sl tyBlkT)),(5,.ty (.sl .str)),(6,.ty tI),(7,.ty tI),(8,.ty (.sl tyBlkT)),(9,.ty tI),(10,.ty tI)],[]⟩
def st_f10_0 (x4:(List BlkT))(x5:(List ByteArray))(x6:Int)(x7:Int)(x8:(List BlkT))(x9:Int)(x10:Int):VS:=sh_f10_0.st (x4,x5,x6,x7,x8,x9,x10,()) ()
abbrev sh_f10_0_ret:Sh:=⟨[(2,.ty .bool)],[]⟩
def st_f10_0_ret (x2:Bool):VS:=sh_f10_0_ret.st (x2,()) ()
abbrev sh_f10_0_e2:Sh:=⟨[(4,.ty (.sl tyBlkT)),(5,.ty (.sl .str)),(6,.ty tI),(7,.ty tI),(8,.ty (.sl tyBlkT)),(9,.ty tI)],[]⟩
def st_f10_0_e2 (x4:(List BlkT))(x5:(List ByteArray))(x6:Int)(x7:Int)(x8:(List BlkT))(x9:Int):VS:=sh_f10_0_e2.st (x4,x5,x6,x7,x8,x9,()) ()
-- loop 0: (x4 : (List BlkT)) (x5 : (List ByteArray)) (x6 : Int) (x7 : Int) (x8 : (List BlkT)) (x9 : Int) (x10 : Int); out: ('ret',) (x2 : Bool); ('exit', 2) (x4 : (List BlkT)) (x5 : (List ByteArray)) (x6 : Int) (x7 : Int) (x8 : (List BlkT)) (x9 : Int)
abbrev sh_f10_1:Sh:=⟨[(4,.ty (.sl tyBlkT)),(5,.ty (.sl .str)),(6,.ty tI),(7,.ty tI)],[]⟩
def st_f10_1 (x4:(List BlkT))(x5:(List ByteArray))(x6:Int)(x7:Int):VS:=sh_f10_1.st (x4,x5,x6,x7,()) ()
abbrev sh_f10_1_ret:Sh:=⟨[(2,.ty .bool)],[]⟩
def st_f10_1_ret (x2:Bool):VS:=sh_f10_1_ret.st (x2,()) ()
abbrev sh_f10_1_e0:Sh:=⟨[(4,.ty (.sl tyBlkT)),(6,.ty tI)],[]⟩
def st_f10_1_e0 (x4:(List BlkT))(x6:Int):VS:=sh_f10_1_e0.st (x4,x6,()) ()
-- loop 1: (x4 : (List BlkT)) (x5 : (List ByteArray)) (x6 : Int) (x7 : Int); out: ('ret',) (x2 : Bool); ('exit', 0) (x4 : (List BlkT)) (x6 : Int)
def L_f10_0:VS->Option (Bool×List (Bool×Exit×VS)):=mkL sh_f10_0 (fun x y=>(fi0 x.1 x.2.1 x.2.2.2.1 x.2.2.2.2.1 x.2.2.2.2.2.1 x.2.2.2.2.2.2.1)) (fun x y=>[((false),.ret,st_f10_0_ret (false)),(true,.exit 2,st_f10_0_e2 (x.1) (x.2.1) (x.2.2.1) (x.2.2.2.1) (x.2.2.2.2.1) (llen x.2.2.2.2.1))])
def L_f10_1:VS->Option (Bool×List (Bool×Exit×VS)):=mkL sh_f10_1 (fun x y=>(fi1 x.1 x.2.1 x.2.2.1 x.2.2.2.1)) (fun x y=>[((false),.ret,st_f10_1_ret (false)),(true,.exit 0,st_f10_1_e0 (x.1) (x.2.2.1+(fwN x.1 (x.2.1.drop x.2.2.2.1.toNat):Nat)))])
def g_f10:G:=⟨TYs,[],108,EL [(13,sp_f13),(15,sp_f15),(21,sp_f21),(31,sp_f31),(38,sp_f38),(40,sp_f40),(43,sp_f43)],keeps,(Ls [L_f10_0,L_f10_1]),IL [],RL []⟩
def b_f10_0 (x4:(List BlkT))(x5:(List ByteArray))(x6:Int)(x7:Int)(x8:(List BlkT))(x9:Int)(x10:Int):Option (Exit×VS):=
 br ((ilt x10 (llen x4)))
  (br (cIx x4 x10)
   (br ((igt (llen ((lgt tyBlkT x4 (Int.toNat x10)).1)) 0))
    (br (cIx x4 x10)
     (br (cIx ((lgt tyBlkT x4 (Int.toNat x10)).1) 0)
      (br (cIx x5 x7)
       (br ((seq (lgt .str ((lgt tyBlkT x4 (Int.toNat x10)).1) (Int.toNat 0)) (lgt .str x5 (Int.toNat x7))))
        (br ((ige x9 (llen x8)))
         (some (.ret,st_f10_0_ret false))
         (br (cIx x8 x9)
          (br (cIx x4 x10)
           (br ((eqWOk ((lgt tyBlkT x8 (Int.toNat x9)).1) ((lgt tyBlkT x4 (Int.toNat x10)).1)))
            (br ((!(eqW ((lgt tyBlkT x8 (Int.toNat x9)).1) ((lgt tyBlkT x4 (Int.toNat x10)).1))))
             (some (.ret,st_f10_0_ret false))
             (br (cIx x8 x9)
              (br (cIx x4 x10)
               (br ((okST (List.map Blk.un ((((lgt tyBlkT x8 (Int.toNat x9)).2).2).1)) (List.map Blk.un ((((lgt tyBlkT x4 (Int.toNat x10)).2).2).1))))
                (br ((!(smT (List.map Blk.un ((((lgt tyBlkT x8 (Int.toNat x9)).2).2).1)) (List.map Blk.un ((((lgt tyBlkT x4 (Int.toNat x10)).2).2).1)))))
                 (some (.ret,st_f10_0_ret false))
                 (some (.normal,st_f10_0 x4 x5 x6 x7 x8 (iadd .i64 x9 1) (iadd .i64 x10 1))))
                (none))
               (none))
              (none)))
            (none))
           (none))
          (none)))
        (some (.normal,st_f10_0 x4 x5 x6 x7 x8 x9 (iadd .i64 x10 1))))
       (none))
      (none))
     (none))
    (some (.normal,st_f10_0 x4 x5 x6 x7 x8 x9 (iadd .i64 x10 1))))
   (none))
  (some (.exit 2,st_f10_0_e2 x4 x5 x6 x7 x8 x9))
noncomputable def lp_f10_0 (x4:(List BlkT))(x5:(List ByteArray))(x6:Int)(x7:Int)(x8:(List BlkT))(x9:Int)(x10:Int):Option (Exit×VS):=loopF (roundF g_f10 fg_f10_0 tb_f10_0) (st_f10_0 x4 x5 x6 x7 x8 x9 x10)
noncomputable def n_f10_0 (x4:(List BlkT))(x5:(List ByteArray))(x6:Int)(x7:Int)(x8:(List BlkT))(x9:Int)(x10:Int):Option (Exit×VS):=
 br ((ilt x10 (llen x4)))
  (br (cIx x4 x10)
   (br ((igt (llen ((lgt tyBlkT x4 (Int.toNat x10)).1)) 0))
    (br (cIx x4 x10)
     (br (cIx ((lgt tyBlkT x4 (Int.toNat x10)).1) 0)
      (br (cIx x5 x7)
       (br ((seq (lgt .str ((lgt tyBlkT x4 (Int.toNat x10)).1) (Int.toNat 0)) (lgt .str x5 (Int.toNat x7))))
        (br ((ige x9 (llen x8)))
         (some (.ret,st_f10_0_ret false))
         (br (cIx x8 x9)
          (br (cIx x4 x10)
           (br ((eqWOk ((lgt tyBlkT x8 (Int.toNat x9)).1) ((lgt tyBlkT x4 (Int.toNat x10)).1)))
            (br ((!(eqW ((lgt tyBlkT x8 (Int.toNat x9)).1) ((lgt tyBlkT x4 (Int.toNat x10)).1))))
             (some (.ret,st_f10_0_ret false))
             (br (cIx x8 x9)
              (br (cIx x4 x10)
               (br ((okST (List.map Blk.un ((((lgt tyBlkT x8 (Int.toNat x9)).2).2).1)) (List.map Blk.un ((((lgt tyBlkT x4 (Int.toNat x10)).2).2).1))))
                (br ((!(smT (List.map Blk.un ((((lgt tyBlkT x8 (Int.toNat x9)).2).2).1)) (List.map Blk.un ((((lgt tyBlkT x4 (Int.toNat x10)).2).2).1)))))
                 (some (.ret,st_f10_0_ret false))
                 (lp_f10_0 x4 x5 x6 x7 x8 (iadd .i64 x9 1) (iadd .i64 x10 1)))
                (none))
               (none))
              (none)))
            (none))
           (none))
          (none)))
        (lp_f10_0 x4 x5 x6 x7 x8 x9 (iadd .i64 x10 1)))
       (none))
      (none))
     (none))
    (lp_f10_0 x4 x5 x6 x7 x8 x9 (iadd .i64 x10 1)))
   (none))
  (some (.exit 2,st_f10_0_e2 x4 x5 x6 x7 x8 x9))
def la_f10_0 (x4:(List BlkT))(x5:(List ByteArray))(x6:Int)(x7:Int)(x8:(List BlkT))(x9:Int)(x10:Int):Option (Exit×VS):=br (false) (some (.ret,st_f10_0_ret (false)))<|some (.exit 2,st_f10_0_e2 (x4) (x5) (x6) (x7) (x8) (llen x8))
theorem be_f10_0 (x4:(List BlkT))(x5:(List ByteArray))(x6:Int)(x7:Int)(x8:(List BlkT))(x9:Int)(x10:Int):roundF g_f10 fg_f10_0 tb_f10_0 (st_f10_0 x4 x5 x6 x7 x8 x9 x10)=b_f10_0 x4 x5 x6 x7 x8 x9 x10:=by kernel_rfl
theorem ln_f10_0 (x4:(List BlkT))(x5:(List ByteArray))(x6:Int)(x7:Int)(x8:(List BlkT))(x9:Int)(x10:Int):lp_f10_0 x4 x5 x6 x7 x8 x9 x10=n_f10_0 x4 x5 x6 x7 x8 x9 x10:=(loopF_nxt _ _).trans (by
 rw [be_f10_0]
 simp only [b_f10_0,n_f10_0,nxt_br,nxt_n,nxt_r,nxt_e,nxt_0]
 rfl)
def b_f10_1 (x4:(List BlkT))(x5:(List ByteArray))(x6:Int)(x7:Int):Option (Exit×VS):=
 br ((ilt x7 (llen x5)))
  (br (cIx x5 x7)
   (br ((fdOk x4 (lgt .str x5 (Int.toNat x7))))
    (br ((fi0 x4 x5 x7 (fdT x4 (lgt .str x5 (Int.toNat x7))) (0:Int) (0:Int)))
     (br ((false))
      (some (.ret,st_f10_1_ret (false)))
      (br ((ine (llen (fdT x4 (lgt .str x5 (Int.toNat x7)))) (llen ((fdT x4 (lgt .str x5 (Int.toNat x7)))))))
       (some (.ret,st_f10_1_ret false))
       (some (.normal,st_f10_1 (x4) (x5) ((iadd .i64 x6 (llen (fdT x4 (lgt .str x5 (Int.toNat x7)))))) (iadd .i64 (x7) 1)))))
     (none))
    (none))
   (none))
  (some (.exit 0,st_f10_1_e0 x4 x6))
noncomputable def lp_f10_1 (x4:(List BlkT))(x5:(List ByteArray))(x6:Int)(x7:Int):Option (Exit×VS):=loopF (roundF g_f10 fg_f10_1 tb_f10_1) (st_f10_1 x4 x5 x6 x7)
noncomputable def n_f10_1 (x4:(List BlkT))(x5:(List ByteArray))(x6:Int)(x7:Int):Option (Exit×VS):=
 br ((ilt x7 (llen x5)))
  (br (cIx x5 x7)
   (br ((fdOk x4 (lgt .str x5 (Int.toNat x7))))
    (br ((fi0 x4 x5 x7 (fdT x4 (lgt .str x5 (Int.toNat x7))) (0:Int) (0:Int)))
     (br ((false))
      (some (.ret,st_f10_1_ret (false)))
      (br ((ine (llen (fdT x4 (lgt .str x5 (Int.toNat x7)))) (llen ((fdT x4 (lgt .str x5 (Int.toNat x7)))))))
       (some (.ret,st_f10_1_ret false))
       (lp_f10_1 (x4) (x5) ((iadd .i64 x6 (llen (fdT x4 (lgt .str x5 (Int.toNat x7)))))) (iadd .i64 (x7) 1))))
     (none))
    (none))
   (none))
  (some (.exit 0,st_f10_1_e0 x4 x6))
def la_f10_1 (x4:(List BlkT))(x5:(List ByteArray))(x6:Int)(x7:Int):Option (Exit×VS):=br (false) (some (.ret,st_f10_1_ret (false)))<|some (.exit 0,st_f10_1_e0 (x4) (x6+(fwN x4 (x5.drop x7.toNat):Nat)))
theorem be_f10_1 (x4:(List BlkT))(x5:(List ByteArray))(x6:Int)(x7:Int):roundF g_f10 fg_f10_1 tb_f10_1 (st_f10_1 x4 x5 x6 x7)=b_f10_1 x4 x5 x6 x7:=by kernel_rfl
theorem ln_f10_1 (x4:(List BlkT))(x5:(List ByteArray))(x6:Int)(x7:Int):lp_f10_1 x4 x5 x6 x7=n_f10_1 x4 x5 x6 x7:=(loopF_nxt _ _).trans (by
 rw [be_f10_1]
 simp only [b_f10_1,n_f10_1,nxt_br,nxt_n,nxt_r,nxt_e,nxt_0]
 rfl)
def r_f10 (p0:(List Int)):Option (V×List VO):=
 br ((!(light p0)))
  (some (.t .bool awk7,[]))
  (br ((ls7Ok (roll p0) 2))
   (br ((fi1 (ls7F (roll p0) 2) ([(ByteArray.mk #[115,101,114,118,101,114]),(ByteArray.mk #[97]),(ByteArray.mk #[120,46,49]),(ByteArray.mk #[110,111,110,101])]) (0:Int) (0:Int)))
    (br ((false))
     (some (.t .bool (false),[]))
     (br ((ile ((0:Int)+(fwN (ls7F (roll p0) 2) (([(ByteArray.mk #[115,101,114,118,101,114]),(ByteArray.mk #[97]),(ByteArray.mk #[120,46,49]),(ByteArray.mk #[110,111,110,101])]).drop (0:Int).toNat):Nat)) (llen ((ls7F (roll p0) 2)))))
      (some (.t .bool awk7,[]))
      (some (.t .bool false,[]))))
    (none))
   (none))
theorem e_f10 (p0:(List Int)):runF g_f10 tc_f10 rv_f10 false [.t (.sl tI) p0] []=r_f10 p0:=by kernel_rfl
theorem ok_f10:Option.map (trC Tryd.prog) Tryd.f10.body=some tc_f10.er:=by kernel_rfl
theorem rok_f10:trVs Tryd.prog Tryd.f10.results.toList=some (rv_f10.map Prod.fst):=by kernel_rfl
theorem gk_f10:GOk Tryd.prog g_f10:=gok_of _ (by
 intro p hp
 simp only [List.mem_cons,List.not_mem_nil,or_false] at hp
 rcases hp with rfl|rfl|rfl|rfl|rfl|rfl|rfl
 ·exact ⟨en_f13,ms_f13⟩
 ·exact ⟨en_f15,ms_f15⟩
 ·exact ⟨en_f21,ms_f21⟩
 ·exact ⟨en_f31,ms_f31⟩
 ·exact ⟨en_f38,ms_f38⟩
 ·exact ⟨en_f40,ms_f40⟩
 ·exact ⟨en_f43,ms_f43⟩)
theorem l_f10_0 (x4:(List BlkT))(x5:(List ByteArray))(x6:Int)(x7:Int)(x8:(List BlkT))(x9:Int)(x10:Int)(h:(fi0 x4 x5 x7 x8 x9 x10)=true):lp_f10_0 x4 x5 x6 x7 x8 x9 x10=la_f10_0 x4 x5 x6 x7 x8 x9 x10:=by
 obtain ⟨h1,h2,h3,rfl,h5,h6,rfl⟩:=cP_of h
 clear h
 have hlen:=okT_len h1
 obtain ⟨i,rfl⟩:=Int.eq_ofNat_of_zero_le h2
 obtain ⟨m,rfl⟩:=Int.eq_ofNat_of_zero_le h5
 have ci:cIx x5 (i:Int)=true:=decide_eq_true (by omega)
 rw [Int.toNat_natCast,Int.toNat_natCast]
 generalize hw:lgt .str x5 i=w
 refine range_ind x4 (fun m=>lp_f10_0 x4 x5 x6 (i:Int) (fdT x4 w) (((x4.take m).filter (fdX w)).length:Int) (m:Int)=la_f10_0 x4 x5 x6 (i:Int) (fdT x4 w) (((x4.take m).filter (fdX w)).length:Int) (m:Int)) ?_ ?_ m (by omega)
 ·have e2:ilt (x4.length:Int) (llen x4)=false:=decide_eq_false (by simp only [llen];omega)
  rw [ln_f10_0]
  unfold n_f10_0 la_f10_0
  rw [e2,br_false,List.take_length]
  rfl
 ·intro m hm ih
  have e2:ilt (m:Int) (llen x4)=true:=decide_eq_true (by simp only [llen];omega)
  have cm:cIx x4 (m:Int)=true:=by rw [cIx_nat];exact decide_eq_true hm
  have hx:=(okT_p h1).2 _ (List.getElem_mem hm)
  have la: ∀ a b c d:Int,la_f10_0 x4 x5 x6 (i:Int) (fdT x4 w) a b=la_f10_0 x4 x5 x6 (i:Int) (fdT x4 w) c d:=fun _ _ _ _=>rfl
  have nx:fdX w x4[m]=false->lp_f10_0 x4 x5 x6 (i:Int) (fdT x4 w) (((x4.take m).filter (fdX w)).length:Int) ((m+1:Nat):Int)=la_f10_0 x4 x5 x6 (i:Int) (fdT x4 w) (((x4.take m).filter (fdX w)).length:Int) (m:Int):=fun hp=>by
   rw [←fd_no hm hp]
   exact ih.trans (la _ _ _ _)
  rw [ln_f10_0]
  unfold n_f10_0
  rw [e2,br_true,cm,br_true,br_true,br_true,br_true,ci,br_true,Int.toNat_natCast,Int.toNat_natCast,lgt_get (y:=tyBlkT) hm,hw,add1 (k:=m),ifz]
  cases he:x4[m].1 with
  |nil=>
   rw [List.isEmpty_nil,Bool.not_true,br_false]
   exact nx (by unfold fdX;rw [he];rfl)
  |cons s r=>
   have cx:cIx (s::r) 0=true:=decide_eq_true (by simp only [List.length_cons];omega)
   have hl:lgt .str (s::r) (Int.toNat 0)=s:=rfl
   rw [List.isEmpty_cons,Bool.not_false,br_true,cx,br_true,hl]
   have hpx:fdX w x4[m]=seq s w:=by unfold fdX;rw [he];rfl
   cases hs:seq s w with
   |false=>
    rw [br_false]
    exact nx (hpx.trans hs)
   |true=>
    rw [br_true]
    obtain ⟨f1,f2,f3⟩:=fd_one hm (hpx.trans hs)
    have e4:ige (((x4.take m).filter (fdX w)).length:Int) (llen (fdT x4 w))=false:=decide_eq_false (by simp only [llen];omega)
    have cf:cIx (fdT x4 w) (((x4.take m).filter (fdX w)).length:Int)=true:=by rw [cIx_nat];exact decide_eq_true f1
    have gf:lgt tyBlkT (fdT x4 w) ((x4.take m).filter (fdX w)).length=x4[m]:=by
     unfold lgt
     rw [List.getD_eq_getElem?_getD,f2]
     rfl
    rw [e4,br_false,cf]
    simp only [br_true]
    rw [Int.toNat_natCast,gf,he]
    have z1:eqWOk (s::r) (s::r)=true:=cP_in (by rw [←he];exact hx.1)
    have z2:eqW (s::r) (s::r)=true:=decide_eq_true rfl
    have z3:okST (x4[m].2.2.1.map Blk.un) (x4[m].2.2.1.map Blk.un)=true:=hx.2.2
    rw [z1,br_true,z2,Bool.not_true,br_false,z3,br_true,smT_refl,Bool.not_true,br_false,add1 (show ((x4.take m).filter (fdX w)).length<4611686018427387904 by have:=List.length_filter_le (fdX w) (x4.take m);have:=List.length_take_le m x4;omega), ← f3]
    exact ih.trans (la _ _ _ _)
theorem l_f10_1 (x4:(List BlkT))(x5:(List ByteArray))(x6:Int)(x7:Int)(h:(fi1 x4 x5 x6 x7)=true):lp_f10_1 x4 x5 x6 x7=la_f10_1 x4 x5 x6 x7:=by
 obtain ⟨h1,h2,h3,h4,h5,h6⟩:=cP_of h
 clear h
 have hlen:=okT_len h1
 obtain ⟨i,rfl⟩:=Int.eq_ofNat_of_zero_le h2
 refine range_ind x5 (fun i=> ∀ n:Int,0<=n->n+100000*((x5.length:Int)-i)<=10000000->lp_f10_1 x4 x5 n (i:Int)=la_f10_1 x4 x5 n (i:Int)) ?_ ?_ i (by omega) x6 h5 h6
 ·intro n _ _
  have e2:ilt (x5.length:Int) (llen x5)=false:=decide_eq_false (by simp only [llen];omega)
  rw [ln_f10_1]
  unfold n_f10_1 la_f10_1
  rw [e2,br_false,Int.toNat_natCast,List.drop_length]
  show _=some (_,st_f10_1_e0 x4 (n+((0:Nat):Int)))
  rw [show n+((0:Nat):Int)=n by omega]
 ·intro i hi ih n hn hn2
  have e2:ilt (i:Int) (llen x5)=true:=decide_eq_true (by simp only [llen];omega)
  have ci:cIx x5 (i:Int)=true:=by rw [cIx_nat];exact decide_eq_true hi
  have hf:=List.length_filter_le (fdX x5[i]) x4
  have hf:(fdT x4 x5[i]).length<=x4.length:=hf
  have c1:fi0 x4 x5 (i:Int) (fdT x4 x5[i]) 0 0=true:=cP_in ⟨h1,by omega,by omega,by rw [Int.toNat_natCast,lgt_get (y:= .str) hi],Int.le_refl _,by omega,by rw [Int.toNat_zero,List.take_zero];rfl⟩
  have e3:iadd .i64 n (llen (fdT x4 x5[i]))=n+((fdT x4 x5[i]).length:Int):=iadd_in (by simp only [llen];omega)
  rw [ln_f10_1]
  unfold n_f10_1
  rw [e2,br_true,ci,br_true,Int.toNat_natCast,lgt_get (y:= .str) hi,show fdOk x4 x5[i]=true from h1,br_true,c1,br_true,br_false,show ine (llen (fdT x4 x5[i])) (llen (fdT x4 x5[i]))=false by simp [ine],br_false,e3,add1 (k:=i),ih _ (by omega) (by omega)]
  unfold la_f10_1
  rw [Int.toNat_natCast,Int.toNat_natCast,List.drop_eq_getElem_cons hi]
  show some (_,st_f10_1_e0 x4 (n+((fdT x4 x5[i]).length:Int)+(fwN x4 (x5.drop (i+1)):Int)))=some (_,st_f10_1_e0 x4 (n+(((fdT x4 x5[i]).length+fwN x4 (x5.drop (i+1)):Nat):Int)))
  rw [show n+((fdT x4 x5[i]).length:Int)+(fwN x4 (x5.drop (i+1)):Int)=n+(((fdT x4 x5[i]).length+fwN x4 (x5.drop (i+1)):Nat):Int) by omega]
theorem lo_f10_0: ∀ S l p,g_f10.L 0 (fgt fg_f10_0 S)=some (true,l)->pickA l=some p->loopF (roundF g_f10 fg_f10_0 tb_f10_0) S=some p:=
 lok_of (s:=sh_f10_0) ⟨by decide,by decide⟩ (by kernel_rfl) fun x y hok p hp=>by
 simp only [pickA_br,pickA_one] at hp
 exact (l_f10_0 x.1 x.2.1 x.2.2.1 x.2.2.2.1 x.2.2.2.2.1 x.2.2.2.2.2.1 x.2.2.2.2.2.2.1 (by simpa using hok)).trans hp
theorem lo_f10_1: ∀ S l p,g_f10.L 1 (fgt fg_f10_1 S)=some (true,l)->pickA l=some p->loopF (roundF g_f10 fg_f10_1 tb_f10_1) S=some p:=
 lok_of (s:=sh_f10_1) ⟨by decide,by decide⟩ (by kernel_rfl) fun x y hok p hp=>by
 simp only [pickA_br,pickA_one] at hp
 exact (l_f10_1 x.1 x.2.1 x.2.2.1 x.2.2.2.1 (by simpa using hok)).trans hp
theorem lk_f10:tc_f10.lok g_f10:=by
 repeat (first|exact trivial|exact lo_f10_0|exact lo_f10_1|refine ⟨?_, ?_⟩)
theorem s_f10 (p0:List Int):r_f10 p0=some (.t .bool (fndT p0),[]):=by
 unfold r_f10
 refine br_intro (fun _=>rfl) (fun k1=> ?_)
 have k1:light p0=true:=by simpa using k1
 have hd:=dOk_roll k1
 have hk:okT (ls7F (roll p0) 2)=true:=ls_okT (n:=2) hd (by decide)
 have hl:=okT_len hk
 refine brY (Bool.and_eq_true_iff.2 ⟨hd,cP_in ⟨by decide,by decide⟩⟩) ?_
 generalize ls7F (roll p0) 2=l at hk hl ⊢
 refine brY (cP_in ⟨hk,by decide,by decide,by decide,by decide,by decide⟩) ?_
 rw [br_false]
 have hs:=fw_sum l
 have e:ile (0+(fwN l (fws.drop (Int.toNat 0)):Nat)) (llen l)=true:=decide_eq_true (by
  show (0:Int)+(fwN l fws:Nat)<=llen l
  simp only [llen]
  omega)
 refine brY e ?_
 rfl
def sp_f10:Ent:=spec (.pr (.sl tI) .nil) (fun x=>true) (fun x=>(.t .bool (fndT x.1)))
theorem ms_f10:Meets Tryd.prog 10 (strip sp_f10):=by
 obtain ⟨c,hc,hi⟩:=Option.map_eq_some_iff.1 ok_f10
 exact meets_spec (R:=runF g_f10 tc_f10 rv_f10 false) (meets_of (by decide) Tryd.func10 hc hi Tryd.ntmps10 rok_f10 gk_f10 lk_f10 mixed) fun x _=>(e_f10 x.1).trans (s_f10 x.1)
theorem walkBlocksFind (z0:(List Int))(W:World)(v0:Value)(c0:C noX W (fun _=> .no) (V.t (.sl tI) z0).d v0)(w0:Ty.wf (.sl tI) z0):
  Calls Tryd.prog 10 #[v0] W fun r w'=>r= .returned (.bool true)/\Below W.heap.size W w':=
 calls_true (by decide) ms_f10 (args:=[.t (.sl tI) z0]) (strip_spec (x:=(z0,())) rfl (rfl)) (by simp only [V.ds,Cs];exact ⟨_,_,rfl,c0,rfl⟩)
end
end Go.Proofs.YtkkoedniahnneaaDoor.K
