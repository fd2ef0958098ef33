import Derived.Test.YtmjnnemhoeolgaaGreatQ10
set_option linter.unusedSimpArgs false
set_option linter.unusedVariables false
noncomputable section
namespace Go.Proofs.YtmjnnemhoeolgaaGreat.K
open Go.RowKit
noncomputable section
def Ze (i:Identity):Bool:=i.1==Jy||i.1==ecV
theorem QQm (d:Dice)(e:Estate)(hd:dOk d=true):QZ (Z0 d e)=anK d e:=Qnl (P:=fun p=>QZ p.1=anK d e) d e rfl (fun _ _ _ _ _=>rfl) hd
theorem QCn {d:Dice}{e:Estate}(hd:dOk d=true)(h:QZ (Z0 d e)=5):Ze (Zn (Z0 d e))=true:=by
 rw [QQm d e hd] at h
 have e5:Z0 d e=(Qkv d e).1:=by
  unfold Z0 Ez QcZ
  rw [h]
  rfl
 rw [e5]
 have k1:=JO (d:=Qe (anD d e) (anU (anX d e))) (n:=2) (by decide)
 show (lgt Qd QcY (Int.toNat (Qj (Qe (anD d e) (anU (anX d e))) 2))==Jy||lgt Qd QcY (Int.toNat (Qj (Qe (anD d e) (anU (anX d e))) 2))==ecV)=true
 generalize Qj (Qe (anD d e) (anU (anX d e))) 2=v1 at k1
 rcases (show v1=0∨v1=1 by omega) with rfl|rfl<;>decide
def Qgt (e0 e:Endpoint):Prop:=QN e=true/\e.1=e0.1/\(Qp e).all Ze=true
theorem Wf {P:Endpoint->Prop}{b:Bool}{x y:Endpoint}(hx:b=true->P x)(hy:P y):P (bif b then x else y):=by
 cases b with
 |true=>exact hx rfl
 |false=>exact hy
theorem Qgu {l:List Identity}(h:l.all Ze=true)(a b:Int):(lsl l a b).all Ze=true:=by
 rw [Bf] at h ⊢
 exact fun x hx=>h x (DU (Du hx))
theorem QQn {e0 e:Endpoint}{c:Change}(h:Qgt e0 e)(hc:QZ c=5->Ze (Zn c)=true)(hv:QN (Yb e c)=true):Qgt e0 (Yb e c):=by
 obtain ⟨_,g1,g2⟩:=h
 refine ⟨hv, ?_⟩
 have same: ∀ x:Endpoint,x.1=e.1->Qp x=Qp e->x.1=e0.1/\(Qp x).all Ze=true:=fun x h1 h2=>⟨h1.trans g1,by rw [h2];exact g2⟩
 unfold Yb
 refine Wf (P:=fun x=>x.1=e0.1/\(Qp x).all Ze=true) (fun _=>same _ rfl rfl) (Wf (P:=fun x=>x.1=e0.1/\(Qp x).all Ze=true) (fun _=>same _ rfl rfl) (Wf (P:=fun x=>x.1=e0.1/\(Qp x).all Ze=true) (fun _=>same _ rfl rfl) (Wf (P:=fun x=>x.1=e0.1/\(Qp x).all Ze=true) (fun _=>same _ rfl rfl) (Wf (P:=fun x=>x.1=e0.1/\(Qp x).all Ze=true) (fun h5=>⟨g1, ?_⟩) (Wf (P:=fun x=>x.1=e0.1/\(Qp x).all Ze=true) (fun _=>⟨g1, ?_⟩) (Wf (P:=fun x=>x.1=e0.1/\(Qp x).all Ze=true) (fun _=>same _ rfl rfl) (Wf (P:=fun x=>x.1=e0.1/\(Qp x).all Ze=true) (fun _=>same _ rfl rfl) (Wf (P:=fun x=>x.1=e0.1/\(Qp x).all Ze=true) (fun _=>same _ rfl rfl) (Wf (P:=fun x=>x.1=e0.1/\(Qp x).all Ze=true) (fun _=>same _ rfl rfl) (Wf (P:=fun x=>x.1=e0.1/\(Qp x).all Ze=true) (fun _=>same _ rfl rfl) (Wf (P:=fun x=>x.1=e0.1/\(Qp x).all Ze=true) (fun _=>same _ rfl rfl) (same _ rfl rfl))))))))))))
 ·show (adI e c).all Ze=true
  unfold adI
  rw [DI,DI,BP,Qgu g2,Qgu g2]
  simp only [BW,Dy,hc (Y4 h5),BZ]
 ·show (drI e c).all Ze=true
  unfold drI
  rw [DI,BP,Qgu g2,Qgu g2]
  rfl
def Z5 (d:Dice)(n:Nat)(x:Estate):Prop:=YI n x=true/\x.2=(QD d).2/\(Qt x).length=(Qt (QD d)).length∧ ∀ j,j<(Qt (QD d)).length->Qgt (Jb (Qt (QD d)) j) (Jb (Qt x) j)
theorem QQo {e:Endpoint}(h:GL e):(Qp e).all Ze=true:=by
 obtain ⟨d,k,s,rfl,hs,_⟩:=h
 rfl
theorem QCo (d:Dice):Z5 d 1000 (QD d):=⟨Quy d,rfl,rfl,fun j hj=>⟨Qqw (Qe7 d hj),rfl,QQo (Qe7 d hj)⟩⟩
theorem Qgv {d:Dice}{n m:Nat}{x:Estate}(h:Z5 d n x)(hn:n<=m):Z5 d m x:=⟨QmL h.1 hn,h.2⟩
theorem QCp {d:Dice}{n:Nat}{x:Estate}{c:Change}(h:Z5 d n x)(hn:n<=80000)(hk:QZ c=5->Ze (Zn c)=true)(hi:Jo (Zn c)=true)(hz:(ZI x c).2=0):Z5 d (n+1) (ZI x c).1:=by
 obtain ⟨g1,g2,g3,g4⟩:=h
 obtain ⟨i,i1,i2,_,i4,i5,i6⟩:=apy_of hz
 refine ⟨?_, ?_, ?_,fun j hj=> ?_⟩
 ·rw [i6]
  exact QMF g1 hn hi
 ·rw [i5]
  exact g2
 ·rw [i5]
  show ((Qt x).set i _).length=_
  rw [List.length_set]
  exact g3
 ·rw [i5]
  show Qgt _ (((Qt x).set i _).getD j zEp)
  rw [Bk,List.getElem?_set]
  by_cases hij:i=j
  ·subst hij
   rw [if_pos rfl,if_pos i1]
   exact QQn (g4 i hj) hk i4
  ·rw [if_neg hij]
   have:=g4 j hj
   rw [Jb,Jb,Bk,Bk] at this
   rw [Jb,Bk]
   exact this
def XE:Nat->Estate->Estate->Dice->Estate×Dice
 |0,_,x,d=>(x,d)
 |n+1,e,x,d=>bif ieq (ZI x (Z0 d e)).2 0 then XE n e (ZI x (Z0 d e)).1 (Uq d e) else XE n e x (Uq d e)
theorem QCq {d w:Dice}{n:Nat}{x:Estate}(h:Z5 d n x)(hn:n<=80000)(hw:dOk w=true):Gh w (QD d)=true/\UA x (Z0 w (QD d))=true/\Jo (Zn (Z0 w (QD d)))=true:=by
 obtain ⟨h1,h2⟩:=QN6 (QN2 d) (by decide) hw
 have hi:=(Bg.1 h2).2
 exact ⟨h1,Bg.2 ⟨QmL h.1 hn,hi⟩,hi⟩
theorem QoM {d:Dice}: ∀ (m:Nat) {n:Nat} {x:Estate} {w:Dice},Z5 d n x->n+m<=80000->dOk w=true->Z5 d (n+m) (XE m (QD d) x w).1/\dOk (XE m (QD d) x w).2=true
 |0,_,_,_,h,_,hw=>⟨h,hw⟩
 |m+1,n,x,w,h,hn,hw=>by
  have hw2:dOk (Uq w (QD d))=true:=Qz5 hw
  have he:n+(m+1)=n+1+m:=by omega
  rw [he]
  unfold XE
  cases h2:ieq (ZI x (Z0 w (QD d))).2 0 with
  |false=>exact QoM m (Qgv h (Nat.le_succ n)) (by omega) hw2
  |true=>
   have h2:(ZI x (Z0 w (QD d))).2=0:=by simpa [ZV] using h2
   exact QoM m (QCp h (by omega) (QCn hw) (QCq h (by omega) hw).2.2 h2) (by omega) hw2
open Classical in
def QoN (n:Nat)(e x:Estate):Bool:= @decide (∃ d,e=QD d/\Z5 d n x) (Classical.propDecidable _)
theorem QQp {n:Nat}{d:Dice}{x:Estate}(h:Z5 d n x):QoN n (QD d) x=true:= @Be _ (Classical.propDecidable _) ⟨d,rfl,h⟩
theorem QQq {n:Nat}{e x:Estate}(h:QoN n e x=true): ∃ d,e=QD d/\Z5 d n x:= @Bx _ (Classical.propDecidable _) h
def Qgw (k:Int)(e x:Estate)(w:Dice):Bool:=dOk w&&(decide (0<=k/\k<=4)&&QoN (1004-k.toNat) e x)
def Gx (d:Dice):Estate×Estate:=(QD d,(XE (Qj (Y2 d) 4).toNat (QD d) (QD d) (Qe (Y2 d) 4)).1)
def IK (d:Dice):Dice:=(XE (Qj (Y2 d) 4).toNat (QD d) (QD d) (Qe (Y2 d) 4)).2
theorem QCr: ∀ (n:Nat) (d:Dice),dOk d=true->dOk (itZ n d).2=true
 |0,_,h=>h
 |n+1,d,h=>QCr n _ (QzN (s:=Xg d sIt) (QpA h))
theorem QCs {d:Dice}(hd:dOk d=true):dOk (Y2 d)=true:=QCr _ _ (QW (Qpz (JF d).length (JF d).length 0 [] _ (Qpy (JF d) 0 (Qe d 2) (QW (n:=2) hd)) (BX _)).1)
theorem QQr {d:Dice}(hd:dOk d=true):Z5 d 2000 (Gx d).2/\dOk (IK d)=true:=by
 have hn:=QCs hd
 have hv:=JO (d:=Y2 d) (n:=4) (by decide)
 obtain ⟨z1,z2⟩:=QoM (Qj (Y2 d) 4).toNat (QCo d) (by omega) (QW (n:=4) hn)
 exact ⟨Qgv z1 (by omega),z2⟩
abbrev Qgx:Sh:=⟨[(0,.ptr 50000 0),(2,.ptr 2 0),(3,.ptr 3 0),(4,.ptr 4 0),(5,.ptr 5 0),(6,.ty tI)],[(2,.box Qx),(3,.box Qx),(4,.box Qx),(5,.box Qx),(50000,.box QK)]⟩
abbrev QCt:Sh:=⟨[(2,.ptr 2 0),(3,.ptr 3 0),(4,.ptr 4 0),(5,.ptr 5 0)],[(2,.box Qx),(3,.box Qx),(4,.box Qx),(5,.box Qx),(50000,.box QK)]⟩
def QoO:Fg:=Qgx.f
def QCu:TC:=aF Tryz.f10 [(122,pL 0 QoO),(1955,.fg QCt.f),(3912,pD [(0,[5]),(1,[50000]),(2,[4]),(3,[22,5022,10022,15022,50000]),(4,[]),(5,[]),(6,[]),(7,[]),(8,[7,5007,10007,15007]),(9,[7]),(10,[])] (.one 0 (.one 1 (.one 2 (.alt 3 (.of [4,5,6,7,8,9,10]) (.of [8,3,4,5,6,7,9,10])))))),(62,pD [(0,[4]),(1,[5]),(2,[2]),(3,[3])] (.of [0,1,2,3]))]
def QCv:TC:=lb 0 QCu
def QCw (x6:Int)(y2 y3 y4 y5:Estate)(Qc:Dice):VS:=Qgx.st ((),(),(),(),(),x6,()) (y2,y3,y4,y5,Qc,())
def QoP (y2 y3 y4 y5:Estate)(Qc:Dice):VS:=QCt.st ((),(),(),(),()) (y2,y3,y4,y5,Qc,())
def QQs:VS->Option (Bool×List (Bool×Exit×VS)):=mkL Qgx (fun x y=>(Qgw x.2.2.2.2.2.1 y.2.2.1 y.2.2.2.1 y.2.2.2.2.1)) (fun x y=>[(true,.exit 0,QoP (y.1) (y.2.1) (y.2.2.1) ((XE x.2.2.2.2.2.1.toNat y.2.2.1 y.2.2.2.1 y.2.2.2.2.1).1) ((XE x.2.2.2.2.2.1.toNat y.2.2.1 y.2.2.2.1 y.2.2.2.2.1).2))])
def QoQ:G:=gG 31 [(20,QDO),(21,Quq),(22,U7),(23,Qu2)] (Ls [QQs])
def QoR (x6:Int)(y2 y3 y4 y5:Estate)(Qc:Dice):OX:=Qr (Qv QoQ QoO QCv) (QCw x6 y2 y3 y4 y5 Qc)
def IM (kk:Int->Estate->Estate->Estate->Estate->Dice->OX)(x6:Int)(y2 y3 y4 y5:Estate)(Qc:Dice):OX:=
 let a1:=Z0 Qc y4
 br (Gh Qc y4) (br (UA y5 a1) (br (ieq ((ZI y5 a1).2) 0) (kk (QY .i64 x6 1) y2 y3 y4 ((ZI y5 a1).1) (Uq Qc y4)) (kk (QY .i64 x6 1) y2 y3 y4 y5 (Uq Qc y4))) none) none
def IN (kk:Int->Estate->Estate->Estate->Estate->Dice->OX)(x6:Int)(y2 y3 y4 y5:Estate)(Qc:Dice):OX:=br (igt x6 0) (frk (IM kk x6 y2 y3 y4 y5 Qc) (IM kk x6 y2 y3 y4 y5 Qc)) (some (.exit 0,QoP y2 y3 y4 y5 Qc))
def Qgy (x6:Int)(y2 y3 y4 y5:Estate)(Qc:Dice):OX:=
 let a1:=XE x6.toNat y4 y5 Qc
 some (.exit 0,QoP (y2) (y3) (y4) (a1.1) (a1.2))
theorem QCx (x6:Int)(y2 y3 y4 y5:Estate)(Qc:Dice):QoR x6 y2 y3 y4 y5 Qc=IN QoR x6 y2 y3 y4 y5 Qc:=lnT (x:=IN (fun x6 y2 y3 y4 y5 Qc=>some (.normal,QCw x6 y2 y3 y4 y5 Qc)) x6 y2 y3 y4 y5 Qc) (by
 first
 |(simp only [Yk,IN,IM,Yk,Gf,G3,G4,G5,G6]
   rfl)
 |(simp only [Yk,IN,IM,Yk]
   try generalize ((UA y5 (Z0 Qc y4)))=cq0
   try generalize ((Gh Qc y4))=cq1
   simp only [brN,Yk,Bool.and_assoc,Bool.and_comm,Bool.and_left_comm,BZ,Bool.and_self_left,Gf,G3,G4,G5,G6]
   try rfl))
def r_f10 (d0:Dice):OV:=
 let a1:=XE (Qj (Y2 d0) 4).toNat (QD d0) (QD d0) (Qe (Y2 d0) 4)
 br (dOk d0) (br (Q2 (Y2 d0) 4) (br (Qgw (Qj (Y2 d0) 4) (QD d0) (QD d0) (Qe (Y2 d0) 4)) (some (.tu [(.t Qx (QD d0)),(.t Qx (a1.1))],[.box (.t QK (a1.2))])) none) none) none
theorem QQt (x6:Int)(y2 y3 y4 y5:Estate)(Qc:Dice)(h:(Qgw x6 y4 y5 Qc)=true):QoR x6 y2 y3 y4 y5 Qc=Qgy x6 y2 y3 y4 y5 Qc:=by
 simp only [Qgw,Bb,Ba] at h
 obtain ⟨hw,⟨h0,h1⟩,hb⟩:=h
 obtain ⟨d,rfl,hd⟩:=QQq hb
 clear hb
 obtain ⟨m,hm⟩: ∃ m:Nat,x6.toNat=m:=⟨_,rfl⟩
 induction m generalizing x6 y5 Qc with
 |zero=>
  have:igt x6 0=false:=Bl (by omega)
  rw [QCx]
  simp only [IN,IM,Yk,Qgy,this,Qf,hm,XE]
 |succ m ih=>
  have e0:igt x6 0=true:=Be (by omega)
  have e1:QY .i64 x6 1=x6-1:=Yc (by omega)
  obtain ⟨a1,a2,a3⟩:=QCq hd (by omega) hw
  have hw2:=Qz5 (e:=QD d) hw
  have hn:1004-(x6-1).toNat=1004-x6.toNat+1:=by omega
  have e6:(x6-1).toNat=m:=by omega
  have i1:=ih (x6:=x6-1) (y5:=y5) (Qc:=Uq Qc (QD d)) hw2 (by omega) (by omega) (by rw [hn];exact Qgv hd (Nat.le_succ _)) e6
  rw [QCx]
  simp only [IN,IM,Yk,e0,e1,a1,a2,Qb,i1,Yk]
  simp only [Qgy,hm,e6,XE]
  cases hz:ieq (ZI y5 (Z0 Qc (QD d))).2 0 with
  |false=>simp only [Qf,BM]
  |true=>
   have hz2:(ZI y5 (Z0 Qc (QD d))).2=0:=by simpa [ZV] using hz
   rw [Qb,ih (x6:=x6-1) (y5:=(ZI y5 (Z0 Qc (QD d))).1) (Qc:=Uq Qc (QD d)) hw2 (by omega) (by omega) (by rw [hn];exact QCp hd (by omega) (QCn hw) a3 hz2) e6]
   simp only [Qgy,e6,B2]
theorem QQu:LO QoQ QoO QCv 0:=QH (s:=Qgx) fun x y h _ q=>by simp only [QE,QF] at q;exact (QQt x.2.2.2.2.2.1 y.1 y.2.1 y.2.2.1 y.2.2.2.1 y.2.2.2.2.1 h).trans q
theorem s_f10 (d:Dice)(h:dOk d=true):r_f10 d=some (.tu [.t Qx (Gx d).1,.t Qx (Gx d).2],[.box (.t QK (IK d))]):=by
 have hn:=QCs h
 have hv:=JO (d:=Y2 d) (n:=4) (by decide)
 unfold r_f10
 refine brY h (brY (Fl hn (by decide)) (brY ?_ rfl))
 exact Bg.2 ⟨QW hn,Bg.2 ⟨Be (by omega),QQp (Qgv (QCo d) (by omega))⟩⟩
def QCy:Ent:=Wn QK .nil (fun d x=>(dOk d)) (fun d x=>(.tu [(.t Qx ((Gx d).1)),(.t Qx ((Gx d).2))])) (fun d x=>(IK d))
theorem ms_f10:EM 10 QCy:=mS (lk:=lkL (lkc QQu lkn)) QoQ QCu [((.c 2 true 3),some Qx),((.c 3 true 3),some Qx)] false (gB (gD ms_f20 (gD ms_f21 (gD GT (gD ms_f23 gN))))) fun m=>Um m rfl fun d x hok=>kT (s_f10 d hok)
end
end Go.Proofs.YtmjnnemhoeolgaaGreat.K
noncomputable section
namespace Go.Proofs.YtmjnnemhoeolgaaGreat.K.PE
open Go.RowKit
noncomputable section
theorem Qgm {d:Dice}{n:Nat}{x:Estate}(h:Z5 d n x)(hn:n<=80000):J0 x=true/\JN x=true:=by
 obtain ⟨g1,g2⟩:=Qbk d
 obtain ⟨b1,b2,b3,b4⟩:=h
 have hp:=Ud g1
 constructor
 ·have h1:Ua (Qt x) 0=true:=by
   have h0:=hp.1
   unfold Ua YP at h0 ⊢
   rw [b3]
   rw [Bf] at h0 ⊢
   intro j hj
   have:=h0 j hj
   have hj2:j<(Qt (QD d)).length:=by
    rw [List.mem_range'] at hj
    obtain ⟨a,ha,rfl⟩:=hj
    omega
   unfold Qa3 at this ⊢
   simp only [Bb] at this ⊢
   rw [(b4 j hj2).2.1,(b4 (j-1) (by omega)).2.1]
   exact ⟨(b4 j hj2).1,this.2⟩
  have e1:Q9 x=Q9 (QD d):=congrArg (fun p=>p.1) b2
  have e2:ZB x=ZB (QD d):=congrArg (fun p=>p.2.1) b2
  have e3:Qa (Qt x)=Qa (Qt (QD d)):=by simp only [Qa,b3]
  unfold J0 at g1 ⊢
  rw [h1,e1,e2,e3]
  simp only [Bb] at g1 ⊢
  exact ⟨trivial,g1.2⟩
 ·exact (Qlw b1 (by omega)).1
def usT (c:Int)(k:Keep):List Keep:=
 [bif ieq (QB c).1.2.2.1.2.1 0 then ((QB c).1.2.2.1.1,(k.2.1,())) else (QB c).1.2.2.1,k,(QB c).1.2.2.2.2.1,(QB c).1.2.2.2.2.2.1]
theorem us_tab:((List.range' 1 16).all fun c=>[Jy,ecV].all fun k=> !(ieq (QB (c:Nat)).1.2.2.2.1.1 0||ieq k.1 (QB (c:Nat)).1.2.2.2.1.1)||(usT (c:Nat) k).all Jq)=true:=by kernel_rfl
theorem QP9 {c:Int}{k:Keep}(h1:1<=c/\c<=16)(hk:k=Jy∨k=ecV)(hs:(ieq (QB c).1.2.2.2.1.1 0||ieq k.1 (QB c).1.2.2.2.1.1)=true):(usT c k).all Jq=true:=by
 have h:=Bf.1 us_tab c.toNat (by rw [Dw];omega)
 have e:((c.toNat:Nat):Int)=c:=by omega
 rw [e] at h
 have hm:k∈[Jy,ecV]:=by rcases hk with rfl|rfl<;>simp
 have h:=Bf.1 h k hm
 rw [hs] at h
 exact h
theorem QQa {s:Endpoint}{o:Keep}(hv:QN s=true)(hk:(Qp s).all Ze=true)(hs:ieq (QB o.2.1).2 0=true)(hi:(Jp s o.2.1).2=true):(Q5 s o).2=0/\(Q5 s o).1.all Jq=true:=by
 have h1:=Qer hs
 have e1:Q5 s o=(EZ s o.2.1,0):=by
  unfold Q5
  rw [hv,hi,show ine (QB o.2.1).2 0=false by rw [Ig,hs];rfl]
  rfl
 rw [e1]
 refine ⟨rfl, ?_⟩
 unfold Jp at hi
 rw [show ine (QB o.2.1).2 0=false by rw [Ig,hs];rfl] at hi
 have hi:ige (XZ (Qp s) (QB o.2.1).1) 0=true:=hi
 have e2:Jp s o.2.1=(XZ (Qp s) (QB o.2.1).1,ige (XZ (Qp s) (QB o.2.1).1) 0):=by
  unfold Jp
  rw [show ine (QB o.2.1).2 0=false by rw [Ig,hs];rfl]
  rfl
 show (EZ s o.2.1).all Jq=true
 unfold EZ
 rw [e2]
 unfold XZ at hi ⊢
 cases hq:Qs (fun x=>Zb x (QB o.2.1).1) (Qp s) with
 |none=>
  rw [hq] at hi
  exact absurd hi (by decide)
 |some k=>
  obtain ⟨hk1,hk2⟩:=E4 hq
  have e3:lgt QV (Qp s) ((k:Nat):Int).toNat=(Qp s)[k]:=by
   rw [Bc]
   exact QL (y:=QV) hk1
  show (usT o.2.1 (lgt QV (Qp s) ((k:Nat):Int).toNat).1).all Jq=true
  rw [e3]
  have hkey:(Qp s)[k].1=Jy∨(Qp s)[k].1=ecV:=by
   have:=Bf.1 hk _ (Bw hk1)
   unfold Ze at this
   rcases Bool.or_eq_true_iff.1 this with h|h
   ·exact .inl (eq_of_beq h)
   ·exact .inr (eq_of_beq h)
  exact QP9 h1 hkey hk2
theorem QQb {y:Policy}{u:Keep}{d:Int}(hp:YU y=true)(hu:Jq u=true)(h0:0<=d)(h1:d<=40000):ine (Jt y u 1 d).2.2 0=false:=by
 have:Yt y u 1 d=0:=by
  unfold Yt
  rw [if_neg (by rw [hp];decide),if_neg (by rw [hu];decide),if_neg (by omega)]
 unfold Jt
 rw [if_pos this]
 rfl
theorem QB9 {y:Policy}{d:Int}(hp:YU y=true)(h0:0<=d)(h1:d<=40000): ∀ (l:List Keep) (b:Bool),l.all Jq=true->(Zj y d l b).2=0
 | [],_,_=>rfl
 |u::r,b,h=>by
  rw [BW,Bb] at h
  unfold Zj
  rw [QQb hp h.1 h0 h1,BM]
  exact QB9 hp h0 h1 r _ h.2
theorem QQc {y:Policy}{l:List Exception}{w:Dice}{s c:Endpoint}{o:Keep}{d:Int}(hp:YU y=true)(h0:0<=d)(h1:d<=40000)(hv:QN s=true)(hk:(Qp s).all Ze=true)(ho:o∈Z4 c s):(ZO y l w s o d).2=0:=by
 have hpos:=(QFO ho).1
 have hi:=Qwq hpos
 have hs:ieq (QB o.2.1).2 0=true:=by
  unfold JL at hpos
  exact (Bg.1 hpos).1
 obtain ⟨e1,e2⟩:=QQa hv hk hs hi
 unfold ZO
 rw [e1]
 exact QB9 hp h0 h1 _ _ e2
theorem QoA {f:Int->Bool}(j:Int): ∀ (k:Nat) (i:Int),QR (JR f k i) j=(decide (i<=j/\j<i+k)&&f j)
 |0,i=>by
  rw [Bl (by omega)]
  rfl
 |k+1,i=>by
  have ih:=QoA (f:=f) j k (i+1)
  have hc: ∀ (a:Int) (m:List Int) (x:Int),QR (a::m) x=(ieq x a||QR m x):=fun a m x=>by
   unfold QR
   rw [List.contains_cons]
  unfold JR
  by_cases hj:j=i
  ·subst hj
   have e1:decide (j+1<=j/\j<j+1+(k:Int))=false:=Bl (by omega)
   have e2:decide (j<=j/\j<j+((k+1:Nat):Int))=true:=Be (by omega)
   rw [e1,DH] at ih
   rw [e2,BA]
   cases hf:f j with
   |true=>rw [B2,hc,ZV,Be rfl,Bool.true_or]
   |false=>rw [BM,ih]
  ·have e1:decide (i+1<=j/\j<i+1+(k:Int))=decide (i<=j/\j<i+((k+1:Nat):Int)):=decide_eq_decide.2 ⟨fun h=>by omega,fun h=>by omega⟩
   rw [e1] at ih
   cases hf:f i with
   |true=>rw [B2,hc,ZV,Bl hj,Da,ih]
   |false=>rw [BM,ih]
theorem QoB (f:Int->Bool): ∀ (m:Nat) (i:Int),(JR f m i).length<=m
 |0,_=>BL 0
 |m+1,i=>by
  have:=QoB f m (i+1)
  unfold JR
  cases f i with
  |true=>simp only [B2,Bv];omega
  |false=>simp only [BM];omega
theorem QCa {l:List Endpoint}{k:Nat}(hk:k<l.length):lgt Qo l k=Jb l k:=by
 rw [QL (y:=Qo) hk]
 simp only [Jb,Bk,Bh hk,BH]
theorem QQd {c s:Endpoint}{y:Policy}{d:Int}(hc:QN c=true)(hs:QN s=true)(hk:(Qp s).all Ze=true)(hp:YU y=true)(h0:0<=d)(h1:d<=40000)(hl:XJ c s=true)(hpl:J4 y=true)(hn: ∀ o∈Z4 c s,(ZO y zL zO s o d).1=false):I9 c s y zL zO d 512=true/\GK c s y zL zO d 512=([],0):=by
 constructor
 ·unfold I9
  rw [hl,hpl]
  refine Bf.2 fun x hx=> ?_
  unfold QhS
  rw [QQc hp h0 h1 hs hk (QFa x hx)]
  rfl
 ·have h2:(Z9 c s d 512).2=0:=by
   unfold Z9
   rw [hc,hs,show ilt d 0=false from Bl (by omega),show igt d 40000=false from Bl (by omega)]
   rfl
  unfold GK
  rw [h2]
  show ((Z9 c s d 512).1.filter (U1 y zL zO s d),(0:Int))=([],0)
  have:(Z9 c s d 512).1.filter (U1 y zL zO s d)=[]:=by
   rw [List.filter_eq_nil_iff]
   intro x hx
   unfold U1
   rw [hn _ (QFa x hx)]
   exact Bool.false_ne_true
  rw [this]
open Classical in
def QoC (a b:Estate)(p:Policy):Bool:= @decide (∃ d w,a=QD d/\Z5 d 2000 b/\p=wkV w) (Classical.propDecidable _)
theorem QQe {d w:Dice}{x:Estate}(h:Z5 d 2000 x):QoC (QD d) x (wkV w)=true:= @Be _ (Classical.propDecidable _) ⟨d,w,rfl,h,rfl⟩
theorem QQf {a b:Estate}{p:Policy}(h:QoC a b p=true): ∃ d w,a=QD d/\Z5 d 2000 b/\p=wkV w:= @Bx _ (Classical.propDecidable _) h
theorem wk_pol (w:Dice):YU (wkV w)=true:=by
 have:=QdQ w
 unfold ZM at this
 by_cases h:YU (wkV w)=true
 ·exact h
 ·rw [if_neg h] at this
  exact absurd this (by decide)
theorem QCb {d:Dice}{x:Estate}(h:Z5 d 2000 x):Yv (QD d) x=0:=by
 unfold Yv
 rw [(Qbk d).1,(Qgm h (by decide)).1,QAF.2 (show (QD d).2.1=x.2.1 from (congrArg (fun p=>p.1) h.2.1).symm)]
 rfl
theorem QCc {d w:Dice}{x:Estate}{n:Int}(h:Z5 d 2000 x)(h0:0<=n)(h1:n<=120):WU x (wkV w) zL zO n=(JR (clB (rl (wkV w) zL zO n) x) x.2.1.length 0,0):=by
 unfold WU
 rw [(Qgm h (by decide)).1,Qlx (QdQ w) h0 (by omega)]
 rfl
theorem QCd {d w:Dice}{x:Estate}{n:Int}(h:Z5 d 2000 x)(h0:0<=n)(h1:n<=120):WT (QD d) x (wkV w) zL zO n=(JR (stB (rl (wkV w) zL zO n) (QD d) x) x.2.1.length 0,0):=by
 unfold WT
 rw [QCb h,Qlx (QdQ w) h0 (by omega),show (QD d).2.1=x.2.1 from (congrArg (fun p=>p.1) h.2.1).symm]
 rfl
def pc1 (n:Int)(cl bd:List Int)(es:List Keep)(k i:Int)(a b:Estate)(p:Policy):Bool:=
 QoC a b p&&(decide (0<=n/\n<=120)&&(es==b.2.1&&(QA es k i&&(cl==(WU b p zL zO n).1&&bd==(WT a b p zL zO n).1))))
def pc0 (bd:List Int)(i:Int)(fr:List Keep)(l:List Keep)(n j:Int):Bool:=QA l n j&&(decide (fr.length<=1000/\bd.length<=1000)&&l.all fun o=> !Yh fr o||QR bd i)
def pcL (_:List Int)(_:Int):Bool:=true
abbrev Qgn:Sh:=⟨[(6,.ptr 6 0),(7,.ptr 7 0),(8,.ptr 8 0),(9,.ty tI),(10,.ty (.sl tI)),(12,.ty (.sl tI)),(14,.ty tI),(15,.ptr 15 0),(18,.ty (.sl Qd)),(63,.ty (.sl Qd)),(64,.ty tI),(65,.ty tI),(101,.ty (.sl Qd)),(102,.ty tI),(103,.ty tI)],[(6,.box Qx),(7,.box Qx),(8,.box Jz),(15,.box Qd)]⟩
abbrev Qgo:Sh:=⟨[(4,.ty .bool)],[]⟩
abbrev QCe:Sh:=⟨[(6,.ptr 6 0),(7,.ptr 7 0),(8,.ptr 8 0),(9,.ty tI),(10,.ty (.sl tI)),(12,.ty (.sl tI)),(14,.ty tI),(15,.ptr 15 0),(63,.ty (.sl Qd)),(64,.ty tI),(65,.ty tI)],[(6,.box Qx),(7,.box Qx),(8,.box Jz),(15,.box Qd)]⟩
abbrev Qgp:Sh:=⟨[(6,.ptr 6 0),(7,.ptr 7 0),(8,.ptr 8 0),(9,.ty tI),(10,.ty (.sl tI)),(12,.ty (.sl tI)),(63,.ty (.sl Qd)),(64,.ty tI),(65,.ty tI)],[(6,.box Qx),(7,.box Qx),(8,.box Jz)]⟩
abbrev QCf:Sh:=⟨[],[]⟩
def QoD:Fg:=Qgn.f
def QoE:Fg:=Qgp.f
def Qar:TC:=aF Tryz.f3 [(8186,pL 1 QoE),(130981,.fg QCf.f),(33531509,.fg Qgo.f),(33531514,pL 0 QoD),(536504229,.fg QCe.f),(17168135373,.fg Qgo.f),(67063036,pD [(0,[7]),(1,[7]),(2,[15]),(3,[15]),(4,[]),(5,[]),(6,[7]),(7,[7]),(8,[15]),(9,[15]),(10,[]),(11,[]),(12,[8]),(13,[]),(14,[]),(15,[]),(16,[]),(17,[]),(18,[]),(19,[]),(20,[])] (.of [0,1,2,3,4,5,6,7,8,9,10,11,12,13,14,15,16,17,18,19,20])),(536504301,.fg Qgo.f)]
def QCg:TC:=lb 0 Qar
def QCh:TC:=lb 1 Qar
def rv_f3:List (RV×Option Ty):=[((.t 4),some .bool)]
def QCi (x9:Int)(x10 x12:List Int)(x14:Int)(x18 x63:List Keep)(x64 x65:Int)(x101:List Keep)(x102 x103:Int)(y6 y7:Estate)(y8:Policy)(y15:Keep):VS:=Qgn.st ((),(),(),x9,x10,x12,x14,(),x18,x63,x64,x65,x101,x102,x103,()) (y6,y7,y8,y15,())
def Wz (x4:Bool):VS:=Qgo.st (x4,()) ()
def QoF (x9:Int)(x10 x12:List Int)(x14:Int)(x63:List Keep)(x64 x65:Int)(y6 y7:Estate)(y8:Policy)(y15:Keep):VS:=QCe.st ((),(),(),x9,x10,x12,x14,(),x63,x64,x65,()) (y6,y7,y8,y15,())
def QCj (x9:Int)(x10 x12:List Int)(x63:List Keep)(x64 x65:Int)(y6 y7:Estate)(y8:Policy):VS:=Qgp.st ((),(),(),x9,x10,x12,x63,x64,x65,()) (y6,y7,y8,())
def QoG  : VS:=QCf.st () ()
def L_f3_0:VS->Option (Bool×List (Bool×Exit×VS)):=mkL Qgn (fun x y=>(pc0 x.2.2.2.2.2.1 x.2.2.2.2.2.2.1 x.2.2.2.2.2.2.2.2.1 x.2.2.2.2.2.2.2.2.2.2.2.2.1 x.2.2.2.2.2.2.2.2.2.2.2.2.2.1 x.2.2.2.2.2.2.2.2.2.2.2.2.2.2.1)) (fun x y=>[((false),.ret,Wz (false)),(true,.exit 2,QoF (x.2.2.2.1) (x.2.2.2.2.1) (x.2.2.2.2.2.1) (x.2.2.2.2.2.2.1) (x.2.2.2.2.2.2.2.2.2.1) (x.2.2.2.2.2.2.2.2.2.2.1) (x.2.2.2.2.2.2.2.2.2.2.2.1) (y.1) (y.2.1) (y.2.2.1) (y.2.2.2.1))])
def L_f3_1:VS->Option (Bool×List (Bool×Exit×VS)):=mkL Qgp (fun x y=>(pc1 x.2.2.2.1 x.2.2.2.2.1 x.2.2.2.2.2.1 x.2.2.2.2.2.2.1 x.2.2.2.2.2.2.2.1 x.2.2.2.2.2.2.2.2.1 y.1 y.2.1 y.2.2.1)) (fun x y=>[((false),.ret,Wz (false)),(true,.exit 0,QoG)])
def Gw:G:=gG 148 [(7,sp_f7),(8,sp_f8),(9,sp_f9),(10,QCy),(11,QwE),(12,QiJ),(13,Qmj),(14,Qmd),(15,QnZ),(16,QxN),(17,Qz0),(18,Qux),(19,QFh)] (Ls [L_f3_0,L_f3_1])
def Qgq (x9:Int)(x10 x12:List Int)(x14:Int)(x18 x63:List Keep)(x64 x65:Int)(x101:List Keep)(x102 x103:Int)(y6 y7:Estate)(y8:Policy)(y15:Keep):OX:=Qr (Qv Gw QoD QCg) (QCi x9 x10 x12 x14 x18 x63 x64 x65 x101 x102 x103 y6 y7 y8 y15)
def Qas (kk:Int->List Int->List Int->Int->List Keep->List Keep->Int->Int->List Keep->Int->Int->Estate->Estate->Policy->Keep->OX)(x9:Int)(x10 x12:List Int)(x14:Int)(x18 x63:List Keep)(x64 x65:Int)(x101:List Keep)(x102 x103:Int)(y6 y7:Estate)(y8:Policy)(y15:Keep):OX:=
 let a1:=lgt Qd x101 (Int.toNat x103)
 br (ilt x103 x102) (br (cIx x101 x103) (br (WS x18 a1) (br (Yh x18 a1) (br (Jc x12 x14) (br (!(QR x12 x14)) (some (.ret,Wz false)) (kk x9 x10 x12 x14 x18 x63 x64 x65 x101 x102 (Qg .i64 x103 1) y6 y7 y8 y15)) none) (kk x9 x10 x12 x14 x18 x63 x64 x65 x101 x102 (Qg .i64 x103 1) y6 y7 y8 y15)) none) none) (some (.exit 2,QoF x9 x10 x12 x14 x63 x64 x65 y6 y7 y8 y15))
def Qgr (x9:Int)(x10 x12:List Int)(x14:Int)(x18 x63:List Keep)(x64 x65:Int)(x101:List Keep)(x102 x103:Int)(y6 y7:Estate)(y8:Policy)(y15:Keep):OX:=br (false) (some (.ret,Wz (false)))<|some (.exit 2,QoF (x9) (x10) (x12) (x14) (x63) (x64) (x65) (y6) (y7) (y8) (y15))
theorem QCk (x9:Int)(x10 x12:List Int)(x14:Int)(x18 x63:List Keep)(x64 x65:Int)(x101:List Keep)(x102 x103:Int)(y6 y7:Estate)(y8:Policy)(y15:Keep):Qgq x9 x10 x12 x14 x18 x63 x64 x65 x101 x102 x103 y6 y7 y8 y15=Qas Qgq x9 x10 x12 x14 x18 x63 x64 x65 x101 x102 x103 y6 y7 y8 y15:=lnT (x:=Qas (fun x9 x10 x12 x14 x18 x63 x64 x65 x101 x102 x103 y6 y7 y8 y15=>some (.normal,QCi x9 x10 x12 x14 x18 x63 x64 x65 x101 x102 x103 y6 y7 y8 y15)) x9 x10 x12 x14 x18 x63 x64 x65 x101 x102 x103 y6 y7 y8 y15) (by simp only [Qas,nxA];rfl)
def Qgs (x9:Int)(x10 x12:List Int)(x63:List Keep)(x64 x65:Int)(y6 y7:Estate)(y8:Policy):OX:=Qr (Qv Gw QoE QCh) (QCj x9 x10 x12 x63 x64 x65 y6 y7 y8)
def Qat (kk:Int->List Int->List Int->List Keep->Int->Int->Estate->Estate->Policy->OX)(x9:Int)(x10 x12:List Int)(x63:List Keep)(x64 x65:Int)(y6 y7:Estate)(y8:Policy):OX:=
 let a3:=lgt Qd x63 (Int.toNat x65)
 let a1:=(GK (lgt Qo ((y7).1) (Int.toNat (a3.1))) (lgt Qo ((y7).1) (Int.toNat ((a3.2).1))) (y8) ([]:List Exception) (([]:List Int),(0,())) (x9) 512)
 let a2:=(UN y7 y8 ([]:List Exception) (([]:List Int),(0,())) x65 x9)
 br (ilt x65 x64) (br (cIx x63 x65) (br (V4 y7 y8 ([]:List Exception) (([]:List Int),(0,())) x65 x9) (br (Qeo y6 y7 x65) (br (ine (a2.2) 0) (some (.ret,Wz false)) (br (ine ((UE y6 y7 x65).2) 0) (some (.ret,Wz false)) (br (Jc x10 x65) (br (Gg (QR x10 x65) (ieq (Qa (a2.1)) 0)) (some (.ret,Wz false)) (br (pc0 x12 x65 ((UE y6 y7 x65).1) (a2.1) (Qa (a2.1)) (0:Int)) (br (false) (some (.ret,Wz (false))) (br (Jc (x10) (x65)) (br (QR (x10) (x65)) (br (cIx ((y7).1) (a3.1)) (br (cIx ((y7).1) ((a3.2).1)) (br (I9 (lgt Qo ((y7).1) (Int.toNat (a3.1))) (lgt Qo ((y7).1) (Int.toNat ((a3.2).1))) (y8) ([]:List Exception) (([]:List Int),(0,())) (x9) 512) (br (ine (a1.2) 0) (some (.ret,Wz false)) (br (ine (Qa (a1.1)) 0) (some (.ret,Wz false)) (kk (x9) (x10) (x12) (x63) (x64) (Qg .i64 (x65) 1) (y6) (y7) (y8)))) none) none) none) (kk (x9) (x10) (x12) (x63) (x64) (Qg .i64 (x65) 1) (y6) (y7) (y8))) none)) none)) none))) none) none) none) (some (.exit 0,QoG))
def QoH (x9:Int)(x10 x12:List Int)(x63:List Keep)(x64 x65:Int)(y6 y7:Estate)(y8:Policy):OX:=br (false) (some (.ret,Wz (false)))<|some (.exit 0,QoG)
theorem QCl (x9:Int)(x10 x12:List Int)(x63:List Keep)(x64 x65:Int)(y6 y7:Estate)(y8:Policy):Qgs x9 x10 x12 x63 x64 x65 y6 y7 y8=Qat Qgs x9 x10 x12 x63 x64 x65 y6 y7 y8:=lnT (x:=Qat (fun x9 x10 x12 x63 x64 x65 y6 y7 y8=>some (.normal,QCj x9 x10 x12 x63 x64 x65 y6 y7 y8)) x9 x10 x12 x63 x64 x65 y6 y7 y8) (by simp only [Qat,nxA];rfl)
def QoI (p0:List Int)(p1:Int):OV:=
 let a1:=Gx (Uf p0)
 let a2:=wkV (IK (Uf p0))
 let a3:=(WT (a1.1) (a1.2) a2 ([]:List Exception) (([]:List Int),(0,())) (YB p1 120))
 let a4:=(WU (a1.2) a2 ([]:List Exception) (([]:List Int),(0,())) (YB p1 120))
 br (!(GS p0)) (some (.t .bool QdR,[])) (br (dOk (Uf p0)) (br (dOk (IK (Uf p0))) (br (F6 p1 120) (br (Vu (a1.2) a2 ([]:List Exception) (([]:List Int),(0,())) (YB p1 120)) (br (Vs (a1.1) (a1.2) a2 ([]:List Exception) (([]:List Int),(0,())) (YB p1 120)) (br (ine (a4.2) 0) (some (.t .bool false,[])) (br (ine (a3.2) 0) (some (.t .bool false,[])) (br (pc1 (YB p1 120) (a4.1) (a3.1) (((a1.2).2).1) (Qa (((a1.2).2).1)) (0:Int) (a1.1) (a1.2) a2) (br (false) (some (.t .bool (false),[])) (some (.t .bool QdR,[]))) none))) none) none) none) none) none)
theorem e_f3 (p0:List Int)(p1:Int):J2 Gw Qar rv_f3 false [.t (.sl tI) p0,.t tI p1] []=QoI p0 p1:=by kernel_rfl
theorem gk_f3:GOk Tryz.prog Gw:=ZX _ (gA (gD ms_f7 (gD ms_f8 (gD ms_f9 (gD ms_f10 (gD ms_f11 (gD QrW (gD QxZ (gD QxT (gD QAT (gD ms_f16 (gD ms_f17 (gD ms_f18 (gD ms_f19 gN))))))))))))))
theorem l_f3_0 (x9:Int)(x10 x12:List Int)(x14:Int)(x18 x63:List Keep)(x64 x65:Int)(x101:List Keep)(x102 x103:Int)(y6 y7:Estate)(y8:Policy)(y15:Keep)(h:(pc0 x12 x14 x18 x101 x102 x103)=true):Qgq x9 x10 x12 x14 x18 x63 x64 x65 x101 x102 x103 y6 y7 y8 y15=Qgr x9 x10 x12 x14 x18 x63 x64 x65 x101 x102 x103 y6 y7 y8 y15:=by
 simp only [pc0,Bb,Ba] at h
 obtain ⟨h,⟨g1,g2⟩,g3⟩:=h
 obtain ⟨rfl,h3,k,rfl,hk⟩:=JB h
 clear h
 refine QP x101 (fun k=>Qgq x9 x10 x12 x14 x18 x63 x64 x65 x101 (x101.length:Int) (k:Int) y6 y7 y8 y15=Qgr x9 x10 x12 x14 x18 x63 x64 x65 x101 (x101.length:Int) (k:Int) y6 y7 y8 y15) ?_ ?_ k hk
 ·rw [QCk]
  simp only [Qas,Qgr,Qz,BT,B0,Qf]
 ·intro k hk ih
  rw [QCk]
  have e1: ∀ o,WS x18 o=true:=fun _=>Be (by omega)
  have e2:Jc x12 x14=true:=Be (by omega)
  have e3:=Bf.1 g3 _ (Bw hk)
  simp only [Qas,Qz,QJ,hk,Bt,Qb,Bc,QO (show k<4611686018427387904 by omega),QL (y:=Qd) hk,e1,e2,ih]
  simp only [Qgr,Qf]
  cases hq:Yh x18 x101[k] with
  |false=>rw [Qf]
  |true=>
   rw [hq] at e3
   have e3:QR x12 x14=true:=e3
   rw [Qb,e3,BC,Qf]
theorem l_f3_1 (x9:Int)(x10 x12:List Int)(x63:List Keep)(x64 x65:Int)(y6 y7:Estate)(y8:Policy)(h:(pc1 x9 x10 x12 x63 x64 x65 y6 y7 y8)=true):Qgs x9 x10 x12 x63 x64 x65 y6 y7 y8=QoH x9 x10 x12 x63 x64 x65 y6 y7 y8:=by
 simp only [pc1,Bb,Dc,Ba] at h
 obtain ⟨hb,⟨n0,n1⟩,rfl,h,rfl,rfl⟩:=h
 obtain ⟨d,w,rfl,hd,rfl⟩:=QQf hb
 clear hb
 obtain ⟨rfl,h3,k,rfl,hk⟩:=JB h
 clear h
 rw [QCc hd n0 n1,QCd hd n0 n1]
 obtain ⟨o1,l1⟩:=Qbk d
 obtain ⟨o2,l2⟩:=Qgm hd (by decide)
 have hbot:=QCb hd
 have hle:y7.2.1.length<=40:=(Ud o2).2.2.2.2.2
 have hes:(QD d).2.1=y7.2.1:=(congrArg (fun p=>p.1) hd.2.1).symm
 have hrl:=Qlx (QdQ w) n0 (show x9<=40000 by omega)
 refine QP y7.2.1 (fun k=>Qgs x9 (JR (clB (rl (wkV w) zL zO x9) y7) y7.2.1.length 0) (JR (stB (rl (wkV w) zL zO x9) (QD d) y7) y7.2.1.length 0) y7.2.1 (y7.2.1.length:Int) (k:Int) (QD d) y7 (wkV w)=QoH x9 (JR (clB (rl (wkV w) zL zO x9) y7) y7.2.1.length 0) (JR (stB (rl (wkV w) zL zO x9) (QD d) y7) y7.2.1.length 0) y7.2.1 (y7.2.1.length:Int) (k:Int) (QD d) y7 (wkV w)) ?_ ?_ k hk
 ·rw [QCl]
  simp only [Qat,QoH,Qz,BT,B0,Qf]
 ·intro k hk ih
  have i0:ilt (k:Int) 0=false:=Bl (by omega)
  have i1:ige (k:Int) (Qa y7.2.1)=false:=Bl (by simp only [Qa];omega)
  have i2:ige (k:Int) (Qa (QD d).2.1)=false:=by rw [hes];exact i1
  have e4:UE (QD d) y7 (k:Int)=(YG (QD d) y7 (k:Int),0):=by
   unfold UE
   rw [hbot,i0,i2]
   rfl
  have e5:UN y7 (wkV w) zL zO (k:Int) x9=(ZQ (rl (wkV w) zL zO x9) y7 (k:Int),0):=by
   unfold UN
   rw [o2,hrl,i0,i1]
   rfl
  have q1:V4 y7 (wkV w) zL zO (k:Int) x9=true:=Bg.2 ⟨l2,rfl⟩
  have q2:Qeo (QD d) y7 (k:Int)=true:=Bg.2 ⟨l1,l2⟩
  have c1:=QoB (clB (rl (wkV w) zL zO x9) y7) y7.2.1.length 0
  have c2:=QoB (stB (rl (wkV w) zL zO x9) (QD d) y7) y7.2.1.length 0
  have b1:QR (JR (clB (rl (wkV w) zL zO x9) y7) y7.2.1.length 0) (k:Int)=clB (rl (wkV w) zL zO x9) y7 (k:Int):=by
   rw [QoA,Be (by omega),BA]
  have b2:QR (JR (stB (rl (wkV w) zL zO x9) (QD d) y7) y7.2.1.length 0) (k:Int)=stB (rl (wkV w) zL zO x9) (QD d) y7 (k:Int):=by
   rw [QoA,Be (by omega),BA]
  have q3:Jc (JR (clB (rl (wkV w) zL zO x9) y7) y7.2.1.length 0) (k:Int)=true:=Be (by omega)
  have ho:=QAN (rl (wkV w) zL zO x9) y7 (k:Int)
  have he:=QvE (QD d) y7 (k:Int)
  have q4:pc0 (JR (stB (rl (wkV w) zL zO x9) (QD d) y7) y7.2.1.length 0) (k:Int) (YG (QD d) y7 (k:Int)) (ZQ (rl (wkV w) zL zO x9) y7 (k:Int)) (Qa (ZQ (rl (wkV w) zL zO x9) y7 (k:Int))) 0=true:=by
   unfold pc0
   rw [JC (by omega),Be ⟨by omega,by omega⟩,BA,BA,b2]
   refine Bf.2 fun o hx=> ?_
   cases hq:Yh (YG (QD d) y7 (k:Int)) o with
   |false=>rfl
   |true=>
    have hm:o∈YG (QD d) y7 (k:Int):=by
     obtain ⟨z,z1,z2⟩:=DF.1 hq
     rw [eq_of_beq z2]
     exact z1
    show stB _ _ _ _=true
    unfold stB E6
    refine DF.2 ⟨o,hm, ?_⟩
    unfold inO Yh
    exact DF.2 ⟨o,hx,beq_self_eq_true _⟩
  have q5:Gg (clB (rl (wkV w) zL zO x9) y7 (k:Int)) (ieq (Qa (ZQ (rl (wkV w) zL zO x9) y7 (k:Int))) 0)=false:=by
   unfold clB
   cases ieq (Qa (ZQ (rl (wkV w) zL zO x9) y7 (k:Int))) 0<;>rfl
  rw [QCl]
  unfold Qat
  rw [e4,e5,show Qg .i64 (k:Int) 1=((k+1:Nat):Int) from QO (by omega),ih]
  refine brY (by rw [Qz];exact Be hk) (brY (by rw [QJ];exact Be hk) (brY q1 (brY q2 (brX rfl (brX rfl (brY q3 (brX (by rw [b1];exact q5) (brY q4 ?_))))))))
  rw [Qf]
  refine brY q3 ?_
  rw [b1]
  cases hcl:clB (rl (wkV w) zL zO x9) y7 (k:Int) with
  |false=>rfl
  |true=>
   rw [Qb]
   have hE:lgt Qd y7.2.1 (Int.toNat (k:Int))=JS (Q9 y7) k:=by
    rw [Bc,QL (y:=Qd) hk]
    show y7.2.1[k]=(y7.2.1).getD k _
    simp only [Bk,Bh hk,BH]
   obtain ⟨⟨a0,a1⟩,⟨b0,b1⟩,hne⟩:=QqA o2 (k:=k) hk
   have hA:(JS (Q9 y7) k).1.toNat<(Qt y7).length:=by omega
   have hB:(JS (Q9 y7) k).2.1.toNat<(Qt y7).length:=by omega
   have eA:lgt Qo y7.1 (JS (Q9 y7) k).1.toNat=Jb (Qt y7) (JS (Q9 y7) k).1.toNat:=QCa hA
   have eB:lgt Qo y7.1 (JS (Q9 y7) k).2.1.toNat=Jb (Qt y7) (JS (Q9 y7) k).2.1.toNat:=QCa hB
   have tA:=hd.2.2.2 (JS (Q9 y7) k).1.toNat (by rw [←hd.2.2.1];exact hA)
   have tB:=hd.2.2.2 (JS (Q9 y7) k).2.1.toNat (by rw [←hd.2.2.1];exact hB)
   have sA:=QdP (Fh hd.1).1 hA
   have sB:=QdP (Fh hd.1).1 hB
   have hpc:Jh y7 (k:Int)=(Z4 (Jb (Qt y7) (JS (Q9 y7) k).1.toNat) (Jb (Qt y7) (JS (Q9 y7) k).2.1.toNat),Jb (Qt y7) (JS (Q9 y7) k).2.1.toNat):=by
    unfold Jh Uc
    rw [Bc]
   have hcl2:ZQ (rl (wkV w) zL zO x9) y7 (k:Int)=[]:=by
    unfold clB at hcl
    have:((ZQ (rl (wkV w) zL zO x9) y7 (k:Int)).length:Int)=0:=by simpa [ZV,Qa] using hcl
    exact BD (by omega)
   unfold ZQ at hcl2
   rw [hpc,List.filter_eq_nil_iff] at hcl2
   rw [hE,eA,eB]
   generalize Jb (Qt y7) (JS (Q9 y7) k).1.toNat=c at tA sA hcl2 ⊢
   generalize Jb (Qt y7) (JS (Q9 y7) k).2.1.toNat=s at tB sB hcl2 ⊢
   have hrg:XJ c s=true:=Bg.2 ⟨EA sA (by decide),Bg.2 ⟨EA sB (by decide),Be (Qc4 sA).2.1.1⟩⟩
   obtain ⟨r1,r2⟩:=QQd (y:=wkV w) (d:=x9) tA.1 tB.1 tB.2.2 (wk_pol w) n0 (by omega) hrg rfl (fun o ho=>by
    have h:=hcl2 o ho
    have h: ¬ (ZO (wkV w) zL zO s o x9).1=true:=h
    simpa using h)
   rw [r2]
   exact brY (Be ⟨by omega,by omega⟩) (brY (Be ⟨by omega,by omega⟩) (brY r1 (brX rfl (brX rfl rfl))))
theorem QQg:LO Gw QoD QCg 0:=QH (s:=Qgn) fun x y h _ q=>by simp only [QE,QF] at q;exact (l_f3_0 x.2.2.2.1 x.2.2.2.2.1 x.2.2.2.2.2.1 x.2.2.2.2.2.2.1 x.2.2.2.2.2.2.2.2.1 x.2.2.2.2.2.2.2.2.2.1 x.2.2.2.2.2.2.2.2.2.2.1 x.2.2.2.2.2.2.2.2.2.2.2.1 x.2.2.2.2.2.2.2.2.2.2.2.2.1 x.2.2.2.2.2.2.2.2.2.2.2.2.2.1 x.2.2.2.2.2.2.2.2.2.2.2.2.2.2.1 y.1 y.2.1 y.2.2.1 y.2.2.2.1 h).trans q
theorem QQh:LO Gw QoE QCh 1:=QH (s:=Qgp) fun x y h _ q=>by simp only [QE,QF] at q;exact (l_f3_1 x.2.2.2.1 x.2.2.2.2.1 x.2.2.2.2.2.1 x.2.2.2.2.2.2.1 x.2.2.2.2.2.2.2.1 x.2.2.2.2.2.2.2.2.1 y.1 y.2.1 y.2.2.1 h).trans q
theorem lk_f3:Qar.lok Gw:=by
 repeat (first|exact trivial|exact QQg|exact QQh|refine ⟨?_, ?_⟩)
theorem s_f3 (p0:List Int)(a:Int):QoI p0 a=some (.t .bool (pcL p0 a),[]):=by
 unfold QoI
 refine QX (fun _=>rfl) (fun k1=> ?_)
 have k1:GS p0=true:=by simpa using k1
 have hd:=QGn k1
 generalize Uf p0=d at hd ⊢
 obtain ⟨t1,t2⟩:=QQr hd
 have hv1:(Gx d).1=QD d:=rfl
 rw [hv1]
 generalize (Gx d).2=x at t1 ⊢
 generalize IK d=w at t2 ⊢
 have hm:0<=YB a 120/\YB a 120<120:=by
  unfold YB
  rw [if_neg (by decide)]
  omega
 generalize hn:YB a 120=n at hm ⊢
 obtain ⟨o1,l1⟩:=Qbk d
 obtain ⟨o2,l2⟩:=Qgm t1 (by decide)
 have hle:x.2.1.length<=40:=(Ud o2).2.2.2.2.2
 refine brY hd (brY t2 (brY rfl (brY (show Vu x (wkV w) zL zO n=true from Bg.2 ⟨l2,rfl⟩) (brY (show Vs (QD d) x (wkV w) zL zO n=true from Bg.2 ⟨Bg.2 ⟨l1,l2⟩,rfl⟩) (brX ?_ (brX ?_ (brY ?_ ?_)))))))
 ·rw [QCc t1 hm.1 (by omega)]
  rfl
 ·rw [QCd t1 hm.1 (by omega)]
  rfl
 ·unfold pc1
  rw [QQe t1,Be (show 0<=n/\n<=120 by omega),beq_self_eq_true,beq_self_eq_true,beq_self_eq_true]
  rw [JC (show x.2.1.length<=100000 by omega)]
  rfl
 ·rfl
def sp_f3:Ent:=Qi (.pr (.sl tI) (.pr tI .nil)) (fun x=>true) (fun x=>(.t .bool (pcL x.1 x.2.1)))
theorem ms_f3:QI Tryz.prog 3 (QG sp_f3):=Qm (R:=J2 Gw Qar rv_f3 false) (mG Tryz.func3 (by kernel_rfl) Tryz.ntmps3 (by kernel_rfl) gk_f3 lk_f3) fun x _=>(e_f3 x.1 x.2.1).trans (s_f3 x.1 x.2.1)
end
end Go.Proofs.YtmjnnemhoeolgaaGreat.K.PE
namespace Go.Proofs.YtmjnnemhoeolgaaGreat.K
open Go.RowKit PE
theorem walkPolicyClean (z0:(List Int))(z1:Int)(W:World)(v0:Value)(v1:Value)(c0:C noX W (fun _=> .no) (V.t (.sl tI) z0).d v0)(c1:C noX W (fun _=> .no) (V.t tI z1).d v1)(w0:Ty.wf (.sl tI) z0)(w1:Ty.wf tI z1):
  Calls Tryz.prog 3 #[v0,v1] W fun r w'=>r= .returned (.bool true)/\Below W.heap.size W w':=
 QIL (by decide) ms_f3 (args:=[.t (.sl tI) z0,.t tI z1]) (QcW (x:=(z0,z1,())) rfl (rfl)) (by simp only [V.ds,Cs];exact ⟨_,_,rfl,c0,_,_,rfl,c1,rfl⟩)
end Go.Proofs.YtmjnnemhoeolgaaGreat.K
