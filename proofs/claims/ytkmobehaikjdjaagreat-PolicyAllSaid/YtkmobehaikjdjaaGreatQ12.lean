import Derived.Test.YtkmobehaikjdjaaGreatQ11
import Derived.Test.YtkmobehaikjdjaaGreatQ7
import Derived.Test.YtkmobehaikjdjaaGreatQ8
import Derived.Test.YtkmobehaikjdjaaGreatQ9
import Derived.Test.YtkmobehaikjdjaaGreatQ4
import Derived.KernelRfl
set_option maxRecDepth 100000
set_option linter.unusedSimpArgs false
set_option linter.unusedVariables false
noncomputable section
namespace Go.Proofs.YtkmobehaikjdjaaGreat
open Go.RowKit
namespace K
theorem Xj {P:Am×Ab->Prop}{b:Bool}{x y:Am×Ab}(hx:P x)(hy:P y):P (bif b then x else y):=by
 cases b with
 |true=>exact hx
 |false=>exact hy
theorem QLb {P:Am×Ab->Prop}(d:Ab)(e:Ad)(h5:P (any5 d e))(h: ∀ n a w,dOk d=true->dOk w=true->P (anI d e n a GR,w))(hd:dOk d=true):P (QcL d e):=by
 have d2:dOk (anD d e)=true:=Qz (Qz hd)
 have d3: ∀ n,dOk (Qc (anD d e) n)=true:=fun n=>Qz d2
 have d4: ∀ n m,dOk (Qc (Qc (anD d e) n) m)=true:=fun n m=>Qz (d3 n)
 have d5: ∀ n m k,dOk (Qc (Qc (Qc (anD d e) n) m) k)=true:=fun n m k=>Qz (d4 n m)
 unfold QcL QsD QsC QsB Qsz QsA any1
 refine Xj (h _ _ _ hd (d4 _ _)) (Xj (Xj (Xj (h _ _ _ hd (d5 _ _ _)) (h _ _ _ hd (d4 _ _))) (h _ _ _ hd (d3 _))) (Xj (h _ _ _ hd (d3 _)) (Xj (h _ _ _ hd (d3 _)) (Xj h5 (Xj (Xj (Xj (h _ _ _ hd (d5 _ _ _)) (h _ _ _ hd (d4 _ _))) (h _ _ _ hd (d3 _))) (Xj (h _ _ _ hd (d3 _)) (Xj (h _ _ _ hd (d3 _)) (Xj (h _ _ _ hd (d3 _)) (Xj (h _ _ _ hd (d3 _)) (Xj (h _ _ _ hd (d3 _)) (Xj (h _ _ _ hd (d3 _)) (h _ _ _ hd d2))))))))))))
theorem QLc {d:Ab}{e:Ad}(hd:dOk d=true):dOk (GW d e)=true:=
 QLb (P:=fun p=>dOk p.2=true) d e (Qz (n:=2) (Qz (n:=3) (Qz (n:=2) (Qz (n:=anU (anX d e)) (Qz (Qz hd)))))) (fun _ _ _ _ h=>h) hd
theorem Q0m:(Xa.all fun s=>[ecV,Zo].all fun k=>[200,201,202].all fun i=>[1,2].all fun a=>Jn (YM s k i a 901))=true:=by kernel_rfl
theorem any_id {d:Ab}{e:Ad}(hd:dOk d=true)(hl:0<(QT e).length)(hs: ∀ x∈QT e,x.1∈Xa):Jn (ZV (WX d e))=true:=by
 refine QLb (P:=fun p=>Jn (ZV p.1)=true) d e ?_ (fun _ _ _ _ _=>rfl) hd
 have hL:anL e=((QT e).length:Int):=rfl
 have hv:=Q8 (d:=d) (n:=anL e) (by omega)
 have hi:(Int.toNat (Qg d (anL e)))<(QT e).length:=by omega
 have hX:(anX d e).1∈Xa:=by
  rw [show anX d e=(QT e)[Int.toNat (Qg d (anL e))] from QN (y:=Qp) hi]
  exact hs _ (BC hi)
 show Jn (YM (anX d e).1 _ _ _ 901)=true
 generalize (anX d e).1=nm at hX
 have k1:=Q8 (d:=Qc (anD d e) (anU (anX d e))) (n:=2) (by decide)
 have k2:=Q8 (d:=Qc (Qc (anD d e) (anU (anX d e))) 2) (n:=3) (by decide)
 have k3:=Q8 (d:=Qc (Qc (Qc (anD d e) (anU (anX d e))) 2) 3) (n:=2) (by decide)
 generalize Qg (Qc (anD d e) (anU (anX d e))) 2=v1 at k1
 generalize Qg (Qc (Qc (anD d e) (anU (anX d e))) 2) 3=v2 at k2
 generalize Qg (Qc (Qc (Qc (anD d e) (anU (anX d e))) 2) 3) 2=v3 at k3
 have h:=Bi.1 Q0m nm hX
 have g1:lgt Qe QH7 (Int.toNat v1)∈[ecV,Zo]:=by
  rcases (show v1=0∨v1=1 by omega) with rfl|rfl
  ·exact Df
  ·exact B8 _ Df
 have g2:Qi .i64 200 v2∈[(200:Int),201,202]:=by
  rcases (show v2=0∨v2=1∨v2=2 by omega) with rfl|rfl|rfl<;>decide
 have g3:Qi .i64 1 v3∈[(1:Int),2]:=by
  rcases (show v3=0∨v3=1 by omega) with rfl|rfl<;>decide
 exact Bi.1 (Bi.1 (Bi.1 h _ g1) _ g2) _ g3
theorem QLd {e:Ac}(h:QbB e):e.1∈Xa:=by
 obtain ⟨d,k,s,rfl,hs,_⟩:=h
 exact hs
theorem Q0n:(Xa.all nm1)=true:=by kernel_rfl
theorem Q0o (d:Ab):(J3 (Jd d)).length<=3:=by
 show (QbT d).length<=3
 unfold QbT
 cases hq:ieq (Qb (ZZ d).1) 0 with
 |true=>exact (show 1<=3 by decide)
 |false=>
  have hp: ∀ (m:Nat) (i k:Int) (l:List Aa) (d:Ab),l.length<=3->(edZ m i k l d).1.length<=3:=by
   intro m
   induction m with
   |zero=>exact fun _ _ _ _ h=>h
   |succ m ih=>
    intro i k l d h
    unfold edZ
    cases ine i k with
    |false=>exact ih _ _ _ _ h
    |true=>
     cases h1:igt (Qg d 3) 0 with
     |false=>exact ih _ _ _ _ h
     |true=>
      cases h2:ilt (Qb l) 3 with
      |false=>exact ih _ _ _ _ h
      |true=>
       have:=Bw h2
       simp only [Qb] at this
       exact ih _ _ _ _ (by simp only [Bj,Bh];omega)
  have hr: ∀ (m n:Nat) (i:Int) (l:List Aa) (d:Ab),l.length<=3->(edY m n i l d).1.length<=3:=by
   intro m
   induction m with
   |zero=>exact fun _ _ _ _ h=>h
   |succ m ih=>exact fun n i l d h=>ih n (i+1) _ _ (hp n i 0 l d h)
  exact hr _ _ _ [] _ (by decide)
theorem Quq (d:Ab):ZP 1000 (Jd d)=true/\Jh (Jd d)=true:=by
 have hn:=QbU d
 have hl:(QT (Jd d)).length<=3:=by rw [Qpx];omega
 have he:=Q0o d
 have hv3:=Q8 (d:=(ZZ d).2) (n:=3) (by omega)
 have hi:=Qpy (Qg (ZZ d).2 3).toNat (Qc (ZZ d).2 3)
 have hx:Z4 (Jd d)=(itZ (Qg (ZZ d).2 3).toNat (Qc (ZZ d).2 3)).1:=rfl
 have hitm:(Z4 (Jd d)).all Ec=true:=Bi.2 fun i hm=>by
  have h1:=Bi.1 hi.1 i (hx▸hm)
  have:=(ZN.1 h1).2.2.2.1
  exact Bc (by omega)
 have ho:Yd (Z4 (Jd d))=true:=by
  unfold Yd
  rw [hx,hi.2.1,Bc (show (itZ (Qg (ZZ d).2 3).toNat (Qc (ZZ d).2 3)).1.length<=100000 by omega)]
  rfl
 constructor
 ·unfold ZP
  simp only [Bd,Ba]
  exact ⟨Bi.2 fun e hm=>Q1M (QbC d e hm),⟨by omega,by omega⟩,ho,hitm⟩
 ·unfold Jh
  rw [ho,Bc (show (QT (Jd d)).length<=99999/\(J3 (Jd d)).length<=99999 by omega),By,Db]
  exact Bi.2 fun e he=>Qpw (QbC d e he)
theorem Q0p {d w:Ab}(hw:dOk w=true):FO w (Jd d)=true/\Jn (ZV (WX w (Jd d)))=true:=by
 have hl:=QbU d
 have hlen:(QT (Jd d)).length=(Zw d).length:=Qpx d
 have hnm: ∀ e∈QT (Jd d),e.1∈Xa:=fun e he=>QLd (QbC d e he)
 constructor
 ·unfold FO
  rw [hw,Bc (show 0<(QT (Jd d)).length/\(QT (Jd d)).length<=1000 by omega),By,By]
  exact Bi.2 fun e he=>Bf.2 ⟨Qpw (QbC d e he),Bi.1 Q0n _ (hnm e he)⟩
 ·exact any_id hw (by omega) hnm
def Wu:Nat->Ad->Ad->Ab->Ad×Ab
 |0,_,x,d=>(x,d)
 |n+1,e,x,d=>bif ieq (X8 x (WX d e)).2 0 then Wu n e (X8 x (WX d e)).1 (GW d e) else Wu n e x (GW d e)
theorem QKx {n:Nat}{x:Ad}{c:Am}(h:ZP n x=true)(hn:n<=80000)(hi:Jn (ZV c)=true):ZP (n+1) (X8 x c).1=true:=by
 unfold X8
 cases ine (Ye x) 0 with
 |true=>exact Qht _
 |false=>exact QTU h hn hi
theorem QKy {d w:Ab}{n:Nat}{x:Ad}(h:ZP n x=true)(hn:n<=80000)(hw:dOk w=true):FO w (Jd d)=true/\F4 x (WX w (Jd d))=true/\Jn (ZV (WX w (Jd d)))=true:=by
 obtain ⟨h1,h2⟩:=Q0p (d:=d) hw
 exact ⟨h1,Bf.2 ⟨QbS h hn,h2⟩,h2⟩
theorem QtZ {d:Ab}: ∀ (m:Nat) {n:Nat} {x:Ad} {w:Ab},ZP n x=true->n+m<=80000->dOk w=true->ZP (n+m) (Wu m (Jd d) x w).1=true/\dOk (Wu m (Jd d) x w).2=true
 |0,_,_,_,h,_,hw=>⟨h,hw⟩
 |m+1,n,x,w,h,hn,hw=>by
  have hw2:dOk (GW w (Jd d))=true:=QLc hw
  have he:n+(m+1)=n+1+m:=by omega
  rw [he]
  unfold Wu
  cases h2:ieq (X8 x (WX w (Jd d))).2 0 with
  |false=>exact QtZ m (QbS h (Nat.le_succ n)) (by omega) hw2
  |true=>exact QtZ m (QKx h (by omega) (QKy (d:=d) h (by omega) hw).2.2) (by omega) hw2
open Classical in
def Qt0 (n:Nat)(e x:Ad):Bool:= @decide (∃ d,e=Jd d/\ZP n x=true) (Classical.propDecidable _)
theorem QZK {n:Nat}{d:Ab}{x:Ad}(h:ZP n x=true):Qt0 n (Jd d) x=true:= @Bc _ (Classical.propDecidable _) ⟨d,rfl,h⟩
theorem QZL {n:Nat}{e x:Ad}(h:Qt0 n e x=true): ∃ d,e=Jd d/\ZP n x=true:= @Bw _ (Classical.propDecidable _) h
def QkE (k:Int)(e x:Ad)(w:Ab):Bool:=dOk w&&(decide (0<=k/\k<=4)&&Qt0 (1004-k.toNat) e x)
def Ux (d:Ab):Ad×Ad:=(Jd d,(Wu (Qg (Xt d) 4).toNat (Jd d) (Jd d) (Qc (Xt d) 4)).1)
def Qdk (d:Ab):Ab:=(Wu (Qg (Xt d) 4).toNat (Jd d) (Jd d) (Qc (Xt d) 4)).2
theorem QKz: ∀ (n:Nat) (d:Ab),dOk d=true->dOk (itZ n d).2=true
 |0,_,h=>h
 |n+1,d,h=>QKz n _ (Qd4 (s:=YD d sIt) (OH h))
theorem QKA {d:Ab}(hd:dOk d=true):dOk (Xt d)=true:=QKz _ _ (Qz (Qqo (Zw d).length (Zw d).length 0 [] _ (Qqn (Zw d) 0 (Qc d 2) (Qz (n:=2) hd)) (B0 _)).1)
theorem QZM {d:Ab}(hd:dOk d=true):ZP 2000 (Ux d).2=true/\dOk (Qdk d)=true:=by
 have hn:=QKA hd
 have hv:=Q8 (d:=Xt d) (n:=4) (by decide)
 obtain ⟨z1,z2⟩:=QtZ (Qg (Xt d) 4).toNat (Quq d).1 (by omega) (Qz (n:=4) hn)
 exact ⟨QbS z1 (by omega),z2⟩
abbrev QkF:Sh:=⟨[(0,.ptr 50000 0),(2,.ptr 2 0),(3,.ptr 3 0),(4,.ptr 4 0),(5,.ptr 5 0),(6,.ty tI)],[(2,.box Qo),(3,.box Qo),(4,.box Qo),(5,.box Qo),(50000,.box Qn)]⟩
abbrev QKB:Sh:=⟨[(2,.ptr 2 0),(3,.ptr 3 0),(4,.ptr 4 0),(5,.ptr 5 0)],[(2,.box Qo),(3,.box Qo),(4,.box Qo),(5,.box Qo),(50000,.box Qn)]⟩
def Qt1:Fg:=QkF.f
def tc_f7:TC:=aF Tryz.f7 [(122,pL 0 Qt1),(1955,.fg QKB.f),(3912,pE [[5],[50000],[4],[22,5022,10022,15022,50000],[],[],[],[],[7,5007,10007,15007],[7],[]] (.one 0 (.one 1 (.one 2 (.alt 3 (.of [4,5,6,7,8,9,10]) (.of [8,3,4,5,6,7,9,10])))))),(62,pE [[4],[5],[2],[3]] (oN 4))]
def QKC:TC:=lb 0 tc_f7
def QKD (x6:Int)(y2 y3 y4 y5:Ad)(Qa:Ab):VS:=QkF.st ((),(),(),(),(),x6,()) (y2,y3,y4,y5,Qa,())
def Qt2 (y2 y3 y4 y5:Ad)(Qa:Ab):VS:=QKB.st ((),(),(),(),()) (y2,y3,y4,y5,Qa,())
def L_f7_0:VS->Option (Bool×List (Bool×Exit×VS)):=mkL QkF (fun x y=>(QkE x.2.2.2.2.2.1 y.2.2.1 y.2.2.2.1 y.2.2.2.2.1)) (fun x y=>[(true,.exit 0,Qt2 (y.1) (y.2.1) (y.2.2.1) ((Wu x.2.2.2.2.2.1.toNat y.2.2.1 y.2.2.2.1 y.2.2.2.2.1).1) ((Wu x.2.2.2.2.2.1.toNat y.2.2.1 y.2.2.2.1 y.2.2.2.2.1).2))])
def Qt3:G:=gG 31 [(10,Y9),(27,QD3),(28,QL9),(29,QH8)] (Ls [L_f7_0])
def Qt4 (x6:Int)(y2 y3 y4 y5:Ad)(Qa:Ab):OX:=Qu (Qx Qt3 Qt1 QKC) (QKD x6 y2 y3 y4 y5 Qa)
def VB (kk:Int->Ad->Ad->Ad->Ad->Ab->OX)(x6:Int)(y2 y3 y4 y5:Ad)(Qa:Ab):OX:=
 let a1:=WX Qa y4
 br (FO Qa y4) (br (F4 y5 a1) (br (ieq ((X8 y5 a1).2) 0) (kk (QQ .i64 x6 1) y2 y3 y4 ((X8 y5 a1).1) (GW Qa y4)) (kk (QQ .i64 x6 1) y2 y3 y4 y5 (GW Qa y4))) none) none
def VC (kk:Int->Ad->Ad->Ad->Ad->Ab->OX)(x6:Int)(y2 y3 y4 y5:Ad)(Qa:Ab):OX:=br (igt x6 0) (frk (VB kk x6 y2 y3 y4 y5 Qa) (VB kk x6 y2 y3 y4 y5 Qa)) (some (.exit 0,Qt2 y2 y3 y4 y5 Qa))
def QkG (x6:Int)(y2 y3 y4 y5:Ad)(Qa:Ab):OX:=
 let a1:=Wu x6.toNat y4 y5 Qa
 some (.exit 0,Qt2 (y2) (y3) (y4) (a1.1) (a1.2))
theorem QKE (x6 y2 y3 y4 y5 Qa):Qt4 x6 y2 y3 y4 y5 Qa=VC Qt4 x6 y2 y3 y4 y5 Qa:=lnT (x:=VC (fun x6 y2 y3 y4 y5 Qa=>some (.normal,QKD x6 y2 y3 y4 y5 Qa)) x6 y2 y3 y4 y5 Qa) (by
 first
 |(simp only [JG,VC,VB,JG,Ud,UR,US,UT,UU]
   rfl)
 |(simp only [JG,VC,VB,JG]
   try generalize ((F4 y5 (WX Qa y4)))=cq0
   try generalize ((FO Qa y4))=cq1
   simp only [brN,JG,Bool.and_assoc,Bool.and_comm,Bool.and_left_comm,B1,Bool.and_self_left,Ud,UR,US,UT,UU]
   try rfl))
def r_f7 (d0:Ab):OV:=
 let a1:=Wu (Qg (Xt d0) 4).toNat (Jd d0) (Jd d0) (Qc (Xt d0) 4)
 br (dOk d0) (br (QE (Xt d0) 4) (br (QkE (Qg (Xt d0) 4) (Jd d0) (Jd d0) (Qc (Xt d0) 4)) (some (.tu [(.t Qo (Jd d0)),(.t Qo (a1.1))],[.box (.t Qn (a1.2))])) none) none) none
theorem l_f7_0 (x6:Int)(y2 y3 y4 y5:Ad)(Qa:Ab)(h:(QkE x6 y4 y5 Qa)=true):Qt4 x6 y2 y3 y4 y5 Qa=QkG x6 y2 y3 y4 y5 Qa:=by
 simp only [QkE,Bd,Ba] at h
 obtain ⟨hw,⟨h0,h1⟩,hb⟩:=h
 obtain ⟨d,rfl,hd⟩:=QZL hb
 clear hb
 obtain ⟨m,hm⟩: ∃ m:Nat,x6.toNat=m:=⟨_,rfl⟩
 induction m generalizing x6 y5 Qa with
 |zero=>
  have:igt x6 0=false:=Bn (by omega)
  rw [QKE]
  simp only [VC,VB,JG,QkG,this,Qh,hm,Wu]
 |succ m ih=>
  have e0:igt x6 0=true:=Bc (by omega)
  have e1:QQ .i64 x6 1=x6-1:=Zv (by omega)
  obtain ⟨a1,a2,a3⟩:=QKy (d:=d) hd (by omega) hw
  have hw2:=QLc (e:=Jd d) hw
  have hn:1004-(x6-1).toNat=1004-x6.toNat+1:=by omega
  have e6:(x6-1).toNat=m:=by omega
  have i1:=ih (x6:=x6-1) (y5:=y5) (Qa:=GW Qa (Jd d)) hw2 (by omega) (by omega) (by rw [hn];exact QbS hd (Nat.le_succ _)) e6
  rw [QKE]
  simp only [VC,VB,JG,e0,e1,a1,a2,Qd,i1,JG]
  simp only [QkG,hm,e6,Wu]
  cases hz:ieq (X8 y5 (WX Qa (Jd d))).2 0 with
  |false=>simp only [Qh,BW]
  |true=>
   rw [Qd,ih (x6:=x6-1) (y5:=(X8 y5 (WX Qa (Jd d))).1) (Qa:=GW Qa (Jd d)) hw2 (by omega) (by omega) (by rw [hn];exact QKx hd (by omega) a3) e6]
   simp only [QkG,e6,B6]
theorem QZN:LO Qt3 Qt1 QKC 0:=QC (s:=QkF) fun x y h _ q=>by simp only [QA,QB] at q;exact (l_f7_0 x.2.2.2.2.2.1 y.1 y.2.1 y.2.2.1 y.2.2.2.1 y.2.2.2.2.1 h).trans q
theorem s_f7 (d)(h:dOk d=true):r_f7 d=some (.tu [.t Qo (Ux d).1,.t Qo (Ux d).2],[.box (.t Qn (Qdk d))]):=by
 have hn:=QKA h
 have hv:=Q8 (d:=Xt d) (n:=4) (by decide)
 unfold r_f7
 refine brY h (brY (Zp hn (by decide)) (brY ?_ rfl))
 exact Bf.2 ⟨Qz hn,Bf.2 ⟨Bc (by omega),QZK (QbS (Quq d).1 (by omega))⟩⟩
def sp_f7:Ent:=Yz Qn .nil (fun d x=>(dOk d)) (fun d x=>(.tu [(.t Qo ((Ux d).1)),(.t Qo ((Ux d).2))])) (fun d x=>(Qdk d))
theorem ms_f7:EM 7 sp_f7:=mS (lk:=lkL (lkc QZN lkn)) Qt3 tc_f7 [((.c 2 true 3),some Qo),((.c 3 true 3),some Qo)] false (gB (gD Xq (gD ms_f27 (gD ms_f28 (gD ms_f29 gN))))) fun m=>Y7 m rfl fun d x hok=>kT (s_f7 d hok)
theorem Qpm {M:Type}{a b r:Option M}(h1:a=r)(h2:b=r):frk a b=r:=by
 rw [h1,h2]
 exact JG _
theorem QgP {x:Ae}{k:Int}(h:Jy x=true):Jy (U8 x k).1=true:=by
 unfold U8
 cases ine (QU x).2 0 with
 |true=>rfl
 |false=>
  cases (ilt k 0||igt k 2147483648) with
  |true=>rfl
  |false=>
   cases igt (Qb (Qj5 x k)) 8 with
   |true=>rfl
   |false=>exact h
def sgZ:Nat->Ae->Ae
 |0,x=>x
 |n+1,x=>sgZ n (U8 x (Qi .i64 50 ((n+1:Nat):Int))).1
theorem QCm: ∀ (n:Nat) {x:Ae},Jy x=true->Jy (sgZ n x)=true
 |0,_,h=>h
 |n+1,_,h=>QCm n (QgP h)
def Et (k:Int)(x:Ae):Bool:=decide (0<=k/\k<=100)&&Jy x
abbrev xsTab:List Aa:=[(14,(128,())),(16,(128,())),(1,(0,()))]
abbrev Qpn (e:Ad)(d:Ab):Ab:=Qc (Qc d 3) (Qb e.1)
abbrev xs0 (e:Ad)(d:Ab):Ae:=(((lgt Qe xsTab (Int.toNat (Qg d 3))).1,(((lgt Qe xsTab (Int.toNat (Qg d 3))).2).1,())),(1,((lgt Qp e.1 (Int.toNat (Qg (Qc d 3) (Qb e.1)))).1,((0,(dof (Qpn e d) [1000,20],())),(([]:List Aa),())))))
def xs1 (e:Ad)(d:Ab):Ae:=sgZ (Qg (Qr (Qpn e d) [1000,20]) 3).toNat (xs0 e d)
def xsN (e:Ad)(d:Ab):Ab:=Qc (Qr (Qpn e d) [1000,20]) 3
def xsZ (e:Ad):Nat->Ab->List Ae×Ab
 |0,d=>([],d)
 |n+1,d=>(xs1 e d::(xsZ e n (xsN e d)).1,(xsZ e n (xsN e d)).2)
def Eu (e:Ad):Bool:=decide (0<e.1.length/\e.1.length<=1000)&&e.1.all fun p=>Jc p.1
def QgQ (k:Int)(e:Ad)(l:List Ae)(d:Ab):Bool:=dOk d&&(decide (0<=k/\k<=3/\(l.length:Int)+k<=3)&&Eu e)
theorem QCn {e:Ad}{d:Ab}(h:dOk d=true):dOk (xsN e d)=true:=Qz (JB (Qz (Qz h)))
theorem QCo {e:Ad}{d:Ab}(h:Eu e=true):Jy (xs0 e d)=true:=by
 obtain ⟨h1,h2⟩:=Bf.1 h
 have h1:0<e.1.length/\e.1.length<=1000:=Bw h1
 have hv:=Q8 (d:=Qc d 3) (n:=Qb e.1) (by simp only [Qb];omega)
 simp only [Qb] at hv
 show Jc (lgt Qp e.1 (Int.toNat (Qg (Qc d 3) (Qb e.1)))).1=true
 have hk:Int.toNat (Qg (Qc d 3) (Qb e.1))<e.1.length:=by simp only [Qb];omega
 rw [QN (y:=Qp) hk]
 exact Bi.1 h2 _ (BC hk)
theorem xs1_ln {e:Ad}{d:Ab}(h:Eu e=true):Jy (xs1 e d)=true:=QCm _ (QCo h)
theorem QCp (e:Ad)(hn:Eu e=true): ∀ (n:Nat) (d:Ab),dOk d=true->(xsZ e n d).1.length=n/\(xsZ e n d).1.all Jy=true/\dOk (xsZ e n d).2=true
 |0,_,h=>⟨rfl,rfl,h⟩
 |n+1,d,h=>by
  obtain ⟨h1,h2,h3⟩:=QCp e hn n (xsN e d) (QCn h)
  refine ⟨?_, ?_,h3⟩
  ·show ((xsZ e n (xsN e d)).1.length+1)=n+1
   rw [h1]
  ·show (Jy (xs1 e d)&&(xsZ e n (xsN e d)).1.all Jy)=true
   rw [xs1_ln hn,h2]
   rfl
def YR (d:Ab)(e:Ad):List Ae×Ab:=((xsZ e (Qg (Qc d 2) 3).toNat (Qc (Qc d 2) 3)).1,([51,52],(Qi .i64 1 (Qg d 2),())))
def Gx (d:Ab)(e:Ad):Ab:=(xsZ e (Qg (Qc d 2) 3).toNat (Qc (Qc d 2) 3)).2
def Ev (d:Ab)(e:Ad):Bool:=dOk d&&Eu e
theorem QSI {d:Ab}{e:Ad}(h:Ev d e=true):(YR d e).1.length<=3/\(YR d e).1.all Jy=true/\dOk (Gx d e)=true/\Jm (YR d e).2.1 0=true:=by
 obtain ⟨hd,hn⟩:=Bf.1 h
 obtain ⟨h1,h2,h3⟩:=QCp e hn (Qg (Qc d 2) 3).toNat (Qc (Qc d 2) 3) (Qz (Qz hd))
 have hv:=Q8 (d:=Qc d 2) (n:=3) (by decide)
 refine ⟨?_,h2,h3,rfl⟩
 show (xsZ e (Qg (Qc d 2) 3).toNat (Qc (Qc d 2) 3)).1.length<=3
 omega
abbrev QgR:Sh:=⟨[(0,.ptr 50000 0),(3,.ptr 3 0),(5,.ptr 5 0),(6,.ptr 6 0),(7,.ms 7),(8,.ty tI),(9,.ptr 9 0),(10,.ty tI)],[(3,.box Qo),(5,.box Qn),(6,.box Qn),(7,.arr 29 QK),(9,.box QK),(61,.no),(50000,.box Qn)]⟩
abbrev QCq:Sh:=⟨[(0,.ptr 50000 0),(3,.ptr 3 0),(5,.ptr 5 0),(6,.ptr 6 0),(7,.ms 7),(8,.ty tI),(9,.ptr 9 0)],[(3,.box Qo),(5,.box Qn),(6,.box Qn),(7,.arr 29 QK),(9,.box QK),(61,.no),(50000,.box Qn)]⟩
abbrev QgS:Sh:=⟨[(0,.ptr 50000 0),(3,.ptr 3 0),(5,.ptr 5 0),(6,.ptr 6 0),(7,.ms 7),(8,.ty tI)],[(3,.box Qo),(5,.box Qn),(6,.box Qn),(7,.arr 29 QK),(61,.no),(50000,.box Qn)]⟩
abbrev QCr:Sh:=⟨[(5,.ptr 5 0),(6,.ptr 6 0),(7,.ms 7)],[(5,.box Qn),(6,.box Qn),(7,.arr 29 QK),(61,.no),(50000,.box Qn)]⟩
def Qpo:Fg:=QgR.f
def Qpp:Fg:=QgS.f
def Qpq:TC:=aF Tryz.f12 [(122,.nw 7 29),(122,pL 1 Qpp),(1955,.fg QCr.f),(3912,pE [[],[],[],[],[50000],[27,5027,10027,15027,50000],[],[],[3],[3],[50000],[3],[3],[],[36,5036,10036,15036,50000],[],[],[],[50000],[],[42,5042,10042,15042,50000],[],[],[9,5009,10009,15009],[9]] (.one 0 (.one 1 (.one 2 (.one 3 (.one 4 (.one 8 (.one 9 (.one 10 (.one 11 (.one 12 (.one 13 (.one 18 (.one 19 (.alt 5 (.one 6 (.one 7 (.alt 14 (.one 15 (.one 16 (.one 17 (.alt 20 (.of [21,22,23,24]) (.of [23,20,21,22,24]))))) (.of [23,14,15,16,17,20,21,22,24])))) (.of [23,5,6,7,14,15,16,17,20,21,22,24])))))))))))))))),(31306,pL 0 Qpo),(500899,.fg QCq.f),(62,pE [[7,61],[6],[7,61],[5]] (oN 4))]
def QCs:TC:=lb 0 Qpq
def QCt:TC:=lb 1 Qpq
def QCu (x8 x10:Int)(y3:Ad)(y5 y6:Ab)(y7:List Ae)(y9:Ae)(Qa:Ab):VS:=QgR.st ((),(),(),(),(),x8,(),x10,()) (y3,y5,y6,y7,y9,(),Qa,())
def Qpr (x8:Int)(y3:Ad)(y5 y6:Ab)(y7:List Ae)(y9:Ae)(Qa:Ab):VS:=QCq.st ((),(),(),(),(),x8,(),()) (y3,y5,y6,y7,y9,(),Qa,())
def QCv (x8:Int)(y3:Ad)(y5 y6:Ab)(y7:List Ae)(Qa:Ab):VS:=QgS.st ((),(),(),(),(),x8,()) (y3,y5,y6,y7,(),Qa,())
def Qps (y5 y6:Ab)(y7:List Ae)(Qa:Ab):VS:=QCr.st ((),(),(),()) (y5,y6,y7,(),Qa,())
def QSJ:VS->Option (Bool×List (Bool×Exit×VS)):=mkL QgR (fun x y=>(Et x.2.2.2.2.2.2.2.1 y.2.2.2.2.1)) (fun x y=>[(true,.exit 2,Qpr (x.2.2.2.2.2.1) (y.1) (y.2.1) (y.2.2.1) (y.2.2.2.1) (sgZ x.2.2.2.2.2.2.2.1.toNat y.2.2.2.2.1) (y.2.2.2.2.2.2.1))])
def QSK:VS->Option (Bool×List (Bool×Exit×VS)):=mkL QgS (fun x y=>(QgQ x.2.2.2.2.2.1 y.1 y.2.2.2.1 y.2.2.2.2.2.1)) (fun x y=>[(true,.exit 0,Qps (y.2.1) (y.2.2.1) (y.2.2.2.1++(xsZ y.1 x.2.2.2.2.2.1.toNat y.2.2.2.2.2.1).1) ((xsZ y.1 x.2.2.2.2.2.1.toNat y.2.2.2.2.2.1).2))])
def Qby:G:=gG 64 [(10,Y9),(33,Ug),(34,QJX)] (Ls [QSJ,QSK])
def Qpt (x8 x10:Int)(y3:Ad)(y5 y6:Ab)(y7:List Ae)(y9:Ae)(Qa:Ab):OX:=Qu (Qx Qby Qpo QCs) (QCu x8 x10 y3 y5 y6 y7 y9 Qa)
def Qbz (kk:Int->Int->Ad->Ab->Ab->List Ae->Ae->Ab->OX)(x8 x10:Int)(y3:Ad)(y5 y6:Ab)(y7:List Ae)(y9:Ae)(Qa:Ab):OX:=br (igt x10 0) (br (Qj6 y9 (Qi .i64 50 x10)) (kk x8 (QQ .i64 x10 1) y3 y5 y6 y7 ((U8 y9 (Qi .i64 50 x10)).1) Qa) none) (some (.exit 2,Qpr x8 y3 y5 y6 y7 y9 Qa))
def Qpu (x8 x10:Int)(y3:Ad)(y5 y6:Ab)(y7:List Ae)(y9:Ae)(Qa:Ab):OX:=some (.exit 2,Qpr (x8) (y3) (y5) (y6) (y7) (sgZ x10.toNat y9) (Qa))
theorem QCw (x8 x10 y3 y5 y6 y7 y9 Qa):Qpt x8 x10 y3 y5 y6 y7 y9 Qa=Qbz Qpt x8 x10 y3 y5 y6 y7 y9 Qa:=lnT (x:=Qbz (fun x8 x10 y3 y5 y6 y7 y9 Qa=>some (.normal,QCu x8 x10 y3 y5 y6 y7 y9 Qa)) x8 x10 y3 y5 y6 y7 y9 Qa) (by simp only [Qbz,nxA];rfl)
def Ew (x8:Int)(y3:Ad)(y5 y6:Ab)(y7:List Ae)(Qa:Ab):OX:=Qu (Qx Qby Qpp QCt) (QCv x8 y3 y5 y6 y7 Qa)
def Fj (kk:Int->Ad->Ab->Ab->List Ae->Ab->OX)(x8:Int)(y3:Ad)(y5 y6:Ab)(y7:List Ae)(Qa:Ab):OX:=
 let a3:=Qc (Qc Qa 3) (Qb y3.1)
 let a5:=(Qr a3 ([1000,20]))
 let a4:=(lgt Qe ([(14,(128,())),(16,(128,())),(1,(0,()))]) (Int.toNat (Qg Qa 3)))
 let a1:=(sgZ (Qg a5 3).toNat ((a4.1,((a4.2).1,())),(1,((lgt Qp y3.1 (Int.toNat (Qg (Qc Qa 3) (Qb y3.1)))).1,((0,((dof a3 ([1000,20])),())),(([]:List Aa),()))))))
 let a2:=(((a1.1).1,(((a1.1).2).1,())),((a1.2).1,(((a1.2).2).1,((((((a1.2).2).2).1).1,((((((a1.2).2).2).1).2).1,())),(((((a1.2).2).2).2).1,())))))
 br (QR a3 ([1000,20])) (br (QE a5 3) (br (Et (Qg a5 3) ((a4.1,((a4.2).1,())),(1,((lgt Qp y3.1 (Int.toNat (Qg (Qc Qa 3) (Qb y3.1)))).1,((0,((dof a3 ([1000,20])),())),(([]:List Aa),())))))) (br (Qt (y7) ([a2]) 80) (kk (QQ .i64 (x8) 1) (y3) (y5) (y6) ((y7)++([a2])) (Qc a5 3)) none) none) none) none
def Ex (kk:Int->Ad->Ab->Ab->List Ae->Ab->OX)(x8:Int)(y3:Ad)(y5 y6:Ab)(y7:List Ae)(Qa:Ab):OX:=br (QE (Qc Qa 3) (Qb y3.1)) (br (cIx y3.1 (Qg (Qc Qa 3) (Qb y3.1))) (Fj kk x8 y3 y5 y6 y7 Qa) none) none
def Or (kk:Int->Ad->Ab->Ab->List Ae->Ab->OX)(x8:Int)(y3:Ad)(y5 y6:Ab)(y7:List Ae)(Qa:Ab):OX:=
 let a1:=(cIx ([(14,(128,())),(16,(128,())),(1,(0,()))]) (Qg Qa 3))
 br (igt x8 0) (frk (br (QE Qa 3) (br a1 (frk (br (QE (Qc Qa 3) (Qb y3.1)) (br (cIx y3.1 (Qg (Qc Qa 3) (Qb y3.1))) (frk (Fj kk x8 y3 y5 y6 y7 Qa) (Fj kk x8 y3 y5 y6 y7 Qa)) none) none) (Ex kk x8 y3 y5 y6 y7 Qa)) none) none) (br (QE Qa 3) (br a1 (Ex kk x8 y3 y5 y6 y7 Qa) none) none)) (some (.exit 0,Qps y5 y6 y7 Qa))
def QbA (x8:Int)(y3:Ad)(y5 y6:Ab)(y7:List Ae)(Qa:Ab):OX:=
 let a1:=xsZ y3 x8.toNat Qa
 some (.exit 0,Qps (y5) (y6) (y7++a1.1) (a1.2))
theorem QCx (x8 y3 y5 y6 y7 Qa):Ew x8 y3 y5 y6 y7 Qa=Or Ew x8 y3 y5 y6 y7 Qa:=lnT (x:=Or (fun x8 y3 y5 y6 y7 Qa=>some (.normal,QCv x8 y3 y5 y6 y7 Qa)) x8 y3 y5 y6 y7 Qa) (by
 first
 |(simp only [JG,Or,Fj,Ex,JG,Ud,UR,US,UT,UU]
   rfl)
 |(simp only [JG,Or,Fj,Ex,JG]
   try generalize (Qt (y7) ([((((sgZ (Qg (Qr (Qc (Qc Qa 3) (Qb y3.1)) ([1000,20])) 3).toNat (((lgt Qe ([(14,(128,())),(16,(128,())),(1,(0,()))]) (Int.toNat (Qg Qa 3))).1,(((lgt Qe ([(14,(128,())),(16,(128,())),(1,(0,()))]) (Int.toNat (Qg Qa 3))).2).1,())),(1,((lgt Qp y3.1 (Int.toNat (Qg (Qc Qa 3) (Qb y3.1)))).1,((0,((dof (Qc (Qc Qa 3) (Qb y3.1)) ([1000,20])),())),(([]:List Aa),())))))).1).1,((((sgZ (Qg (Qr (Qc (Qc Qa 3) (Qb y3.1)) ([1000,20])) 3).toNat (((lgt Qe ([(14,(128,())),(16,(128,())),(1,(0,()))]) (Int.toNat (Qg Qa 3))).1,(((lgt Qe ([(14,(128,())),(16,(128,())),(1,(0,()))]) (Int.toNat (Qg Qa 3))).2).1,())),(1,((lgt Qp y3.1 (Int.toNat (Qg (Qc Qa 3) (Qb y3.1)))).1,((0,((dof (Qc (Qc Qa 3) (Qb y3.1)) ([1000,20])),())),(([]:List Aa),())))))).1).2).1,())),(((sgZ (Qg (Qr (Qc (Qc Qa 3) (Qb y3.1)) ([1000,20])) 3).toNat (((lgt Qe ([(14,(128,())),(16,(128,())),(1,(0,()))]) (Int.toNat (Qg Qa 3))).1,(((lgt Qe ([(14,(128,())),(16,(128,())),(1,(0,()))]) (Int.toNat (Qg Qa 3))).2).1,())),(1,((lgt Qp y3.1 (Int.toNat (Qg (Qc Qa 3) (Qb y3.1)))).1,((0,((dof (Qc (Qc Qa 3) (Qb y3.1)) ([1000,20])),())),(([]:List Aa),())))))).2).1,((((sgZ (Qg (Qr (Qc (Qc Qa 3) (Qb y3.1)) ([1000,20])) 3).toNat (((lgt Qe ([(14,(128,())),(16,(128,())),(1,(0,()))]) (Int.toNat (Qg Qa 3))).1,(((lgt Qe ([(14,(128,())),(16,(128,())),(1,(0,()))]) (Int.toNat (Qg Qa 3))).2).1,())),(1,((lgt Qp y3.1 (Int.toNat (Qg (Qc Qa 3) (Qb y3.1)))).1,((0,((dof (Qc (Qc Qa 3) (Qb y3.1)) ([1000,20])),())),(([]:List Aa),())))))).2).2).1,(((((((sgZ (Qg (Qr (Qc (Qc Qa 3) (Qb y3.1)) ([1000,20])) 3).toNat (((lgt Qe ([(14,(128,())),(16,(128,())),(1,(0,()))]) (Int.toNat (Qg Qa 3))).1,(((lgt Qe ([(14,(128,())),(16,(128,())),(1,(0,()))]) (Int.toNat (Qg Qa 3))).2).1,())),(1,((lgt Qp y3.1 (Int.toNat (Qg (Qc Qa 3) (Qb y3.1)))).1,((0,((dof (Qc (Qc Qa 3) (Qb y3.1)) ([1000,20])),())),(([]:List Aa),())))))).2).2).2).1).1,(((((((sgZ (Qg (Qr (Qc (Qc Qa 3) (Qb y3.1)) ([1000,20])) 3).toNat (((lgt Qe ([(14,(128,())),(16,(128,())),(1,(0,()))]) (Int.toNat (Qg Qa 3))).1,(((lgt Qe ([(14,(128,())),(16,(128,())),(1,(0,()))]) (Int.toNat (Qg Qa 3))).2).1,())),(1,((lgt Qp y3.1 (Int.toNat (Qg (Qc Qa 3) (Qb y3.1)))).1,((0,((dof (Qc (Qc Qa 3) (Qb y3.1)) ([1000,20])),())),(([]:List Aa),())))))).2).2).2).1).2).1,())),((((((sgZ (Qg (Qr (Qc (Qc Qa 3) (Qb y3.1)) ([1000,20])) 3).toNat (((lgt Qe ([(14,(128,())),(16,(128,())),(1,(0,()))]) (Int.toNat (Qg Qa 3))).1,(((lgt Qe ([(14,(128,())),(16,(128,())),(1,(0,()))]) (Int.toNat (Qg Qa 3))).2).1,())),(1,((lgt Qp y3.1 (Int.toNat (Qg (Qc Qa 3) (Qb y3.1)))).1,((0,((dof (Qc (Qc Qa 3) (Qb y3.1)) ([1000,20])),())),(([]:List Aa),())))))).2).2).2).2).1,())))))]) 80)=cq0
   try generalize ((Et (Qg (Qr (Qc (Qc Qa 3) (Qb y3.1)) ([1000,20])) 3) (((lgt Qe ([(14,(128,())),(16,(128,())),(1,(0,()))]) (Int.toNat (Qg Qa 3))).1,(((lgt Qe ([(14,(128,())),(16,(128,())),(1,(0,()))]) (Int.toNat (Qg Qa 3))).2).1,())),(1,((lgt Qp y3.1 (Int.toNat (Qg (Qc Qa 3) (Qb y3.1)))).1,((0,((dof (Qc (Qc Qa 3) (Qb y3.1)) ([1000,20])),())),(([]:List Aa),())))))))=cq1
   try generalize ((QE (Qr (Qc (Qc Qa 3) (Qb y3.1)) ([1000,20])) 3))=cq2
   try generalize ((QR (Qc (Qc Qa 3) (Qb y3.1)) ([1000,20])))=cq3
   try generalize (cIx y3.1 (Qg (Qc Qa 3) (Qb y3.1)))=cq4
   try generalize ((QE (Qc Qa 3) (Qb y3.1)))=cq5
   try generalize (cIx ([(14,(128,())),(16,(128,())),(1,(0,()))]) (Qg Qa 3))=cq6
   try generalize ((QE Qa 3))=cq7
   simp only [brN,JG,Bool.and_assoc,Bool.and_comm,Bool.and_left_comm,B1,Bool.and_self_left,Ud,UR,US,UT,UU]
   try rfl))
def r_f12 (d0:Ab)(p1:Ad):OV:=
 let a1:=xsZ p1 (Qg (Qc d0 2) 3).toNat (Qc (Qc d0 2) 3)
 br (QE d0 2) (br (QE (Qc d0 2) 3) (br (QgQ (Qg (Qc d0 2) 3) p1 ([]:List Ae) (Qc (Qc d0 2) 3)) (some (.tu [(.ms 50001),(.t Qn ([51,52],((Qi .i64 1 (Qg d0 2)),())))],[.box (.t Qn (a1.2)),.arr 29 QK (([]:List Ae)++a1.1)])) none) none) none
theorem QSL (x8 x10:Int)(y3:Ad)(y5 y6:Ab)(y7:List Ae)(y9:Ae)(Qa:Ab)(h:(Et x10 y9)=true):Qpt x8 x10 y3 y5 y6 y7 y9 Qa=Qpu x8 x10 y3 y5 y6 y7 y9 Qa:=by
 simp only [Et,Bd,Ba] at h
 obtain ⟨⟨h0,h1⟩,hx⟩:=h
 obtain ⟨m,hm⟩: ∃ m:Nat,x10.toNat=m:=⟨_,rfl⟩
 induction m generalizing x10 y9 with
 |zero=>
  have:igt x10 0=false:=Bn (by omega)
  rw [QCw]
  simp only [Qbz,Qpu,this,Qh,hm,sgZ]
 |succ m ih=>
  have e0:igt x10 0=true:=Bc (by omega)
  have e1:QQ .i64 x10 1=x10-1:=Zv (by omega)
  have e2:Qj6 y9 (Qi .i64 50 x10)=true:=hx
  have e6:(x10-1).toNat=m:=by omega
  have e7:x10=((m+1:Nat):Int):=by omega
  rw [QCw]
  simp only [Qbz,e0,e1,e2,Qd]
  rw [ih (x10-1) (U8 y9 (Qi .i64 50 x10)).1 (by first|exact QgP hx|omega) (by first|exact QgP hx|omega) (by first|exact QgP hx|omega) e6]
  simp only [Qpu,e6,hm,sgZ]
  rw [e7]
theorem QSM (x8:Int)(y3:Ad)(y5 y6:Ab)(y7:List Ae)(Qa:Ab)(h:(QgQ x8 y3 y7 Qa)=true):Ew x8 y3 y5 y6 y7 Qa=QbA x8 y3 y5 y6 y7 Qa:=by
 simp only [QgQ,Bd,Ba] at h
 obtain ⟨hd,⟨h0,h1,h2⟩,hn⟩:=h
 obtain ⟨q1,q2⟩:=Bf.1 hn
 have q1:0<y3.1.length/\y3.1.length<=1000:=Bw q1
 obtain ⟨m,hm⟩: ∃ m:Nat,x8.toNat=m:=⟨_,rfl⟩
 induction m generalizing x8 y7 Qa with
 |zero=>
  have:igt x8 0=false:=Bn (by omega)
  rw [QCx]
  simp only [Or,Fj,Ex,JG,QbA,this,Qh,hm,xsZ,BH]
 |succ m ih=>
  have e0:igt x8 0=true:=Bc (by omega)
  have e1:QQ .i64 x8 1=x8-1:=Zv (by omega)
  have e6:(x8-1).toNat=m:=by omega
  have d1:=Qz (n:=3) hd
  have d2:=Qz (n:=Qb y3.1) d1
  have d3:=JB (l:=[1000,20]) d2
  have v0:=Q8 (d:=Qa) (n:=3) (by decide)
  have v1:=Q8 (d:=Qc Qa 3) (n:=Qb y3.1) (by simp only [Qb];omega)
  have v2:=Q8 (d:=Qr (Qc (Qc Qa 3) (Qb y3.1)) [1000,20]) (n:=3) (by decide)
  have c0:QE Qa 3=true:=Zp hd (by decide)
  have c1:cIx ([(14,(128,())),(16,(128,())),(1,(0,()))]:List Aa) (Qg Qa 3)=true:=Bc ⟨v0.1,v0.2⟩
  have c2:QE (Qc Qa 3) (Qb y3.1)=true:=Zp d1 (by simp only [Qb];omega)
  have c3:cIx y3.1 (Qg (Qc Qa 3) (Qb y3.1))=true:=Bc ⟨v1.1,v1.2⟩
  have c4:QR (Qc (Qc Qa 3) (Qb y3.1)) [1000,20]=true:=XJ d2 (by decide) (by decide)
  have c5:QE (Qr (Qc (Qc Qa 3) (Qb y3.1)) [1000,20]) 3=true:=Zp d3 (by decide)
  have c6:Et (Qg (Qr (Qc (Qc Qa 3) (Qb y3.1)) [1000,20]) 3) (xs0 y3 Qa)=true:=Bf.2 ⟨Bc ⟨v2.1,by omega⟩,QCo hn⟩
  have c7: ∀ v:Ae,Qt y7 [v] 80=true:=fun v=>QX (by decide) (by simp only [Bh];omega)
  have hgoal:Fj Ew x8 y3 y5 y6 y7 Qa=QbA x8 y3 y5 y6 y7 Qa:=by
   have hn:Fj Ew x8 y3 y5 y6 y7 Qa=br (QR (Qc (Qc Qa 3) (Qb y3.1)) [1000,20]) (br (QE (Qr (Qc (Qc Qa 3) (Qb y3.1)) [1000,20]) 3) (br (Et (Qg (Qr (Qc (Qc Qa 3) (Qb y3.1)) [1000,20]) 3) (xs0 y3 Qa)) (br (Qt y7 [xs1 y3 Qa] 80) (Ew (QQ .i64 x8 1) y3 y5 y6 (y7++[xs1 y3 Qa]) (xsN y3 Qa)) none) none) none) none:=by kernel_rfl
   rw [hn,c4,c5,c6,c7,Qd,Qd,Qd,Qd]
   rw [e1,ih (x8-1) (y7++[xs1 y3 Qa]) (xsN y3 Qa) (QCn hd) (by omega) (by omega) (by simp only [Bj,Bh];omega) e6]
   simp only [QbA,e6,hm,xsZ,BG,BD]
  have hgoal2:Ex Ew x8 y3 y5 y6 y7 Qa=QbA x8 y3 y5 y6 y7 Qa:=by
   unfold Ex
   exact brY c2 (brY c3 hgoal)
  rw [QCx]
  unfold Or
  rw [e0,Qd]
  exact Qpm (brY c0 (brY c1 (Qpm (brY c2 (brY c3 (Qpm hgoal hgoal))) hgoal2))) (brY c0 (brY c1 hgoal2))
theorem QSN:LO Qby Qpo QCs 0:=QC (s:=QgR) fun x y h _ q=>by simp only [QA,QB] at q;exact (QSL x.2.2.2.2.2.1 x.2.2.2.2.2.2.2.1 y.1 y.2.1 y.2.2.1 y.2.2.2.1 y.2.2.2.2.1 y.2.2.2.2.2.2.1 h).trans q
theorem QSO:LO Qby Qpp QCt 1:=QC (s:=QgS) fun x y h _ q=>by simp only [QA,QB] at q;exact (QSM x.2.2.2.2.2.1 y.1 y.2.1 y.2.2.1 y.2.2.2.1 y.2.2.2.2.2.1 h).trans q
theorem s_f12 (d e)(h:Ev d e=true):r_f12 d e=some (.tu [.ms 50001,.t Qn (YR d e).2],[.box (.t Qn (Gx d e)),.arr 29 QK (YR d e).1]):=by
 obtain ⟨hd,hn⟩:=Bf.1 h
 have hv:=Q8 (d:=Qc d 2) (n:=3) (by decide)
 refine brY (Zp hd (by decide)) (brY (Zp (Qz hd) (by decide)) (brY ?_ rfl))
 exact Bf.2 ⟨Qz (Qz hd),Bf.2 ⟨Bc ⟨hv.1,by omega,by simp only [Bv];omega⟩,hn⟩⟩
def QCy:Ent:=Uf [.ptr 50000 0,.ty Qo] [.box Qn] (fun x y=>(Ev y.1 x.2.1)) (fun x y=>(.tu [(.ms 50001),(.t Qn ((YR y.1 x.2.1).2))])) (fun x y=>[.box (.t Qn (Gx y.1 x.2.1)),.arr 29 QK ((YR y.1 x.2.1).1)])
theorem ms_f12:EM 12 QCy:=mS (lk:=lkL (lkc QSO (lkc QSN lkn))) Qby Qpq [((.t 4),none),((.c 5 true 2),none)] true (gB (gD Xq (gD UY (gD ms_f34 gN)))) fun m=>Y8 m fun x y hok=>kT (s_f12 y.1 x.2.1 hok)
end K
namespace K.PE
abbrev QgO:Sh:=⟨[(0,.ptr 50000 0),(1,.ty .str),(4,.ptr 4 0),(5,.ptr 5 0),(6,.ty tI)],[(4,.box Qp),(5,.bag [.ty .str,.ty tI,.ty tI,.ms 15,.ty .bool,.ms 20505,.nl,.nl,.ty .bool]),(15,.arr 3 tI),(78,.no),(5015,.no),(10015,.no),(15015,.no),(20505,.arr 75 Q2),(50000,.box Qn)]⟩
abbrev QSE:Sh:=⟨[(0,.ptr 50000 0),(4,.ptr 4 0),(5,.ptr 5 0)],[(4,.box Qp),(5,.bag [.ty .str,.ty tI,.ty tI,.ms 15,.ty .bool,.ms 20505,.nl,.nl,.ty .bool]),(15,.arr 3 tI),(78,.no),(5015,.no),(10015,.no),(15015,.no),(20505,.arr 75 Q2),(50000,.box Qn)]⟩
def Qpj:Fg:=QgO.f
def QCh:TC:=aF Tryz.f30 [(14,pE [[5,15,78,5015,10015,15015,20505],[5,15,78,5015,10015,15015,20505],[50000],[5,15,78,5015,10015,15015,20505],[5,15,78,5015,10015,15015,20505],[15,78,5015,10015,15015,20505],[27,5027,10027,15027,50000],[15,78,5015,10015,15015,20505],[5,15,78,5015,10015,15015,20505],[4,5,15,78,5015,10015,15015,20505]] (oN 10)),(250,.nf 5 5 75 20505),(250,pL 0 Qpj),(4003,.fg ⟨[(0,none),(4,none),(5,none)],[(4,some Qp),(5,some Qp),(15,none),(78,none),(5015,none),(10015,none),(15015,none),(20505,none),(50000,some Qn)]⟩)]
def QCi:TC:=lb 0 QCh
def QCj (x1:ByteArray)(x6:Int)(y4:Ac)(y5_0:ByteArray)(y5_1 y5_2:Int)(y5_4 y5_8:Bool)(y15:List Int)(JD:List Aj)(Qa:Ab):VS:=QgO.st ((),x1,(),(),x6,()) (y4,(y5_0,y5_1,y5_2,(),y5_4,(),(),(),y5_8,()),y15,(),(),(),(),JD,Qa,())
def Qpk (y4:Ac)(y5_0:ByteArray)(y5_1 y5_2:Int)(y5_4 y5_8:Bool)(y15:List Int)(JD:List Aj)(Qa:Ab):VS:=QSE.st ((),(),(),()) (y4,(y5_0,y5_1,y5_2,(),y5_4,(),(),(),y5_8,()),y15,(),(),(),(),JD,Qa,())
def QSF:VS->Option (Bool×List (Bool×Exit×VS)):=mkL QgO (fun x y=>(decide (0<=x.2.2.2.2.1/\(y.2.2.2.2.2.2.2.1.length:Int)+x.2.2.2.2.1<=10/\x.2.1.size<=1000)&&dOk y.2.2.2.2.2.2.2.2.1)) (fun x y=>[(true,.exit 0,Qpk (y.1) (y.2.1.1) (y.2.1.2.1) (y.2.1.2.2.1) (y.2.1.2.2.2.2.1) (y.2.1.2.2.2.2.2.2.2.2.1) (y.2.2.1) (y.2.2.2.2.2.2.2.1++(Xi x.2.2.2.2.1.toNat x.2.1 y.2.2.2.2.2.2.2.2.1).1) ((Xi x.2.2.2.2.1.toNat x.2.1 y.2.2.2.2.2.2.2.2.1).2))])
def Qpl:G:=gG 100 [(10,Y9),(13,Fq),(33,Ug),(54,QNg),(55,QxD),(56,Qmz),(57,QH3)] (Ls [QSF])
def Qbw (x1:ByteArray)(x6:Int)(y4:Ac)(y5_0:ByteArray)(y5_1 y5_2:Int)(y5_4 y5_8:Bool)(y15:List Int)(JD:List Aj)(Qa:Ab):OX:=Qu (Qx Qpl Qpj QCi) (QCj x1 x6 y4 y5_0 y5_1 y5_2 y5_4 y5_8 y15 JD Qa)
def Qbx (kk:ByteArray->Int->Ac->ByteArray->Int->Int->Bool->Bool->List Int->List Aj->Ab->OX)(x1:ByteArray)(x6:Int)(y4:Ac)(y5_0:ByteArray)(y5_1 y5_2:Int)(y5_4 y5_8:Bool)(y15:List Int)(JD:List Aj)(Qa:Ab):OX:=
 let a1:=Qc (ZQ Qa) 3
 let a2:=(XG (Qr a1 ([5,7])) (dof a1 ([5,7])))
 let a3:=((dof a1 ([5,7])),((F9 (Qr a1 ([5,7])) (dof a1 ([5,7]))),()))
 let a4:=Qi .i64 100 (Qg a2 20)
 let a5:=Qi .i64 100 (Qg a1 20)
 let a6:=((Fb Qa).1,(((Fb Qa).2).1,()))
 let a7:=Qc (Qc a2 20) 9
 let a8:=Qc (Qc a1 20) 9
 let a9:=QQ .i64 x6 1
 let a10:=((E5 a8 x1 (Fb Qa) a5),())
 let a11:=((E5 a7 x1 a3 a4),())
 br (igt x6 0) (br (dOk Qa) (br (QE (ZQ Qa) 3) (br (igt (Qg (ZQ Qa) 3) 0) (br (QR a1 ([5,7])) (br (ID (Qr a1 ([5,7])) (dof a1 ([5,7]))) (br (QE a2 20) (br (Jb (Qc a2 20) 9) (br (!(done (Qc a2 20) 9)) (br (E6 a7 x1 a3 a4) (br (Qt JD ([(a3,(a4,a11))]) 48) (kk x1 a9 y4 y5_0 y5_1 y5_2 y5_4 y5_8 y15 (JD++([(a3,(a4,a11))])) (Vj a7 x1 a3 a4)) none) none) (br (Qt JD ([(a3,(a4,(([]:List Af),())))]) 48) (kk x1 a9 y4 y5_0 y5_1 y5_2 y5_4 y5_8 y15 (JD++([(a3,(a4,(([]:List Af),())))])) a7) none)) none) none) none) none) (br (QE a1 20) (br (Jb (Qc a1 20) 9) (br (!(done (Qc a1 20) 9)) (br (E6 a8 x1 (Fb Qa) a5) (br (Qt JD ([(a6,(a5,a10))]) 48) (kk x1 a9 y4 y5_0 y5_1 y5_2 y5_4 y5_8 y15 (JD++([(a6,(a5,a10))])) (Vj a8 x1 (Fb Qa) a5)) none) none) (br (Qt JD ([(a6,(a5,(([]:List Af),())))]) 48) (kk x1 a9 y4 y5_0 y5_1 y5_2 y5_4 y5_8 y15 (JD++([(a6,(a5,(([]:List Af),())))])) a8) none)) none) none)) none) none) (some (.exit 0,Qpk y4 y5_0 y5_1 y5_2 y5_4 y5_8 y15 JD Qa))
def Es (x1:ByteArray)(x6:Int)(y4:Ac)(y5_0:ByteArray)(y5_1 y5_2:Int)(y5_4 y5_8:Bool)(y15:List Int)(JD:List Aj)(Qa:Ab):OX:=
 let a1:=Xi x6.toNat x1 Qa
 some (.exit 0,Qpk (y4) (y5_0) (y5_1) (y5_2) (y5_4) (y5_8) (y15) (JD++a1.1) (a1.2))
theorem QCk (x1 x6 y4 y5_0 y5_1 y5_2 y5_4 y5_8 y15 JD Qa):Qbw x1 x6 y4 y5_0 y5_1 y5_2 y5_4 y5_8 y15 JD Qa=Qbx Qbw x1 x6 y4 y5_0 y5_1 y5_2 y5_4 y5_8 y15 JD Qa:=lnT (x:=Qbx (fun x1 x6 y4 y5_0 y5_1 y5_2 y5_4 y5_8 y15 JD Qa=>some (.normal,QCj x1 x6 y4 y5_0 y5_1 y5_2 y5_4 y5_8 y15 JD Qa)) x1 x6 y4 y5_0 y5_1 y5_2 y5_4 y5_8 y15 JD Qa) (by simp only [Qbx,nxA];rfl)
def r_f30 (d0:Ab)(p1:ByteArray):OV:=
 let a4:=(Qr d0 ([1,1,2,3]))
 let a6:=Qc (UF a4) 2
 let a13:=(dof d0 ([1,1,2,3]))
 let a5:=QQ .i64 5 a13
 let a12:=Qc (Qc a6 2) a5
 let a1:=Qc a12 3
 let a7:=(Qr a1 ([3,4,2]))
 let a10:=(dof a7 ([1,2,1,3,0]))
 let a2:=(Xi a10.toNat p1 (Qr a7 ([1,2,1,3,0])))
 let a11:=(dof a1 ([1,2,1,3,0]))
 let a3:=(Xi a11.toNat p1 (Qr a1 ([1,2,1,3,0])))
 let a8:=Qc (a2.2) 5
 let a9:=Qc (a3.2) 5
 br (QR d0 ([1,1,2,3])) (br (dOk a4) (br (Jb (UF a4) 2) (br (Jb a6 2) (br (QE (Qc a6 2) a5) (br (QE a12 3) (br (igt (Qg a12 3) 0) (br (QR a1 ([3,4,2])) (br (QR a7 ([1,2,1,3,0])) (br (decide (0<=a10/\(([]:List Aj).length:Int)+a10<=10/\p1.size<=1000)&&dOk (Qr a7 ([1,2,1,3,0]))) (br (QE (a2.2) 5) (br (cIx ([[1,2],[1,2],[1],[2,11],([]:List Int)]) (Qg (a2.2) 5)) (br (QE a8 3) (br (cIx ([[1,2,3,4],[2,3,4],[3,4]]) (Qg a8 3)) (some (.t Qp ((p1),((1:Int),((dof a1 ([3,4,2])),((F7 a4),((done (UF a4) 2),((([]:List Aj)++a2.1),((lgt (.sl tI) ([[1,2],[1,2],[1],[2,11],([]:List Int)]) (Int.toNat (Qg (a2.2) 5))),((lgt (.sl tI) ([[1,2,3,4],[2,3,4],[3,4]]) (Int.toNat (Qg a8 3))),((done a6 2),()))))))))),[.box (.t Qn (Qc a8 3))])) none) none) none) none) none) none) none) (br (QR a1 ([1,2,1,3,0])) (br (decide (0<=a11/\(([]:List Aj).length:Int)+a11<=10/\p1.size<=1000)&&dOk (Qr a1 ([1,2,1,3,0]))) (br (QE (a3.2) 5) (br (cIx ([[1,2],[1,2],[1],[2,11],([]:List Int)]) (Qg (a3.2) 5)) (br (QE a9 3) (br (cIx ([[1,2,3,4],[2,3,4],[3,4]]) (Qg a9 3)) (some (.t Qp ((p1),(a13,((Qi .i64 a13 (Qg (Qc a6 2) a5)),((F7 a4),((done (UF a4) 2),((([]:List Aj)++a3.1),((lgt (.sl tI) ([[1,2],[1,2],[1],[2,11],([]:List Int)]) (Int.toNat (Qg (a3.2) 5))),((lgt (.sl tI) ([[1,2,3,4],[2,3,4],[3,4]]) (Int.toNat (Qg a9 3))),((done a6 2),()))))))))),[.box (.t Qn (Qc a9 3))])) none) none) none) none) none) none)) none) none) none) none) none) none
theorem QSG (x1:ByteArray)(x6:Int)(y4:Ac)(y5_0:ByteArray)(y5_1 y5_2:Int)(y5_4 y5_8:Bool)(y15:List Int)(JD:List Aj)(Qa:Ab)(h:(decide (0<=x6/\(JD.length:Int)+x6<=10/\x1.size<=1000)&&dOk Qa)=true):Qbw x1 x6 y4 y5_0 y5_1 y5_2 y5_4 y5_8 y15 JD Qa=Es x1 x6 y4 y5_0 y5_1 y5_2 y5_4 y5_8 y15 JD Qa:=by
 obtain ⟨h,hd⟩:=Bf.1 h
 obtain ⟨h0,h1,h2⟩:=Bw h
 clear h
 obtain ⟨n,rfl⟩:=Bm h0
 have key: ∀ (n:Nat) (JD:List Aj) (Qa:Ab),JD.length+n<=10->dOk Qa=true->Qbw x1 (n:Int) y4 y5_0 y5_1 y5_2 y5_4 y5_8 y15 JD Qa=Es x1 (n:Int) y4 y5_0 y5_1 y5_2 y5_4 y5_8 y15 JD Qa:=by
  intro n
  induction n with
  |zero=>
   intro JD Qa _ _
   rw [QCk]
   simp only [Qbx,Es,show igt ((0:Nat):Int) 0=false from rfl,Qh,Bb,Xi,BH]
  |succ n ih=>
   intro JD Qa hl hd
   rw [QCk]
   have e2:QQ .i64 ((n+1:Nat):Int) 1=(n:Int):=(Zv (by omega)).trans (by omega)
   have k1:=Qm0 hd
   have k2:=Qz (n:=3) k1
   have k3:=JB (l:=[5,7]) k2
   have k4: ∀ a,dOk (XG (Qr (Qc (ZQ Qa) 3) [5,7]) a)=true:=fun a=>QmA k3
   have c1:QE (ZQ Qa) 3=true:=Zp k1 (by omega)
   have c2:QR (Qc (ZQ Qa) 3) [5,7]=true:=XJ k2 (by decide) (by decide)
   have c3: ∀ a,ID (Qr (Qc (ZQ Qa) 3) [5,7]) a=true:=fun a=>k3
   have c4: ∀ a,QE (XG (Qr (Qc (ZQ Qa) 3) [5,7]) a) 20=true:=fun a=>Zp (k4 a) (by omega)
   have c5: ∀ a,Jb (Qc (XG (Qr (Qc (ZQ Qa) 3) [5,7]) a) 20) 9=true:=fun a=>WA (Qz (k4 a)) (by omega) (by omega)
   have c6:QE (Qc (ZQ Qa) 3) 20=true:=Zp k2 (by omega)
   have c7:Jb (Qc (Qc (ZQ Qa) 3) 20) 9=true:=WA (Qz k2) (by omega) (by omega)
   have c8: ∀ a k i,E6 (Qc (Qc (XG (Qr (Qc (ZQ Qa) 3) [5,7]) a) 20) 9) x1 k i=true:=fun a k i=>Bf.2 ⟨Qz (Qz (k4 a)),Bc h2⟩
   have c9: ∀ k i,E6 (Qc (Qc (Qc (ZQ Qa) 3) 20) 9) x1 k i=true:=fun k i=>Bf.2 ⟨Qz (Qz k2),Bc h2⟩
   have ca: ∀ v,Qt JD [v] 48=true:=fun v=>QX (by omega) (by simp only [Bh];omega)
   have cb: ∀ d:Ab,Qi .i64 100 (Qg d 20)=100+Qg d 20:=fun d=>by
    have b:=Q8 (d:=d) (n:=20) (by omega)
    exact Ja (by omega)
   simp only [Qbx,show igt ((n+1:Nat):Int) 0=true from Bc (by omega),Qd,hd,e2,c1,c2,c3,c4,c5,c6,c7,c8,c9,ca,cb]
   have hi: ∀ v d,dOk d=true->Qbw x1 (n:Int) y4 y5_0 y5_1 y5_2 y5_4 y5_8 y15 (JD++[v]) d=Es x1 (n:Int) y4 y5_0 y5_1 y5_2 y5_4 y5_8 y15 (JD++[v]) d:=fun v d hd=>ih _ _ (by simp only [Bj,Bh];omega) hd
   have hz:=hi (idV Qa x1) (iD6 Qa x1) (QtA hd)
   have goal2:Es x1 (n:Int) y4 y5_0 y5_1 y5_2 y5_4 y5_8 y15 (JD++[idV Qa x1]) (iD6 Qa x1)=Es x1 ((n+1:Nat):Int) y4 y5_0 y5_1 y5_2 y5_4 y5_8 y15 JD Qa:=by
    simp only [Es,Bb,Xi,BG,BD]
   refine Eq.trans ?_ (hz.trans goal2)
   simp only [idV,iD6,iCh,iId,Qj3,iD3,iB,iD2,iA,iD4,iD5]
   cases igt (Qg (ZQ Qa) 3) 0 with
   |true=>
    simp only [Qd,B6]
    cases done (Qc (XG (Qr (Qc (ZQ Qa) 3) [5,7]) (dof (Qc (ZQ Qa) 3) [5,7])) 20) 9<;>rfl
   |false=>
    simp only [Qh,BW]
    cases done (Qc (Qc (ZQ Qa) 3) 20) 9<;>rfl
 exact key n _ _ (by omega) hd
theorem QSH:LO Qpl Qpj QCi 0:=QC (s:=QgO) fun x y h _ q=>by simp only [QA,QB] at q;exact (QSG x.2.1 x.2.2.2.2.1 y.1 y.2.1.1 y.2.1.2.1 y.2.1.2.2.1 y.2.1.2.2.2.2.1 y.2.1.2.2.2.2.2.2.2.2.1 y.2.2.1 y.2.2.2.2.2.2.2.1 y.2.2.2.2.2.2.2.2.1 h).trans q
theorem s_f30 (d nm)(h:Qc4 d nm=true):r_f30 d nm=some (.t Qp (epV d nm),[.box (.t Qn (epN d nm))]):=by
 unfold epV
 simp only [Qc4,Bd,Ba] at h
 obtain ⟨h,hn⟩:=h
 have m0:=X9 (d:=d) (l:=[1,1,2,3]) (by decide)
 simp only [BQ,B3,Dt] at m0
 have k1:=JB (l:=[1,1,2,3]) h
 have k2:=QvP k1
 have k3:=Qz (n:=2) k2
 have k4:=Qz (n:=2) k3
 have e0:QQ .i64 5 (dof d [1,1,2,3])=5-eL0 d:=Zv (by omega)
 have b4:=Q8 (d:=eD4 d) (n:=5-eL0 d) (by show 0<5-dof d [1,1,2,3];omega)
 have e1:Qi .i64 (dof d [1,1,2,3]) (Qg (eD4 d) (5-eL0 d))=eL0 d+Qg (eD4 d) (5-eL0 d):=Ja (by show _/\_;have:eL0 d=dof d [1,1,2,3]:=rfl;omega)
 have k5:=Qz (n:=5-eL0 d) k4
 have k6:=Qz (n:=3) k5
 have k6':=JB (l:=[3,4,2]) k6
 have k7:dOk (eD7 d)=true:=by
  unfold eD7
  cases eB d
  ·exact k6
  ·exact k6'
 have k8:=JB (l:=[1,2,1,3,0]) k7
 have m7:=X9 (d:=eD7 d) (l:=[1,2,1,3,0]) (by decide)
 simp only [BQ,B3,Dt] at m7
 obtain ⟨k9,_⟩:=Qj4 (dof (eD7 d) [1,2,1,3,0]).toNat nm (eD8 d) k8
 have k10:=Qz (n:=5) k9
 have c1:QR d [1,1,2,3]=true:=XJ h (by decide) (by decide)
 have c3:Jb (UF (Qr d [1,1,2,3])) 2=true:=WA k2 (by omega) (by omega)
 have c4:Jb (Qc (UF (Qr d [1,1,2,3])) 2) 2=true:=WA k3 (by omega) (by omega)
 have c5:QE (eD4 d) (5-eL0 d)=true:=Zp k4 (by show 5-dof d [1,1,2,3]<=_;omega)
 have c6:QE (eD5 d) 3=true:=Zp k5 (by omega)
 have c7:QR (eD6 d) [3,4,2]=true:=XJ k6 (by decide) (by decide)
 have c8:QR (eD7 d) [1,2,1,3,0]=true:=XJ k7 (by decide) (by decide)
 have k8':dOk (Qr (eD7 d) [1,2,1,3,0])=true:=k8
 have e5:Xi (dof (eD7 d) [1,2,1,3,0]).toNat nm (Qr (eD7 d) [1,2,1,3,0])=XZ d nm:=rfl
 have c9:(decide ((0:Int)<=dof (eD7 d) [1,2,1,3,0]/\(([]:List Aj).length:Int)+dof (eD7 d) [1,2,1,3,0]<=10/\nm.size<=1000)&&true)=true:=by
  rw [Db]
  exact Bc ⟨by omega,by simp only [Bv];omega,hn⟩
 have c10:QE (XZ d nm).2 5=true:=Zp k9 (by omega)
 have b10:=Q8 (d:=(XZ d nm).2) (n:=5) (by omega)
 have c11:cIx [[1,2],[1,2],[1],[2,11],([]:List Int)] (Qg (XZ d nm).2 5)=true:=Bc (by simp only [Br,Bv];omega)
 have c12:QE (Qc (XZ d nm).2 5) 3=true:=Zp k10 (by omega)
 have b12:=Q8 (d:=Qc (XZ d nm).2 5) (n:=3) (by omega)
 have c13:cIx [[1,2,3,4],[2,3,4],([3,4]:List Int)] (Qg (Qc (XZ d nm).2 5) 3)=true:=Bc (by simp only [Br,Bv];omega)
 simp only [r_f30,c1,k1,c3,c4,e0,c5,c6,e1,c7,Qd]
 cases hb:eB d with
 |true=>
  have e7:Qr (eD6 d) [3,4,2]=eD7 d:=by unfold eD7;rw [hb];rfl
  have e8:Qc2 d=1:=by unfold Qc2;rw [hb];rfl
  have e9:Qc3 d=dof (eD6 d) [3,4,2]:=by unfold Qc3;rw [hb];rfl
  refine Eq.trans (congrArg (fun b=>br b _ _) hb) ?_
  simp only [Qd,e7,c8,k8',e5,Qd,c10,c11,c12,c13]
  refine Eq.trans (congrArg (fun b=>br b _ _) c9) ?_
  rw [Qd,e8,e9]
  refine Eq.trans (congrArg (fun b=>br b _ _) c13) ?_
  rfl
 |false=>
  have e7:eD6 d=eD7 d:=by unfold eD7;rw [hb];rfl
  have e8:Qc2 d=eL0 d:=by unfold Qc2;rw [hb];rfl
  have e9:Qc3 d=eL0 d+Qg (eD4 d) (5-eL0 d):=by unfold Qc3;rw [hb];rfl
  refine Eq.trans (congrArg (fun b=>br b _ _) hb) ?_
  simp only [Qh,e7,c8,k8',e5,Qd,c10,c11,c12,c13]
  refine Eq.trans (congrArg (fun b=>br b _ _) c9) ?_
  rw [Qd,e8,e9]
  refine Eq.trans (congrArg (fun b=>br b _ _) c13) ?_
  rfl
def QCl:Ent:=Yz Qn (.pr .str .nil) (fun d x=>(Qc4 d x.1)) (fun d x=>(.t Qp (epV d x.1))) (fun d x=>(epN d x.1))
theorem ms_f30:EM 30 QCl:=mS (lk:=lkL (lkc QSH lkn)) Qpl QCh [((.c 4 true 9),some Qp)] false (gB (gD Xq (gD EG (gD UY (gD ms_f54 (gD ms_f55 (gD Qw3 (gD ms_f57 gN)))))))) fun m=>Y7 m rfl fun d x hok=>kT (s_f30 d x.1 hok)
end K.PE
namespace K.PE
abbrev Gi:List ByteArray:=[(ByteArray.mk #[97,112,112]),(ByteArray.mk #[100,98]),(ByteArray.mk #[109,97,105,108]),(ByteArray.mk #[119,101,98])]
def mkZ:List ByteArray->Ab->List Ac×Ab
 | [],d=>([],d)
 |s::r,d=>(epV d s::(mkZ r (epN d s)).1,(mkZ r (epN d s)).2)
def edM:Nat->Int->Int->List Aa->Ab->List Aa×Ab
 |0,_,_,l,d=>(l,d)
 |m+1,i,k,l,d=>bif ine i k then (bif ieq (Qg d 3) 0 then edM m i (k+1) (l++[(i,(k,()))]) (Qc d 3) else edM m i (k+1) l (Qc d 3)) else edM m i (k+1) l d
def edN:Nat->Nat->Int->List Aa->Ab->List Aa×Ab
 |0,_,_,l,d=>(l,d)
 |m+1,n,i,l,d=>edN m n (i+1) (edM n i 0 l d).1 (edM n i 0 l d).2
def JY (d:Ab):List ByteArray:=lsl Gi 0 (Qi .i64 2 (Qg d 3))
def Xn (d:Ab):List Aa×Ab:=edN (JY d).length (JY d).length 0 [] (mkZ (JY d) (Qc d 3)).2
def Fs (d:Ab):List Ag×Ab:=itZ (Qg (Xn d).2 3).toNat (Qc (Xn d).2 3)
def mkX (d:Ab):Ad:=((mkZ (JY d) (Qc d 3)).1,((Xn d).1,((Fs d).1,())))
def Gj (d:Ab):Ab:=(Fs d).2
theorem Qlo: ∀ (l:List ByteArray) (d:Ab),dOk d=true->dOk (mkZ l d).2=true
 | [],_,h=>h
 |s::r,d,h=>Qlo r (epN d s) (QrK h)
theorem VT: ∀ (m:Nat) (i k:Int) (l:List Aa) (d:Ab),dOk d=true->dOk (edM m i k l d).2=true/\(edM m i k l d).1.length<=l.length+m
 |0,_,_,_,_,h=>⟨h,BI _⟩
 |m+1,i,k,l,d,h=>by
  unfold edM
  cases ine i k with
  |false=>
   have:=VT m i (k+1) l d h
   exact ⟨this.1,by have:=this.2;simp only [BW];omega⟩
  |true=>
   cases ieq (Qg d 3) 0 with
   |false=>
    have:=VT m i (k+1) l (Qc d 3) (Qz h)
    exact ⟨this.1,by have:=this.2;simp only [B6,BW];omega⟩
   |true=>
    have:=VT m i (k+1) (l++[(i,(k,()))]) (Qc d 3) (Qz h)
    simp only [Bj,Bh] at this
    exact ⟨this.1,by have:=this.2;simp only [B6];omega⟩
theorem Qvg: ∀ (m n:Nat) (i:Int) (l:List Aa) (d:Ab),dOk d=true->dOk (edN m n i l d).2=true
 |0,_,_,_,_,h=>h
 |m+1,n,i,l,d,h=>Qvg m n (i+1) _ _ (VT n i 0 l d h).1
theorem QMc (d:Ab):JY d=Gi.take 2∨JY d=Gi.take 3∨JY d=Gi:=by
 have hv:=Q8 (d:=d) (n:=3) (by omega)
 have e:Qi .i64 2 (Qg d 3)=2+Qg d 3:=Ja (by omega)
 unfold JY
 rw [e]
 rcases (show Qg d 3=0∨Qg d 3=1∨Qg d 3=2 by omega) with h|h|h<;>rw [h]
 ·exact .inl rfl
 ·exact .inr (.inl rfl)
 ·exact .inr (.inr rfl)
theorem QMd (d:Ab):2<=(JY d).length/\(JY d).length<=4/\(JY d).all nm1=true:=by
 rcases QMc d with h|h|h<;>rw [h]<;>exact ⟨by decide,by decide,by decide⟩
abbrev Qlp:Sh:=⟨[(0,.ptr 50000 0),(2,.ptr 2 0),(3,.ptr 3 0),(4,.ty (.sl .str)),(5,.ty tI)],[(2,.box Qo),(3,.bag [.ms 20300,.ms 20301,.ms 20302]),(29,.no),(57,.no),(73,.no),(20300,.arr 82 Qp),(20301,.arr 85 Qe),(20302,.arr 88 Jf),(50000,.box Qn)]⟩
abbrev Q1N:Sh:=⟨[(0,.ptr 50000 0),(2,.ptr 2 0),(3,.ptr 3 0),(4,.ty (.sl .str))],[(2,.box Qo),(3,.bag [.ms 20300,.ms 20301,.ms 20302]),(29,.no),(57,.no),(73,.no),(20300,.arr 82 Qp),(20301,.arr 85 Qe),(20302,.arr 88 Jf),(50000,.box Qn)]⟩
abbrev Qlq:Sh:=⟨[(0,.ptr 50000 0),(2,.ptr 2 0),(3,.ptr 3 0),(4,.ty (.sl .str)),(6,.ty tI),(7,.ty tI)],[(2,.box Qo),(3,.bag [.ms 20300,.ms 20301,.ms 20302]),(29,.no),(57,.no),(73,.no),(20300,.arr 82 Qp),(20301,.arr 85 Qe),(20302,.arr 88 Jf),(50000,.box Qn)]⟩
abbrev Qlr:Sh:=⟨[(0,.ptr 50000 0),(2,.ptr 2 0),(3,.ptr 3 0),(4,.ty (.sl .str)),(6,.ty tI)],[(2,.box Qo),(3,.bag [.ms 20300,.ms 20301,.ms 20302]),(29,.no),(57,.no),(73,.no),(20300,.arr 82 Qp),(20301,.arr 85 Qe),(20302,.arr 88 Jf),(50000,.box Qn)]⟩
abbrev Q1O:Sh:=⟨[(0,.ptr 50000 0),(2,.ptr 2 0),(3,.ptr 3 0)],[(2,.box Qo),(3,.bag [.ms 20300,.ms 20301,.ms 20302]),(29,.no),(57,.no),(73,.no),(20300,.arr 82 Qp),(20301,.arr 85 Qe),(20302,.arr 88 Jf),(50000,.box Qn)]⟩
abbrev Qls:Sh:=⟨[(0,.ptr 50000 0),(2,.ptr 2 0),(3,.ptr 3 0),(8,.ty tI)],[(2,.box Qo),(3,.bag [.ms 20300,.ms 20301,.ms 20302]),(29,.no),(57,.no),(73,.no),(20300,.arr 82 Qp),(20301,.arr 85 Qe),(20302,.arr 88 Jf),(50000,.box Qn)]⟩
abbrev Q1P:Sh:=⟨[(2,.ptr 2 0),(3,.ptr 3 0)],[(2,.box Qo),(3,.bag [.ms 20300,.ms 20301,.ms 20302]),(29,.no),(57,.no),(73,.no),(20300,.arr 82 Qp),(20301,.arr 85 Qe),(20302,.arr 88 Jf),(50000,.box Qn)]⟩
def Qvh:Fg:=Qlp.f
def Qvi:Fg:=Qlq.f
def Qvj:Fg:=Qlr.f
def Qvk:Fg:=Qls.f
def QdS:TC:=aF Tryz.f8 [(122,.nf 3 2 88 20302),(122,.nf 3 1 85 20301),(122,.nf 3 0 82 20300),(122,pL 0 Qvh),(1955,.fg ⟨[(0,none),(2,none),(3,none),(4,some (.sl .str))],[(2,some Qo),(3,some Qo),(29,none),(57,none),(73,none),(20300,none),(20301,none),(20302,none),(50000,some Qn)]⟩),(1956,pE [[3,29,57,73,20300,20301,20302],[3,29,57,73,20300,20301,20302],[50000],[],[],[],[],[27,5027,10027,15027,50000],[],[2,3,29,57,73,5029,10029,15029,20300,20301,20302],[3,29,57,73,20300,20301,20302],[2,3,29,57,73,20300,20301,20302]] (oN 12)),(250,.nf 3 2 88 20302),(250,.nf 3 0 82 20300),(250,.nf 3 1 85 20301),(250,pL 2 Qvj),(4003,.fg ⟨[(0,none),(2,none),(3,none)],[(2,some Qo),(3,some Qo),(29,none),(57,none),(73,none),(20300,none),(20301,none),(20302,none),(50000,some Qn)]⟩),(16018,.nf 3 2 88 20302),(16018,.nf 3 0 82 20300),(16018,.nf 3 1 85 20301),(16018,pL 1 Qvi),(256291,.fg ⟨[(0,none),(2,none),(3,none),(4,some (.sl .str)),(6,some tI)],[(2,some Qo),(3,some Qo),(29,none),(57,none),(73,none),(20300,none),(20301,none),(20302,none),(50000,some Qn)]⟩),(506,.nf 3 1 85 20301),(506,.nf 3 0 82 20300),(506,.nf 3 2 88 20302),(506,pL 3 Qvk),(8099,.fg ⟨[(2,none),(3,none)],[(2,some Qo),(3,some Qo),(29,none),(57,none),(73,none),(20300,none),(20301,none),(20302,none),(50000,some Qn)]⟩),(8100,pE [[3,29,57,73,20300,20301,20302],[3,29,57,73,20300,20301,20302],[50000],[50000],[],[70,5070,10070,15070,50000],[71,5071,10071,15071,50000],[],[2,3,29,57,73,5073,10073,15073,20300,20301,20302],[3,29,57,73,20300,20301,20302],[2,3,29,57,73,20300,20301,20302]] (oN 11))]
def QMe:TC:=lb 0 QdS
def QMf:TC:=lb 1 QdS
def QMg:TC:=lb 2 QdS
def QMh:TC:=lb 3 QdS
def QMi (x4:List ByteArray)(x5:Int)(y2:Ad)(Qf:List Ac)(Qj:List Aa)(Qk:List Ag)(Qa:Ab):VS:=Qlp.st ((),(),(),x4,x5,()) (y2,((),(),(),()),(),(),(),Qf,Qj,Qk,Qa,())
def Qvl (x4:List ByteArray)(y2:Ad)(Qf:List Ac)(Qj:List Aa)(Qk:List Ag)(Qa:Ab):VS:=Q1N.st ((),(),(),x4,()) (y2,((),(),(),()),(),(),(),Qf,Qj,Qk,Qa,())
def QMj (x4:List ByteArray)(x6 x7:Int)(y2:Ad)(Qf:List Ac)(Qj:List Aa)(Qk:List Ag)(Qa:Ab):VS:=Qlq.st ((),(),(),x4,x6,x7,()) (y2,((),(),(),()),(),(),(),Qf,Qj,Qk,Qa,())
def QdT (x4:List ByteArray)(x6:Int)(y2:Ad)(Qf:List Ac)(Qj:List Aa)(Qk:List Ag)(Qa:Ab):VS:=Qlr.st ((),(),(),x4,x6,()) (y2,((),(),(),()),(),(),(),Qf,Qj,Qk,Qa,())
def Qvm (y2:Ad)(Qf:List Ac)(Qj:List Aa)(Qk:List Ag)(Qa:Ab):VS:=Q1O.st ((),(),(),()) (y2,((),(),(),()),(),(),(),Qf,Qj,Qk,Qa,())
def QMk (x8:Int)(y2:Ad)(Qf:List Ac)(Qj:List Aa)(Qk:List Ag)(Qa:Ab):VS:=Qls.st ((),(),(),x8,()) (y2,((),(),(),()),(),(),(),Qf,Qj,Qk,Qa,())
def Qvn (y2:Ad)(Qf:List Ac)(Qj:List Aa)(Qk:List Ag)(Qa:Ab):VS:=Q1P.st ((),(),()) (y2,((),(),(),()),(),(),(),Qf,Qj,Qk,Qa,())
def L_f8_0:VS->Option (Bool×List (Bool×Exit×VS)):=mkL Qlp (fun x y=>(dOk y.2.2.2.2.2.2.2.2.1&&(decide (0<=x.2.2.2.2.1/\x.2.2.2.2.1<=x.2.2.2.1.length/\x.2.2.2.1.length<=4/\y.2.2.2.2.2.1.length<=x.2.2.2.2.1)&&x.2.2.2.1.all nm1))) (fun x y=>[(true,.exit 0,Qvl (x.2.2.2.1) (y.1) (y.2.2.2.2.2.1++(mkZ (x.2.2.2.1.drop x.2.2.2.2.1.toNat) y.2.2.2.2.2.2.2.2.1).1) (y.2.2.2.2.2.2.1) (y.2.2.2.2.2.2.2.1) ((mkZ (x.2.2.2.1.drop x.2.2.2.2.1.toNat) y.2.2.2.2.2.2.2.2.1).2))])
def L_f8_1:VS->Option (Bool×List (Bool×Exit×VS)):=mkL Qlq (fun x y=>(dOk y.2.2.2.2.2.2.2.2.1&&decide (0<=x.2.2.2.2.2.1/\x.2.2.2.2.2.1<=x.2.2.2.1.length/\x.2.2.2.1.length<=4/\0<=x.2.2.2.2.1/\x.2.2.2.2.1<=4/\y.2.2.2.2.2.2.1.length<=4*x.2.2.2.2.1+x.2.2.2.2.2.1))) (fun x y=>[(true,.exit 4,QdT (x.2.2.2.1) (x.2.2.2.2.1) (y.1) (y.2.2.2.2.2.1) ((edM (x.2.2.2.1.length-x.2.2.2.2.2.1).toNat x.2.2.2.2.1 x.2.2.2.2.2.1 y.2.2.2.2.2.2.1 y.2.2.2.2.2.2.2.2.1).1) (y.2.2.2.2.2.2.2.1) ((edM (x.2.2.2.1.length-x.2.2.2.2.2.1).toNat x.2.2.2.2.1 x.2.2.2.2.2.1 y.2.2.2.2.2.2.1 y.2.2.2.2.2.2.2.2.1).2))])
def L_f8_2:VS->Option (Bool×List (Bool×Exit×VS)):=mkL Qlr (fun x y=>(dOk y.2.2.2.2.2.2.2.2.1&&decide (0<=x.2.2.2.2.1/\x.2.2.2.2.1<=x.2.2.2.1.length/\x.2.2.2.1.length<=4/\y.2.2.2.2.2.2.1.length<=4*x.2.2.2.2.1))) (fun x y=>[(true,.exit 2,Qvm (y.1) (y.2.2.2.2.2.1) ((edN (x.2.2.2.1.length-x.2.2.2.2.1).toNat x.2.2.2.1.length x.2.2.2.2.1 y.2.2.2.2.2.2.1 y.2.2.2.2.2.2.2.2.1).1) (y.2.2.2.2.2.2.2.1) ((edN (x.2.2.2.1.length-x.2.2.2.2.1).toNat x.2.2.2.1.length x.2.2.2.2.1 y.2.2.2.2.2.2.1 y.2.2.2.2.2.2.2.2.1).2))])
def L_f8_3:VS->Option (Bool×List (Bool×Exit×VS)):=mkL Qls (fun x y=>(dOk y.2.2.2.2.2.2.2.2.1&&decide (0<=x.2.2.2.1/\x.2.2.2.1<=3/\y.2.2.2.2.2.2.2.1.length+x.2.2.2.1.toNat<=100))) (fun x y=>[(true,.exit 6,Qvn (y.1) (y.2.2.2.2.2.1) (y.2.2.2.2.2.2.1) (y.2.2.2.2.2.2.2.1++(itZ x.2.2.2.1.toNat y.2.2.2.2.2.2.2.2.1).1) ((itZ x.2.2.2.1.toNat y.2.2.2.2.2.2.2.2.1).2))])
def G7:G:=gG 76 [(10,Y9),(30,QCl),(31,Ql3),(32,Qp5)] (Ls [L_f8_0,L_f8_1,L_f8_2,L_f8_3])
def Qlt (x4:List ByteArray)(x5:Int)(y2:Ad)(Qf:List Ac)(Qj:List Aa)(Qk:List Ag)(Qa:Ab):OX:=Qu (Qx G7 Qvh QMe) (QMi x4 x5 y2 Qf Qj Qk Qa)
def QdU (kk:List ByteArray->Int->Ad->List Ac->List Aa->List Ag->Ab->OX)(x4:List ByteArray)(x5:Int)(y2:Ad)(Qf:List Ac)(Qj:List Aa)(Qk:List Ag)(Qa:Ab):OX:=
 let a3:=lgt .str x4 (Int.toNat x5)
 let a1:=epV Qa a3
 let a2:=((a1.2).1,(((a1.2).2).1,((((a1.2).2).2).1,(((((a1.2).2).2).2).1,((((((a1.2).2).2).2).2).1,(((((((a1.2).2).2).2).2).2).1,((((((((a1.2).2).2).2).2).2).2).1,(((((((((a1.2).2).2).2).2).2).2).2).1,()))))))))
 br (ilt x5 (Qb x4)) (br (cIx x4 x5) (br (Qc4 Qa a3) (br (Qt Qf ([(a1.1,a2)]) 144) (kk x4 (Qi .i64 x5 1) y2 (Qf++([(a1.1,a2)])) Qj Qk (epN Qa a3)) none) none) none) (some (.exit 0,Qvl x4 y2 Qf Qj Qk Qa))
def Qlu (x4:List ByteArray)(x5:Int)(y2:Ad)(Qf:List Ac)(Qj:List Aa)(Qk:List Ag)(Qa:Ab):OX:=
 let a1:=mkZ (x4.drop x5.toNat) Qa
 some (.exit 0,Qvl (x4) (y2) (Qf++a1.1) (Qj) (Qk) (a1.2))
theorem QMl (x4 x5 y2 Qf Qj Qk Qa):Qlt x4 x5 y2 Qf Qj Qk Qa=QdU Qlt x4 x5 y2 Qf Qj Qk Qa:=lnT (x:=QdU (fun x4 x5 y2 Qf Qj Qk Qa=>some (.normal,QMi x4 x5 y2 Qf Qj Qk Qa)) x4 x5 y2 Qf Qj Qk Qa) (by simp only [QdU,nxA];rfl)
def Qlv (x4:List ByteArray)(x6 x7:Int)(y2:Ad)(Qf:List Ac)(Qj:List Aa)(Qk:List Ag)(Qa:Ab):OX:=Qu (Qx G7 Qvi QMf) (QMj x4 x6 x7 y2 Qf Qj Qk Qa)
def QdV (kk:List ByteArray->Int->Int->Ad->List Ac->List Aa->List Ag->Ab->OX)(x4:List ByteArray)(x6 x7:Int)(y2:Ad)(Qf:List Ac)(Qj:List Aa)(Qk:List Ag)(Qa:Ab):OX:=
 let a1:=Qi .i64 x7 1
 br (ilt x7 (Qb x4)) (br (ine x6 x7) (br (QE Qa 3) (br (ieq (Qg Qa 3) 0) (br (Qt Qj ([(x6,(x7,()))]) 16) (kk x4 x6 a1 y2 Qf (Qj++([(x6,(x7,()))])) Qk (Qc Qa 3)) none) (kk x4 x6 a1 y2 Qf Qj Qk (Qc Qa 3))) none) (kk x4 x6 a1 y2 Qf Qj Qk Qa)) (some (.exit 4,QdT x4 x6 y2 Qf Qj Qk Qa))
def Qlw (x4:List ByteArray)(x6 x7:Int)(y2:Ad)(Qf:List Ac)(Qj:List Aa)(Qk:List Ag)(Qa:Ab):OX:=
 let a1:=edM (x4.length-x7).toNat x6 x7 Qj Qa
 some (.exit 4,QdT (x4) (x6) (y2) (Qf) (a1.1) (Qk) (a1.2))
theorem QMm (x4 x6 x7 y2 Qf Qj Qk Qa):Qlv x4 x6 x7 y2 Qf Qj Qk Qa=QdV Qlv x4 x6 x7 y2 Qf Qj Qk Qa:=lnT (x:=QdV (fun x4 x6 x7 y2 Qf Qj Qk Qa=>some (.normal,QMj x4 x6 x7 y2 Qf Qj Qk Qa)) x4 x6 x7 y2 Qf Qj Qk Qa) (by simp only [QdV,nxA];rfl)
def Qlx (x4:List ByteArray)(x6:Int)(y2:Ad)(Qf:List Ac)(Qj:List Aa)(Qk:List Ag)(Qa:Ab):OX:=Qu (Qx G7 Qvj QMg) (QdT x4 x6 y2 Qf Qj Qk Qa)
def QdW (kk:List ByteArray->Int->Ad->List Ac->List Aa->List Ag->Ab->OX)(x4:List ByteArray)(x6:Int)(y2:Ad)(Qf:List Ac)(Qj:List Aa)(Qk:List Ag)(Qa:Ab):OX:=
 let a1:=(edM (x4.length-(0:Int)).toNat x6 (0:Int) Qj Qa)
 br (ilt x6 (Qb x4)) (br (dOk Qa&&decide (0<=(0:Int)/\(0:Int)<=x4.length/\x4.length<=4/\0<=x6/\x6<=4/\Qj.length<=4*x6+(0:Int))) (kk (x4) (Qi .i64 (x6) 1) (y2) (Qf) (a1.1) (Qk) (a1.2)) none) (some (.exit 2,Qvm y2 Qf Qj Qk Qa))
def Qly (x4:List ByteArray)(x6:Int)(y2:Ad)(Qf:List Ac)(Qj:List Aa)(Qk:List Ag)(Qa:Ab):OX:=
 let a1:=edN (x4.length-x6).toNat x4.length x6 Qj Qa
 some (.exit 2,Qvm (y2) (Qf) (a1.1) (Qk) (a1.2))
theorem QMn (x4 x6 y2 Qf Qj Qk Qa):Qlx x4 x6 y2 Qf Qj Qk Qa=QdW Qlx x4 x6 y2 Qf Qj Qk Qa:=lnT (x:=QdW (fun x4 x6 y2 Qf Qj Qk Qa=>some (.normal,QdT x4 x6 y2 Qf Qj Qk Qa)) x4 x6 y2 Qf Qj Qk Qa) (by simp only [QdW,nxA];rfl)
def Qlz (x8:Int)(y2:Ad)(Qf:List Ac)(Qj:List Aa)(Qk:List Ag)(Qa:Ab):OX:=Qu (Qx G7 Qvk QMh) (QMk x8 y2 Qf Qj Qk Qa)
def QdX (kk:Int->Ad->List Ac->List Aa->List Ag->Ab->OX)(x8:Int)(y2:Ad)(Qf:List Ac)(Qj:List Aa)(Qk:List Ag)(Qa:Ab):OX:=
 let a2:=(ByteArray.mk #[98,97,99,107,117,112])
 let a3:=(ByteArray.mk #[100,101,101,100])
 let a5:=(Uj Qa ([a2,a3]))
 let a6:=(YD Qa ([a2,a3]))
 let a1:=It a5 a6
 let a4:=((a1.2).1,(((a1.2).2).1,((((a1.2).2).2).1,(((((a1.2).2).2).2).1,()))))
 br (igt x8 0) (br (GC Qa ([a2,a3])) (br (Iu a5 a6) (br (Qt Qk ([(a1.1,a4)]) 64) (kk (QQ .i64 x8 1) y2 Qf Qj (Qk++([(a1.1,a4)])) (G8 a5 a6)) none) none) none) (some (.exit 6,Qvn y2 Qf Qj Qk Qa))
def QlA (x8:Int)(y2:Ad)(Qf:List Ac)(Qj:List Aa)(Qk:List Ag)(Qa:Ab):OX:=some (.exit 6,Qvn (y2) (Qf) (Qj) (Qk++(itZ x8.toNat Qa).1) ((itZ x8.toNat Qa).2))
theorem QMo (x8 y2 Qf Qj Qk Qa):Qlz x8 y2 Qf Qj Qk Qa=QdX Qlz x8 y2 Qf Qj Qk Qa:=lnT (x:=QdX (fun x8 y2 Qf Qj Qk Qa=>some (.normal,QMk x8 y2 Qf Qj Qk Qa)) x8 y2 Qf Qj Qk Qa) (by simp only [QdX,nxA];rfl)
def r_f8 (d0:Ab):OV:=
 let a7:=(ByteArray.mk #[97,112,112])
 let a9:=(ByteArray.mk #[100,98])
 let a5:=(ByteArray.mk #[109,97,105,108])
 let a8:=(ByteArray.mk #[119,101,98])
 let a1:=(lsl ([a7,a9,a5,a8]) 0 (Qi .i64 2 (Qg d0 3)))
 let a4:=(mkZ (a1.drop (0:Int).toNat) (Qc d0 3))
 let a2:=(edN (a1.length-(0:Int)).toNat a1.length (0:Int) ([]:List Aa) (a4.2))
 let a3:=Qg (a2.2) 3
 let a6:=itZ a3.toNat (Qc (a2.2) 3)
 br (QE d0 3) (br (cSl ([a7,a9,a5,a8]) 0 (Qi .i64 2 (Qg d0 3)) ((List.length ([a7,a9,a5,a8]):Nat):Int)) (br (dOk (Qc d0 3)&&(decide (0<=(0:Int)/\(0:Int)<=a1.length/\a1.length<=4/\([]:List Ac).length<=(0:Int))&&a1.all nm1)) (br (dOk (a4.2)&&decide (0<=(0:Int)/\(0:Int)<=a1.length/\a1.length<=4/\([]:List Aa).length<=4*(0:Int))) (br (QE (a2.2) 3) (br (dOk (Qc (a2.2) 3)&&decide (0<=a3/\a3<=3/\([]:List Ag).length+a3.toNat<=100)) (some (.t Qo ((([]:List Ac)++a4.1),((a2.1),((([]:List Ag)++a6.1),()))),[.box (.t Qn (a6.2))])) none) none) none) none) none) none
theorem l_f8_0 (x4:List ByteArray)(x5:Int)(y2:Ad)(Qf:List Ac)(Qj:List Aa)(Qk:List Ag)(Qa:Ab)(h:(dOk Qa&&(decide (0<=x5/\x5<=x4.length/\x4.length<=4/\Qf.length<=x5)&&x4.all nm1))=true):Qlt x4 x5 y2 Qf Qj Qk Qa=Qlu x4 x5 y2 Qf Qj Qk Qa:=by
 simp only [Bd,Ba] at h
 obtain ⟨hd,⟨h0,h1,h2,hl⟩,ha⟩:=h
 obtain ⟨k,rfl⟩:=Bm h0
 clear h0
 revert Qf Qa
 refine QP x4 (fun k=> ∀ (Qf:List Ac) (Qa:Ab),dOk Qa=true->(Qf.length:Int)<=(k:Int)->Qlt x4 (k:Int) y2 Qf Qj Qk Qa=Qlu x4 (k:Int) y2 Qf Qj Qk Qa) ?_ ?_ k (by omega)
 ·intro Qf Qa _ _
  rw [QMl]
  simp only [QdU,Qlu,Qb,Qv,BK,BP,Qh,Bb,BF,mkZ,BH]
 ·intro k hk ih Qf Qa hd hl
  rw [QMl]
  have c1:Qc4 Qa x4[k]=true:=Bf.2 ⟨hd,Bi.1 ha _ (BC hk)⟩
  simp only [QdU,Qb,Qv,QM,hk,Bu,Qd,Bb,QO (k:=k),QN (y:= .str) hk,c1]
  refine brY (QX (by omega) (by simp only [Bh];omega)) ?_
  refine Eq.trans (ih (Qf++[epV Qa x4[k]]) (epN Qa x4[k]) (QrK hd) (by simp only [Bj,Bh];omega)) ?_
  simp only [Qlu,Bb,Bg hk,mkZ,BG,BD]
theorem l_f8_1 (x4:List ByteArray)(x6 x7:Int)(y2:Ad)(Qf:List Ac)(Qj:List Aa)(Qk:List Ag)(Qa:Ab)(h:(dOk Qa&&decide (0<=x7/\x7<=x4.length/\x4.length<=4/\0<=x6/\x6<=4/\Qj.length<=4*x6+x7))=true):Qlv x4 x6 x7 y2 Qf Qj Qk Qa=Qlw x4 x6 x7 y2 Qf Qj Qk Qa:=by
 simp only [Bd,Ba] at h
 obtain ⟨hd,h0,h1,h2,h3,h4,hl⟩:=h
 have key: ∀ (m:Nat) (x7:Int) (Qj:List Aa) (Qa:Ab),x7+m=x4.length->0<=x7->dOk Qa=true->(Qj.length:Int)<=4*x6+x7->Qlv x4 x6 x7 y2 Qf Qj Qk Qa=Qlw x4 x6 x7 y2 Qf Qj Qk Qa:=by
  intro m
  induction m with
  |zero=>
   intro x7 Qj Qa e _ _ _
   rw [QMm]
   have e1:x7=(x4.length:Int):=by omega
   subst e1
   simp only [QdV,Qlw,Qb,Qv,BK,BP,Qh,Int.sub_self,Bt,edM]
  |succ m ih=>
   intro x7 Qj Qa e h0 hd hl
   rw [QMm]
   have c1:QE Qa 3=true:=Zp hd (by omega)
   have c2:Qt Qj [(x6,(x7,()))] 16=true:=QX (by omega) (by simp only [Bh];omega)
   have e1:Qi .i64 x7 1=x7+1:=Ja (by omega)
   have e2:((x4.length:Int)-x7).toNat=m+1:=by omega
   have e3:((x4.length:Int)-(x7+1)).toNat=m:=by omega
   simp only [QdV,show ilt x7 (Qb x4)=true from Bc (by simp only [Qb];omega),Qd,c1,c2,e1]
   rw [ih (x7+1) Qj Qa (by omega) (by omega) hd (by omega),ih (x7+1) Qj (Qc Qa 3) (by omega) (by omega) (Qz hd) (by omega),ih (x7+1) (Qj++[(x6,(x7,()))]) (Qc Qa 3) (by omega) (by omega) (Qz hd) (by simp only [Bj,Bh];omega)]
   simp only [Qlw,e2,e3,edM]
   cases ine x6 x7<;>cases ieq (Qg Qa 3) 0<;>rfl
 exact key ((x4.length:Int)-x7).toNat x7 Qj Qa (by omega) h0 hd hl
theorem l_f8_2 (x4:List ByteArray)(x6:Int)(y2:Ad)(Qf:List Ac)(Qj:List Aa)(Qk:List Ag)(Qa:Ab)(h:(dOk Qa&&decide (0<=x6/\x6<=x4.length/\x4.length<=4/\Qj.length<=4*x6))=true):Qlx x4 x6 y2 Qf Qj Qk Qa=Qly x4 x6 y2 Qf Qj Qk Qa:=by
 simp only [Bd,Ba] at h
 obtain ⟨hd,h0,h1,h2,hl⟩:=h
 have key: ∀ (m:Nat) (x6:Int) (Qj:List Aa) (Qa:Ab),x6+m=x4.length->0<=x6->dOk Qa=true->(Qj.length:Int)<=4*x6->Qlx x4 x6 y2 Qf Qj Qk Qa=Qly x4 x6 y2 Qf Qj Qk Qa:=by
  intro m
  induction m with
  |zero=>
   intro x6 Qj Qa e _ _ _
   rw [QMn]
   have e1:x6=(x4.length:Int):=by omega
   subst e1
   simp only [QdW,Qly,Qb,Qv,BK,BP,Qh,Int.sub_self,Bt,edN]
  |succ m ih=>
   intro x6 Qj Qa e h0 hd hl
   rw [QMn]
   have e1:Qi .i64 x6 1=x6+1:=Ja (by omega)
   have e2:((x4.length:Int)-x6).toNat=m+1:=by omega
   have e3:((x4.length:Int)-(x6+1)).toNat=m:=by omega
   have e4:((x4.length:Int)-0).toNat=x4.length:=by omega
   have hz:=VT x4.length x6 0 Qj Qa hd
   simp only [QdW,show ilt x6 (Qb x4)=true from Bc (by simp only [Qb];omega),Qd,e1,e4,hd,By]
   refine brY (Bc (by omega)) ?_
   rw [ih (x6+1) _ _ (by omega) (by omega) hz.1 (by omega)]
   simp only [Qly,e2,e3,edN]
 exact key ((x4.length:Int)-x6).toNat x6 Qj Qa (by omega) h0 hd hl
theorem l_f8_3 (x8:Int)(y2:Ad)(Qf:List Ac)(Qj:List Aa)(Qk:List Ag)(Qa:Ab)(h:(dOk Qa&&decide (0<=x8/\x8<=3/\Qk.length+x8.toNat<=100))=true):Qlz x8 y2 Qf Qj Qk Qa=QlA x8 y2 Qf Qj Qk Qa:=by
 simp only [Bd,Ba] at h
 obtain ⟨hd,h0,h1,hl⟩:=h
 obtain ⟨n,rfl⟩:=Bm h0
 rw [Bb] at hl
 have key: ∀ (n:Nat) (Qk:List Ag) (Qa:Ab),dOk Qa=true->Qk.length+n<=100->Qlz (n:Int) y2 Qf Qj Qk Qa=QlA (n:Int) y2 Qf Qj Qk Qa:=by
  intro n
  induction n with
  |zero=>
   intro Qk Qa _ _
   rw [QMo]
   simp only [QdX,QlA,show igt ((0:Nat):Int) 0=false from rfl,Qh,Bb,itZ,BH]
  |succ n ih=>
   intro Qk Qa hd hl
   rw [QMo]
   have e2:QQ .i64 ((n+1:Nat):Int) 1=(n:Int):=(Zv (by omega)).trans (by omega)
   have c1:GC Qa sIt=true:=by simp [GC,hd]
   have c2:Iu (Uj Qa sIt) (YD Qa sIt)=true:=OH hd
   have c3: ∀ v,Qt Qk [v] 64=true:=fun v=>QX (by omega) (by simp only [Bh];omega)
   simp only [QdX,show igt ((n+1:Nat):Int) 0=true from Bc (by omega),Qd,e2,c1,c2,c3]
   refine Eq.trans (ih _ _ (Qd4 (s:=YD Qa sIt) (OH hd)) (by simp only [Bj,Bh];omega)) ?_
   simp only [QlA,Bb,itZ,BG,BD]
 exact key n Qk Qa hd (by omega)
theorem Q1Q:LO G7 Qvh QMe 0:=QC (s:=Qlp) fun x y h _ q=>by simp only [QA,QB] at q;exact (l_f8_0 x.2.2.2.1 x.2.2.2.2.1 y.1 y.2.2.2.2.2.1 y.2.2.2.2.2.2.1 y.2.2.2.2.2.2.2.1 y.2.2.2.2.2.2.2.2.1 h).trans q
theorem Q1R:LO G7 Qvi QMf 1:=QC (s:=Qlq) fun x y h _ q=>by simp only [QA,QB] at q;exact (l_f8_1 x.2.2.2.1 x.2.2.2.2.1 x.2.2.2.2.2.1 y.1 y.2.2.2.2.2.1 y.2.2.2.2.2.2.1 y.2.2.2.2.2.2.2.1 y.2.2.2.2.2.2.2.2.1 h).trans q
theorem Q1S:LO G7 Qvj QMg 2:=QC (s:=Qlr) fun x y h _ q=>by simp only [QA,QB] at q;exact (l_f8_2 x.2.2.2.1 x.2.2.2.2.1 y.1 y.2.2.2.2.2.1 y.2.2.2.2.2.2.1 y.2.2.2.2.2.2.2.1 y.2.2.2.2.2.2.2.2.1 h).trans q
theorem Q1T:LO G7 Qvk QMh 3:=QC (s:=Qls) fun x y h _ q=>by simp only [QA,QB] at q;exact (l_f8_3 x.2.2.2.1 y.1 y.2.2.2.2.2.1 y.2.2.2.2.2.2.1 y.2.2.2.2.2.2.2.1 y.2.2.2.2.2.2.2.2.1 h).trans q
theorem s_f8 (d)(h:dOk d=true):r_f8 d=some (.t Qo (mkX d),[.box (.t Qn (Gj d))]):=by
 have hv:=Q8 (d:=d) (n:=3) (by omega)
 have e:Qi .i64 2 (Qg d 3)=2+Qg d 3:=Ja (by omega)
 have c1:QE d 3=true:=Zp h (by omega)
 have hn:=QMd d
 have hd:=Qz (n:=3) h
 have hz:=Qlo (JY d) (Qc d 3) hd
 have hy1:dOk (Xn d).2=true:=Qvg (JY d).length (JY d).length 0 [] _ hz
 have hv3:=Q8 (d:=(Xn d).2) (n:=3) (by omega)
 have e4:(((JY d).length:Int)-0).toNat=(JY d).length:=by omega
 simp only [r_f8,show lsl Gi 0 (Qi .i64 2 (Qg d 3))=JY d from rfl,BM,Bt,Bx,e4]
 simp only [show edN (JY d).length (JY d).length 0 [] (mkZ (JY d) (Qc d 3)).2=Xn d from rfl]
 refine brY c1 (brY (Bc (by rw [e];refine ⟨by omega,by omega, ?_, ?_⟩<;>simp<;>omega)) (brY ?_ (brY ?_ (brY (Zp hy1 (by omega)) (brY ?_ rfl)))))
 ·rw [hd,hn.2.2,Db,By]
  exact Bc (by simp only [Bv];omega)
 ·rw [hz,By]
  exact Bc (by simp only [Bv];omega)
 ·rw [Qz hy1,By]
  exact Bc (by simp only [Bv];omega)
def sp_f8:Ent:=Yz Qn .nil (fun d x=>(dOk d)) (fun d x=>(.t Qo (mkX d))) (fun d x=>(Gj d))
theorem ms_f8:EM 8 sp_f8:=mS (lk:=lkL (lkc Q1Q (lkc Q1S (lkc Q1R (lkc Q1T lkn))))) G7 QdS [((.c 2 true 3),some Qo)] false (gB (gD Xq (gD ms_f30 (gD QvZ (gD QDr gN))))) fun m=>Y7 m rfl fun d x hok=>kT (s_f8 d hok)
end K.PE
namespace K
def noAn (e:Ac):Ac:=(e.1,(e.2.1,(e.2.2.1,(e.2.2.2.1,(e.2.2.2.2.1,(e.2.2.2.2.2.1,(([]:List Int),e.2.2.2.2.2.2.2)))))))
def an (b:Bool)(e:Ac):Ac:=bif b then noAn e else e
end K
namespace K.PE
theorem QSc:(Gi.all fun s=>subOk s&&(WK s&&nm1 s))=true:=by kernel_rfl
theorem sub_of {s:ByteArray}(h:s∈Gi):subOk s=true/\WK s=true/\s.size<=1000:=by
 have:=Bi.1 QSc s h
 simp only [Bd] at this
 exact ⟨this.1,this.2.1,Bw this.2.2⟩
def mkP (e:Ac):Prop:= ∃ d s,e=epV d s/\s∈Gi/\dOk d=true
attribute [local irreducible] epV epN
theorem mk_len {e:Ac}(h:mkP e):QY e=true:=by
 obtain ⟨d,s,rfl,hs,hd⟩:=h
 obtain ⟨_,_,h3⟩:=sub_of hs
 have hi:=ep_ids (d:=d) (nm:=s) h3 hd
 exact Q2M (by rw [Q2N];exact h3) (B5 (QWT (nm:=s) hd) (show 10<=1000 by decide)) (B5 hi.2 (show 3<=1000 by decide)) (B5 (an_len d s) (show 4<=1000 by decide)) (B5 (hs_len d s) (show 4<=1000 by decide)) hi.1
theorem QBI: ∀ (l:List ByteArray) (d:Ab),(mkZ l d).1.length=l.length
 | [],_=>rfl
 |_::r,d=>by simp only [mkZ,Br,QBI r (epN d _)]
theorem QBJ: ∀ (l:List ByteArray) (d:Ab),(∀ s∈l,s∈Gi)->dOk d=true→ ∀ e∈(mkZ l d).1,mkP e
 | [],_,_,_,e,he=>by cases he
 |s::r,d,h,hd,e,he=>by
  simp only [mkZ,BQ] at he
  rcases he with rfl|he
  ·exact ⟨d,s,rfl,h s Df,hd⟩
  ·exact QBJ r (epN d s) (fun s hs=>h s (B8 _ hs)) (QrK hd) e he
theorem QSd (d:Ab): ∀ s∈JY d,s∈Gi:=by
 rcases QMc d with h|h|h<;>rw [h]
 ·exact fun s hs=>DA hs
 ·exact fun s hs=>DA hs
 ·exact fun s hs=>hs
theorem mk_eps {d:Ab}(h:dOk d=true): ∀ e∈QT (mkX d),mkP e:=QBJ (JY d) (Qc d 3) (QSd d) (Qz h)
theorem QSe (d:Ab):(QT (mkX d)).length=(JY d).length:=QBI _ _
theorem QBK: ∀ (m n:Nat) (i:Int) (l:List Aa) (d:Ab),dOk d=true->(edN m n i l d).1.length<=l.length+n*m
 |0,_,_,_,_,_=>by simp [edN]
 |m+1,n,i,l,d,h=>by
  have h1:=VT n i 0 l d h
  have h2:=QBK m n (i+1) (edM n i 0 l d).1 (edM n i 0 l d).2 h1.1
  have h3:=h1.2
  rw [Nat.mul_add,Nat.mul_one]
  unfold edN
  omega
end K.PE
namespace K
open Go.RowKit PE
def Uy (d0:Ab):Ai×Ab:=
 let d1:=Qc d0 3
 let d2:=Qr d1 [14,1,2,5,15,0,16,10,20,7]
 let b2:=done d2 2
 let d3:=Qc d2 2
 let below:=if b2 then dof d3 [2048,256,1024,3072,129] else 0
 let d4:=if b2 then Qr d3 [2048,256,1024,3072,129] else d3
 let b4:=done d4 3
 let d5:=Qc d4 3
 let purpose:=if b4 then Qi .i64 1 (Qg d5 4) else 0
 let d6:=if b4 then Qc d5 4 else d5
 let b6:=done d6 2
 let d7:=Qc d6 2
 let frm:=if b6 then dof d7 [10,30,100,7] else 0
 let d8:=if b6 then Qr d7 [10,30,100,7] else d7
 let b8:=done d8 3
 let d9:=Qc d8 3
 let to:=if b8 then Qi .i64 frm (dof d9 [20,1,200]) else 40001
 let d10:=if b8 then Qr d9 [20,1,200] else d9
 ((done d0 3,(dof d1 [14,1,2,5,15,0,16,10,20,7],(below,(purpose,(frm,(to,())))))),d10)
def XB:Nat->Ab->List Ai×Ab
 |0,d=>([],d)
 |n+1,d=>((Uy d).1::(XB n (Uy d).2).1,(XB n (Uy d).2).2)
def G1 (d:Ab):Aa×Ab:=((Qi .i64 1 (Qg d 4),(dof (Qc d 4) [10,100,3000],())),Qr (Qc d 4) [10,100,3000])
def Wv:Nat->Ab->List Aa×Ab
 |0,d=>([],d)
 |n+1,d=>((G1 d).1::(Wv n (G1 d).2).1,(Wv n (G1 d).2).2)
def Id (d:Ab):List Ai×Ab:=XB (Qg d 7).toNat (Qc d 7)
def Qt5 (d:Ab):List Aa×Ab:=Wv (Qg (Id d).2 3).toNat (Qc (Id d).2 3)
def G2 (d:Ab):Ah:=((Id d).1,((Qt5 d).1,()))
def Ie (d:Ab):Ab:=(Qt5 d).2
theorem QKF {d:Ab}(h:dOk d=true):dOk (Uy d).2=true:=by
 unfold Uy
 simp only
 repeat' split
 all_goals (repeat first|exact h|apply Qz|apply JB)
theorem QKG {n:Nat}: ∀ {d:Ab},dOk d=true->dOk (XB n d).2=true:=by
 induction n with
 |zero=>exact fun h=>h
 |succ n ih=>exact fun h=>ih (QKF h)
theorem QKH {d:Ab}(h:dOk d=true):dOk (G1 d).2=true:=JB (l:=[10,100,3000]) (Qz h)
theorem QZP {n:Nat}: ∀ {d:Ab},dOk d=true->dOk (Wv n d).2=true:=by
 induction n with
 |zero=>exact fun h=>h
 |succ n ih=>exact fun h=>ih (QKH h)
theorem QZQ {d:Ab}(h:dOk d=true):dOk (Ie d)=true:=QZP (Qz (QKG (Qz h)))
theorem QZR (d:Ab):YG (Uy d).1=true:=by
 have ga: ∀ d:Ab,0<=dof d [14,1,2,5,15,0,16,10,20,7]/\dof d [14,1,2,5,15,0,16,10,20,7]<=22:=fun d=>by
  have h:=X9 (d:=d) (l:=[14,1,2,5,15,0,16,10,20,7]) (by decide)
  simp only [BQ,B3,Dt] at h
  omega
 have gb: ∀ d:Ab,0<=dof d [2048,256,1024,3072,129]/\dof d [2048,256,1024,3072,129]<=16384:=fun d=>by
  have h:=X9 (d:=d) (l:=[2048,256,1024,3072,129]) (by decide)
  simp only [BQ,B3,Dt] at h
  omega
 have gf: ∀ d:Ab,0<=dof d [10,30,100,7]/\dof d [10,30,100,7]<=100:=fun d=>by
  have h:=X9 (d:=d) (l:=[10,30,100,7]) (by decide)
  simp only [BQ,B3,Dt] at h
  omega
 have gt: ∀ d:Ab,1<=dof d [20,1,200]/\dof d [20,1,200]<=200:=fun d=>by
  have h:=X9 (d:=d) (l:=[20,1,200]) (by decide)
  simp only [BQ,B3,Dt] at h
  omega
 have gp: ∀ d:Ab,1<=Qi .i64 1 (Qg d 4)/\Qi .i64 1 (Qg d 4)<=4:=fun d=>by
  have h:=Q8 (d:=d) (n:=4) (by omega)
  rw [Ja (by omega)]
  omega
 have gu: ∀ (x:Int) (d:Ab),0<=x->x<=100->Qi .i64 x (dof d [20,1,200])=x+dof d [20,1,200]:=fun x d h1 h2=>by
  have h:=gt d
  exact Ja (by omega)
 unfold YG
 rw [Ba]
 unfold Uy
 simp only [Aa.Alg,Ae.Purpose,Ab.L,Ag.Purpose,Ai.Alg,Ai.Below,Ai.Purpose,Ai.From,Ai.To,Ak.p,Ak.l,Ak.o,Ak.day,Aq.outcome,Aq.uses,Af.From,Af.To,An.server,An.version,An.suites,Ar.name,Ar.kind,Al.name,Al.kind,Al.way,Al.sizes,Al.strengths]
 have pB: ∀ (b:Bool) (e:Ab),(0<=if b=true then dof e [2048,256,1024,3072,129] else 0)/\(if b=true then dof e [2048,256,1024,3072,129] else 0)<=16384:=by
  intro b e
  have h:=gb e
  cases b<;>simp only [BE,if_true,Dc]<;>omega
 have pP: ∀ (b:Bool) (e:Ab),(0<=if b=true then Qi .i64 1 (Qg e 4) else 0)/\(if b=true then Qi .i64 1 (Qg e 4) else 0)<=4:=by
  intro b e
  have h:=gp e
  cases b<;>simp only [BE,if_true,Dc]<;>omega
 refine ⟨(ga _).1,(ga _).2,(pB _ _).1,(pB _ _).2,(pP _ _).1,(pP _ _).2, ?_⟩
 have key: ∀ (b1 b2:Bool) (e1 e2:Ab),(0<=if b1=true then dof e1 [10,30,100,7] else 0)/\(if b1=true then dof e1 [10,30,100,7] else 0)<(if b2=true then Qi .i64 (if b1=true then dof e1 [10,30,100,7] else 0) (dof e2 [20,1,200]) else 40001)/\(if b2=true then Qi .i64 (if b1=true then dof e1 [10,30,100,7] else 0) (dof e2 [20,1,200]) else 40001)<=40001:=by
  intro b1 b2 e1 e2
  have h1:=gf e1
  have h2:=gt e2
  cases b1<;>cases b2<;>simp only [BE,if_true,Dc]
  ·omega
  ·rw [gu _ _ (by omega) (by omega)];omega
  ·omega
  ·rw [gu _ _ (by omega) (by omega)];omega
 exact key _ _ _ _
theorem QKI: ∀ (n:Nat) (d:Ab),(XB n d).1.length=n∧ ∀ r,r∈(XB n d).1->YG r=true
 |0,d=>⟨rfl,fun r h=>by cases h⟩
 |n+1,d=>by
  obtain ⟨h1,h2⟩:=QKI n (Uy d).2
  refine ⟨by simp only [XB,Br,h1],fun r h=> ?_⟩
  rcases BQ.1 h with rfl|h
  ·exact QZR d
  ·exact h2 r h
theorem QZS (d:Ab):YH (G1 d).1=true:=by
 have h:=X9 (d:=Qc d 4) (l:=[10,100,3000]) (by decide)
 simp only [BQ,B3,Dt] at h
 have h2:=Q8 (d:=d) (n:=4) (by omega)
 have h3:Qi .i64 1 (Qg d 4)=1+Qg d 4:=Ja (by omega)
 unfold YH G1
 rw [Ba]
 simp only [h3]
 omega
theorem QKJ: ∀ (n:Nat) (d:Ab),(Wv n d).1.length=n∧ ∀ r,r∈(Wv n d).1->YH r=true
 |0,d=>⟨rfl,fun r h=>by cases h⟩
 |n+1,d=>by
  obtain ⟨h1,h2⟩:=QKJ n (G1 d).2
  refine ⟨by simp only [Wv,Br,h1],fun r h=> ?_⟩
  rcases BQ.1 h with rfl|h
  ·exact QZS d
  ·exact h2 r h
theorem QZT (d:Ab):(G2 d).1.length<=6/\(G2 d).2.1.length<=2:=by
 have b7:=Q8 (d:=d) (n:=7) (by omega)
 have b3:=Q8 (d:=(Id d).2) (n:=3) (by omega)
 have h1:=(QKI (Qg d 7).toNat (Qc d 7)).1
 have h2:=(QKJ (Qg (Id d).2 3).toNat (Qc (Id d).2 3)).1
 unfold G2 Qt5 Id at*
 simp only
 omega
end K
namespace K.PE
abbrev QkJ:Sh:=⟨[(0,.ptr 50000 0),(2,.ptr 2 0),(3,.ptr 3 0),(4,.ty tI)],[(2,.box Q3),(3,.bag [.ms 20300,.ms 20301]),(50,.no),(68,.no),(20300,.arr 93 Jz),(20301,.arr 95 Qe),(50000,.box Qn)]⟩
abbrev QZ4:Sh:=⟨[(0,.ptr 50000 0),(2,.ptr 2 0),(3,.ptr 3 0)],[(2,.box Q3),(3,.bag [.ms 20300,.ms 20301]),(50,.no),(68,.no),(20300,.arr 93 Jz),(20301,.arr 95 Qe),(50000,.box Qn)]⟩
abbrev QkK:Sh:=⟨[(0,.ptr 50000 0),(2,.ptr 2 0),(3,.ptr 3 0),(6,.ty tI)],[(2,.box Q3),(3,.bag [.ms 20300,.ms 20301]),(50,.no),(68,.no),(20300,.arr 93 Jz),(20301,.arr 95 Qe),(50000,.box Qn)]⟩
abbrev QZ5:Sh:=⟨[(2,.ptr 2 0),(3,.ptr 3 0)],[(2,.box Q3),(3,.bag [.ms 20300,.ms 20301]),(50,.no),(68,.no),(20300,.arr 93 Jz),(20301,.arr 95 Qe),(50000,.box Qn)]⟩
def Qua:Fg:=QkJ.f
def Qub:Fg:=QkK.f
def Quc:TC:=aF Tryz.f9 [(58,.nf 3 1 95 20301),(58,.nf 3 0 93 20300),(58,pL 0 Qua),(931,.fg ⟨[(0,none),(2,none),(3,none)],[(2,some Q3),(3,some Q3),(50,none),(68,none),(20300,none),(20301,none),(50000,some Qn)]⟩),(119418,pE [[5],[5],[50000],[],[43,5043,10043,15043,50000],[],[5],[5]] (oN 8)),(122,.nf 3 0 93 20300),(122,.nf 3 1 95 20301),(122,pL 1 Qub),(1955,.fg ⟨[(2,none),(3,none)],[(2,some Q3),(3,some Q3),(50,none),(68,none),(20300,none),(20301,none),(50000,some Qn)]⟩),(1956,pE [[3,50,68,20300,20301],[3,50,68,20300,20301],[50000],[61,5061,10061,15061,50000],[],[50000],[],[65,5065,10065,15065,50000],[],[],[2,3,50,68,5068,10068,15068,20300,20301],[3,50,68,20300,20301],[2,3,50,68,20300,20301]] (.of [0,1,2,5,6,3,4,7,8,9,10,11,12]))]
def QKS:TC:=lb 0 Quc
def QKT:TC:=lb 1 Quc
def QKU (x4:Int)(y2:Ah)(Qf:List Ai)(Qj:List Aa)(Qa:Ab):VS:=QkJ.st ((),(),(),x4,()) (y2,((),(),()),(),(),Qf,Qj,Qa,())
def Qud (y2:Ah)(Qf:List Ai)(Qj:List Aa)(Qa:Ab):VS:=QZ4.st ((),(),(),()) (y2,((),(),()),(),(),Qf,Qj,Qa,())
def QKV (x6:Int)(y2:Ah)(Qf:List Ai)(Qj:List Aa)(Qa:Ab):VS:=QkK.st ((),(),(),x6,()) (y2,((),(),()),(),(),Qf,Qj,Qa,())
def Que (y2:Ah)(Qf:List Ai)(Qj:List Aa)(Qa:Ab):VS:=QZ5.st ((),(),()) (y2,((),(),()),(),(),Qf,Qj,Qa,())
def L_f9_0:VS->Option (Bool×List (Bool×Exit×VS)):=mkL QkJ (fun x y=>(dOk y.2.2.2.2.2.2.1&&decide (0<=x.2.2.2.1/\x.2.2.2.1<=100/\y.2.2.2.2.1.length+x.2.2.2.1.toNat<=1000))) (fun x y=>[(true,.exit 0,Qud (y.1) (y.2.2.2.2.1++(XB x.2.2.2.1.toNat y.2.2.2.2.2.2.1).1) (y.2.2.2.2.2.1) ((XB x.2.2.2.1.toNat y.2.2.2.2.2.2.1).2))])
def L_f9_1:VS->Option (Bool×List (Bool×Exit×VS)):=mkL QkK (fun x y=>(dOk y.2.2.2.2.2.2.1&&decide (0<=x.2.2.2.1/\x.2.2.2.1<=100/\y.2.2.2.2.2.1.length+x.2.2.2.1.toNat<=1000))) (fun x y=>[(true,.exit 2,Que (y.1) (y.2.2.2.2.1) (y.2.2.2.2.2.1++(Wv x.2.2.2.1.toNat y.2.2.2.2.2.2.1).1) ((Wv x.2.2.2.1.toNat y.2.2.2.2.2.2.1).2))])
def Qds:G:=gG 71 [(10,Y9),(13,Fq),(33,Ug)] (Ls [L_f9_0,L_f9_1])
def Quf (x4:Int)(y2:Ah)(Qf:List Ai)(Qj:List Aa)(Qa:Ab):OX:=Qu (Qx Qds Qua QKS) (QKU x4 y2 Qf Qj Qa)
def Qdt (kk:Int->Ah->List Ai->List Aa->Ab->OX)(x4:Int)(y2:Ah)(Qf:List Ai)(Qj:List Aa)(Qa:Ab):OX:=
 let a21:=(Qr (Qc Qa 3) ([14,1,2,5,15,0,16,10,20,7]))
 let a1:=Qc a21 2
 let a29:=(Qr a1 ([2048,256,1024,3072,129]))
 let a2:=Qc a29 3
 let a3:=(dof (Qc Qa 3) ([14,1,2,5,15,0,16,10,20,7]))
 let a4:=Qc (Qc (Qc a1 3) 4) 2
 let a5:=(dof a1 ([2048,256,1024,3072,129]))
 let a6:=Qc (Qc a2 4) 2
 let a7:=Qc (Qc a1 3) 2
 let a8:=done Qa 3
 let a9:=Qi .i64 1 (Qg (Qc a1 3) 4)
 let a10:=(Qr (Qc a2 2) ([10,30,100,7]))
 let a11:=QQ .i64 x4 1
 let a12:=(dof (Qc a2 2) ([10,30,100,7]))
 let a13:=Qi .i64 1 (Qg a2 4)
 let a14:=(Qr a6 ([10,30,100,7]))
 let a15:=(Qr a4 ([10,30,100,7]))
 let a16:=(Qr a7 ([10,30,100,7]))
 let a17:=(dof a6 ([10,30,100,7]))
 let a18:=(dof a4 ([10,30,100,7]))
 let a19:=(dof a7 ([10,30,100,7]))
 let a20:=Qc (Qc a2 2) 3
 let a22:=(Qi .i64 a17 (dof (Qc a14 3) ([20,1,200])))
 let a23:=(Qi .i64 a12 (dof (Qc a10 3) ([20,1,200])))
 let a24:=(Qi .i64 a18 (dof (Qc a15 3) ([20,1,200])))
 let a25:=(Qi .i64 a19 (dof (Qc a16 3) ([20,1,200])))
 let a26:=(Qi .i64 0 (dof (Qc a6 3) ([20,1,200])))
 let a27:=(Qi .i64 0 (dof (Qc a4 3) ([20,1,200])))
 let a28:=(Qi .i64 0 (dof (Qc a7 3) ([20,1,200])))
 let a30:=(Qi .i64 0 (dof a20 ([20,1,200])))
 br (igt x4 0) (br (Jb Qa 3) (br (QR (Qc Qa 3) ([14,1,2,5,15,0,16,10,20,7])) (br (Jb a21 2) (br (done a21 2) (br (QR a1 ([2048,256,1024,3072,129])) (br (Jb a29 3) (br (done a29 3) (br (QE a2 4) (br (Jb (Qc a2 4) 2) (br (done (Qc a2 4) 2) (br (QR a6 ([10,30,100,7])) (br (Jb a14 3) (br (done a14 3) (br (QR (Qc a14 3) ([20,1,200])) (br (Qt Qf ([(a8,(a3,(a5,(a13,(a17,(a22,()))))))]) 48) (kk a11 y2 (Qf++([(a8,(a3,(a5,(a13,(a17,(a22,()))))))])) Qj (Qr (Qc a14 3) ([20,1,200]))) none) none) (br (Qt Qf ([(a8,(a3,(a5,(a13,(a17,(40001,()))))))]) 48) (kk a11 y2 (Qf++([(a8,(a3,(a5,(a13,(a17,(40001,()))))))])) Qj (Qc a14 3)) none)) none) none) (br (Jb a6 3) (br (done a6 3) (br (QR (Qc a6 3) ([20,1,200])) (br (Qt Qf ([(a8,(a3,(a5,(a13,(0,(a26,()))))))]) 48) (kk a11 y2 (Qf++([(a8,(a3,(a5,(a13,(0,(a26,()))))))])) Qj (Qr (Qc a6 3) ([20,1,200]))) none) none) (br (Qt Qf ([(a8,(a3,(a5,(a13,(0,(40001,()))))))]) 48) (kk a11 y2 (Qf++([(a8,(a3,(a5,(a13,(0,(40001,()))))))])) Qj (Qc a6 3)) none)) none)) none) none) (br (Jb a2 2) (br (done a2 2) (br (QR (Qc a2 2) ([10,30,100,7])) (br (Jb a10 3) (br (done a10 3) (br (QR (Qc a10 3) ([20,1,200])) (br (Qt Qf ([(a8,(a3,(a5,(0,(a12,(a23,()))))))]) 48) (kk a11 y2 (Qf++([(a8,(a3,(a5,(0,(a12,(a23,()))))))])) Qj (Qr (Qc a10 3) ([20,1,200]))) none) none) (br (Qt Qf ([(a8,(a3,(a5,(0,(a12,(40001,()))))))]) 48) (kk a11 y2 (Qf++([(a8,(a3,(a5,(0,(a12,(40001,()))))))])) Qj (Qc a10 3)) none)) none) none) (br (Jb (Qc a2 2) 3) (br (done (Qc a2 2) 3) (br (QR a20 ([20,1,200])) (br (Qt Qf ([(a8,(a3,(a5,(0,(0,(a30,()))))))]) 48) (kk a11 y2 (Qf++([(a8,(a3,(a5,(0,(0,(a30,()))))))])) Qj (Qr a20 ([20,1,200]))) none) none) (br (Qt Qf ([(a8,(a3,(a5,(0,(0,(40001,()))))))]) 48) (kk a11 y2 (Qf++([(a8,(a3,(a5,(0,(0,(40001,()))))))])) Qj a20) none)) none)) none)) none) none) (br (Jb a1 3) (br (done a1 3) (br (QE (Qc a1 3) 4) (br (Jb (Qc (Qc a1 3) 4) 2) (br (done (Qc (Qc a1 3) 4) 2) (br (QR a4 ([10,30,100,7])) (br (Jb a15 3) (br (done a15 3) (br (QR (Qc a15 3) ([20,1,200])) (br (Qt Qf ([(a8,(a3,(0,(a9,(a18,(a24,()))))))]) 48) (kk a11 y2 (Qf++([(a8,(a3,(0,(a9,(a18,(a24,()))))))])) Qj (Qr (Qc a15 3) ([20,1,200]))) none) none) (br (Qt Qf ([(a8,(a3,(0,(a9,(a18,(40001,()))))))]) 48) (kk a11 y2 (Qf++([(a8,(a3,(0,(a9,(a18,(40001,()))))))])) Qj (Qc a15 3)) none)) none) none) (br (Jb a4 3) (br (done a4 3) (br (QR (Qc a4 3) ([20,1,200])) (br (Qt Qf ([(a8,(a3,(0,(a9,(0,(a27,()))))))]) 48) (kk a11 y2 (Qf++([(a8,(a3,(0,(a9,(0,(a27,()))))))])) Qj (Qr (Qc a4 3) ([20,1,200]))) none) none) (br (Qt Qf ([(a8,(a3,(0,(a9,(0,(40001,()))))))]) 48) (kk a11 y2 (Qf++([(a8,(a3,(0,(a9,(0,(40001,()))))))])) Qj (Qc a4 3)) none)) none)) none) none) (br (Jb (Qc a1 3) 2) (br (done (Qc a1 3) 2) (br (QR a7 ([10,30,100,7])) (br (Jb a16 3) (br (done a16 3) (br (QR (Qc a16 3) ([20,1,200])) (br (Qt Qf ([(a8,(a3,(0,(0,(a19,(a25,()))))))]) 48) (kk a11 y2 (Qf++([(a8,(a3,(0,(0,(a19,(a25,()))))))])) Qj (Qr (Qc a16 3) ([20,1,200]))) none) none) (br (Qt Qf ([(a8,(a3,(0,(0,(a19,(40001,()))))))]) 48) (kk a11 y2 (Qf++([(a8,(a3,(0,(0,(a19,(40001,()))))))])) Qj (Qc a16 3)) none)) none) none) (br (Jb a7 3) (br (done a7 3) (br (QR (Qc a7 3) ([20,1,200])) (br (Qt Qf ([(a8,(a3,(0,(0,(0,(a28,()))))))]) 48) (kk a11 y2 (Qf++([(a8,(a3,(0,(0,(0,(a28,()))))))])) Qj (Qr (Qc a7 3) ([20,1,200]))) none) none) (br (Qt Qf ([(a8,(a3,(0,(0,(0,(40001,()))))))]) 48) (kk a11 y2 (Qf++([(a8,(a3,(0,(0,(0,(40001,()))))))])) Qj (Qc a7 3)) none)) none)) none)) none)) none) none) none) (some (.exit 0,Qud y2 Qf Qj Qa))
def Qdu (x4:Int)(y2:Ah)(Qf:List Ai)(Qj:List Aa)(Qa:Ab):OX:=
 let a1:=XB x4.toNat Qa
 some (.exit 0,Qud (y2) (Qf++a1.1) (Qj) (a1.2))
theorem QKW (x4 y2 Qf Qj Qa):Quf x4 y2 Qf Qj Qa=Qdt Quf x4 y2 Qf Qj Qa:=lnT (x:=Qdt (fun x4 y2 Qf Qj Qa=>some (.normal,QKU x4 y2 Qf Qj Qa)) x4 y2 Qf Qj Qa) (by simp only [Qdt,nxA];rfl)
def Qug (x6:Int)(y2:Ah)(Qf:List Ai)(Qj:List Aa)(Qa:Ab):OX:=Qu (Qx Qds Qub QKT) (QKV x6 y2 Qf Qj Qa)
def Qdv (kk:Int->Ah->List Ai->List Aa->Ab->OX)(x6:Int)(y2:Ah)(Qf:List Ai)(Qj:List Aa)(Qa:Ab):OX:=
 let a1:=Qc Qa 4
 let a2:=Qi .i64 1 (Qg Qa 4)
 let a3:=(dof a1 ([10,100,3000]))
 br (igt x6 0) (br (QE Qa 4) (br (QR a1 ([10,100,3000])) (br (Qt Qj ([(a2,(a3,()))]) 16) (kk (QQ .i64 x6 1) y2 Qf (Qj++([(a2,(a3,()))])) (Qr a1 ([10,100,3000]))) none) none) none) (some (.exit 2,Que y2 Qf Qj Qa))
def Qdw (x6:Int)(y2:Ah)(Qf:List Ai)(Qj:List Aa)(Qa:Ab):OX:=
 let a1:=Wv x6.toNat Qa
 some (.exit 2,Que (y2) (Qf) (Qj++a1.1) (a1.2))
theorem QKX (x6 y2 Qf Qj Qa):Qug x6 y2 Qf Qj Qa=Qdv Qug x6 y2 Qf Qj Qa:=lnT (x:=Qdv (fun x6 y2 Qf Qj Qa=>some (.normal,QKV x6 y2 Qf Qj Qa)) x6 y2 Qf Qj Qa) (by simp only [Qdv,nxA];rfl)
def r_f9 (d0:Ab):OV:=
 let a1:=XB (Qg d0 7).toNat (Qc d0 7)
 let a2:=Qg (a1.2) 3
 let a3:=Wv a2.toNat (Qc (a1.2) 3)
 br (QE d0 7) (br (dOk (Qc d0 7)&&decide (0<=(Qg d0 7)/\(Qg d0 7)<=100/\([]:List Ai).length+(Qg d0 7).toNat<=1000)) (br (QE (a1.2) 3) (br (dOk (Qc (a1.2) 3)&&decide (0<=a2/\a2<=100/\([]:List Aa).length+a2.toNat<=1000)) (some (.t Q3 ((([]:List Ai)++a1.1),((([]:List Aa)++a3.1),())),[.box (.t Qn (a3.2))])) none) none) none) none
theorem l_f9_0 (x4:Int)(y2:Ah)(Qf:List Ai)(Qj:List Aa)(Qa:Ab)(h:(dOk Qa&&decide (0<=x4/\x4<=100/\Qf.length+x4.toNat<=1000))=true):Quf x4 y2 Qf Qj Qa=Qdu x4 y2 Qf Qj Qa:=by
 simp only [Bd,Ba] at h
 obtain ⟨hd,h1,h2q,h3⟩:=h
 obtain ⟨k,rfl⟩:=Bm h1
 rw [Bb] at h3
 have h2:k<=100:=by omega
 clear h1 h2q
 induction k generalizing Qf Qa with
 |zero=>
  rw [QKW]
  have e1:igt ((0:Nat):Int) 0=false:=rfl
  simp only [Qdt,e1,Qh,Qdu,Bb,XB,BH]
 |succ k ih=>
  rw [QKW]
  have e1:igt ((k+1:Nat):Int) 0=true:=by simp only [igt,Ba];omega
  have e2:QQ .i64 ((k+1:Nat):Int) 1=(k:Int):=by rw [Zv (by omega)];omega
  simp only [Qdt,e1,e2,Qd]
  have hla:Qdu ((k+1:Nat):Int) y2 Qf Qj Qa=Qdu (k:Int) y2 (Qf++[(Uy Qa).1]) Qj (Uy Qa).2:=by
   simp only [Qdu,Bb,XB,BG]
   rfl
  rw [hla, <- ih _ _ (QKF hd) (by simp;omega) (by omega)]
  clear ih hla
  have hi: ∀ x:Ai,Qt Qf [x] 48=true:=fun x=>QpP (by simp;omega) (by omega)
  have o2: ∀ d,dOk d=true->Jb d 2=true:=fun d h=>by simp [Jb,QE,h]
  have o3: ∀ d,dOk d=true->Jb d 3=true:=fun d h=>by simp [Jb,QE,h]
  have n4: ∀ d,dOk d=true->QE d 4=true:=fun d h=>by simp [QE,h]
  have f1: ∀ d,dOk d=true->QR d [14,1,2,5,15,0,16,10,20,7]=true:=fun d h=>by simp [QR,h]
  have f2: ∀ d,dOk d=true->QR d [2048,256,1024,3072,129]=true:=fun d h=>by simp [QR,h]
  have f3: ∀ d,dOk d=true->QR d [10,30,100,7]=true:=fun d h=>by simp [QR,h]
  have f4: ∀ d,dOk d=true->QR d [20,1,200]=true:=fun d h=>by simp [QR,h]
  simp (maxDischargeDepth:=30) only [o2,o3,n4,f1,f2,f3,f4,Qw2,JB,hd,hi,Qd]
  repeat' (refine Q1 ?_ ?_<;>intro _)
  all_goals simp only [Uy, *, if_true,Dc,BE]
theorem l_f9_1 (x6:Int)(y2:Ah)(Qf:List Ai)(Qj:List Aa)(Qa:Ab)(h:(dOk Qa&&decide (0<=x6/\x6<=100/\Qj.length+x6.toNat<=1000))=true):Qug x6 y2 Qf Qj Qa=Qdw x6 y2 Qf Qj Qa:=by
 simp only [Bd,Ba] at h
 obtain ⟨hd,h1,h2q,h3⟩:=h
 obtain ⟨k,rfl⟩:=Bm h1
 rw [Bb] at h3
 have h2:k<=100:=by omega
 clear h1 h2q
 induction k generalizing Qj Qa with
 |zero=>
  rw [QKX]
  have e1:igt ((0:Nat):Int) 0=false:=rfl
  simp only [Qdv,e1,Qh,Qdw,Bb,Wv,BH]
 |succ k ih=>
  rw [QKX]
  have e1:igt ((k+1:Nat):Int) 0=true:=by simp only [igt,Ba];omega
  have e2:QQ .i64 ((k+1:Nat):Int) 1=(k:Int):=by rw [Zv (by omega)];omega
  simp only [Qdv,e1,e2,Qd]
  have hla:Qdw ((k+1:Nat):Int) y2 Qf Qj Qa=Qdw (k:Int) y2 Qf (Qj++[(G1 Qa).1]) (G1 Qa).2:=by
   simp only [Qdw,Bb,Wv,BG]
   rfl
  rw [hla, <- ih _ _ (QKH hd) (by simp;omega) (by omega)]
  clear ih hla
  have hi: ∀ x:Aa,Qt Qj [x] 16=true:=fun x=>QpP (by simp;omega) (by omega)
  have n4: ∀ d,dOk d=true->QE d 4=true:=fun d h=>by simp [QE,h]
  have f1: ∀ d,dOk d=true->QR d [10,100,3000]=true:=fun d h=>by simp [QR,h]
  simp (maxDischargeDepth:=30) only [n4,f1,Qw2,JB,hd,hi,Qd]
  rfl
theorem QZ6:LO Qds Qua QKS 0:=QC (s:=QkJ) fun x y h _ q=>by simp only [QA,QB] at q;exact (l_f9_0 x.2.2.2.1 y.1 y.2.2.2.2.1 y.2.2.2.2.2.1 y.2.2.2.2.2.2.1 h).trans q
theorem QZ7:LO Qds Qub QKT 1:=QC (s:=QkK) fun x y h _ q=>by simp only [QA,QB] at q;exact (l_f9_1 x.2.2.2.1 y.1 y.2.2.2.2.1 y.2.2.2.2.2.1 y.2.2.2.2.2.2.1 h).trans q
theorem s_f9 (d)(h:dOk d=true):r_f9 d=some (.t Q3 (G2 d),[.box (.t Qn (Ie d))]):=by
 have n7: ∀ d,dOk d=true->QE d 7=true:=fun d h=>by simp [QE,h]
 have n3: ∀ d,dOk d=true->QE d 3=true:=fun d h=>by simp [QE,h]
 have b7:=Q8 (d:=d) (n:=7) (by omega)
 have h2:dOk (XB (Qg d 7).toNat (Qc d 7)).2=true:=QKG (Qz h)
 have b3:=Q8 (d:=(XB (Qg d 7).toNat (Qc d 7)).2) (n:=3) (by omega)
 simp only [r_f9,n7 d h,Qd,BM]
 rw [Qz h,By,GA ⟨b7.1,by omega,by rw [Bv];omega⟩,Qd,n3 _ h2,Qd,Qz h2,By,GA ⟨b3.1,by omega,by rw [Bv];omega⟩,Qd]
 rfl
def sp_f9:Ent:=Yz Qn .nil (fun d x=>(dOk d)) (fun d x=>(.t Q3 (G2 d))) (fun d x=>(Ie d))
theorem ms_f9:EM 9 sp_f9:=mS (lk:=lkL (lkc QZ6 (lkc QZ7 lkn))) Qds Quc [((.c 2 true 2),some Q3)] false (gB (gD Xq (gD EG (gD UY gN)))) fun m=>Y7 m rfl fun d x hok=>kT (s_f9 d hok)
def wkV (d:Ab):Ah:=([(false,(dof d [14,16,2,12],(0,(0,(dof (Qr d [14,16,2,12]) [0,5,100],(40001,()))))))],([],()))
def wkN (d:Ab):Ab:=Qr (Qr d [14,16,2,12]) [0,5,100]
def tc_f11:TC:=aF Tryz.f11 []
def g_f11:G:=gG 12 [(33,Ug)] (fun _ _=>none)
def r_f11 (d0:Ab):OV:=
 let a1:=(Qr d0 ([14,16,2,12]))
 br (QR d0 ([14,16,2,12])) (br (QR a1 ([0,5,100])) (some (.t Q3 ([(false,((dof d0 ([14,16,2,12])),(0,(0,((dof a1 ([0,5,100])),(40001,()))))))],(([]:List Aa),())),[.box (.t Qn (Qr a1 ([0,5,100])))])) none) none
theorem s_f11 (d)(h:dOk d=true):r_f11 d=some (.t Q3 (wkV d),[.box (.t Qn (wkN d))]):=
 brY (XJ h (by decide) (by decide)) (brY (XJ (JB (l:=[14,16,2,12]) h) (by decide) (by decide)) rfl)
def QKY:Ent:=Yz Qn .nil (fun d x=>(dOk d)) (fun d x=>(.t Q3 (wkV d))) (fun d x=>(wkN d))
theorem ms_f11:EM 11 QKY:=mS g_f11 tc_f11 [((.c 2 true 2),some Q3)] false (gB (gD UY gN)) fun m=>Y7 m rfl fun d x hok=>kT (s_f11 d hok)
def Qdx:Bool:=true
def tc_f5:TC:=aF Tryz.f5 []
def rv_f5:List (RV×Option Ty):=[((.t 0),some .bool)]
def g_f5:G:=gG 44 [(15,QnY),(20,QsV),(24,Qs1)] (fun _ _=>none)
def r_f5  : OV:=
 let a1:=(Xg (([]:List Ac),(([]:List Aa),(([]:List Ag),()))) (([]:List Ai),(([]:List Aa),())) ([]:List Ae) (([]:List Int),(0,())) 0)
 br (Eh (([]:List Ac),(([]:List Aa),(([]:List Ag),()))) (([]:List Ai),(([]:List Aa),())) ([]:List Ae) (([]:List Int),(0,())) 0 0) (br (E9 (([]:List Ac),(([]:List Aa),(([]:List Ag),()))) (([]:List Ai),(([]:List Aa),())) ([]:List Ae) (([]:List Int),(0,())) 0) (br (Ut (([]:List Ac),(([]:List Aa),(([]:List Ag),()))) (([]:List Ac),(([]:List Aa),(([]:List Ag),()))) (([]:List Ai),(([]:List Aa),())) ([]:List Ae) (([]:List Int),(0,())) (-1)) (br (ieq ((Y4 (([]:List Ac),(([]:List Aa),(([]:List Ag),()))) (([]:List Ai),(([]:List Aa),())) ([]:List Ae) (([]:List Int),(0,())) 0 0).2) 4) (br (ieq (a1.2) 0) (br (ieq (Qb (a1.1)) 0) (some (.t .bool (ieq ((Xe (([]:List Ac),(([]:List Aa),(([]:List Ag),()))) (([]:List Ac),(([]:List Aa),(([]:List Ag),()))) (([]:List Ai),(([]:List Aa),())) ([]:List Ae) (([]:List Int),(0,())) (-1)).2) 2),[])) (some (.t .bool false,[]))) (some (.t .bool false,[]))) (some (.t .bool false,[]))) none) none) none
theorem e_f5  : JL g_f5 tc_f5 rv_f5 false [] []=r_f5  :=by kernel_rfl
theorem s_f5:r_f5=some (.t .bool Qdx,[]):=by kernel_rfl
def sp_f5:Ent:=Qm .nil (fun x=>true) (fun x=>(.t .bool Qdx))
theorem ms_f5:EM 5 sp_f5:=mS g_f5 tc_f5 rv_f5 false (gB (gD Qzs (gD QIF (gD QIL gN)))) fun m=>Qq m fun x _=>(e_f5 ).trans (s_f5)
theorem QKZ: ∀ (n:Nat) (d:Ab),dOk d=true->dOk (itZ n d).2=true
 |0,_,h=>h
 |n+1,d,h=>QKZ n _ (Qd4 (s:=YD d sIt) (OH h))
theorem mk_dOk {d:Ab}(h:dOk d=true):dOk (Gj d)=true:=by
 have h1:=Qlo (JY d) (Qc d 3) (Qz h)
 have h2:dOk (Xn d).2=true:=Qvg (JY d).length (JY d).length 0 [] _ h1
 exact QKZ _ _ (Qz h2)
theorem Quh (f:Int->Bool): ∀ (k:Nat) (i:Int),(Zn f k i).length<=k
 |0,_=>BI 0
 |k+1,i=>by
  have:=Quh f k (i+1)
  unfold Zn
  cases f i with
  |true=>rw [B6,Br];omega
  |false=>rw [BW];omega
theorem QZ8 (e:Ad)(y:Ah)(l:List Ae)(o:Ab)(i d:Int):(Y4 e y l o i d).1.length<=64:=by
 have:=IU (rl y l o d) e i
 unfold Y4
 cases !JQ e with
 |true=>exact B0 _
 |false=>
  cases ine (JE (rl y l o d)) 0 with
  |true=>exact B0 _
  |false=>
   cases (ilt i 0||ige i (Qb e.2.1)) with
   |true=>exact B0 _
   |false=>exact this
theorem QZ9 (b a:Ad)(i:Int):(Xx b a i).1.length<=64:=by
 have:=Qoz b a i
 unfold Xx
 cases ine (JO b a) 0 with
 |true=>exact B0 _
 |false=>
  cases (ilt i 0||ige i (Qb b.2.1)) with
  |true=>exact B0 _
  |false=>exact this
theorem Q0a (b a:Ad)(y:Ah)(l:List Ae)(o:Ab)(d:Int):(Xe b a y l o d).1.length<=40:=by
 unfold Xe
 cases hb:ine (JO b a) 0 with
 |true=>exact B0 _
 |false=>
  cases ine (JE (rl y l o d)) 0 with
  |true=>exact B0 _
  |false=>exact B5 (Quh _ _ _) (WG (Ei hb).1).2.2.2.2.2
theorem Q0b (e:Ad)(y:Ah)(l:List Ae)(o:Ab)(d:Int):(Xg e y l o d).1.length<=40:=by
 unfold Xg
 cases he:JQ e with
 |false=>exact B0 _
 |true=>
  cases ine (JE (rl y l o d)) 0 with
  |true=>exact B0 _
  |false=>exact B5 (Quh _ _ _) (WG he).2.2.2.2.2
theorem QK0 (a:Int):ine a a=false:=by simp [ine]
theorem Q0c (a:List Aa):El a a=true:=by simp [El]
theorem Q0d (a:List Int):F8 a a=true:=by simp [F8]
def XC (a b c:Ad)(y:Ah)(l:List Ae)(o:Ab):Bool:=(Jh a&&(Jh b&&Jh c))&&(JP y&&ZT l o)
def paL (_:List Int)(_ _:Int)(_:Ae):Bool:=true
def Qui (_:List Int)(_ _:Int)(x:Ae):Bool:=Jy x
abbrev QkL:Sh:=⟨[(1,.ty tI),(10,.ptr 10 0),(11,.ptr 11 0),(12,.ptr 12 0),(13,.ptr 13 0),(14,.ty (.sl QK)),(15,.ptr 15 0),(17,.ty tI),(81,.ty (.sl tI)),(82,.ty tI),(83,.ty tI),(88,.ty (.sl tI)),(89,.ty tI),(90,.ty tI)],[(10,.box Qo),(11,.box Qo),(12,.box Qo),(13,.box Q3),(15,.box Qn),(69,.no),(77,.no),(5069,.no),(10069,.no),(15069,.no)]⟩
abbrev QkM:Sh:=⟨[(8,.ty .bool)],[]⟩
abbrev Q0e:Sh:=⟨[(1,.ty tI),(10,.ptr 10 0),(11,.ptr 11 0),(12,.ptr 12 0),(13,.ptr 13 0),(14,.ty (.sl QK)),(15,.ptr 15 0),(17,.ty tI),(81,.ty (.sl tI)),(82,.ty tI),(83,.ty tI)],[(10,.box Qo),(11,.box Qo),(12,.box Qo),(13,.box Q3),(15,.box Qn),(69,.no),(77,.no),(5069,.no),(10069,.no),(15069,.no)]⟩
abbrev QkN:Sh:=⟨[(1,.ty tI),(10,.ptr 10 0),(11,.ptr 11 0),(12,.ptr 12 0),(13,.ptr 13 0),(14,.ty (.sl QK)),(15,.ptr 15 0),(17,.ty tI),(81,.ty (.sl tI)),(82,.ty tI),(83,.ty tI),(149,.ty (.sl Qo)),(150,.ty tI),(151,.ty tI)],[(10,.box Qo),(11,.box Qo),(12,.box Qo),(13,.box Q3),(15,.box Qn),(69,.no),(77,.no),(5069,.no),(10069,.no),(15069,.no)]⟩
abbrev QkO:Sh:=⟨[(1,.ty tI),(10,.ptr 10 0),(11,.ptr 11 0),(12,.ptr 12 0),(13,.ptr 13 0),(14,.ty (.sl QK)),(15,.ptr 15 0),(81,.ty (.sl tI)),(82,.ty tI),(83,.ty tI)],[(10,.box Qo),(11,.box Qo),(12,.box Qo),(13,.box Q3),(15,.box Qn),(69,.no),(77,.no),(5069,.no),(10069,.no),(15069,.no)]⟩
abbrev QK1:Sh:=⟨[],[]⟩
def Quj:Fg:=QkL.f
def Quk:Fg:=QkN.f
def Qul:Fg:=QkO.f
def VE:TC:=aF Tryz.f3 [(8186,.fz [69]),(8186,pL 2 Qul),(130981,.fg QK1.f),(4191434,pL 0 Quj),(67062949,.fg ⟨[(1,some tI),(10,none),(11,none),(12,none),(13,none),(14,none),(15,none),(17,some tI),(81,some (.sl tI)),(82,some tI),(83,some tI)],[(10,some Qo),(11,some Qo),(12,some Qo),(13,some Q3),(15,some Qn),(69,none),(77,none),(5069,none),(10069,none),(15069,none)]⟩),(17168115317,.fg QkM.f),(68672461309,.fg QkM.f),(4191438,pL 1 Quk),(67063013,.fg ⟨[(1,some tI),(10,none),(11,none),(12,none),(13,none),(14,none),(15,none),(81,some (.sl tI)),(82,some tI),(83,some tI)],[(10,some Qo),(11,some Qo),(12,some Qo),(13,some Q3),(15,some Qn),(69,none),(77,none),(5069,none),(10069,none),(15069,none)]⟩),(137345053693,.fg QkM.f)]
def QK2:TC:=lb 0 VE
def QK3:TC:=lb 1 VE
def QK4:TC:=lb 2 VE
def rv_f3:List (RV×Option Ty):=[((.t 8),some .bool)]
def QK5 (x1:Int)(x14:List Ae)(x17:Int)(x81:List Int)(x82 x83:Int)(x88:List Int)(x89 x90:Int)(y10 y11 y12:Ad)(y13:Ah)(y15:Ab):VS:=QkL.st (x1,(),(),(),(),x14,(),x17,x81,x82,x83,x88,x89,x90,()) (y10,y11,y12,y13,y15,(),(),(),(),(),())
def Yt (x8:Bool):VS:=QkM.st (x8,()) ()
def Qum (x1:Int)(x14:List Ae)(x17:Int)(x81:List Int)(x82 x83:Int)(y10 y11 y12:Ad)(y13:Ah)(y15:Ab):VS:=Q0e.st (x1,(),(),(),(),x14,(),x17,x81,x82,x83,()) (y10,y11,y12,y13,y15,(),(),(),(),(),())
def QK6 (x1:Int)(x14:List Ae)(x17:Int)(x81:List Int)(x82 x83:Int)(x149:List Ad)(x150 x151:Int)(y10 y11 y12:Ad)(y13:Ah)(y15:Ab):VS:=QkN.st (x1,(),(),(),(),x14,(),x17,x81,x82,x83,x149,x150,x151,()) (y10,y11,y12,y13,y15,(),(),(),(),(),())
def Qdy (x1:Int)(x14:List Ae)(x81:List Int)(x82 x83:Int)(y10 y11 y12:Ad)(y13:Ah)(y15:Ab):VS:=QkO.st (x1,(),(),(),(),x14,(),x81,x82,x83,()) (y10,y11,y12,y13,y15,(),(),(),(),(),())
def Qun  : VS:=QK1.st () ()
def L_f3_0:VS->Option (Bool×List (Bool×Exit×VS)):=mkL QkL (fun x y=>(Qw x.2.2.2.2.2.2.2.2.2.2.2.1 x.2.2.2.2.2.2.2.2.2.2.2.2.1 x.2.2.2.2.2.2.2.2.2.2.2.2.2.1&&XC y.1 y.2.1 y.2.2.1 y.2.2.2.1 x.2.2.2.2.2.1 y.2.2.2.2.1)) (fun x y=>[((false),.ret,Yt (false)),(true,.exit 2,Qum (x.1) (x.2.2.2.2.2.1) (x.2.2.2.2.2.2.2.1) (x.2.2.2.2.2.2.2.2.1) (x.2.2.2.2.2.2.2.2.2.1) (x.2.2.2.2.2.2.2.2.2.2.1) (y.1) (y.2.1) (y.2.2.1) (y.2.2.2.1) (y.2.2.2.2.1))])
def L_f3_1:VS->Option (Bool×List (Bool×Exit×VS)):=mkL QkN (fun x y=>(Qw x.2.2.2.2.2.2.2.2.2.2.2.1 x.2.2.2.2.2.2.2.2.2.2.2.2.1 x.2.2.2.2.2.2.2.2.2.2.2.2.2.1&&(XC y.1 y.2.1 y.2.2.1 y.2.2.2.1 x.2.2.2.2.2.1 y.2.2.2.2.1&&x.2.2.2.2.2.2.2.2.2.2.2.1.all Jh))) (fun x y=>[((false),.ret,Yt (false)),(true,.exit 4,Qdy (x.1) (x.2.2.2.2.2.1) (x.2.2.2.2.2.2.2.2.1) (x.2.2.2.2.2.2.2.2.2.1) (x.2.2.2.2.2.2.2.2.2.2.1) (y.1) (y.2.1) (y.2.2.1) (y.2.2.2.1) (y.2.2.2.2.1))])
def L_f3_2:VS->Option (Bool×List (Bool×Exit×VS)):=mkL QkO (fun x y=>(Qw x.2.2.2.2.2.2.2.1 x.2.2.2.2.2.2.2.2.1 x.2.2.2.2.2.2.2.2.2.1&&XC y.1 y.2.1 y.2.2.1 y.2.2.2.1 x.2.2.2.2.2.1 y.2.2.2.2.1)) (fun x y=>[((false),.ret,Yt (false)),(true,.exit 0,Qun)])
def Gb:G:=gG 253 [(4,sp_f4),(5,sp_f5),(6,sp_f6),(7,sp_f7),(8,sp_f8),(9,sp_f9),(10,Y9),(11,QKY),(12,QCy),(13,Fq),(14,QpQ),(15,QnY),(16,Qx0),(17,Qv4),(18,QIz),(19,QBw),(20,QsV),(21,QBC),(22,QIR),(23,Qyh),(24,Qs1),(25,Qyb),(26,Qv9)] (Ls [L_f3_0,L_f3_1,L_f3_2])
def QkP (x1:Int)(x14:List Ae)(x17:Int)(x81:List Int)(x82 x83:Int)(x88:List Int)(x89 x90:Int)(y10 y11 y12:Ad)(y13:Ah)(y15:Ab):OX:=Qu (Qx Gb Quj QK2) (QK5 x1 x14 x17 x81 x82 x83 x88 x89 x90 y10 y11 y12 y13 y15)
def Qdz (kk:Int->List Ae->Int->List Int->Int->Int->List Int->Int->Int->Ad->Ad->Ad->Ah->Ab->OX)(x1:Int)(x14:List Ae)(x17:Int)(x81:List Int)(x82 x83:Int)(x88:List Int)(x89 x90:Int)(y10 y11 y12:Ad)(y13:Ah)(y15:Ab):OX:=
 let a1:=lgt tI x88 (Int.toNat x90)
 let a2:=Y4 y11 y13 x14 y15 a1 x17
 let a3:=Xx y10 y11 a1
 let a4:=Eh y11 y13 x14 y15 a1 x17
 br (ilt x90 x89) (br (cIx x88 x90) (br a4 (br a4 (br (ine (a2.2) (a2.2)) (some (.ret,Yt false)) (br (Gr (a2.1) (a2.1)) (br (!(El (a2.1) (a2.1))) (some (.ret,Yt false)) (br (E8 y10 y11 a1) (br (E8 y10 y11 a1) (br (ine (a3.2) (a3.2)) (some (.ret,Yt false)) (br (Gr (a3.1) (a3.1)) (br (!(El (a3.1) (a3.1))) (some (.ret,Yt false)) (kk x1 x14 x17 x81 x82 x83 x88 x89 (Qi .i64 x90 1) y10 y11 y12 y13 y15)) none)) none) none)) none)) none) none) none) (some (.exit 2,Qum x1 x14 x17 x81 x82 x83 y10 y11 y12 y13 y15))
def QkQ (x1:Int)(x14:List Ae)(x17:Int)(x81:List Int)(x82 x83:Int)(x88:List Int)(x89 x90:Int)(y10 y11 y12:Ad)(y13:Ah)(y15:Ab):OX:=br (false) (some (.ret,Yt (false)))<|some (.exit 2,Qum (x1) (x14) (x17) (x81) (x82) (x83) (y10) (y11) (y12) (y13) (y15))
theorem QK7 (x1 x14 x17 x81 x82 x83 x88 x89 x90 y10 y11 y12 y13 y15):QkP x1 x14 x17 x81 x82 x83 x88 x89 x90 y10 y11 y12 y13 y15=Qdz QkP x1 x14 x17 x81 x82 x83 x88 x89 x90 y10 y11 y12 y13 y15:=lnT (x:=Qdz (fun x1 x14 x17 x81 x82 x83 x88 x89 x90 y10 y11 y12 y13 y15=>some (.normal,QK5 x1 x14 x17 x81 x82 x83 x88 x89 x90 y10 y11 y12 y13 y15)) x1 x14 x17 x81 x82 x83 x88 x89 x90 y10 y11 y12 y13 y15) (by simp only [Qdz,nxA];rfl)
def QkR (x1:Int)(x14:List Ae)(x17:Int)(x81:List Int)(x82 x83:Int)(x149:List Ad)(x150 x151:Int)(y10 y11 y12:Ad)(y13:Ah)(y15:Ab):OX:=Qu (Qx Gb Quk QK3) (QK6 x1 x14 x17 x81 x82 x83 x149 x150 x151 y10 y11 y12 y13 y15)
def QdA (kk:Int->List Ae->Int->List Int->Int->Int->List Ad->Int->Int->Ad->Ad->Ad->Ah->Ab->OX)(x1:Int)(x14:List Ae)(x17:Int)(x81:List Int)(x82 x83:Int)(x149:List Ad)(x150 x151:Int)(y10 y11 y12:Ad)(y13:Ah)(y15:Ab):OX:=
 let a1:=lgt Qo x149 (Int.toNat x151)
 let a2:=Xe y10 a1 y13 x14 y15 x17
 let a3:=Xy y10 a1 y13 x14 y15 x17
 let a4:=Xg a1 y13 x14 y15 x17
 let a5:=Ut y10 a1 y13 x14 y15 x17
 let a6:=E9 a1 y13 x14 y15 x17
 br (ilt x151 x150) (br (cIx x149 x151) (br a5 (br a5 (br a5 (br a5 (br a6 (br a6 (br (ine (a2.2) (a2.2)) (some (.ret,Yt false)) (br (ine ((a3.2).2) ((a3.2).2)) (some (.ret,Yt false)) (br (ine (a3.1) (a3.1)) (some (.ret,Yt false)) (br (ine ((a3.2).1) ((a3.2).1)) (some (.ret,Yt false)) (br (ine (a4.2) (a4.2)) (some (.ret,Yt false)) (br (Gl (a2.1) (a2.1)) (br (!(F8 (a2.1) (a2.1))) (some (.ret,Yt false)) (br (Gl (a4.1) (a4.1)) (br (!(F8 (a4.1) (a4.1))) (some (.ret,Yt false)) (kk x1 x14 x17 x81 x82 x83 x149 x150 (Qi .i64 x151 1) y10 y11 y12 y13 y15)) none)) none)))))) none) none) none) none) none) none) none) (some (.exit 4,Qdy x1 x14 x81 x82 x83 y10 y11 y12 y13 y15))
def QkS (x1:Int)(x14:List Ae)(x17:Int)(x81:List Int)(x82 x83:Int)(x149:List Ad)(x150 x151:Int)(y10 y11 y12:Ad)(y13:Ah)(y15:Ab):OX:=br (false) (some (.ret,Yt (false)))<|some (.exit 4,Qdy (x1) (x14) (x81) (x82) (x83) (y10) (y11) (y12) (y13) (y15))
theorem QK8 (x1 x14 x17 x81 x82 x83 x149 x150 x151 y10 y11 y12 y13 y15):QkR x1 x14 x17 x81 x82 x83 x149 x150 x151 y10 y11 y12 y13 y15=QdA QkR x1 x14 x17 x81 x82 x83 x149 x150 x151 y10 y11 y12 y13 y15:=lnT (x:=QdA (fun x1 x14 x17 x81 x82 x83 x149 x150 x151 y10 y11 y12 y13 y15=>some (.normal,QK6 x1 x14 x17 x81 x82 x83 x149 x150 x151 y10 y11 y12 y13 y15)) x1 x14 x17 x81 x82 x83 x149 x150 x151 y10 y11 y12 y13 y15) (by simp only [QdA,nxA];rfl)
def QkT (x1:Int)(x14:List Ae)(x81:List Int)(x82 x83:Int)(y10 y11 y12:Ad)(y13:Ah)(y15:Ab):OX:=Qu (Qx Gb Qul QK4) (Qdy x1 x14 x81 x82 x83 y10 y11 y12 y13 y15)
def QdB (kk:Int->List Ae->List Int->Int->Int->Ad->Ad->Ad->Ah->Ab->OX)(x1:Int)(x14:List Ae)(x81:List Int)(x82 x83:Int)(y10 y11 y12:Ad)(y13:Ah)(y15:Ab):OX:=
 let a1:=((y11).1,(((y11).2).1,((((y11).2).2).1,())))
 let a2:=((y12).1,(((y12).2).1,((((y12).2).2).1,())))
 br (ilt x83 x82) (br (cIx x81 x83) (br (Qw ([x1,0,1]) (Qb ([x1,0,1])) (0:Int)&&XC y10 y11 y12 y13 x14 y15) (br (false) (some (.ret,Yt (false))) (br (Qw ([a1,a2]) (Qb ([a1,a2])) (0:Int)&&(XC (y10) (y11) (y12) (y13) (x14) (y15)&&([a1,a2]).all Jh)) (br (false) (some (.ret,Yt (false))) (kk (x1) (x14) (x81) (x82) (Qi .i64 (x83) 1) (y10) (y11) (y12) (y13) (y15))) none)) none) none) (some (.exit 0,Qun))
def Quo (x1:Int)(x14:List Ae)(x81:List Int)(x82 x83:Int)(y10 y11 y12:Ad)(y13:Ah)(y15:Ab):OX:=br (false) (some (.ret,Yt (false)))<|some (.exit 0,Qun)
theorem QK9 (x1 x14 x81 x82 x83 y10 y11 y12 y13 y15):QkT x1 x14 x81 x82 x83 y10 y11 y12 y13 y15=QdB QkT x1 x14 x81 x82 x83 y10 y11 y12 y13 y15:=lnT (x:=QdB (fun x1 x14 x81 x82 x83 y10 y11 y12 y13 y15=>some (.normal,Qdy x1 x14 x81 x82 x83 y10 y11 y12 y13 y15)) x1 x14 x81 x82 x83 y10 y11 y12 y13 y15) (by simp only [QdB,nxA];rfl)
def If (p0:List Int)(p1 p2:Int)(p3:Ae):OV:=br (false) (some (.t .bool (false),[])) (some (.t .bool Qdx,[]))
def Qup (p0:List Int)(p1 p2:Int)(p3:Ae):OV:=
 let a4:=Qdk (GB p0)
 let a1:=Qc (Ie (Gj a4)) 2
 let a2:=((Ux (GB p0)).1)
 let a3:=((p3.1.1,(p3.1.2.1,())),(p3.2.1,(p3.2.2.1,((p3.2.2.2.1.1,(p3.2.2.2.1.2.1,())),(p3.2.2.2.2.1,())))))
 let a5:=(Qb ([p2,(YC p2 120)]))
 let a6:=YR (wkN a1) a2
 let a7:=((Ux (GB p0)).2)
 let a8:=UX p2 120
 let a9:=((YR a1 a2).1)
 br (!(EF p0)) (some (.t .bool Qdx,[])) (br (igt (Qb p3.2.2.2.2.1) 20) (some (.t .bool Qdx,[])) (br (dOk (GB p0)) (br (dOk a4) (br (dOk (Gj a4)) (br (QE (Ie (Gj a4)) 2) (br (ieq (Qg (Ie (Gj a4)) 2) 0) (br (dOk a1) (br (Ev (wkN a1) a2) (br (Jb (Gx (wkN a1) a2) 5) (br (done (Gx (wkN a1) a2) 5) (br (Qt (a6.1) ([a3]) 80) (br a8 (br (Qw ([p2,(YC p2 120)]) a5 (0:Int)&&XC a2 a7 (mkX a4) (wkV a1) ((a6.1)++([a3])) (a6.2)) (If p0 p1 p2 p3) none) none) none) (br a8 (br (Qw ([p2,(YC p2 120)]) a5 (0:Int)&&XC a2 a7 (mkX a4) (wkV a1) (a6.1) (a6.2)) (If p0 p1 p2 p3) none) none)) none) none) none) (br (Ev a1 a2) (br (Jb (Gx a1 a2) 5) (br (done (Gx a1 a2) 5) (br (Qt a9 ([a3]) 80) (br a8 (br (Qw ([p2,(YC p2 120)]) a5 (0:Int)&&XC a2 a7 (mkX a4) (G2 (Gj a4)) (a9++([a3])) ((YR a1 a2).2)) (If p0 p1 p2 p3) none) none) none) (br a8 (br (Qw ([p2,(YC p2 120)]) a5 (0:Int)&&XC a2 a7 (mkX a4) (G2 (Gj a4)) a9 ((YR a1 a2).2)) (If p0 p1 p2 p3) none) none)) none) none)) none) none) none) none))
theorem e_f3 (p0:List Int)(p1 p2:Int)(p3:Ae):JL Gb VE rv_f3 false [.t (.sl tI) p0,.t tI p1,.t tI p2,.t QK p3] []=Qup p0 p1 p2 p3:=by kernel_rfl
theorem gk_f3:GOk Tryz.prog Gb:=Zq _ (gA (gD ms_f4 (gD ms_f5 (gD ms_f6 (gD ms_f7 (gD ms_f8 (gD ms_f9 (gD Xq (gD ms_f11 (gD ms_f12 (gD EG (gD QC7 (gD Qzs (gD ms_f16 (gD ms_f17 (gD ms_f18 (gD ms_f19 (gD QIF (gD ms_f21 (gD ms_f22 (gD ms_f23 (gD QIL (gD ms_f25 (gD ms_f26 gN))))))))))))))))))))))))
theorem l_f3_0 (x1:Int)(x14:List Ae)(x17:Int)(x81:List Int)(x82 x83:Int)(x88:List Int)(x89 x90:Int)(y10 y11 y12:Ad)(y13:Ah)(y15:Ab)(h:(Qw x88 x89 x90&&XC y10 y11 y12 y13 x14 y15)=true):QkP x1 x14 x17 x81 x82 x83 x88 x89 x90 y10 y11 y12 y13 y15=QkQ x1 x14 x17 x81 x82 x83 x88 x89 x90 y10 y11 y12 y13 y15:=by
 obtain ⟨h0,h6⟩:=Bf.1 h
 obtain ⟨h1,h2⟩:=Bf.1 h6
 obtain ⟨a1,a2⟩:=Bf.1 h1
 obtain ⟨a2,a3⟩:=Bf.1 a2
 obtain ⟨rfl,h3,k,rfl,hk⟩:=Jv h0
 clear h0
 have hr: ∀ d,ZS (rl y13 x14 y15 d)=true:=fun _=>h2
 refine QP x88 (fun k=>QkP x1 x14 x17 x81 x82 x83 x88 (x88.length:Int) (k:Int) y10 y11 y12 y13 y15=QkQ x1 x14 x17 x81 x82 x83 x88 (x88.length:Int) (k:Int) y10 y11 y12 y13 y15) ?_ ?_ k hk
 ·rw [QK7]
  simp only [Qdz,QkQ,Qv,BK,BP,Qh]
 ·intro k hk ih
  rw [QK7]
  have e1: ∀ i,Eh y11 y13 x14 y15 i x17=true:=fun i=>Bf.2 ⟨a2,hr x17⟩
  have e2: ∀ i,E8 y10 y11 i=true:=fun i=>Bf.2 ⟨a1,a2⟩
  have e3: ∀ i,Gr (Y4 y11 y13 x14 y15 i x17).1 (Y4 y11 y13 x14 y15 i x17).1=true:=fun i=>by
   have:=QZ8 y11 y13 x14 y15 i x17
   simp only [Gr,Ba]
   omega
  have e4: ∀ i,Gr (Xx y10 y11 i).1 (Xx y10 y11 i).1=true:=fun i=>by
   have:=QZ9 y10 y11 i
   simp only [Gr,Ba]
   omega
  simp only [Qdz,Qv,QM,hk,Bu,Qd,Bb,QO (k:=k),e1,e2,e3,e4,QK0,Q0c,BA,Qh,ih]
  simp only [QkQ]
theorem l_f3_1 (x1:Int)(x14:List Ae)(x17:Int)(x81:List Int)(x82 x83:Int)(x149:List Ad)(x150 x151:Int)(y10 y11 y12:Ad)(y13:Ah)(y15:Ab)(h:(Qw x149 x150 x151&&(XC y10 y11 y12 y13 x14 y15&&x149.all Jh))=true):QkR x1 x14 x17 x81 x82 x83 x149 x150 x151 y10 y11 y12 y13 y15=QkS x1 x14 x17 x81 x82 x83 x149 x150 x151 y10 y11 y12 y13 y15:=by
 obtain ⟨h0,h6⟩:=Bf.1 h
 obtain ⟨h6,h7⟩:=Bf.1 h6
 obtain ⟨h1,h2⟩:=Bf.1 h6
 obtain ⟨a1,a2⟩:=Bf.1 h1
 obtain ⟨rfl,h3,k,rfl,hk⟩:=Jv h0
 clear h0
 have hr: ∀ d,ZS (rl y13 x14 y15 d)=true:=fun _=>h2
 refine QP x149 (fun k=>QkR x1 x14 x17 x81 x82 x83 x149 (x149.length:Int) (k:Int) y10 y11 y12 y13 y15=QkS x1 x14 x17 x81 x82 x83 x149 (x149.length:Int) (k:Int) y10 y11 y12 y13 y15) ?_ ?_ k hk
 ·rw [QK8]
  simp only [QdA,QkS,Qv,BK,BP,Qh]
 ·intro k hk ih
  rw [QK8]
  have he:Jh x149[k]=true:=Bi.1 h7 x149[k] (BC hk)
  have e1:Ut y10 x149[k] y13 x14 y15 x17=true:=Bf.2 ⟨Bf.2 ⟨a1,he⟩,hr x17⟩
  have e2:E9 x149[k] y13 x14 y15 x17=true:=Bf.2 ⟨he,hr x17⟩
  have e3:Gl (Xe y10 x149[k] y13 x14 y15 x17).1 (Xe y10 x149[k] y13 x14 y15 x17).1=true:=by
   have:=Q0a y10 x149[k] y13 x14 y15 x17
   simp only [Gl,Ba]
   omega
  have e4:Gl (Xg x149[k] y13 x14 y15 x17).1 (Xg x149[k] y13 x14 y15 x17).1=true:=by
   have:=Q0b x149[k] y13 x14 y15 x17
   simp only [Gl,Ba]
   omega
  simp only [QdA,Qv,QM,hk,Bu,Qd,Bb,QO (k:=k),QN (y:=Qo) hk,e1,e2,e3,e4,QK0,Q0d,BA,Qh,ih]
  simp only [QkS]
theorem l_f3_2 (x1:Int)(x14:List Ae)(x81:List Int)(x82 x83:Int)(y10 y11 y12:Ad)(y13:Ah)(y15:Ab)(h:(Qw x81 x82 x83&&XC y10 y11 y12 y13 x14 y15)=true):QkT x1 x14 x81 x82 x83 y10 y11 y12 y13 y15=Quo x1 x14 x81 x82 x83 y10 y11 y12 y13 y15:=by
 obtain ⟨h0,h6⟩:=Bf.1 h
 obtain ⟨h1,h2⟩:=Bf.1 h6
 obtain ⟨a1,a2⟩:=Bf.1 h1
 obtain ⟨a2,a3⟩:=Bf.1 a2
 obtain ⟨rfl,h3,k,rfl,hk⟩:=Jv h0
 clear h0
 refine QP x81 (fun k=>QkT x1 x14 x81 (x81.length:Int) (k:Int) y10 y11 y12 y13 y15=Quo x1 x14 x81 (x81.length:Int) (k:Int) y10 y11 y12 y13 y15) ?_ ?_ k hk
 ·rw [QK9]
  simp only [QdB,Quo,Qv,BK,BP,Qh]
 ·intro k hk ih
  rw [QK9]
  unfold QdB
  rw [Qv,Bc hk,Qd,QM,Bc hk,Qd,h6,Db,Jw (show [x1,0,1].length<=100000 by simp),Qd,Qh]
  refine brY ?_ ?_
  ·rw [Jw (by simp),By]
   show (true&&(Jh y11&&(Jh y12&&true)))=true
   rw [a2,a3]
   rfl
  ·rw [Qh,QO (k:=k)]
   rw [ih]
   rfl
theorem Q0f:LO Gb Quj QK2 0:=QC (s:=QkL) fun x y h _ q=>by simp only [QA,QB] at q;exact (l_f3_0 x.1 x.2.2.2.2.2.1 x.2.2.2.2.2.2.2.1 x.2.2.2.2.2.2.2.2.1 x.2.2.2.2.2.2.2.2.2.1 x.2.2.2.2.2.2.2.2.2.2.1 x.2.2.2.2.2.2.2.2.2.2.2.1 x.2.2.2.2.2.2.2.2.2.2.2.2.1 x.2.2.2.2.2.2.2.2.2.2.2.2.2.1 y.1 y.2.1 y.2.2.1 y.2.2.2.1 y.2.2.2.2.1 h).trans q
theorem Q0g:LO Gb Quk QK3 1:=QC (s:=QkN) fun x y h _ q=>by simp only [QA,QB] at q;exact (l_f3_1 x.1 x.2.2.2.2.2.1 x.2.2.2.2.2.2.2.1 x.2.2.2.2.2.2.2.2.1 x.2.2.2.2.2.2.2.2.2.1 x.2.2.2.2.2.2.2.2.2.2.1 x.2.2.2.2.2.2.2.2.2.2.2.1 x.2.2.2.2.2.2.2.2.2.2.2.2.1 x.2.2.2.2.2.2.2.2.2.2.2.2.2.1 y.1 y.2.1 y.2.2.1 y.2.2.2.1 y.2.2.2.2.1 h).trans q
theorem Q0h:LO Gb Qul QK4 2:=QC (s:=QkO) fun x y h _ q=>by simp only [QA,QB] at q;exact (l_f3_2 x.1 x.2.2.2.2.2.1 x.2.2.2.2.2.2.2.1 x.2.2.2.2.2.2.2.2.1 x.2.2.2.2.2.2.2.2.2.1 y.1 y.2.1 y.2.2.1 y.2.2.2.1 y.2.2.2.2.1 h).trans q
theorem lk_f3:VE.lok Gb:=by
 repeat (first|exact trivial|exact Q0f|exact Q0g|exact Q0h|refine ⟨?_, ?_⟩)
theorem wk_len (d:Ab):JP (wkV d)=true:=rfl
theorem Q0i (d:Ab):JP (G2 d)=true:=by
 obtain ⟨h1,h2⟩:=QZT d
 unfold JP
 simp only [Z2,Bd,Ba]
 omega
theorem Q0j:(Xa.all Jc)=true:=by kernel_rfl
theorem two_nm (d:Ab):Eu (Jd d)=true:=by
 have hn:=QbU d
 have hl:(QT (Jd d)).length<=3/\2<=(QT (Jd d)).length:=by rw [Qpx];omega
 exact Bf.2 ⟨Bc (show 0<(QT (Jd d)).length/\(QT (Jd d)).length<=1000 by omega),Bi.2 fun e he=>Bi.1 Q0j _ (QLd (QbC d e he))⟩
theorem Q0k {d:Ab}(h:dOk d=true):Jh (mkX d)=true:=by
 have hn:=QMd d
 have h3:(J3 (mkX d)).length<=16:=by
  have h2:=QBK (JY d).length (JY d).length 0 [] (mkZ (JY d) (Qc d 3)).2 (Qlo (JY d) _ (Qz h))
  have h3:(JY d).length*(JY d).length<=4*4:=Nat.mul_le_mul hn.2.1 hn.2.1
  show (Xn d).1.length<=16
  unfold Xn
  simp only [Bv] at h2
  omega
 have hv3:=Q8 (d:=(Xn d).2) (n:=3) (by omega)
 have hi:=Qpy (Qg (Xn d).2 3).toNat (Qc (Xn d).2 3)
 have hl:(QT (mkX d)).length<=4:=by rw [QSe];omega
 have hx:Z4 (mkX d)=(itZ (Qg (Xn d).2 3).toNat (Qc (Xn d).2 3)).1:=rfl
 unfold Jh Yd
 rw [hx,hi.2.1,Bc (show (QT (mkX d)).length<=99999/\(J3 (mkX d)).length<=99999 by omega),Bc (show (itZ (Qg (Xn d).2 3).toNat (Qc (Xn d).2 3)).1.length<=100000 by omega),By,By,Db]
 exact Bi.2 fun e he=>mk_len (mk_eps h e he)
theorem QLa (p0:List Int)(p1 p2:Int)(p3:Ae):If p0 p1 p2 p3=some (.t .bool true,[]):=rfl
theorem s_f3 (p0 p1 p2 p3)(h:Qui p0 p1 p2 p3=true):Qup p0 p1 p2 p3=some (.t .bool (paL p0 p1 p2 p3),[]):=by
 have h:Jy p3=true:=h
 unfold Qup paL
 refine Q1 (fun _=>rfl) (fun k1=>Q1 (fun _=>rfl) (fun k2=> ?_))
 have k1:EF p0=true:=by simpa using k1
 have hd:=QTm k1
 generalize GB p0=d at hd ⊢
 obtain ⟨t1,t2⟩:=QZM hd
 have e1:Jh (Ux d).1=true:=(Quq d).2
 have e2:Jh (Ux d).2=true:=(Qvf t1 (by decide)).1
 have hx:Eu (Ux d).1=true:=two_nm d
 generalize Ux d=ab at e1 e2 hx
 generalize Qdk d=d1 at t2 ⊢
 have e3:Jh (mkX d1)=true:=Q0k t2
 have h3:=mk_dOk t2
 generalize mkX d1=c at e3 ⊢
 generalize Gj d1=d2 at h3 ⊢
 have h4:=QZQ h3
 have l1:=Q0i d2
 generalize G2 d2=q at l1 ⊢
 generalize Ie d2=d3 at h4 ⊢
 have h5:=Qz (n:=2) h4
 have hn3:QE d3 2=true:=Zp h4 (by decide)
 have fin: ∀ (y:Ah) (w:Ab),JP y=true->dOk w=true->br (Ev w ab.1) (br (Jb (Gx w ab.1) 5) (br (done (Gx w ab.1) 5)
   (br (Qt (YR w ab.1).1 [(((p3.1.1,(p3.1.2.1,())),(p3.2.1,(p3.2.2.1,((p3.2.2.2.1.1,(p3.2.2.2.1.2.1,())),(p3.2.2.2.2.1,()))))):Ae)] 80) (br (UX p2 120) (br (Qw [p2,YC p2 120] (Qb [p2,YC p2 120]) (0:Int)&&XC ab.1 ab.2 c y ((YR w ab.1).1++[(((p3.1.1,(p3.1.2.1,())),(p3.2.1,(p3.2.2.1,((p3.2.2.2.1.1,(p3.2.2.2.1.2.1,())),(p3.2.2.2.2.1,()))))):Ae)]) (YR w ab.1).2) (If p0 p1 p2 p3) none) none) none)
   (br (UX p2 120) (br (Qw [p2,YC p2 120] (Qb [p2,YC p2 120]) (0:Int)&&XC ab.1 ab.2 c y (YR w ab.1).1 (YR w ab.1).2) (If p0 p1 p2 p3) none) none)) none) none=some (.t .bool true,[]):=by
  intro y w hy hw
  have ho:Ev w ab.1=true:=Bf.2 ⟨hw,hx⟩
  obtain ⟨x1,x2,x3,x4⟩:=QSI ho
  have hm:UX p2 120=true:=by simp only [UX,Ba];decide
  have pk: ∀ l:List Ae,l.length<=100->l.all Jy=true->(Qw [p2,YC p2 120] (Qb [p2,YC p2 120]) (0:Int)&&XC ab.1 ab.2 c y l (YR w ab.1).2)=true:=fun l hl ha=>by
   refine Bf.2 ⟨Jw (by simp),Bf.2 ⟨?_,Bf.2 ⟨hy,Bf.2 ⟨Bf.2 ⟨Bc (by omega),ha⟩,x4⟩⟩⟩⟩
   rw [e1,e2,e3]
   rfl
  refine brY ho (brY (WA x3 (by decide) (by decide)) (Q1 (fun _=> ?_) (fun _=> ?_)))
  ·refine brY (QX (by decide) (by simp only [Bh];omega)) (brY hm (brY ?_ (QLa ..)))
   refine pk _ (by simp only [Bj,Bh];omega) ?_
   rw [List.all_append,x2,By]
   show (Jy p3&&true)=true
   rw [h]
   rfl
  ·exact brY hm (brY (pk _ (by omega) x2) (QLa ..))
 refine brY hd (brY t2 (brY h3 (brY hn3 (Q1 (fun _=>brY h5 ?_) (fun _=> ?_)))))
 ·exact fin _ _ (wk_len _) (JB (JB h5))
 ·exact fin _ _ l1 h5
def sp_f3:Ent:=Qm (.pr (.sl tI) (.pr tI (.pr tI (.pr QK .nil)))) (fun x=>(Qui x.1 x.2.1 x.2.2.1 x.2.2.2.1)) (fun x=>(.t .bool (paL x.1 x.2.1 x.2.2.1 x.2.2.2.1)))
theorem ms_f3:QH Tryz.prog 3 (QD sp_f3):=Qq (R:=JL Gb VE rv_f3 false) (mG Tryz.func3 (by kernel_rfl) Tryz.ntmps3 (by kernel_rfl) gk_f3 lk_f3) fun x hok=>(e_f3 x.1 x.2.1 x.2.2.1 x.2.2.2.1).trans (s_f3 x.1 x.2.1 x.2.2.1 x.2.2.2.1 hok)
end K.PE
namespace K
open Go.RowKit PE
theorem Q0l (z0:List Int)(z1 z2:Int)(z3:Ae)(w0:Ty.wf (.sl (.int .i64)) z0)(w1:Ty.wf (.int .i64) z1)(w2:Ty.wf (.int .i64) z2)(w3:Ty.wf QK z3):Qui z0 z1 z2 z3=true:=
 Bc (B5 (show z3.2.2.1.size<=maxLen from w3.2.2.1) (by unfold maxLen;omega))
theorem walkPolicyAll (z0:(List Int))(z1:Int)(z2:Int)(z3:Ae)(W:World)(v0:Value)(v1:Value)(v2:Value)(v3:Value)(c0:C noX W (fun _=> .no) (V.t (.sl tI) z0).d v0)(c1:C noX W (fun _=> .no) (V.t tI z1).d v1)(c2:C noX W (fun _=> .no) (V.t tI z2).d v2)(c3:C noX W (fun _=> .no) (V.t QK z3).d v3)(w0:Ty.wf (.sl tI) z0)(w1:Ty.wf tI z1)(w2:Ty.wf tI z2)(w3:Ty.wf QK z3):
  Calls Tryz.prog 3 #[v0,v1,v2,v3] W fun r w'=>r= .returned (.bool true)/\Below W.heap.size W w':=
 QTb (by decide) ms_f3 (args:=[.t (.sl tI) z0,.t tI z1,.t tI z2,.t QK z3]) (EE (x:=(z0,z1,z2,z3,())) rfl (Q0l z0 z1 z2 z3 w0 w1 w2 w3)) (by simp only [V.ds,Cs];exact ⟨_,_,rfl,c0,_,_,rfl,c1,_,_,rfl,c2,_,_,rfl,c3,rfl⟩)
end K
end Go.Proofs.YtkmobehaikjdjaaGreat
