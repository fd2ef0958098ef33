import Derived.Test.YthlcobdnemhcdaaGreatQ9
import Derived.Test.YthlcobdnemhcdaaGreatQ4
set_option linter.unusedSimpArgs false
set_option linter.unusedVariables false
noncomputable section
namespace Go.Proofs.YthlcobdnemhcdaaGreat.K.SO
open Go.RowKit
noncomputable section
theorem brX {β:Type}{c:Bool}{a b r:Option β}(h:c=false)(k:b=r):br c a b=r:=by rw [h];exact k
theorem Fb {e:Estate}{y:Policy}{can:Bool}(hl:Js e y=true):(thF e y can).1.length<=100000:=by
 have hi:=Is (Ev (Bg.1 hl).1)
 unfold thF
 cases ine (Ja e y) 0 with
 |true=>exact B3 _
 |false=>exact Do (Qkq y can _ _) hi
theorem jE_ok (d:Dice):YD (jE d)=true:=by
 have h:=(QyT d).1
 have hi:=Qai (Qh .i64 1 (Ql (ZO d) 3)).toNat (jD1 d)
 have hn:=Qg0 d
 have hm:=Qg1 d
 unfold YD at h ⊢
 simp only [Bb] at h ⊢
 refine ⟨h.1,hi.1,h.2.2.1, ?_,h.2.2.2.2.1,h.2.2.2.2.2⟩
 refine Be ?_
 show ((ZL d).1.length:Int)<=30
 omega
theorem jR_ok (d:Dice):Zy (jR d)=true:=by
 have h1:=WD (d:=Qe (jD2 d) 2) (l:=[2,1,5]) (by decide)
 have h2:=WD (d:=Qu (Qe (jD2 d) 2) [2,1,5]) (l:=[30,60,200]) (by decide)
 unfold jR
 generalize dof (Qe (jD2 d) 2) [2,1,5]=a at h1
 generalize dof (Qu (Qe (jD2 d) 2) [2,1,5]) [30,60,200]=b at h2
 have g1:0<=a/\a<=22:=by
  simp only [BB,BY,DC] at h1
  omega
 have g2:0<=b/\b<=200:=by
  simp only [BB,BY,DC] at h2
  omega
 exact Be ⟨g1.1,g1.2,B4 0,(by decide:(0:Int)<=16384),B4 0,(by decide:(0:Int)<=4),g2.1,(show b<40001 by omega),B4 40001⟩
theorem jP_ok (d:Dice):Jr (jP d)=true:=by
 have h:=pol_ok (ZL d).2
 have hp:=Qbl (ZL d).2
 unfold Jr at h ⊢
 simp only [Bb,Ba] at h ⊢
 refine ⟨⟨?_,h.1.2⟩, ?_, ?_⟩
 ·unfold jP
  cases jB d with
  |true=>simp only [Da,List.all_append,B9,List.all_nil,jR_ok,h.1.1,B2]
  |false=>exact h.1.1
 ·unfold jP
  cases jB d with
  |true=>simp only [Da,Bl,Bk];omega
  |false=>simp only [B0];omega
 ·show (ZG (ZL d).2).2.1.length<=60
  omega
theorem jchk_0 (d:Dice):Ja (jE d) (jP d)=0:=Qko (jE_ok d) (jP_ok d)
theorem Qcq {e:Estate}{y:Policy}{can:Bool}(hj:Ja e y=0){k:Nat}(hk:k<(QM e).length):Q9 (thF e y can).1 (k:Int)=thB y can (QM e)[k]:=by
 unfold thF
 rw [hj]
 show Q9 (thZ y can (QM e) 0) (k:Int)=_
 rw [DB]
 show (thZ y can (QM e) 0).contains (k:Int)=true↔_
 rw [BH,Qkr]
 constructor
 ·rintro ⟨n,h,h1,h2⟩
  have:n=k:=by omega
  subst this
  exact h2
 ·exact fun h=>⟨k,hk,by omega,h⟩
theorem dl_at {e:Estate}{y:Policy}(hj:Ja e y=0){k:Nat}(hk:k<(QM e).length):dlF e y (k:Int)=bif thB y true (QM e)[k] then ((stF y (QM e)[k]).2.1,true,0) else (0,false,0):=by
 unfold dlF
 rw [hj]
 have h1:ilt (k:Int) 0=false:=Bp (by omega)
 have h2:ige (k:Int) (Qc (QM e))=false:=Bp (by simp only [Qc];omega)
 rw [h1,h2,Bd,Gx hk]
 rfl
theorem QDG {y:Policy}{i:Item}(hf:QQ y i=true)(h:thB y true i=true):(stF y i).2.1<(Q7 y i).1:=by
 obtain ⟨h1,h2⟩:=Bg.1 h
 have hbad:(Q7 y i).2.1=true:=(Bg.1 h1).1
 have hcan:(J2 y i).2.1=true:=eq_of_beq h2
 show (J2 y i).1<_
 have hf2:=hf
 simp only [QQ,Bb] at hf2
 have hI:=Jn.1 hf2.2
 have hk:i.2.1=1∨i.2.1=2:=by have:=hI.2.1;omega
 rcases hk with hk|hk
 ·rw [QiE hf hk] at hcan
  cases hcan
 ·have eF:Q7 y i=((JX y i).1,(JX y i).2,0):=by
   unfold Q7
   rw [if_pos hf]
  rw [eF,OM hk] at hbad ⊢
  rw [ON hf hk] at hcan ⊢
  by_cases ho:ZV (QB y i)=true
  ·rw [if_pos ho] at hcan ⊢
   by_cases hl:ile (ZK y i) (Q4 i)=true
   ·rw [if_pos hl] at hcan
    cases hcan
   ·rw [if_neg hl]
    obtain ⟨l,x,e1,e2,e3,e4,e5,e6,hd⟩:=Qch hf ho
    rcases hd with ⟨_,hd,_⟩|⟨f,_,_,_,_,_,g1,g2⟩
    ·have hbad:(JN (QB y i)).2=true:=hbad
     rw [hd] at hbad
     cases hbad
    ·rw [g1,g2]
     show max x.2.1 f-1<max x.2.1 f
     omega
  ·rw [if_neg ho] at hcan
   cases hcan
theorem QDH {y:Policy}{i:Item}(hf:QQ y i=true):(Q7 y i).2.2=0:=by
 unfold Q7
 rw [if_pos hf]
def QiY (due lost:List Int)(l:List Item)(e:Estate)(p:Policy):Bool:=Xq due (JD e p).1&&(Xq lost (Ji e p).1&&(Xq l (QM e)&&(Js e p&&ieq (Ja e p) 0)))
def jsL (_:List Int):Bool:=true
abbrev Qcr:Sh:=⟨[(3,.ptr 3 0),(4,.ptr 4 0),(6,.ty (.sl tI)),(8,.ty (.sl tI)),(50,.ty (.sl Qm)),(51,.ty tI),(52,.ty tI)],[(3,.box Qr),(4,.box QE),(27,.no),(5027,.no),(10027,.arr 47 Zq),(15027,.no)]⟩
abbrev Qss:Sh:=⟨[(2,.ty .bool)],[]⟩
abbrev Qst:Sh:=⟨[],[]⟩
def QiZ:Fg:=Qcr.f
def Qcs:TC:=aF Tryz.f5 [(1018,pL 0 QiZ),(16293,.fg Qst.f),(4171389,.fg Qss.f)]
def Qsu:TC:=lb 0 Qcs
def rv_f5:List (RV×Option Ty):=[((.t 2),some .bool)]
def Qsv (x6 x8:List Int)(x50:List Item)(x51 x52:Int)(y3:Estate)(y4:Policy)(JO:List Job):VS:=Qcr.st ((),(),x6,x8,x50,x51,x52,()) (y3,y4,(),(),JO,(),())
def Uw (x2:Bool):VS:=Qss.st (x2,()) ()
def Qi0  : VS:=Qst.st () ()
def L_f5_0:VS->Option (Bool×List (Bool×Exit×VS)):=mkL Qcr (fun x y=>(Qy x.2.2.2.2.1 x.2.2.2.2.2.1 x.2.2.2.2.2.2.1&&QiY x.2.2.1 x.2.2.2.1 x.2.2.2.2.1 y.1 y.2.1)) (fun x y=>[((false),.ret,Uw (false)),(true,.exit 0,Qi0)])
def Ey:G:=gG 132 [(8,QmJ),(9,Qbm),(10,Qg2),(11,QmL),(19,Qcp),(21,QiU),(24,QiV),(26,QsE),(27,Qgn)] (Ls [L_f5_0])
def Qct (x6 x8:List Int)(x50:List Item)(x51 x52:Int)(y3:Estate)(y4:Policy)(JO:List Job):OX:=QA (QC Ey QiZ Qsu) (Qsv x6 x8 x50 x51 x52 y3 y4 JO)
def OW (kk:List Int->List Int->List Item->Int->Int->Estate->Policy->List Job->OX)(x6 x8:List Int)(x50:List Item)(x51 x52:Int)(y3:Estate)(y4:Policy)(JO:List Job):OX:=br (!(((Q7 y4 (lgt Qm x50 (Int.toNat x52))).2).1)) (some (.ret,Uw false)) (kk x6 x8 x50 x51 (Qh .i64 x52 1) y3 y4 JO)
def Fc (kk:List Int->List Int->List Item->Int->Int->Estate->Policy->List Job->OX)(x6 x8:List Int)(x50:List Item)(x51 x52:Int)(y3:Estate)(y4:Policy)(JO:List Job):OX:=br (Q9 x6 x52) (OW kk x6 x8 x50 x51 x52 y3 y4 JO) (br (Q9 x8 x52) (OW kk x6 x8 x50 x51 x52 y3 y4 JO) (kk x6 x8 x50 x51 (Qh .i64 x52 1) y3 y4 JO))
def OY (kk:List Int->List Int->List Item->Int->Int->Estate->Policy->List Job->OX)(x6 x8:List Int)(x50:List Item)(x51 x52:Int)(y3:Estate)(y4:Policy)(JO:List Job):OX:=
 let a1:=lgt Qm x50 (Int.toNat x52)
 br (!(Q9 x6 x52)) (br (!(Q9 x8 x52)) (br (((Q7 y4 a1).2).1) (br (ile ((Q7 y4 a1).1) (((((a1.2).2).2).2).1)) (some (.ret,Uw false)) (Fc kk x6 x8 x50 x51 x52 y3 y4 JO)) (Fc kk x6 x8 x50 x51 x52 y3 y4 JO)) (Fc kk x6 x8 x50 x51 x52 y3 y4 JO)) (Fc kk x6 x8 x50 x51 x52 y3 y4 JO)
def OZ (kk:List Int->List Int->List Item->Int->Int->Estate->Policy->List Job->OX)(x6 x8:List Int)(x50:List Item)(x51 x52:Int)(y3:Estate)(y4:Policy)(JO:List Job):OX:=br (En (((dlF y3 y4 x52).2).1) (Q9 x6 x52)) (some (.ret,Uw false)) (br (Q9 x6 x52) (br (ige ((dlF y3 y4 x52).1) ((Q7 y4 (lgt Qm x50 (Int.toNat x52))).1)) (some (.ret,Uw false)) (OY kk x6 x8 x50 x51 x52 y3 y4 JO)) (OY kk x6 x8 x50 x51 x52 y3 y4 JO))
def O0 (kk:List Int->List Int->List Item->Int->Int->Estate->Policy->List Job->OX)(x6 x8:List Int)(x50:List Item)(x51 x52:Int)(y3:Estate)(y4:Policy)(JO:List Job):OX:=
 let a1:=lgt Qm x50 (Int.toNat x52)
 br (ilt x52 x51) (br (cIx x50 x52) (br (Ex y3 y4 x52) (br (J8 y4 a1) (br (J3 x6 x52) (br (J3 x8 x52) (br (ine (((dlF y3 y4 x52).2).2) 0) (some (.ret,Uw false)) (br (ine (((Q7 y4 a1).2).2) 0) (some (.ret,Uw false)) (br (Q9 x6 x52) (br (Q9 x8 x52) (some (.ret,Uw false)) (OZ kk x6 x8 x50 x51 x52 y3 y4 JO)) (OZ kk x6 x8 x50 x51 x52 y3 y4 JO)))) none) none) none) none) none) (some (.exit 0,Qi0))
def Qi1 (x6 x8:List Int)(x50:List Item)(x51 x52:Int)(y3:Estate)(y4:Policy)(JO:List Job):OX:=br (false) (some (.ret,Uw (false)))<|some (.exit 0,Qi0)
theorem Qsw (x6 x8:List Int)(x50:List Item)(x51 x52:Int)(y3:Estate)(y4:Policy)(JO:List Job):Qct x6 x8 x50 x51 x52 y3 y4 JO=O0 Qct x6 x8 x50 x51 x52 y3 y4 JO:=lnT (x:=O0 (fun x6 x8 x50 x51 x52 y3 y4 JO=>some (.normal,Qsv x6 x8 x50 x51 x52 y3 y4 JO)) x6 x8 x50 x51 x52 y3 y4 JO) (by simp only [O0,OZ,OY,Fc,OW,nxA];rfl)
def Qi2 (p0:List Int):OV:=
 let a1:=(((ZM (ZU p0)).1).1,((((ZM (ZU p0)).1).2).1,(((((ZM (ZU p0)).1).2).2).1,())))
 let a2:=((((ZM (ZU p0)).2).1).1,(((((ZM (ZU p0)).2).1).2).1,()))
 let a3:=(((((ZM (ZU p0)).1).2).2).1)
 br (!(U0 p0)) (some (.t .bool Oe,[])) (br (dOk (ZU p0)) (br (Js a1 a2) (br (Js a1 a2) (br (ine ((JD a1 a2).2) 0) (some (.t .bool false,[])) (br (ine ((Ji a1 a2).2) 0) (some (.t .bool false,[])) (br (Qy a3 (Qc a3) (0:Int)&&QiY ((JD a1 a2).1) ((Ji a1 a2).1) a3 a1 a2) (br (false) (some (.t .bool (false),[])) (some (.t .bool Oe,[]))) none))) none) none) none)
theorem e_f5 (p0:List Int):QP Ey Qcs rv_f5 false [.t (.sl tI) p0] []=Qi2 p0:=by kernel_rfl
theorem gk_f5:GOk Tryz.prog Ey:=Jw _ (gA (gD ms_f8 (gC en_f9 ms_f9 (gD QpH (gD Qyg (gD QiT (gD Qsp (gD Qsq (gD ms_f26 (gD QoZ gN))))))))))
theorem l_f5_0 (x6 x8:List Int)(x50:List Item)(x51 x52:Int)(y3:Estate)(y4:Policy)(JO:List Job)(h:(Qy x50 x51 x52&&QiY x6 x8 x50 y3 y4)=true):Qct x6 x8 x50 x51 x52 y3 y4 JO=Qi1 x6 x8 x50 x51 x52 y3 y4 JO:=by
 obtain ⟨h0,hj⟩:=Bg.1 h
 obtain ⟨q1,hj1⟩:=Bg.1 hj
 obtain ⟨q2,hj2⟩:=Bg.1 hj1
 obtain ⟨q3,hj3⟩:=Bg.1 hj2
 obtain ⟨hl,q4⟩:=Bg.1 hj3
 have hc:Ja y3 y4=0:=eq_of_beq q4
 obtain ⟨rfl,h3,k,rfl,hk⟩:=JR h0
 clear h h0 hj hj1 hj2 hj3 q4
 obtain rfl:=ET q1
 obtain rfl:=ET q2
 obtain rfl:=ET q3
 clear q1 q2 q3
 refine Q5 (QM y3) (fun k=>Qct (JD y3 y4).1 (Ji y3 y4).1 (QM y3) ((QM y3).length:Int) (k:Int) y3 y4 JO=Qi1 (JD y3 y4).1 (Ji y3 y4).1 (QM y3) ((QM y3).length:Int) (k:Int) y3 y4 JO) ?_ ?_ k hk
 ·rw [Qsw]
  simp only [O0,OZ,OY,Fc,OW,Qi1,QD,BX,BW,Qj]
 ·intro k hk ih
  rw [Qsw]
  have hi:QQ y4 (QM y3)[k]=true:=by rw [←Gx hk];exact Gy hc hk
  have hf:J8 y4 (QM y3)[k]=true:=Bg.2 ⟨(Bg.1 hl).2,QeJ (Ev (Bg.1 hl).1) hk⟩
  have i1:J3 (JD y3 y4).1 (k:Int)=true:=Be (Fb hl)
  have i2:J3 (Ji y3 y4).1 (k:Int)=true:=Be (Fb hl)
  have ha:Q9 (JD y3 y4).1 (k:Int)=thB y4 true (QM y3)[k]:=Qcq hc hk
  have hb:Q9 (Ji y3 y4).1 (k:Int)=thB y4 false (QM y3)[k]:=Qcq hc hk
  have hd:=dl_at hc hk
  have hz:=QDH hi
  have hlt:=QDG hi
  simp only [O0,OZ,OY,Fc,OW,QD,QI,hk,Br,Qf,Bd,QW (show k<4611686018427387904 by omega),QO (y:=Qm) hk,ih]
  refine brY hl (brY hf (brY i1 (brY i2 ?_)))
  rw [hz,ha,hb,hd]
  generalize (QM y3)[k]=i at*
  have eS:(stF y4 i).1=((Q7 y4 i).2.1&&ile (Q7 y4 i).1 i.2.2.2.2.1):=rfl
  have eA:thB y4 true i=((stF y4 i).1&&((stF y4 i).2.2==true)):=rfl
  have eB:thB y4 false i=((stF y4 i).1&&((stF y4 i).2.2==false)):=rfl
  rw [ER,Qj]
  cases hin:(stF y4 i).1 with
  |false=>
   rw [hin] at eA eB eS
   rw [eA,eB]
   simp only [DT,B0,ER,Qj,Qj6,DA,Qf]
   have eS:=eS.symm
   cases hbad:(Q7 y4 i).2.1 with
   |false=>rfl
   |true=>
    rw [hbad,By] at eS
    rw [Qf,eS]
    rfl
  |true=>
   rw [hin] at eA eB eS
   have hbad:(Q7 y4 i).2.1=true:=(Bg.1 eS.symm).1
   cases hcan:(stF y4 i).2.2 with
   |true=>
    rw [hcan] at eA eB
    have eA:thB y4 true i=true:=eA
    have eB:thB y4 false i=false:=eB
    have hlt:=hlt eA
    rw [eA,eB,hbad]
    have hg:ige (stF y4 i).2.1 (Q7 y4 i).1=false:=Bp (by omega)
    simp only [Da,ER,Qj,Qj6,DA,BK,Qf,hg]
    rfl
   |false=>
    rw [hcan] at eA eB
    have eA:thB y4 true i=false:=eA
    have eB:thB y4 false i=true:=eB
    rw [eA,eB,hbad]
    simp only [B0,ER,Qj,Qj6,DA,BK,Qf]
    rfl
theorem QDI:LO Ey QiZ Qsu 0:=QN (s:=Qcr) fun x y h _ q=>by simp only [QK,QL] at q;exact (l_f5_0 x.2.2.1 x.2.2.2.1 x.2.2.2.2.1 x.2.2.2.2.2.1 x.2.2.2.2.2.2.1 y.1 y.2.1 y.2.2.2.2.1 h).trans q
theorem lk_f5:Qcs.lok Ey:=by
 repeat (first|exact trivial|exact QDI|refine ⟨?_, ?_⟩)
theorem s_f5 (p0:List Int):Qi2 p0=some (.t .bool (jsL p0),[]):=by
 unfold Qi2
 refine QV (fun _=>rfl) (fun k1=> ?_)
 have k1:U0 p0=true:=by simpa using k1
 have hd:=Qyh k1
 generalize ZU p0=d at hd ⊢
 have hl:=Qsr (QBo d (jL d).1)
 have hj:=jchk_0 d
 have hi:=Is (Ev (Bg.1 hl).1)
 rw [show ZM d=(jE d,jP d,(jL d).1) from rfl]
 generalize jE d=e at hl hj hi ⊢
 generalize jP d=y at hl hj ⊢
 have g1:(JD e y).2=0:=by unfold JD thF;rw [hj];rfl
 have g2:(Ji e y).2=0:=by unfold Ji thF;rw [hj];rfl
 refine brY hd (brY hl (brY hl (brX ?_ (brX ?_ (brY ?_ rfl)))))
 ·show ine (JD e y).2 0=false
  rw [g1]
  rfl
 ·show ine (Ji e y).2 0=false
  rw [g2]
  rfl
 ·have c1:Qy (QM e) (Qc (QM e)) 0=true:=JS (by omega)
  refine Bg.2 ⟨c1,Bg.2 ⟨ES _,Bg.2 ⟨ES _,Bg.2 ⟨ES _,Bg.2 ⟨hl, ?_⟩⟩⟩⟩⟩
  show ieq (Ja e y) 0=true
  rw [hj]
  rfl
def sp_f5:Ent:=Qo (.pr (.sl tI) .nil) (fun x=>true) (fun x=>(.t .bool (jsL x.1)))
theorem ms_f5:Qp Tryz.prog 5 (Qq sp_f5):=Qt (R:=QP Ey Qcs rv_f5 false) (mG Tryz.func5 (by kernel_rfl) Tryz.ntmps5 (by kernel_rfl) gk_f5 lk_f5) fun x _=>(e_f5 x.1).trans (s_f5 x.1)
end
end Go.Proofs.YthlcobdnemhcdaaGreat.K.SO
namespace Go.Proofs.YthlcobdnemhcdaaGreat.K
open Go.RowKit SO
theorem walkJobSorts (z0:(List Int))(W:World)(v0:Value)(c0:C noX W (fun _=> .no) (V.t (.sl tI) z0).d v0)(w0:Ty.wf (.sl tI) z0):
  Calls Tryz.prog 5 #[v0] W fun r w'=>r= .returned (.bool true)/\Below W.heap.size W w':=
 Qrt (by decide) ms_f5 (args:=[.t (.sl tI) z0]) (Qb6 (x:=(z0,())) rfl (rfl)) (by simp only [V.ds,Cs];exact ⟨_,_,rfl,c0,rfl⟩)
end Go.Proofs.YthlcobdnemhcdaaGreat.K
noncomputable section
namespace Go.Proofs.YthlcobdnemhcdaaGreat.K.SO
open Go.RowKit
noncomputable section
def jmJ (n:Nat)(day:Int):Job:=((n:Int),((Jf,(day,())),()))
theorem jm_ren {p:Policy}{i:Item}{day:Int}(hf:QQ p i=true)(h1:Q4 i<day)(h2:day<=40000)(h3:i.2.2.2.1.length<=3):Zn p i Jf day=0:=by
 unfold Zn
 rw [if_neg (by rw [hf];simp),if_neg (show ¬ Je Jf=false by decide),if_neg (by omega),if_neg (by omega)]
theorem jm_all {q p:Policy}(hS:p=JK q){i:Item}{day:Int}(hf:QQ p i=true)(h0:0<=day)(h2:day<=40000):(Yn p Jf i.2.2.1 day).1=true:=by
 have hf2:=hf
 simp only [QQ,Bb] at hf2
 have hI:=Jn.1 hf2.2
 have ee:Zk p Jf i.2.2.1 day=0:=by
  unfold Zk
  rw [if_neg (by rw [hf2.1];simp),if_neg (show ¬ Je Jf=false by decide),if_neg (by omega)]
 unfold Yn
 rw [if_pos ee,hS]
 exact Qr3 h0 h2
theorem jm_ap {e:Estate}{q p:Policy}{n:Nat}{day:Int}(hj:Ja e p=0)(hS:p=JK q)(hn:n<(QM e).length)(h1:Q4 (Qw e n)<day)(h0:0<=day)(h2:day<=40000)(h3:(Qw e n).2.2.2.1.length<=3):
  apF e p (jmJ n day)=(ZR e n (Q8 (Qw e n) Jf day),0):=by
 have hf:=Gy hj hn
 have r0:=jm_ren hf h1 h2 h3
 have a0:=jm_all hS hf h0 h2
 unfold apF
 rw [hj]
 have e1:(jmJ n day).1=(n:Int):=rfl
 have i1:ilt (n:Int) 0=false:=Bp (by omega)
 have i2:ige (n:Int) (Qc (QM e))=false:=Bp (by simp only [Qc];omega)
 rw [e1,i1,i2,Bd]
 show (bif ine (Zn p (Qw e n) Jf day) 0 then _ else bif !(Yn p Jf (Qw e n).2.2.1 day).1 then _ else _)=_
 rw [r0,a0]
 rfl
theorem QbA (e:Estate){n:Nat}(hn:n<(QM e).length)(x:Item):(QM (ZR e n x))[n]'(by rw [OU];exact hn)=x:=List.getElem_set_self _
theorem QbB {e:Estate}{p:Policy}{n:Nat}{day:Int}(hj:Ja e p=0)(hn:n<(QM e).length)(h1:Q4 (Qw e n)<day)(h2:day<=40000)(h8:(Qw e n).2.2.2.1.length<8):Ja (ZR e n (Q8 (Qw e n) Jf day)) p=0:=by
 obtain ⟨ho,hp⟩:=E0 hj
 have hi:=Qdt ho (Vx hn)
 refine Qko ?_ hp
 have hm:=QAo (u:=Jf) hi (by decide) h1 h2 h8
 unfold YD at ho ⊢
 simp only [Bb] at ho ⊢
 have hl:=OU e n (Q8 (Qw e n) Jf day)
 refine ⟨ho.1,Bh.2 fun z hz=> ?_,ho.2.2.1, ?_,ho.2.2.2.2.1,ho.2.2.2.2.2⟩
 ·rcases DU hz with hz|rfl
  ·exact Bh.1 ho.2.1 z hz
  ·exact hm
 ·rw [show Qc (QM (ZR e n (Q8 (Qw e n) Jf day)))=Qc (QM e) by simp only [Qc,hl]]
  exact ho.2.2.2.1
theorem QBW {y:Policy}{i:Item}(hf:QQ y i=true)(h:thB y true i=true): ∃ L,J2 y i=(L,true,0)/\Q4 i<L/\L<=40000/\0<=Q4 i/\i.2.1=2:=by
 obtain ⟨h1,h2⟩:=Bg.1 h
 have hcan:(J2 y i).2.1=true:=eq_of_beq h2
 have hf2:=hf
 simp only [QQ,Bb] at hf2
 have hI:=Jn.1 hf2.2
 have hk:i.2.1=1∨i.2.1=2:=by have:=hI.2.1;omega
 rcases hk with hk|hk
 ·rw [QiE hf hk] at hcan
  cases hcan
 ·rw [ON hf hk] at hcan ⊢
  by_cases ho:ZV (QB y i)=true
  ·rw [if_pos ho] at hcan ⊢
   by_cases hl:ile (ZK y i) (Q4 i)=true
   ·rw [if_pos hl] at hcan
    cases hcan
   ·rw [if_neg hl]
    have hl: ¬ ZK y i<=Q4 i:=fun h=>hl (Be h)
    obtain ⟨l,x,e1,e2,e3,e4,e5,e6,hd⟩:=Qch hf ho
    refine ⟨_,rfl,by omega, ?_,by omega,hk⟩
    rcases hd with ⟨_,_,g⟩|⟨f,_,_,g0,_,_,_,g⟩<;>omega
  ·rw [if_neg ho] at hcan
   cases hcan
theorem jm_due {e:Estate}{q p:Policy}{n:Nat}{day L:Int}(hj:Ja e p=0)(hS:p=JK q)(hn:n<(QM e).length)(hk:(Qw e n).2.1=2)(hL:J2 p (Qw e n)=(L,true,0))(h1:Q4 (Qw e n)<day)(hd:day<=L)(h2:L<=40000)(h3:(Qw e n).2.2.2.1.length<=3)(can:Bool):
  Q9 (thF (ZR e n (Q8 (Qw e n) Jf day)) p can).1 (n:Int)=false:=by
 have hc:=QbB (p:=p) hj hn h1 (by omega) (by omega)
 have hf:=Gy hj hn
 have hn2:n<(QM (ZR e n (Q8 (Qw e n) Jf day))).length:=by rw [OU];exact hn
 have hp:Jr (JK q)=true:=hS▸(E0 hj).2
 rw [Qcq hc hn2,QbA e hn]
 have hm:(JX p (Q8 (Qw e n) Jf day)).2=false:=QDp hf hk (by rw [hS];exact Qr4 hp) hL hd
 have hf2:QQ p (Q8 (Qw e n) Jf day)=true:=by have:=Gy hc hn2;rw [Gx hn2,QbA e hn] at this;exact this
 have hb:(Q7 p (Q8 (Qw e n) Jf day)).2.1=false:=by unfold Q7;rw [if_pos hf2];exact hm
 show (((Q7 p (Q8 (Qw e n) Jf day)).2.1&&_)&&_)=false
 rw [hb]
 rfl
theorem QBX {e:Estate}{q p:Policy}{n:Nat}{day:Int}(hj:Ja e p=0)(hS:p=JK q)(hn:n<(QM e).length)(ht:thB p false (Qw e n)=true)(h1:Q4 (Qw e n)<day)(h2:day<=40000)(h8:(Qw e n).2.2.2.1.length<8):
  Q9 (thF (ZR e n (Q8 (Qw e n) Jf day)) p false).1 (n:Int)=true:=by
 have hc:=QbB (p:=p) hj hn h1 h2 h8
 have hf:=Gy hj hn
 have hn2:n<(QM (ZR e n (Q8 (Qw e n) Jf day))).length:=by rw [OU];exact hn
 have hp:Jr (JK q)=true:=hS▸(E0 hj).2
 rw [Qcq hc hn2,QbA e hn]
 have hf2:QQ p (Q8 (Qw e n) Jf day)=true:=by have:=Gy hc hn2;rw [Gx hn2,QbA e hn] at this;exact this
 obtain ⟨t1,t2⟩:=Bg.1 ht
 obtain ⟨t3,t4⟩:=Bg.1 (show ((Q7 p (Qw e n)).2.1&&ile (Q7 p (Qw e n)).1 (Qw e n).2.2.2.2.1)=true from t1)
 have hcan:(J2 p (Qw e n)).2.1=false:=eq_of_beq t2
 have eF: ∀ {i:Item},QQ p i=true->Q7 p i=((JX p i).1,(JX p i).2,0):=fun h=>by unfold Q7;rw [if_pos h]
 rw [eF hf] at t3 t4
 obtain ⟨m1,m2⟩:=QDr (u:=Jf) (day:=day) hf hf2 (by rw [hS];exact Qr4 hp) t3 hcan h1
 show (((Q7 p (Q8 (Qw e n) Jf day)).2.1&&ile (Q7 p (Q8 (Qw e n) Jf day)).1 (Qw e n).2.2.2.2.1)&&((J2 p (Q8 (Qw e n) Jf day)).2.1==false))=true
 rw [eF hf2,m1,m2]
 show (((JX p (Qw e n)).2&&ile (JX p (Qw e n)).1 (Qw e n).2.2.2.2.1)&&_)=true
 rw [show (JX p (Qw e n)).2=true from t3,show ile (JX p (Qw e n)).1 (Qw e n).2.2.2.2.1=true from t4]
 rfl
theorem Qqn {e:Estate}{p:Policy}{can:Bool}(hj:Ja e p=0){x:Int}(h:x∈(thF e p can).1): ∃ n:Nat,x=(n:Int)/\n<(QM e).length/\thB p can (Qw e n)=true:=by
 unfold thF at h
 rw [hj] at h
 have h:x∈thZ p can (QM e) 0:=h
 obtain ⟨n,hn,h1,h2⟩:=Qkr.1 h
 exact ⟨n,by omega,hn,by rw [Gx hn];exact h2⟩
def jmE (day:Int)(e:Estate)(p:Policy):Bool:=Js e p&&(ieq (Ja e p) 0&&(Yx e&&(Xq p (JK (p.1.dropLast,p.2))&&(decide (0<=day/\day<=255)&&(QM e).all fun i=>decide (i.2.2.2.1.length<=3)))))
def jmL (_:List Int)(_:Int):Bool:=true
def QhH (_:List Int)(d:Int):Bool:=decide (0<=d/\d<=255)
theorem Qqo {day:Int}{e:Estate}{p:Policy}(h:jmE day e p=true):Js e p=true/\Ja e p=0/\Yx e=true/\p=JK (p.1.dropLast,p.2)/\(0<=day/\day<=255)∧ ∀ i,i∈QM e->i.2.2.2.1.length<=3:=by
 obtain ⟨h1,h⟩:=Bg.1 h
 obtain ⟨h2,h⟩:=Bg.1 h
 obtain ⟨h3,h⟩:=Bg.1 h
 obtain ⟨h4,h⟩:=Bg.1 h
 obtain ⟨h5,h6⟩:=Bg.1 h
 exact ⟨h1,eq_of_beq h2,h3,ET h4,BJ h5,fun i hi=>BJ (Bh.1 h6 i hi)⟩
theorem QBY {y:Policy}{i:Item}(hf:QQ y i=true):0<=Q4 i/\Q4 i<=40000:=by
 have hf2:=hf
 simp only [QQ,Bb] at hf2
 have hI:=Jn.1 hf2.2
 obtain ⟨l,x,e,hx⟩:=Qgr (i:=i) hI.2.2.2.1.1
 have hx0:=(FA hI.2.2.2.2.1 x (by rw [e];simp)).2
 rw [hx]
 exact hx0
theorem QBZ (e:Estate)(y:Policy)(j:Job):(apF e y j).1=EZ∨apE e y j=0:=by
 unfold apE apF
 cases ine (Ja e y) 0 with
 |true=>exact .inl rfl
 |false=>
  cases ilt j.1 0 with
  |true=>exact .inl rfl
  |false=>
   cases ige j.1 (Qc (QM e)) with
   |true=>exact .inl rfl
   |false=>
    cases ine (Zn y (Qw e j.1.toNat) j.2.1.1 j.2.1.2.1) 0 with
    |true=>exact .inl rfl
    |false=>
     cases (Yn y j.2.1.1 (Qw e j.1.toNat).2.2.1 j.2.1.2.1).1 with
     |true=>exact .inr rfl
     |false=>exact .inl rfl
theorem QB0 {e:Estate}{y:Policy}{j:Job}(hc:Yx e=true)(hl:Js e y=true):Yx (apF e y j).1=true:=by
 rcases QBZ e y j with h|h
 ·rw [h];rfl
 ·exact ap_cpy hc h hl
theorem jP_okS (d:Dice):Jr (JK (jP d))=true:=by
 have h:=jP_ok d
 have hp:=Qbl (ZL d).2
 unfold Jr at h ⊢
 simp only [Bb,Ba] at h ⊢
 have hlen:(jP d).1.length<=7:=by
  unfold jP
  cases jB d with
  |true=>simp only [Da,Bl,Bk];omega
  |false=>simp only [B0];omega
 refine ⟨⟨?_,h.1.2⟩, ?_,h.2.2⟩
 ·show ((jP d).1++[rlS]).all Zy=true
  rw [List.all_append,h.1.1]
  rfl
 ·show ((jP d).1++[rlS]).length<=60
  simp only [Bl,Bk]
  omega
theorem QB1 {y:Policy}(h:Jr (JK y)=true):y.1.length<=60:=by
 unfold Jr at h
 simp only [Bb,Ba] at h
 have h:(y.1++[rlS]).length<=60:=h.2.1
 simp only [Bl,Bk] at h
 omega
theorem Qqp {a:Int}(h: -9223372036854775808<=a/\a<=9223372036854775807):icv .i64 a=a:=Go.IntWalk.i64_in _ h
theorem QB2 {n k:Int}(h:0<k):0<=Yi n k/\Yi n k<k:=by
 unfold Yi
 rw [if_neg (by omega)]
 exact ⟨Int.emod_nonneg _ (by omega),Int.emod_lt_of_pos _ h⟩
abbrev Or:Sh:=⟨[(1,.ty (.int .u8)),(5,.ptr 5 0),(6,.ptr 6 0),(10,.ty (.sl tI)),(67,.ty (.sl tI)),(68,.ty tI),(69,.ty tI)],[(5,.box Qr),(6,.box QE),(39,.no),(47,.no),(5039,.no),(10039,.arr 47 Zq),(15039,.no)]⟩
abbrev F9:Sh:=⟨[(4,.ty .bool)],[]⟩
abbrev Qqq:Sh:=⟨[(1,.ty (.int .u8)),(5,.ptr 5 0),(6,.ptr 6 0),(10,.ty (.sl tI))],[(5,.box Qr),(6,.box QE),(39,.no),(47,.no),(5039,.no),(10039,.arr 47 Zq),(15039,.no)]⟩
abbrev QbC:Sh:=⟨[(1,.ty (.int .u8)),(5,.ptr 5 0),(6,.ptr 6 0),(177,.ty (.sl tI)),(178,.ty tI),(179,.ty tI)],[(5,.box Qr),(6,.box QE),(39,.no),(47,.no),(5039,.no),(10039,.arr 47 Zq),(15039,.no)]⟩
abbrev Qqr:Sh:=⟨[],[]⟩
def QhI:Fg:=Or.f
def QhJ:Fg:=QbC.f
def Ot:TC:=aF Tryz.f6 [(2042,pL 0 QhI),(32677,.fg Qqq.f),(2091413,.fg F9.f),(133851090,.fg Or.f),(66925547,.fg F9.f),(8365694,pD [(0,[5,39,5039,10039,15039]),(1,[6,39,47,5039,10039,15039]),(2,[]),(3,[]),(4,[]),(5,[]),(6,[]),(7,[]),(8,[]),(9,[]),(10,[]),(11,[]),(12,[]),(13,[]),(14,[]),(15,[5,6,39,47,141,5039,5141,10039,10141,15039,15141]),(16,[]),(17,[]),(18,[]),(19,[19,5019,10019,15019]),(20,[19]),(21,[])] (.one 0 (.one 1 (.one 2 (.one 3 (.one 4 (.one 5 (.one 6 (.one 7 (.one 8 (.one 9 (.one 10 (.one 11 (.one 12 (.one 13 (.one 14 (.alt 15 (.of [16,17,18,19,20,21]) (.of [19,15,16,17,18,20,21])))))))))))))))))),(267702269,.fg F9.f),(4090,pL 1 QhJ),(65445,.fg Qqr.f),(4188565,.fg F9.f),(2094286,pD [(0,[5,39,5039,10039,15039]),(1,[6,39,47,5039,10039,15039]),(2,[]),(3,[]),(4,[]),(5,[]),(6,[]),(7,[]),(8,[]),(9,[]),(10,[]),(11,[]),(12,[]),(13,[]),(14,[]),(15,[]),(16,[]),(17,[5,6,39,47,216,5039,5216,10039,10216,15039,15216]),(18,[]),(19,[]),(20,[]),(21,[28,5028,10028,15028]),(22,[28]),(23,[])] (.one 0 (.one 1 (.one 2 (.one 3 (.one 4 (.one 5 (.one 6 (.one 7 (.one 8 (.one 9 (.one 10 (.one 11 (.one 12 (.one 13 (.one 14 (.one 15 (.one 16 (.alt 17 (.of [18,19,20,21,22,23]) (.of [21,17,18,19,20,22,23])))))))))))))))))))),(33508605,.fg F9.f)]
def Qqs:TC:=lb 0 Ot
def Qqt:TC:=lb 1 Ot
def rv_f6:List (RV×Option Ty):=[((.t 4),some .bool)]
def Qqu (x1:Int)(x10 x67:List Int)(x68 x69:Int)(y5:Estate)(y6:Policy)(QY:List Job):VS:=Or.st (x1,(),(),x10,x67,x68,x69,()) (y5,y6,(),(),(),QY,(),())
def Yj (x4:Bool):VS:=F9.st (x4,()) ()
def QhK (x1:Int)(x10:List Int)(y5:Estate)(y6:Policy)(QY:List Job):VS:=Qqq.st (x1,(),(),x10,()) (y5,y6,(),(),(),QY,(),())
def Qqv (x1:Int)(x177:List Int)(x178 x179:Int)(y5:Estate)(y6:Policy)(QY:List Job):VS:=QbC.st (x1,(),(),x177,x178,x179,()) (y5,y6,(),(),(),QY,(),())
def QhL  : VS:=Qqr.st () ()
def L_f6_0:VS->Option (Bool×List (Bool×Exit×VS)):=mkL Or (fun x y=>(Qy x.2.2.2.2.1 x.2.2.2.2.2.1 x.2.2.2.2.2.2.1&&(Xq x.2.2.2.2.1 (JD y.1 y.2.1).1&&jmE x.1 y.1 y.2.1))) (fun x y=>[((false),.ret,Yj (false)),(true,.exit 0,QhK (x.1) (x.2.2.2.1) (y.1) (y.2.1) (y.2.2.2.2.2.1))])
def L_f6_1:VS->Option (Bool×List (Bool×Exit×VS)):=mkL QbC (fun x y=>(Qy x.2.2.2.1 x.2.2.2.2.1 x.2.2.2.2.2.1&&(Xq x.2.2.2.1 (Ji y.1 y.2.1).1&&jmE x.1 y.1 y.2.1))) (fun x y=>[((false),.ret,Yj (false)),(true,.exit 2,QhL)])
def Gb:G:=gG 239 [(8,QmJ),(9,Qbm),(10,Qg2),(11,QmL),(13,OR),(19,Qcp),(21,QiU),(24,QiV),(27,Qgn),(28,QmK)] (Ls [L_f6_0,L_f6_1])
def QbD (x1:Int)(x10 x67:List Int)(x68 x69:Int)(y5:Estate)(y6:Policy)(QY:List Job):OX:=QA (QC Gb QhI Qqs) (Qqu x1 x10 x67 x68 x69 y5 y6 QY)
def Gc (kk:Int->List Int->List Int->Int->Int->Estate->Policy->List Job->OX)(x1:Int)(x10 x67:List Int)(x68 x69:Int)(y5:Estate)(y6:Policy)(QY:List Job):OX:=
 let a1:=lgt tI x67 (Int.toNat x69)
 let a2:=(((((lgt Qm y5.2.2.1 (Int.toNat a1)).2).2).2).1)
 br (ieq ((dlF y5 y6 a1).1) (((lgt QH a2 (Int.toNat (Qs .i64 (Qc a2) 1))).2).1)) (br (((dlF y5 y6 a1).2).1) (kk x1 x10 x67 x68 (Qh .i64 x69 1) y5 y6 QY) (some (.ret,Yj false))) (some (.ret,Yj false))
def Ea (kk:Int->List Int->List Int->Int->Int->Estate->Policy->List Job->OX)(x1:Int)(x10 x67:List Int)(x68 x69:Int)(y5:Estate)(y6:Policy)(QY:List Job):OX:=
 let a3:=lgt tI x67 (Int.toNat x69)
 let a1:=((Qh .i64 (Qh .i64 (((lgt QH (((((lgt Qm y5.2.2.1 (Int.toNat a3)).2).2).2).1) (Int.toNat (Qs .i64 (Qc (((((lgt Qm y5.2.2.1 (Int.toNat a3)).2).2).2).1)) 1))).2).1) 1) (Yi (icv .i64 x1) (Qs .i64 ((dlF y5 y6 a3).1) (((lgt QH (((((lgt Qm y5.2.2.1 (Int.toNat a3)).2).2).2).1) (Int.toNat (Qs .i64 (Qc (((((lgt Qm y5.2.2.1 (Int.toNat a3)).2).2).2).1)) 1))).2).1)))),())
 let a2:=(apF y5 y6 (a3,(((4,(0,())),a1),())))
 let a4:=Ji (a2.1) y6
 let a5:=JD (a2.1) y6
 br (XZ y5 y6 (a3,(((4,(0,())),a1),()))) (br (Js (a2.1) y6) (br (Js (a2.1) y6) (br (ine (a2.2) 0) (some (.ret,Yj false)) (br (ine (a5.2) 0) (some (.ret,Yj false)) (br (ine (a4.2) 0) (some (.ret,Yj false)) (br (J3 (a5.1) a3) (br (Q9 (a5.1) a3) (some (.ret,Yj false)) (br (J3 (a4.1) a3) (br (Q9 (a4.1) a3) (some (.ret,Yj false)) (kk x1 x10 x67 x68 (Qh .i64 x69 1) y5 y6 QY)) none)) none)))) none) none) none
def Eb (kk:Int->List Int->List Int->Int->Int->Estate->Policy->List Job->OX)(x1:Int)(x10 x67:List Int)(x68 x69:Int)(y5:Estate)(y6:Policy)(QY:List Job):OX:=
 let a2:=lgt tI x67 (Int.toNat x69)
 let a1:=(((((lgt Qm y5.2.2.1 (Int.toNat a2)).2).2).2).1)
 let a3:=(((lgt QH a1 (Int.toNat (Qs .i64 (Qc a1) 1))).2).1)
 let a4:=dlF y5 y6 a2
 br (ilt x69 x68) (br (cIx x67 x69) (br (ilt a2 0) (some (.ret,Yj false)) (br (ige a2 (Qc y5.2.2.1)) (some (.ret,Yj false)) (br (cIx y5.2.2.1 a2) (br (cIx a1 (Qs .i64 (Qc a1) 1)) (br (Ex y5 y6 a2) (br (ine ((a4.2).2) 0) (Gc kk x1 x10 x67 x68 x69 y5 y6 QY) (br (!((a4.2).1)) (Gc kk x1 x10 x67 x68 x69 y5 y6 QY) (br (ile (a4.1) a3) (Gc kk x1 x10 x67 x68 x69 y5 y6 QY) (br (ige (Qc a1) 8) (Gc kk x1 x10 x67 x68 x69 y5 y6 QY) (br (GS (icv .i64 x1) (Qs .i64 (a4.1) a3)) (frk (Ea kk x1 x10 x67 x68 x69 y5 y6 QY) (Ea kk x1 x10 x67 x68 x69 y5 y6 QY)) none))))) none) none) none))) none) (some (.exit 0,QhK x1 x10 y5 y6 QY))
def QhM (x1:Int)(x10 x67:List Int)(x68 x69:Int)(y5:Estate)(y6:Policy)(QY:List Job):OX:=br (false) (some (.ret,Yj (false)))<|some (.exit 0,QhK (x1) (x10) (y5) (y6) (QY))
theorem Qqw (x1:Int)(x10 x67:List Int)(x68 x69:Int)(y5:Estate)(y6:Policy)(QY:List Job):QbD x1 x10 x67 x68 x69 y5 y6 QY=Eb QbD x1 x10 x67 x68 x69 y5 y6 QY:=lnT (x:=Eb (fun x1 x10 x67 x68 x69 y5 y6 QY=>some (.normal,Qqu x1 x10 x67 x68 x69 y5 y6 QY)) x1 x10 x67 x68 x69 y5 y6 QY) (by
 first
 |(simp only [JM,Eb,Gc,Ea,JM,YJ,YY,YZ,Y0,Y2]
   rfl)
 |(simp only [JM,Eb,Gc,Ea,JM]
   try generalize ((J3 ((Ji ((apF y5 y6 ((lgt tI x67 (Int.toNat x69)),(((4,(0,())),((Qh .i64 (Qh .i64 (((lgt QH (((((lgt Qm y5.2.2.1 (Int.toNat (lgt tI x67 (Int.toNat x69)))).2).2).2).1) (Int.toNat (Qs .i64 (Qc (((((lgt Qm y5.2.2.1 (Int.toNat (lgt tI x67 (Int.toNat x69)))).2).2).2).1)) 1))).2).1) 1) (Yi (icv .i64 x1) (Qs .i64 ((dlF y5 y6 (lgt tI x67 (Int.toNat x69))).1) (((lgt QH (((((lgt Qm y5.2.2.1 (Int.toNat (lgt tI x67 (Int.toNat x69)))).2).2).2).1) (Int.toNat (Qs .i64 (Qc (((((lgt Qm y5.2.2.1 (Int.toNat (lgt tI x67 (Int.toNat x69)))).2).2).2).1)) 1))).2).1)))),())),()))).1) y6).1) (lgt tI x67 (Int.toNat x69))))=cq0
   try generalize ((J3 ((JD ((apF y5 y6 ((lgt tI x67 (Int.toNat x69)),(((4,(0,())),((Qh .i64 (Qh .i64 (((lgt QH (((((lgt Qm y5.2.2.1 (Int.toNat (lgt tI x67 (Int.toNat x69)))).2).2).2).1) (Int.toNat (Qs .i64 (Qc (((((lgt Qm y5.2.2.1 (Int.toNat (lgt tI x67 (Int.toNat x69)))).2).2).2).1)) 1))).2).1) 1) (Yi (icv .i64 x1) (Qs .i64 ((dlF y5 y6 (lgt tI x67 (Int.toNat x69))).1) (((lgt QH (((((lgt Qm y5.2.2.1 (Int.toNat (lgt tI x67 (Int.toNat x69)))).2).2).2).1) (Int.toNat (Qs .i64 (Qc (((((lgt Qm y5.2.2.1 (Int.toNat (lgt tI x67 (Int.toNat x69)))).2).2).2).1)) 1))).2).1)))),())),()))).1) y6).1) (lgt tI x67 (Int.toNat x69))))=cq1
   try generalize ((Js ((apF y5 y6 ((lgt tI x67 (Int.toNat x69)),(((4,(0,())),((Qh .i64 (Qh .i64 (((lgt QH (((((lgt Qm y5.2.2.1 (Int.toNat (lgt tI x67 (Int.toNat x69)))).2).2).2).1) (Int.toNat (Qs .i64 (Qc (((((lgt Qm y5.2.2.1 (Int.toNat (lgt tI x67 (Int.toNat x69)))).2).2).2).1)) 1))).2).1) 1) (Yi (icv .i64 x1) (Qs .i64 ((dlF y5 y6 (lgt tI x67 (Int.toNat x69))).1) (((lgt QH (((((lgt Qm y5.2.2.1 (Int.toNat (lgt tI x67 (Int.toNat x69)))).2).2).2).1) (Int.toNat (Qs .i64 (Qc (((((lgt Qm y5.2.2.1 (Int.toNat (lgt tI x67 (Int.toNat x69)))).2).2).2).1)) 1))).2).1)))),())),()))).1) y6))=cq2
   try generalize ((XZ y5 y6 ((lgt tI x67 (Int.toNat x69)),(((4,(0,())),((Qh .i64 (Qh .i64 (((lgt QH (((((lgt Qm y5.2.2.1 (Int.toNat (lgt tI x67 (Int.toNat x69)))).2).2).2).1) (Int.toNat (Qs .i64 (Qc (((((lgt Qm y5.2.2.1 (Int.toNat (lgt tI x67 (Int.toNat x69)))).2).2).2).1)) 1))).2).1) 1) (Yi (icv .i64 x1) (Qs .i64 ((dlF y5 y6 (lgt tI x67 (Int.toNat x69))).1) (((lgt QH (((((lgt Qm y5.2.2.1 (Int.toNat (lgt tI x67 (Int.toNat x69)))).2).2).2).1) (Int.toNat (Qs .i64 (Qc (((((lgt Qm y5.2.2.1 (Int.toNat (lgt tI x67 (Int.toNat x69)))).2).2).2).1)) 1))).2).1)))),())),()))))=cq3
   try generalize ((GS (icv .i64 x1) (Qs .i64 ((dlF y5 y6 (lgt tI x67 (Int.toNat x69))).1) (((lgt QH (((((lgt Qm y5.2.2.1 (Int.toNat (lgt tI x67 (Int.toNat x69)))).2).2).2).1) (Int.toNat (Qs .i64 (Qc (((((lgt Qm y5.2.2.1 (Int.toNat (lgt tI x67 (Int.toNat x69)))).2).2).2).1)) 1))).2).1))))=cq4
   try generalize ((Ex y5 y6 (lgt tI x67 (Int.toNat x69))))=cq5
   try generalize (cIx (((((lgt Qm y5.2.2.1 (Int.toNat (lgt tI x67 (Int.toNat x69)))).2).2).2).1) (Qs .i64 (Qc (((((lgt Qm y5.2.2.1 (Int.toNat (lgt tI x67 (Int.toNat x69)))).2).2).2).1)) 1))=cq6
   try generalize (cIx y5.2.2.1 (lgt tI x67 (Int.toNat x69)))=cq7
   try generalize (cIx x67 x69)=cq8
   simp only [brN,JM,Bool.and_assoc,Bool.and_comm,Bool.and_left_comm,B2,Bool.and_self_left,YJ,YY,YZ,Y0,Y2]
   try rfl))
def Ou (x1:Int)(x177:List Int)(x178 x179:Int)(y5:Estate)(y6:Policy)(QY:List Job):OX:=QA (QC Gb QhJ Qqt) (Qqv x1 x177 x178 x179 y5 y6 QY)
def Ec (kk:Int->List Int->Int->Int->Estate->Policy->List Job->OX)(x1:Int)(x177:List Int)(x178 x179:Int)(y5:Estate)(y6:Policy)(QY:List Job):OX:=
 let a2:=lgt tI x177 (Int.toNat x179)
 let a3:=(((((lgt Qm y5.2.2.1 (Int.toNat a2)).2).2).2).1)
 let a1:=(apF y5 y6 (a2,(((4,(0,())),((Qh .i64 (Qh .i64 (((lgt QH a3 (Int.toNat (Qs .i64 (Qc a3) 1))).2).1) 1) (icv .i64 x1)),())),())))
 let a4:=Ji (a1.1) y6
 br (XZ y5 y6 (a2,(((4,(0,())),((Qh .i64 (Qh .i64 (((lgt QH a3 (Int.toNat (Qs .i64 (Qc a3) 1))).2).1) 1) (icv .i64 x1)),())),()))) (br (Js (a1.1) y6) (br (ieq (a1.2) 0) (br (ine (a4.2) 0) (some (.ret,Yj false)) (br (J3 (a4.1) a2) (br (!(Q9 (a4.1) a2)) (some (.ret,Yj false)) (kk x1 x177 x178 (Qh .i64 x179 1) y5 y6 QY)) none)) (kk x1 x177 x178 (Qh .i64 x179 1) y5 y6 QY)) none) none
def Ed (kk:Int->List Int->Int->Int->Estate->Policy->List Job->OX)(x1:Int)(x177:List Int)(x178 x179:Int)(y5:Estate)(y6:Policy)(QY:List Job):OX:=
 let a1:=lgt tI x177 (Int.toNat x179)
 let a2:=(((((lgt Qm y5.2.2.1 (Int.toNat a1)).2).2).2).1)
 br (ilt x179 x178) (br (cIx x177 x179) (br (ilt a1 0) (some (.ret,Yj false)) (br (ige a1 (Qc y5.2.2.1)) (some (.ret,Yj false)) (br (cIx y5.2.2.1 a1) (br (cIx a2 (Qs .i64 (Qc a2) 1)) (frk (Ec kk x1 x177 x178 x179 y5 y6 QY) (Ec kk x1 x177 x178 x179 y5 y6 QY)) none) none))) none) (some (.exit 2,QhL))
def QbE (x1:Int)(x177:List Int)(x178 x179:Int)(y5:Estate)(y6:Policy)(QY:List Job):OX:=br (false) (some (.ret,Yj (false)))<|some (.exit 2,QhL)
theorem Qqx (x1:Int)(x177:List Int)(x178 x179:Int)(y5:Estate)(y6:Policy)(QY:List Job):Ou x1 x177 x178 x179 y5 y6 QY=Ed Ou x1 x177 x178 x179 y5 y6 QY:=lnT (x:=Ed (fun x1 x177 x178 x179 y5 y6 QY=>some (.normal,Qqv x1 x177 x178 x179 y5 y6 QY)) x1 x177 x178 x179 y5 y6 QY) (by
 first
 |(simp only [JM,Ed,Ec,JM,YJ,YY,YZ,Y0,Y2]
   rfl)
 |(simp only [JM,Ed,Ec,JM]
   try generalize ((J3 ((Ji ((apF y5 y6 ((lgt tI x177 (Int.toNat x179)),(((4,(0,())),((Qh .i64 (Qh .i64 (((lgt QH (((((lgt Qm y5.2.2.1 (Int.toNat (lgt tI x177 (Int.toNat x179)))).2).2).2).1) (Int.toNat (Qs .i64 (Qc (((((lgt Qm y5.2.2.1 (Int.toNat (lgt tI x177 (Int.toNat x179)))).2).2).2).1)) 1))).2).1) 1) (icv .i64 x1)),())),()))).1) y6).1) (lgt tI x177 (Int.toNat x179))))=cq0
   try generalize ((Js ((apF y5 y6 ((lgt tI x177 (Int.toNat x179)),(((4,(0,())),((Qh .i64 (Qh .i64 (((lgt QH (((((lgt Qm y5.2.2.1 (Int.toNat (lgt tI x177 (Int.toNat x179)))).2).2).2).1) (Int.toNat (Qs .i64 (Qc (((((lgt Qm y5.2.2.1 (Int.toNat (lgt tI x177 (Int.toNat x179)))).2).2).2).1)) 1))).2).1) 1) (icv .i64 x1)),())),()))).1) y6))=cq1
   try generalize ((XZ y5 y6 ((lgt tI x177 (Int.toNat x179)),(((4,(0,())),((Qh .i64 (Qh .i64 (((lgt QH (((((lgt Qm y5.2.2.1 (Int.toNat (lgt tI x177 (Int.toNat x179)))).2).2).2).1) (Int.toNat (Qs .i64 (Qc (((((lgt Qm y5.2.2.1 (Int.toNat (lgt tI x177 (Int.toNat x179)))).2).2).2).1)) 1))).2).1) 1) (icv .i64 x1)),())),()))))=cq2
   try generalize (cIx (((((lgt Qm y5.2.2.1 (Int.toNat (lgt tI x177 (Int.toNat x179)))).2).2).2).1) (Qs .i64 (Qc (((((lgt Qm y5.2.2.1 (Int.toNat (lgt tI x177 (Int.toNat x179)))).2).2).2).1)) 1))=cq3
   try generalize (cIx y5.2.2.1 (lgt tI x177 (Int.toNat x179)))=cq4
   try generalize (cIx x177 x179)=cq5
   simp only [brN,JM,Bool.and_assoc,Bool.and_comm,Bool.and_left_comm,B2,Bool.and_self_left,YJ,YY,YZ,Y0,Y2]
   try rfl))
def QhN (p0:List Int)(p1:Int):OV:=
 let a1:=(((ZM (ZU p0)).1).1,((((ZM (ZU p0)).1).2).1,(((((ZM (ZU p0)).1).2).2).1,())))
 let a2:=(((((ZM (ZU p0)).2).1).1)++([(true,(4,(0,(0,(0,(40001,()))))))]))
 let a3:=(((((ZM (ZU p0)).2).1).2).1,())
 let a4:=(Ji a1 (a2,a3))
 let a5:=(JD a1 (a2,a3))
 br (!(U0 p0)) (some (.t .bool Oe,[])) (br (dOk (ZU p0)) (br (Qx ((((ZM (ZU p0)).2).1).1) ([(true,(4,(0,(0,(0,(40001,()))))))]) 48) (br (Js a1 (a2,a3)) (br (Js a1 (a2,a3)) (br (ine (a5.2) 0) (some (.t .bool false,[])) (br (ine (a4.2) 0) (some (.t .bool false,[])) (br (Qy (a5.1) (Qc (a5.1)) (0:Int)&&(Xq (a5.1) a5.1&&jmE p1 a1 (a2,a3))) (br (false) (some (.t .bool (false),[])) (br (Qy (a4.1) (Qc (a4.1)) (0:Int)&&(Xq (a4.1) a4.1&&jmE (p1) a1 (a2,a3))) (br (false) (some (.t .bool (false),[])) (some (.t .bool Oe,[]))) none)) none))) none) none) none) none)
theorem e_f6 (p0:List Int)(p1:Int):QP Gb Ot rv_f6 false [.t (.sl tI) p0,.t (.int .u8) p1] []=QhN p0 p1:=by kernel_rfl
theorem gk_f6:GOk Tryz.prog Gb:=Jw _ (gA (gD ms_f8 (gC en_f9 ms_f9 (gD QpH (gD Qyg (gD QiK (gD QiT (gD Qsp (gD Qsq (gD QoZ (gD Qyd gN)))))))))))
theorem l_f6_0 (x1:Int)(x10 x67:List Int)(x68 x69:Int)(y5:Estate)(y6:Policy)(QY:List Job)(h:(Qy x67 x68 x69&&(Xq x67 (JD y5 y6).1&&jmE x1 y5 y6))=true):QbD x1 x10 x67 x68 x69 y5 y6 QY=QhM x1 x10 x67 x68 x69 y5 y6 QY:=by
 obtain ⟨h0,hj⟩:=Bg.1 h
 obtain ⟨q1,hE⟩:=Bg.1 hj
 obtain ⟨hl,hc,hcp,hS,hd,h3⟩:=Qqo hE
 obtain ⟨rfl,hh3,k,rfl,hk⟩:=JR h0
 clear h h0 hj hE
 obtain rfl:=ET q1
 clear q1
 refine Q5 (JD y5 y6).1 (fun k=>QbD x1 x10 (JD y5 y6).1 ((JD y5 y6).1.length:Int) (k:Int) y5 y6 QY=QhM x1 x10 (JD y5 y6).1 ((JD y5 y6).1.length:Int) (k:Int) y5 y6 QY) ?_ ?_ k hk
 ·rw [Qqw]
  simp only [Eb,Gc,Ea,JM,QhM,QD,BX,BW,Qj]
 ·intro k hk ih
  rw [Qqw]
  obtain ⟨n,en,hn,ht⟩:=Qqn hc (Bx hk)
  have hf:=Gy hc hn
  obtain ⟨L,hL,l1,l2,l3,hkd⟩:=QBW hf ht
  have hlk:=h3 _ (Vx hn)
  obtain ⟨_,_,_,e7,e8⟩:=GV hf
  have hdl:=dl_at hc hn
  rw [←Gx hn,ht,Da,show (stF y6 (Qw y5 n)).2.1=L from by show (J2 y6 (Qw y5 n)).1=L;rw [hL]] at hdl
  have i1:ilt (n:Int) 0=false:=Bp (by omega)
  have i2:ige (n:Int) (Qc y5.2.2.1)=false:=Bp (by simp only [Qc];have:n<y5.2.2.1.length:=hn;omega)
  have i3:cIx y5.2.2.1 (n:Int)=true:=by rw [QI];exact Be hn
  have i4:ile L (Q4 (Qw y5 n))=false:=Bp (by omega)
  have i5:ige (Qc (Qw y5 n).2.2.2.1) 8=false:=Bp (by simp only [Qc];omega)
  have i6:icv .i64 x1=x1:=Qqp (by omega)
  have i7:Qs .i64 L (Q4 (Qw y5 n))=L-Q4 (Qw y5 n):=J5 (by omega)
  have i8:GS x1 (L-Q4 (Qw y5 n))=true:=Be (by omega)
  have hm:=QB2 (n:=x1) (k:=L-Q4 (Qw y5 n)) (by omega)
  have i9:Qh .i64 (Qh .i64 (Q4 (Qw y5 n)) 1) (Yi x1 (L-Q4 (Qw y5 n)))=Q4 (Qw y5 n)+1+Yi x1 (L-Q4 (Qw y5 n)):=by
   rw [JU (a:=Q4 (Qw y5 n)) (by omega),JU (by omega)]
  obtain ⟨day,hday⟩: ∃ day,day=Q4 (Qw y5 n)+1+Yi x1 (L-Q4 (Qw y5 n)):=⟨_,rfl⟩
  rw [←hday] at i9
  have d1:Q4 (Qw y5 n)<day:=by omega
  have d2:day<=L:=by omega
  have hA:=jm_ap (day:=day) hc hS hn d1 (by omega) (by omega) hlk
  have hC:=QbB (p:=y6) hc hn d1 (by omega) (by omega)
  have hX:=jm_due hc hS hn hkd hL d1 d2 l2 hlk
  have hAl:=QiW (j:=jmJ n day) hl (show apE y5 y6 (jmJ n day)=0 by unfold apE;rw [hA])
  rw [hA] at hAl
  have z1:(JD (ZR y5 n (Q8 (Qw y5 n) Jf day)) y6).2=0:=by unfold JD thF;rw [hC];rfl
  have z2:(Ji (ZR y5 n (Q8 (Qw y5 n) Jf day)) y6).2=0:=by unfold Ji thF;rw [hC];rfl
  have y1:J3 (JD (ZR y5 n (Q8 (Qw y5 n) Jf day)) y6).1 (n:Int)=true:=Be (Fb hAl)
  have y2:J3 (Ji (ZR y5 n (Q8 (Qw y5 n) Jf day)) y6).1 (n:Int)=true:=Be (Fb hAl)
  have w1:Q9 (JD (ZR y5 n (Q8 (Qw y5 n) Jf day)) y6).1 (n:Int)=false:=hX true
  have w2:Q9 (Ji (ZR y5 n (Q8 (Qw y5 n) Jf day)) y6).1 (n:Int)=false:=hX false
  have eJ:((n:Int),(((4,(0,())),(day,())),()))=jmJ n day:=rfl
  have eL:(lgt QH (lgt Qm y5.2.2.1 n).2.2.2.1 ((lgt Qm y5.2.2.1 n).2.2.2.1.length-1)).2.1=Q4 (Qw y5 n):=rfl
  have g1:Ex y5 y6 (n:Int)=true:=hl
  have g2:XZ y5 y6 (jmJ n day)=true:=hl
  simp only [Eb,Gc,Ea,JM,QD,QI,hk,Br,Qf,Bd,QW (show k<4611686018427387904 by omega),QO (y:=tI) hk,en,i1,i2,i3,Qj,e7,e8,hdl,ER,BK,eL,i4,i5,i6,i7,i8,JM,i9,eJ,hA,g1,g2,hAl,z1,z2,y1,y2,w1,w2,ih]
  rfl
theorem l_f6_1 (x1:Int)(x177:List Int)(x178 x179:Int)(y5:Estate)(y6:Policy)(QY:List Job)(h:(Qy x177 x178 x179&&(Xq x177 (Ji y5 y6).1&&jmE x1 y5 y6))=true):Ou x1 x177 x178 x179 y5 y6 QY=QbE x1 x177 x178 x179 y5 y6 QY:=by
 obtain ⟨h0,hj⟩:=Bg.1 h
 obtain ⟨q1,hE⟩:=Bg.1 hj
 obtain ⟨hl,hc,hcp,hS,hd,h3⟩:=Qqo hE
 obtain ⟨rfl,hh3,k,rfl,hk⟩:=JR h0
 clear h h0 hj hE
 obtain rfl:=ET q1
 clear q1
 refine Q5 (Ji y5 y6).1 (fun k=>Ou x1 (Ji y5 y6).1 ((Ji y5 y6).1.length:Int) (k:Int) y5 y6 QY=QbE x1 (Ji y5 y6).1 ((Ji y5 y6).1.length:Int) (k:Int) y5 y6 QY) ?_ ?_ k hk
 ·rw [Qqx]
  simp only [Ed,Ec,JM,QbE,QD,BX,BW,Qj]
 ·intro k hk ih
  rw [Qqx]
  obtain ⟨n,en,hn,ht⟩:=Qqn hc (Bx hk)
  have hf:=Gy hc hn
  have hlk:=h3 _ (Vx hn)
  obtain ⟨_,_,_,e7,e8⟩:=GV hf
  have i1:ilt (n:Int) 0=false:=Bp (by omega)
  have i2:ige (n:Int) (Qc y5.2.2.1)=false:=Bp (by simp only [Qc];have:n<y5.2.2.1.length:=hn;omega)
  have i3:cIx y5.2.2.1 (n:Int)=true:=by rw [QI];exact Be hn
  have i6:icv .i64 x1=x1:=Qqp (by omega)
  have hld:=QBY hf
  have i9:Qh .i64 (Qh .i64 (Q4 (Qw y5 n)) 1) x1=Q4 (Qw y5 n)+1+x1:=by
   rw [JU (a:=Q4 (Qw y5 n)) (by omega),JU (by omega)]
  obtain ⟨day,hday⟩: ∃ day,day=Q4 (Qw y5 n)+1+x1:=⟨_,rfl⟩
  rw [←hday] at i9
  have d1:Q4 (Qw y5 n)<day:=by omega
  have eJ:((n:Int),(((4,(0,())),(day,())),()))=jmJ n day:=rfl
  have eL:(lgt QH (lgt Qm y5.2.2.1 n).2.2.2.1 ((lgt Qm y5.2.2.1 n).2.2.2.1.length-1)).2.1=Q4 (Qw y5 n):=rfl
  have g2:XZ y5 y6 (jmJ n day)=true:=hl
  have hAl:Js (apF y5 y6 (jmJ n day)).1 y6=true:=Bg.2 ⟨(Bg.1 (QB0 (j:=jmJ n day) hcp hl)).1,(Bg.1 hl).2⟩
  have lend: ∀ x y:OX,Ou x1 (Ji y5 y6).1 ((Ji y5 y6).1.length:Int) ((k+1:Nat):Int) y5 y6 QY=QbE x1 (Ji y5 y6).1 ((Ji y5 y6).1.length:Int) ((k:Nat):Int) y5 y6 QY:=fun _ _=>ih
  simp only [Ed,Ec,JM,QD,QI,hk,Br,Qf,Bd,QW (show k<4611686018427387904 by omega),QO (y:=tI) hk,en,i1,i2,i3,Qj,e7,e8,eL,i6,JM,i9,eJ,g2,hAl]
  cases hq:ieq (apF y5 y6 (jmJ n day)).2 0 with
  |false=>
   rw [Qj]
   exact lend none none
  |true=>
   rw [Qf]
   by_cases hday2:day<=40000
   ·have hA:=jm_ap (day:=day) hc hS hn d1 (by omega) hday2 hlk
    rw [hA] at hAl ⊢
    have hC:=QbB (p:=y6) hc hn d1 hday2 (by omega)
    have z2:(Ji (ZR y5 n (Q8 (Qw y5 n) Jf day)) y6).2=0:=by unfold Ji thF;rw [hC];rfl
    have y2:J3 (Ji (ZR y5 n (Q8 (Qw y5 n) Jf day)) y6).1 (n:Int)=true:=Be (Fb hAl)
    have w2:Q9 (Ji (ZR y5 n (Q8 (Qw y5 n) Jf day)) y6).1 (n:Int)=true:=QBX hc hS hn ht d1 hday2 (by omega)
    simp only [z2,ER,Qj,y2,Qf,w2,BK]
    exact lend none none
   ·have h0:apE y5 y6 (jmJ n day)=0:=eq_of_beq hq
    obtain ⟨_,_,_,hr,_⟩:=Qkp h0
    have hr:Zn y6 (Qw y5 n) Jf day=0:=hr
    unfold Zn at hr
    rw [if_neg (by rw [hf];simp),if_neg (show ¬ Je Jf=false by decide),if_pos (.inr (by omega))] at hr
    cases hr
theorem QB3:LO Gb QhI Qqs 0:=QN (s:=Or) fun x y h _ q=>by simp only [QK,QL] at q;exact (l_f6_0 x.1 x.2.2.2.1 x.2.2.2.2.1 x.2.2.2.2.2.1 x.2.2.2.2.2.2.1 y.1 y.2.1 y.2.2.2.2.2.1 h).trans q
theorem QB4:LO Gb QhJ Qqt 1:=QN (s:=QbC) fun x y h _ q=>by simp only [QK,QL] at q;exact (l_f6_1 x.1 x.2.2.2.1 x.2.2.2.2.1 x.2.2.2.2.2.1 y.1 y.2.1 y.2.2.2.2.2.1 h).trans q
theorem lk_f6:Ot.lok Gb:=by
 repeat (first|exact trivial|exact QB3|exact QB4|refine ⟨?_, ?_⟩)
theorem s_f6 (p0:List Int)(p1:Int)(h:QhH p0 p1=true):QhN p0 p1=some (.t .bool (jmL p0 p1),[]):=by
 have hd1:0<=p1/\p1<=255:=BJ h
 unfold QhN
 refine QV (fun _=>rfl) (fun k1=> ?_)
 have k1:U0 p0=true:=by simpa using k1
 have hd:=Qyh k1
 generalize ZU p0=d at hd ⊢
 have hj:=jP_okS d
 have hlS:Jl (JK (jP d))=true:=(O1 hj).1
 have hl:Js (jE d) (JK (jP d))=true:=Bg.2 ⟨(Bg.1 (Qg3 d)).1,hlS⟩
 have hc:Ja (jE d) (JK (jP d))=0:=Qko (jE_ok d) hj
 have h3:((QM (jE d)).all fun i=>decide (i.2.2.2.1.length<=3))=true:=Bh.2 fun i hi=>Be (QgT _ _ i hi).2
 have hE:jmE p1 (jE d) (JK (jP d))=true:=by
  refine Bg.2 ⟨hl,Bg.2 ⟨by rw [hc];rfl,Bg.2 ⟨Qg3 d,Bg.2 ⟨?_,Bg.2 ⟨Be hd1,h3⟩⟩⟩⟩⟩
  have e:JK (jP d)=JK ((JK (jP d)).1.dropLast,(JK (jP d)).2):=by
   have e2:(JK (jP d)).1.dropLast=(jP d).1:=List.dropLast_concat
   rw [e2]
   rfl
  exact (congrArg (Xq _) e.symm).trans (ES _)
 have ca:Qx (jP d).1 [rlS] 48=true:=JE (by omega) (by
  have:=(QB1 hj)
  simp only [Bk]
  omega)
 rw [show ZM d=(jE d,jP d,(jL d).1) from rfl]
 have g1:(JD (jE d) (JK (jP d))).2=0:=by unfold JD thF;rw [hc];rfl
 have g2:(Ji (jE d) (JK (jP d))).2=0:=by unfold Ji thF;rw [hc];rfl
 have t1:=Fb (can:=true) hl
 have t2:=Fb (can:=false) hl
 clear hc h3 hj hlS
 generalize jE d=e at hl hE g1 g2 t1 t2 ⊢
 generalize jP d=y at hl hE ca g1 g2 t1 t2 ⊢
 refine brY hd (brY ca (brY hl (brY hl (brX ?_ (brX ?_ (brY ?_ (brX rfl (brY ?_ (brX rfl rfl)))))))))
 ·show ine (JD e (JK y)).2 0=false
  rw [g1]
  rfl
 ·show ine (Ji e (JK y)).2 0=false
  rw [g2]
  rfl
 ·have c1:Qy (JD e (JK y)).1 (Qc (JD e (JK y)).1) 0=true:=JS t1
  exact Bg.2 ⟨c1,Bg.2 ⟨ES _,hE⟩⟩
 ·have c1:Qy (Ji e (JK y)).1 (Qc (Ji e (JK y)).1) 0=true:=JS t2
  exact Bg.2 ⟨c1,Bg.2 ⟨ES _,hE⟩⟩
def sp_f6:Ent:=Qo (.pr (.sl tI) (.pr (.int .u8) .nil)) (fun x=>(QhH x.1 x.2.1)) (fun x=>(.t .bool (jmL x.1 x.2.1)))
theorem ms_f6:Qp Tryz.prog 6 (Qq sp_f6):=Qt (R:=QP Gb Ot rv_f6 false) (mG Tryz.func6 (by kernel_rfl) Tryz.ntmps6 (by kernel_rfl) gk_f6 lk_f6) fun x hok=>(e_f6 x.1 x.2.1).trans (s_f6 x.1 x.2.1 hok)
theorem QB5 (z0:List Int)(z1:Int)(w0:Ty.wf (.sl (.int .i64)) z0)(w1:Ty.wf (.int .u8) z1):QhH z0 z1=true:=Be (by have:=wf_u8 w1;omega)
end
end Go.Proofs.YthlcobdnemhcdaaGreat.K.SO
namespace Go.Proofs.YthlcobdnemhcdaaGreat.K
open Go.RowKit SO
theorem walkJobMends (z0:(List Int))(z1:Int)(W:World)(v0:Value)(v1:Value)(c0:C noX W (fun _=> .no) (V.t (.sl tI) z0).d v0)(c1:C noX W (fun _=> .no) (V.t (.int .u8) z1).d v1)(w0:Ty.wf (.sl tI) z0)(w1:Ty.wf (.int .u8) z1):
  Calls Tryz.prog 6 #[v0,v1] W fun r w'=>r= .returned (.bool true)/\Below W.heap.size W w':=
 Qrt (by decide) ms_f6 (args:=[.t (.sl tI) z0,.t (.int .u8) z1]) (Qb6 (x:=(z0,z1,())) rfl (QB5 z0 z1 w0 w1)) (by simp only [V.ds,Cs];exact ⟨_,_,rfl,c0,_,_,rfl,c1,rfl⟩)
end Go.Proofs.YthlcobdnemhcdaaGreat.K
