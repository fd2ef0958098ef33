import Derived.Test.YthlcobdnemhcdaaGreatQ5
import Derived.Test.YthlcobdnemhcdaaGreatQ3
import Derived.RangeFuncCalls
import Derived.RangeFuncBound
import Derived.Shelf.RegionOpen
import Derived.OwnWalkIn
import Derived.TacticsInMore
import Derived.LoopNIn
import Derived.LoopIn
import Derived.Lib.SliceRun
set_option linter.unusedSimpArgs false
set_option linter.unusedVariables false
noncomputable section
namespace Go.Proofs.YthlcobdnemhcdaaGreat.K
open Go.RowKit
noncomputable section
def Z8:Option Int->List Link->Bool
 |_,[]=>true
 |pv,x::r=>Je x.1&&decide (0<=x.2.1/\x.2.1<=40000)&&(match pv with|none=>true|some d=>decide (d<x.2.1))&&Z8 (some x.2.1) r
theorem Gg (pv:Option Int)(x:Link)(r:List Link):Z8 pv (x::r)=(Je x.1&&decide (0<=x.2.1/\x.2.1<=40000)&&(match pv with|none=>true|some d=>decide (d<x.2.1))&&Z8 (some x.2.1) r):=by cases pv<;>rfl
def ZN (l:List Link)(k:Nat):Option Int:=if k=0 then none else (l[k-1]?).map fun x:Link=>x.2.1
def Zp (i:Item):Bool:=JL i.1&&decide (1<=i.2.1/\i.2.1<=2)&&decide (1<=i.2.2.1/\i.2.2.1<=4)&&decide (1<=i.2.2.2.1.length/\i.2.2.2.1.length<=8)&&Z8 none i.2.2.2.1&&decide ((i.2.2.2.1.headD ((0,(0,())),(0,()))).2.1<=i.2.2.2.2.1/\i.2.2.2.2.1<=40000)
def ZD (i:Item):Int:=if Zp i then 0 else 30
def Z9 (i:Item):Bool:=Jz i.1
abbrev QbN:Sh:=⟨[(1,.ptr 1 0),(45,.ty (.sl QH)),(46,.ty tI),(47,.ty tI)],[(1,.box Qm)]⟩
abbrev Qh3:Sh:=⟨[(2,.ty tI)],[]⟩
abbrev QqW:Sh:=⟨[(1,.ptr 1 0)],[(1,.box Qm)]⟩
def Qh4:Fg:=QbN.f
def QqX:TC:=aF Tryz.f122 [(122,pL 0 Qh4),(1957,.fg QqW.f),(15666,pD [(0,[5]),(1,[5]),(2,[]),(3,[]),(4,[]),(5,[5]),(6,[5]),(7,[]),(8,[]),(9,[]),(10,[5]),(11,[5]),(12,[]),(13,[]),(14,[]),(15,[]),(16,[]),(17,[]),(18,[1]),(19,[1]),(20,[]),(21,[]),(22,[]),(23,[]),(24,[]),(25,[5]),(26,[5]),(27,[]),(28,[]),(29,[])] (.of [0,1,2,3,4,5,6,7,8,9,10,11,12,13,14,15,16,17,18,19,20,21,22,23,24,25,26,27,28,29])),(62669,.fg Qh3.f),(124,pD [(0,[1]),(1,[1]),(2,[1]),(3,[1]),(4,[]),(5,[]),(6,[]),(7,[]),(8,[]),(9,[1]),(10,[1]),(11,[]),(12,[])] (.of [0,1,2,3,4,5,6,7,8,9,10,11,12]))]
def QqY:TC:=lb 0 QqX
def QqZ (x45:List Link)(x46 x47:Int)(y1:Item):VS:=QbN.st ((),x45,x46,x47,()) (y1,())
def YW (x2:Int):VS:=Qh3.st (x2,()) ()
def Qh5 (y1:Item):VS:=QqW.st ((),()) (y1,())
def QCx:VS->Option (Bool×List (Bool×Exit×VS)):=mkL QbN (fun x y=>((x.2.1==y.1.2.2.2.1)&&Qy x.2.1 x.2.2.1 x.2.2.2.1)) (fun x y=>[((!(Z8 (ZN x.2.1 x.2.2.2.1.toNat) (x.2.1.drop x.2.2.2.1.toNat))),.ret,YW (30)),(true,.exit 0,Qh5 (y.1))])
def Qh6:G:=gG 96 [(92,Gm),(178,Qd2)] (Ls [QCx])
def QbO (x45:List Link)(x46 x47:Int)(y1:Item):OX:=QA (QC Qh6 Qh4 QqY) (QqZ x45 x46 x47 y1)
def Oz (kk:List Link->Int->Int->Item->OX)(x45:List Link)(x46 x47:Int)(y1:Item):OX:=
 let a1:=lgt QH x45 (Int.toNat x47)
 br (ilt x47 x46) (br (cIx x45 x47) (br (!(Je (a1.1))) (some (.ret,YW 30)) (br (ilt ((a1.2).1) 0) (some (.ret,YW 30)) (br (igt ((a1.2).1) 40000) (some (.ret,YW 30)) (br (igt x47 0) (br (cIx y1.2.2.2.1 (Qs .i64 x47 1)) (br (ige (((lgt QH y1.2.2.2.1 (Int.toNat (Qs .i64 x47 1))).2).1) ((a1.2).1)) (some (.ret,YW 30)) (kk x45 x46 (Qh .i64 x47 1) y1)) none) (kk x45 x46 (Qh .i64 x47 1) y1))))) none) (some (.exit 0,Qh5 y1))
def Eg (x45:List Link)(x46 x47:Int)(y1:Item):OX:=br (!(Z8 (ZN x45 x47.toNat) (x45.drop x47.toNat))) (some (.ret,YW (30)))<|some (.exit 0,Qh5 (y1))
theorem Qq0 (x45:List Link)(x46 x47:Int)(y1:Item):QbO x45 x46 x47 y1=Oz QbO x45 x46 x47 y1:=lnT (x:=Oz (fun x45 x46 x47 y1=>some (.normal,QqZ x45 x46 x47 y1)) x45 x46 x47 y1) (by simp only [Oz,nxA];rfl)
def OA (p0:Item):OV:=
 let a1:=((((p0).2).2).2)
 let a2:=Qc p0.2.2.2.1
 br (ilt p0.2.2.1 1) (some (.t tI 30,[])) (br (igt p0.2.2.1 4) (some (.t tI 30,[])) (br (ilt a2 1) (some (.t tI 30,[])) (br (igt a2 8) (some (.t tI 30,[])) (br ((p0.2.2.2.1==p0.2.2.2.1)&&Qy p0.2.2.2.1 a2 (0:Int)) (br (!(Z8 (ZN p0.2.2.2.1 (0:Int).toNat) (p0.2.2.2.1.drop (0:Int).toNat))) (some (.t tI (30),[])) (br (cIx (a1.1) 0) (br (ilt ((a1.2).1) (((lgt QH (a1.1) (Int.toNat 0)).2).1)) (some (.t tI 30,[])) (br (igt ((a1.2).1) 40000) (some (.t tI 30,[])) (some (.t tI 0,[])))) none)) none))))
def Qq1 (p0:Item):OV:=br (ieq p0.2.1 1) (br (Jz p0.1) (br (!(JL p0.1)) (some (.t tI 30,[])) (br (!true) (some (.t tI 30,[])) (OA p0))) none) (br (Jz p0.1) (br (!(JL p0.1)) (some (.t tI 30,[])) (br (!(ieq p0.2.1 2)) (some (.t tI 30,[])) (OA p0))) none)
theorem QCy (x45:List Link)(x46 x47:Int)(y1:Item)(h:((x45==y1.2.2.2.1)&&Qy x45 x46 x47)=true):QbO x45 x46 x47 y1=Eg x45 x46 x47 y1:=by
 simp only [Bb,Di] at h
 obtain ⟨hx,h0⟩:=h
 obtain ⟨rfl,h3,k,rfl,hk⟩:=JR h0
 clear h0
 refine Q5 x45 (fun k=>QbO x45 (x45.length:Int) (k:Int) y1=Eg x45 (x45.length:Int) (k:Int) y1) ?_ ?_ k hk
 ·rw [Qq0]
  simp [Oz,Eg,QD,Qj,Z8]
 ·intro k hk ih
  rw [Qq0]
  have el:Eg x45 (x45.length:Int) (k:Int) y1=br (!(Je x45[k].1&&decide (0<=x45[k].2.1/\x45[k].2.1<=40000)&&(match ZN x45 k with|none=>true|some d=>decide (d<x45[k].2.1)))) (some (.ret,YW 30)) (Eg x45 (x45.length:Int) ((k+1:Nat):Int) y1):=by
   have e1:ZN x45 (k+1)=some x45[k].2.1:=by
    unfold ZN
    rw [if_neg (by omega),D1,Bj hk]
    rfl
   simp only [Eg,Bd,e1]
   rw [Bi hk,Gg]
   generalize (Je x45[k].1&&decide (0<=x45[k].2.1/\x45[k].2.1<=40000)&&(match ZN x45 k with|none=>true|some d=>decide (d<x45[k].2.1)))=c
   cases c<;>rfl
  rw [el]
  simp only [Oz,QD,QI,hk,Br,Qf,Bd,QW (show k<4611686018427387904 by omega),QO (y:=QH) hk,ih, ← hx]
  cases Je x45[k].1 with
  |false=>rfl
  |true=>
   simp only [BK,Qj,By]
   by_cases c1:x45[k].2.1<0
   ·rw [show ilt x45[k].2.1 0=true from Be c1,Qf,Bp (show ¬ (0<=x45[k].2.1/\x45[k].2.1<=40000) by omega)]
    rfl
   ·rw [show ilt x45[k].2.1 0=false from Bp c1,Qj]
    by_cases c2:40000<x45[k].2.1
    ·rw [show igt x45[k].2.1 40000=true from Be (by omega),Qf,Bp (show ¬ (0<=x45[k].2.1/\x45[k].2.1<=40000) by omega)]
     rfl
    ·rw [show igt x45[k].2.1 40000=false from Bp (by omega),Qj,Be (show 0<=x45[k].2.1/\x45[k].2.1<=40000 by omega)]
     simp only [By]
     by_cases hk0:k=0
     ·subst hk0
      rfl
     ·have hk1:k-1<x45.length:=by omega
      have e1:Qs .i64 (k:Int) 1=((k-1:Nat):Int):=by rw [J5 (by omega)];omega
      have e2:igt (k:Int) 0=true:=by simp only [igt,Ba];omega
      have e3:ZN x45 k=some x45[k-1].2.1:=by
       unfold ZN
       rw [if_neg hk0,Bj hk1]
       rfl
      rw [e1,e2,e3,Qf]
      simp only [QI,hk1,Br,Qf,Bd,QO (y:=QH) hk1]
      by_cases c3:x45[k-1].2.1<x45[k].2.1
      ·rw [show ige x45[k-1].2.1 x45[k].2.1=false from Bp (by omega),Qj,Be c3]
       rfl
      ·rw [show ige x45[k-1].2.1 x45[k].2.1=true from Be (by omega),Qf,Bp c3]
       rfl
theorem QCz:LO Qh6 Qh4 QqY 0:=QN (s:=QbN) fun x y h _ q=>by simp only [QK,QL] at q;exact (QCy x.2.1 x.2.2.1 x.2.2.2.1 y.1 h).trans q
theorem Jn {i:Item}:Zp i=true↔JL i.1=true/\(1<=i.2.1/\i.2.1<=2)/\(1<=i.2.2.1/\i.2.2.1<=4)/\(1<=i.2.2.2.1.length/\i.2.2.2.1.length<=8)/\Z8 none i.2.2.2.1=true/\(i.2.2.2.1.headD ((0,(0,())),(0,()))).2.1<=i.2.2.2.2.1/\i.2.2.2.2.1<=40000:=by
 unfold Zp
 simp only [Bb,Ba,and_assoc]
theorem s_f122 (i:Item)(h:Z9 i=true):Qq1 i=some (.t tI (ZD i),[]):=by
 have h:Jz i.1=true:=h
 have bad:(Zp i=true->False)->some (V.t tI 30,([]:List VO))=some (V.t tI (ZD i),[]):=fun hq=>by
  cases hi:Zp i with
  |false=>simp [ZD,hi]
  |true=>exact (hq hi).elim
 have tail:JL i.1=true->(1<=i.2.1/\i.2.1<=2)->OA i=some (.t tI (ZD i),[]):=fun k1 k2=>by
  simp only [OA]
  refine QV (fun g=>bad fun hq=> ?_) (fun g1=>QV (fun g=>bad fun hq=> ?_) (fun g2=>QV (fun g=>bad fun hq=> ?_) (fun g3=>QV (fun g=>bad fun hq=> ?_) (fun g4=> ?_))))
  ·have:=Jn.1 hq;simp only [ilt,Ba] at g;omega
  ·have:=Jn.1 hq;simp only [igt,Ba] at g;omega
  ·have:=Jn.1 hq;simp only [ilt,Qc,Ba] at g;omega
  ·have:=Jn.1 hq;simp only [igt,Qc,Ba] at g;omega
  ·simp only [ilt,igt,Qc,Bn] at g1 g2 g3 g4
   rw [beq_self_eq_true,By,JS (by omega),Qf]
   have e0:ZN i.2.2.2.1 (0:Int).toNat=none:=rfl
   rw [e0,BC,BF]
   refine QV (fun g=>bad fun hq=> ?_) (fun g5=> ?_)
   ·have:=Jn.1 hq
    rw [this.2.2.2.2.1] at g
    cases g
   ·have hl:0<i.2.2.2.1.length:=by omega
    have e1:cIx i.2.2.2.1 0=true:=by simp only [cIx,Ba];omega
    have e2:lgt QH i.2.2.2.1 0=i.2.2.2.1.headD ((0,(0,())),(0,())):=by
     cases hq:i.2.2.2.1 with
     |nil=>rw [hq] at hl;simp at hl
     |cons a l=>rfl
    rw [e1,Qf,e2]
    refine QV (fun g=>bad fun hq=> ?_) (fun g6=>QV (fun g=>bad fun hq=> ?_) (fun g7=> ?_))
    ·have:=Jn.1 hq;simp only [ilt,Ba] at g;omega
    ·have:=Jn.1 hq;simp only [igt,Ba] at g;omega
    ·simp only [ilt,igt,Bn] at g6 g7
     have:Zp i=true:=Jn.2 ⟨k1,k2,by omega,by omega,by simpa using g5,by omega,by omega⟩
     simp [ZD,this]
 simp only [Qq1,OA] at tail ⊢
 rw [h]
 simp only [Qf]
 refine QV (fun g1=>QV (fun g=>bad fun hq=> ?_) (fun g2=> ?_)) (fun g1=>QV (fun g=>bad fun hq=> ?_) (fun g2=>QV (fun g=>bad fun hq=> ?_) (fun g3=> ?_)))
 ·rw [(Jn.1 hq).1] at g;cases g
 ·simp only [Zw,Ba] at g1
  exact tail (by simpa using g2) (by omega)
 ·rw [(Jn.1 hq).1] at g;cases g
 ·have:=Jn.1 hq
  simp only [Zw,Bn,BA,Ba] at g1 g
  omega
 ·simp only [Zw,Bn,Bool.not_eq_false',Ba] at g1 g3
  exact tail (by simpa using g2) (by omega)
def Qh7:Ent:=Qo (.pr Qm .nil) (fun x=>(Z9 x.1)) (fun x=>(.t tI (ZD x.1)))
theorem Qq2:EM 122 Qh7:=mS (lk:=lkL (lkc QCz lkn)) Qh6 QqX [((.t 2),some tI)] false (gB (gD G9 (gD Qlc gN))) fun m=>Qt m fun x hok=>kT (s_f122 x.1 hok)
abbrev QbP:Sh:=⟨[(1,.ptr 1 0),(3,.ty tI)],[(1,.box Qm)]⟩
abbrev Qq3:Sh:=⟨[],[]⟩
def Qh8:Fg:=QbP.f
def Qq4:TC:=aF Tryz.f130 [(12,pD [(0,[1]),(1,[1]),(2,[]),(3,[]),(4,[]),(5,[1]),(6,[1]),(7,[]),(8,[]),(9,[1]),(10,[1]),(11,[]),(12,[]),(13,[]),(14,[]),(15,[1]),(16,[1]),(17,[]),(18,[]),(19,[]),(20,[1]),(21,[1]),(22,[]),(23,[]),(24,[]),(25,[1]),(26,[1]),(27,[]),(28,[]),(29,[]),(30,[]),(31,[1]),(32,[1]),(33,[]),(34,[]),(35,[]),(36,[]),(37,[1]),(38,[1]),(39,[]),(40,[]),(41,[]),(42,[1]),(43,[1]),(44,[1]),(45,[1]),(46,[]),(47,[]),(48,[]),(49,[]),(50,[])] (.of [0,1,2,3,4,5,6,7,8,9,10,11,12,13,14,15,16,17,18,19,20,21,22,23,24,25,26,27,28,29,30,31,32,33,34,35,36,37,38,39,40,41,42,43,44,45,46,47,48,49,50])),(58,pL 0 Qh8),(931,.fg Qq3.f),(1864,pD [(0,[1]),(1,[1]),(2,[]),(3,[]),(4,[]),(5,[]),(6,[]),(7,[]),(8,[]),(9,[1]),(10,[1]),(11,[]),(12,[]),(13,[]),(14,[]),(15,[]),(16,[]),(17,[]),(18,[1]),(19,[1]),(20,[]),(21,[]),(22,[]),(23,[]),(24,[]),(25,[]),(26,[]),(27,[]),(28,[]),(29,[]),(30,[1]),(31,[1]),(32,[]),(33,[]),(34,[]),(35,[]),(36,[]),(37,[1]),(38,[1]),(39,[]),(40,[]),(41,[]),(42,[]),(43,[]),(44,[]),(45,[])] (.of [0,1,2,3,4,5,6,7,8,9,10,11,12,13,14,15,16,17,18,19,20,21,22,23,24,25,26,27,28,29,30,31,32,33,34,35,36,37,38,39,40,41,42,43,44,45])),(7461,.fg Qh3.f)]
def Qq5:TC:=lb 0 Qq4
def Qq6 (x3:Int)(y1:Item):VS:=QbP.st ((),x3,()) (y1,())
def Qh9  : VS:=Qq3.st () ()
def QCA:VS->Option (Bool×List (Bool×Exit×VS)):=mkL QbP (fun x y=>(decide (0<=x.2.1/\x.2.1<=y.1.2.2.2.1.length/\y.1.2.2.2.1.length<=8))) (fun x y=>[((!(Z8 (ZN y.1.2.2.2.1 x.2.1.toNat) (y.1.2.2.2.1.drop x.2.1.toNat))),.ret,YW (30)),(true,.exit 0,Qh9)])
def Qia:G:=gG 108 [(105,OL),(187,Qlg)] (Ls [QCA])
def QbQ (x3:Int)(y1:Item):OX:=QA (QC Qia Qh8 Qq5) (Qq6 x3 y1)
def OB (kk:Int->Item->OX)(x3:Int)(y1:Item):OX:=
 let a1:=lgt QH y1.2.2.2.1 (Int.toNat x3)
 let a2:=cIx y1.2.2.2.1 x3
 br (ilt x3 (Qc y1.2.2.2.1)) (br a2 (br (!(Je (a1.1))) (some (.ret,YW 30)) (br a2 (br (ilt ((a1.2).1) 0) (some (.ret,YW 30)) (br a2 (br (igt ((a1.2).1) 40000) (some (.ret,YW 30)) (br (igt x3 0) (br (cIx y1.2.2.2.1 (Qs .i64 x3 1)) (br a2 (br (ige (((lgt QH y1.2.2.2.1 (Int.toNat (Qs .i64 x3 1))).2).1) ((a1.2).1)) (some (.ret,YW 30)) (kk (Qh .i64 x3 1) y1)) none) none) (kk (Qh .i64 x3 1) y1))) none)) none)) none) (some (.exit 0,Qh9))
def Eh (x3:Int)(y1:Item):OX:=br (!(Z8 (ZN y1.2.2.2.1 x3.toNat) (y1.2.2.2.1.drop x3.toNat))) (some (.ret,YW (30)))<|some (.exit 0,Qh9)
theorem Qq7 (x3:Int)(y1:Item):QbQ x3 y1=OB QbQ x3 y1:=lnT (x:=OB (fun x3 y1=>some (.normal,Qq6 x3 y1)) x3 y1) (by simp only [OB,nxA];rfl)
def QbR (p0:Item):OV:=br (ilt p0.2.2.1 1) (some (.t tI 30,[])) (br (igt p0.2.2.1 4) (some (.t tI 30,[])) (br (ilt (Qc p0.2.2.2.1) 1) (some (.t tI 30,[])) (br (igt (Qc p0.2.2.2.1) 8) (some (.t tI 30,[])) (br (igt p0.2.2.2.2.1 40000) (some (.t tI 30,[])) (br (cIx p0.2.2.2.1 0) (br (ilt p0.2.2.2.2.1 (((lgt QH p0.2.2.2.1 (Int.toNat 0)).2).1)) (some (.t tI 30,[])) (br (decide (0<=(0:Int)/\(0:Int)<=p0.2.2.2.1.length/\p0.2.2.2.1.length<=8)) (br (!(Z8 (ZN p0.2.2.2.1 (0:Int).toNat) (p0.2.2.2.1.drop (0:Int).toNat))) (some (.t tI (30),[])) (some (.t tI 0,[]))) none)) none)))))
def Qq8 (p0:Item):OV:=br (Jz p0.1) (br (!(JL p0.1)) (some (.t tI 30,[])) (br (ine p0.2.1 1) (br (ine p0.2.1 2) (some (.t tI 30,[])) (QbR p0)) (QbR p0))) none
theorem QCB (x3:Int)(y1:Item)(h:(decide (0<=x3/\x3<=y1.2.2.2.1.length/\y1.2.2.2.1.length<=8))=true):QbQ x3 y1=Eh x3 y1:=by
 simp only [Ba] at h
 obtain ⟨h1,h2,h3⟩:=h
 obtain ⟨k,rfl⟩:=Bu h1
 refine Q5 y1.2.2.2.1 (fun k=>QbQ (k:Int) y1=Eh (k:Int) y1) ?_ ?_ k (by omega)
 ·rw [Qq7]
  simp [OB,Eh,QD,Qc,Qj,Z8]
 ·intro k hk ih
  rw [Qq7]
  have el:Eh (k:Int) y1=br (!(Je y1.2.2.2.1[k].1&&decide (0<=y1.2.2.2.1[k].2.1/\y1.2.2.2.1[k].2.1<=40000)&&(match ZN y1.2.2.2.1 k with|none=>true|some d=>decide (d<y1.2.2.2.1[k].2.1)))) (some (.ret,YW 30)) (Eh ((k+1:Nat):Int) y1):=by
   have e1:ZN y1.2.2.2.1 (k+1)=some y1.2.2.2.1[k].2.1:=by
    unfold ZN
    rw [if_neg (by omega),D1,Bj hk]
    rfl
   simp only [Eh,Bd,e1]
   rw [Bi hk,Gg]
   generalize (Je y1.2.2.2.1[k].1&&decide (0<=y1.2.2.2.1[k].2.1/\y1.2.2.2.1[k].2.1<=40000)&&(match ZN y1.2.2.2.1 k with|none=>true|some d=>decide (d<y1.2.2.2.1[k].2.1)))=c
   cases c<;>rfl
  rw [el]
  simp only [OB,QD,Qc,QI,hk,Br,Qf,Bd,QW (show k<4611686018427387904 by omega),QO (y:=QH) hk,ih]
  cases Je y1.2.2.2.1[k].1 with
  |false=>rfl
  |true=>
   simp only [BK,Qj,By]
   by_cases c1:y1.2.2.2.1[k].2.1<0
   ·rw [show ilt y1.2.2.2.1[k].2.1 0=true from Be c1,Qf,Bp (show ¬ (0<=y1.2.2.2.1[k].2.1/\y1.2.2.2.1[k].2.1<=40000) by omega)]
    rfl
   ·rw [show ilt y1.2.2.2.1[k].2.1 0=false from Bp c1,Qj]
    by_cases c2:40000<y1.2.2.2.1[k].2.1
    ·rw [show igt y1.2.2.2.1[k].2.1 40000=true from Be (by omega),Qf,Bp (show ¬ (0<=y1.2.2.2.1[k].2.1/\y1.2.2.2.1[k].2.1<=40000) by omega)]
     rfl
    ·rw [show igt y1.2.2.2.1[k].2.1 40000=false from Bp (by omega),Qj,Be (show 0<=y1.2.2.2.1[k].2.1/\y1.2.2.2.1[k].2.1<=40000 by omega)]
     simp only [By]
     by_cases hk0:k=0
     ·subst hk0
      rfl
     ·have hk1:k-1<y1.2.2.2.1.length:=by omega
      have e1:Qs .i64 (k:Int) 1=((k-1:Nat):Int):=by rw [J5 (by omega)];omega
      have e2:igt (k:Int) 0=true:=by simp only [igt,Ba];omega
      have e3:ZN y1.2.2.2.1 k=some y1.2.2.2.1[k-1].2.1:=by
       unfold ZN
       rw [if_neg hk0,Bj hk1]
       rfl
      rw [e1,e2,e3,Qf]
      simp only [QI,hk1,Br,Qf,Bd,QO (y:=QH) hk1]
      by_cases c3:y1.2.2.2.1[k-1].2.1<y1.2.2.2.1[k].2.1
      ·rw [show ige y1.2.2.2.1[k-1].2.1 y1.2.2.2.1[k].2.1=false from Bp (by omega),Qj,Be c3]
       rfl
      ·rw [show ige y1.2.2.2.1[k-1].2.1 y1.2.2.2.1[k].2.1=true from Be (by omega),Qf,Bp c3]
       rfl
theorem QCC:LO Qia Qh8 Qq5 0:=QN (s:=QbP) fun x y h _ q=>by simp only [QK,QL] at q;exact (QCB x.2.1 y.1 h).trans q
theorem s_f130 (i:Item)(h:Z9 i=true):Qq8 i=some (.t tI (ZD i),[]):=by
 have h:Jz i.1=true:=h
 have bad:(Zp i=true->False)->some (V.t tI 30,([]:List VO))=some (V.t tI (ZD i),[]):=fun hq=>by
  cases hi:Zp i with
  |false=>simp [ZD,hi]
  |true=>exact (hq hi).elim
 have tail:JL i.1=true->(1<=i.2.1/\i.2.1<=2)->QbR i=some (.t tI (ZD i),[]):=fun k1 k2=>by
  simp only [QbR]
  refine QV (fun g=>bad fun hq=> ?_) (fun g1=>QV (fun g=>bad fun hq=> ?_) (fun g2=>QV (fun g=>bad fun hq=> ?_) (fun g3=>QV (fun g=>bad fun hq=> ?_) (fun g4=>QV (fun g=>bad fun hq=> ?_) (fun g5=> ?_)))))
  ·have:=Jn.1 hq;simp only [ilt,Ba] at g;omega
  ·have:=Jn.1 hq;simp only [igt,Ba] at g;omega
  ·have:=Jn.1 hq;simp only [ilt,Qc,Ba] at g;omega
  ·have:=Jn.1 hq;simp only [igt,Qc,Ba] at g;omega
  ·have:=Jn.1 hq;simp only [igt,Ba] at g;omega
  ·simp only [ilt,igt,Qc,Bn] at g1 g2 g3 g4 g5
   have hl:0<i.2.2.2.1.length:=by omega
   have e1:cIx i.2.2.2.1 0=true:=by simp only [cIx,Ba];omega
   have e2:lgt QH i.2.2.2.1 (Int.toNat 0)=i.2.2.2.1.headD ((0,(0,())),(0,())):=by
    cases hq:i.2.2.2.1 with
    |nil=>rw [hq] at hl;simp at hl
    |cons a l=>rfl
   rw [e1,Qf,e2]
   refine QV (fun g=>bad fun hq=> ?_) (fun g6=> ?_)
   ·have:=Jn.1 hq;simp only [ilt,Ba] at g;omega
   ·simp only [ilt,Bn] at g6
    rw [Yq ⟨B4 0,by omega,by omega⟩,Qf]
    have e0:ZN i.2.2.2.1 (0:Int).toNat=none:=rfl
    rw [e0,BC,BF]
    refine QV (fun g=>bad fun hq=> ?_) (fun g7=> ?_)
    ·have:=Jn.1 hq
     rw [this.2.2.2.2.1] at g
     cases g
    ·have:Zp i=true:=Jn.2 ⟨k1,k2,by omega,by omega,by simpa using g7,by omega,by omega⟩
     simp [ZD,this]
 simp only [Qq8]
 rw [h]
 simp only [Qf]
 refine QV (fun g=>bad fun hq=> ?_) (fun g1=>QV (fun g2=>QV (fun g=>bad fun hq=> ?_) (fun g3=> ?_)) (fun g2=> ?_))
 ·rw [(Jn.1 hq).1] at g;cases g
 ·have:=Jn.1 hq
  simp only [ine,bne_iff_ne,ne_eq] at g g2
  omega
 ·simp only [ine,bne_eq_false_iff_eq] at g3
  exact tail (by simpa using g1) (by omega)
 ·simp only [ine,bne_eq_false_iff_eq] at g2
  exact tail (by simpa using g1) (by omega)
def Qq9:Ent:=Qo (.pr Qm .nil) (fun x=>(Z9 x.1)) (fun x=>(.t tI (ZD x.1)))
theorem QCD:EM 130 Qq9:=mS (lk:=lkL (lkc QCC lkn)) Qia Qq4 [((.t 2),some tI)] false (gB (gD Qcc (gD Qwo gN))) fun m=>Qt m fun x hok=>kT (s_f130 x.1 hok)
end
end Go.Proofs.YthlcobdnemhcdaaGreat.K
noncomputable section
namespace Go.Proofs.YthlcobdnemhcdaaGreat.K
open Go.RowKit
noncomputable section
abbrev V5 (l:List Keep)(k:Nat):Keep:=l.getD k zK
def egLt (a b:Keep):Bool:= !igt a.1 b.1&& !(ieq a.1 b.1&&ige a.2.1 b.2.1)
def QeD (n:Int)(x:Keep):Bool:= !ilt x.1 0&&(!ige x.1 n&&(!ilt x.2.1 0&&(!ige x.2.1 n&& !ieq x.1 x.2.1)))
def QeE (n:Int)(l:List Keep)(k:Nat):Bool:=QeD n (V5 l k)&&(decide (k=0)||egLt (V5 l (k-1)) (V5 l k))
def Yp (n:Int)(l:List Keep)(k:Nat):Bool:=(List.range' k (l.length-k)).all (QeE n l)
theorem QJz (n:Int)(l:List Keep):Yp n l l.length=true:=by
 unfold Yp
 rw [DV]
 rfl
theorem QJA {n:Int}{l:List Keep}{k:Nat}(hk:k<l.length):Yp n l k=(QeE n l k&&Yp n l (k+1)):=by
 have:l.length-k=(l.length-(k+1))+1:=by omega
 unfold Yp
 rw [this,List.range'_succ,B9]
theorem QJB {β:Type}(c1 c2 c3 c4 c5 u:Bool)(R E:Option β):br c1 R (br c2 R (br c3 R (br c4 R (br c5 R (br (!u) R E)))))=br (!(((!c1&&(!c2&&(!c3&&(!c4&& !c5))))&&true)&&u)) R E:=by
 cases c1<;>cases c2<;>cases c3<;>cases c4<;>cases c5<;>rfl
theorem QJC {β:Type}(c1 c2 c3 c4 c5 a b c u:Bool)(R E:Option β):br c1 R (br c2 R (br c3 R (br c4 R (br c5 R (br a R (br b (br c R (br (!u) R E)) (br (!u) R E)))))))=br (!(((!c1&&(!c2&&(!c3&&(!c4&& !c5))))&&(!a&& !(b&&c)))&&u)) R E:=by
 cases c1<;>cases c2<;>cases c3<;>cases c4<;>cases c5<;>cases a<;>cases b<;>cases c<;>rfl
theorem Qxi {k:Nat}(hk:k<100000)(h0:k≠0):Qs .i64 (k:Int) 1=((k-1:Nat):Int):=by
 rw [J5 (by omega)]
 omega
def V6 (l:List Keep)(n:Int):Bool:=Yp n l 0&&ile (Qc l) 40
def QeF (l:List Keep)(_n:Int):Bool:=decide (l.length<=99999)
abbrev QeG:Sh:=⟨[(0,.ty (.sl Qi)),(1,.ty tI),(7,.ty (.sl Qi)),(8,.ty tI),(9,.ty tI)],[]⟩
abbrev Ql6:Sh:=⟨[(4,.ty .bool)],[]⟩
abbrev Qxj:Sh:=⟨[(0,.ty (.sl Qi))],[]⟩
def Ql7:Fg:=QeG.f
def Qxk:TC:=aF Tryz.f123 [(26,pL 0 Ql7),(421,.fg Qxj.f),(27029,.fg Ql6.f),(6758,pD [(0,[]),(1,[]),(2,[]),(3,[]),(4,[]),(5,[]),(6,[]),(7,[]),(8,[]),(9,[6]),(10,[6]),(11,[]),(12,[]),(13,[]),(14,[]),(15,[]),(16,[]),(17,[]),(18,[]),(19,[6]),(20,[6]),(21,[]),(22,[]),(23,[]),(24,[]),(25,[]),(26,[]),(27,[]),(28,[]),(29,[6]),(30,[6]),(31,[]),(32,[]),(33,[]),(34,[])] (.of [0,1,2,3,4,5,6,7,8,9,10,11,12,13,14,15,16,17,18,19,20,21,22,23,24,25,26,27,28,29,30,31,32,33,34])),(27037,.fg Ql6.f)]
def Qxl:TC:=lb 0 Qxk
def Qxm (x0:List Keep)(x1:Int)(x7:List Keep)(x8 x9:Int):VS:=QeG.st (x0,x1,x7,x8,x9,()) ()
def UY (x4:Bool):VS:=Ql6.st (x4,()) ()
def Ql8 (x0:List Keep):VS:=Qxj.st (x0,()) ()
def QJD:VS->Option (Bool×List (Bool×Exit×VS)):=mkL QeG (fun x y=>(x.2.2.1==x.1&&(Qy x.2.2.1 x.2.2.2.1 x.2.2.2.2.1&&decide (x.2.2.1.length<=99999)))) (fun x y=>[((!Yp x.2.1 x.2.2.1 x.2.2.2.2.1.toNat),.ret,UY (false)),(true,.exit 0,Ql8 (x.1))])
def Ql9:G:=gG 80 [] (Ls [QJD])
def QeH (x0:List Keep)(x1:Int)(x7:List Keep)(x8 x9:Int):OX:=QA (QC Ql9 Ql7 Qxl) (Qxm x0 x1 x7 x8 x9)
def V7 (kk:List Keep->Int->List Keep->Int->Int->OX)(x0:List Keep)(x1:Int)(x7:List Keep)(x8 x9:Int):OX:=
 let a1:=lgt Qi x7 (Int.toNat x9)
 let a2:=lgt Qi x0 (Int.toNat (Qs .i64 x9 1))
 let a3:=cIx x0 (Qs .i64 x9 1)
 let a4:=Qh .i64 x9 1
 br (ilt x9 x8) (br (cIx x7 x9) (br (ilt (a1.1) 0) (some (.ret,UY false)) (br (ige (a1.1) x1) (some (.ret,UY false)) (br (ilt ((a1.2).1) 0) (some (.ret,UY false)) (br (ige ((a1.2).1) x1) (some (.ret,UY false)) (br (ieq (a1.1) ((a1.2).1)) (some (.ret,UY false)) (br (igt x9 0) (br a3 (br (igt (a2.1) (a1.1)) (some (.ret,UY false)) (br a3 (br (ieq (a2.1) (a1.1)) (br a3 (br (ige ((a2.2).1) ((a1.2).1)) (some (.ret,UY false)) (kk x0 x1 x7 x8 a4)) none) (kk x0 x1 x7 x8 a4)) none)) none) (kk x0 x1 x7 x8 a4))))))) none) (some (.exit 0,Ql8 x0))
def QeI (x0:List Keep)(x1:Int)(x7:List Keep)(x8 x9:Int):OX:=br (!Yp x1 x7 x9.toNat) (some (.ret,UY (false)))<|some (.exit 0,Ql8 (x0))
theorem Qxn (x0:List Keep)(x1:Int)(x7:List Keep)(x8 x9:Int):QeH x0 x1 x7 x8 x9=V7 QeH x0 x1 x7 x8 x9:=lnT (x:=V7 (fun x0 x1 x7 x8 x9=>some (.normal,Qxm x0 x1 x7 x8 x9)) x0 x1 x7 x8 x9) (by simp only [V7,nxA];rfl)
def Qxo (p0:List Keep)(p1:Int):OV:=br (p0==p0&&(Qy p0 (Qc p0) (0:Int)&&decide (p0.length<=99999))) (br (!Yp p1 p0 (0:Int).toNat) (some (.t .bool (false),[])) (some (.t .bool (ile (Qc (p0)) 40),[]))) none
theorem QJE (x0:List Keep)(x1:Int)(x7:List Keep)(x8 x9:Int)(h:(x7==x0&&(Qy x7 x8 x9&&decide (x7.length<=99999)))=true):QeH x0 x1 x7 x8 x9=QeI x0 x1 x7 x8 x9:=by
 simp only [Bb,Di,Ba] at h
 obtain ⟨rfl,h0,hl⟩:=h
 obtain ⟨rfl,h3,k,rfl,hk⟩:=JR h0
 clear h0
 refine Q5 x7 (fun k=>QeH x7 x1 x7 (x7.length:Int) (k:Int)=QeI x7 x1 x7 (x7.length:Int) (k:Int)) ?_ ?_ k hk
 ·rw [Qxn]
  simp only [V7,QeI,QD,BX,BW,Qj,Bd,QJz,BK]
 ·intro k hk ih
  rw [Qxn]
  simp only [V7,QD,QI,hk,Br,Qf,Bd,QW (show k<4611686018427387904 by omega),ih]
  simp only [QeI,Bd,QJA hk]
  by_cases hk0:k=0
  ·subst hk0
   rw [show igt ((0:Nat):Int) 0=false from rfl]
   simp only [Qj]
   exact QJB ..
  ·rw [show igt (k:Int) 0=true from Be (by omega),Qxi (by omega) hk0]
   simp only [Qf,QI,show k-1<x7.length by omega,Br,Bd]
   unfold QeE
   rw [show decide (k=0)=false from Bp hk0,Dr]
   exact QJC ..
theorem QJF:LO Ql9 Ql7 Qxl 0:=QN (s:=QeG) fun x y h _ q=>by simp only [QK,QL] at q;exact (QJE x.1 x.2.1 x.2.2.1 x.2.2.2.1 x.2.2.2.2.1 h).trans q
theorem s_f123 (l:List Keep)(n:Int)(h:QeF l n=true):Qxo l n=some (.t .bool (V6 l n),[]):=by
 have hl:l.length<=99999:=BJ h
 simp only [Qxo,beq_self_eq_true,By,JS (show l.length<=100000 by omega),Be hl,Qf,BC]
 unfold V6
 cases Yp n l 0<;>rfl
def Qxp:Ent:=Qo (.pr (.sl Qi) (.pr tI .nil)) (fun x=>(QeF x.1 x.2.1)) (fun x=>(.t .bool (V6 x.1 x.2.1)))
theorem QJG:EM 123 Qxp:=mS (lk:=lkL (lkc QJF lkn)) Ql9 Qxk [((.t 4),some .bool)] false (gB gN) fun m=>Qt m fun x hok=>kT (s_f123 x.1 x.2.1 hok)
def YS (i:Item):Bool:=ine (ZD i) 0
theorem QJH (i:Item):YS i= !Zp i:=by
 unfold YS ZD
 cases Zp i<;>rfl
def QJI:TC:=aF Tryz.f121 []
def g_f121:G:=gG 6 [(122,Qh7)] (fun _ _=>none)
def Qxq (p0:Item):OV:=br (Z9 p0) (some (.t .bool (ine (ZD p0) 0),[])) none
theorem s_f121 (i:Item)(h:Z9 i=true):Qxq i=some (.t .bool (YS i),[]):=by
 simp only [Qxq,h,Qf]
 rfl
def Qxr:Ent:=Qo (.pr Qm .nil) (fun x=>(Z9 x.1)) (fun x=>(.t .bool (YS x.1)))
theorem QJJ:EM 121 Qxr:=mS g_f121 QJI [((.t 2),some .bool)] false (gB (gD Qq2 gN)) fun m=>Qt m fun x hok=>kT (s_f121 x.1 hok)
def Yg (l:List Item):Bool:=decide (l.length<=100000)&&l.all Z9
theorem QeJ {l:List Item}(h:Yg l=true){k:Nat}(hk:k<l.length):Z9 l[k]=true:=by
 simp only [Yg,Bb,Bh] at h
 exact h.2 _ (Bx hk)
theorem Is {l:List Item}(h:Yg l=true):l.length<=100000:=by
 simp only [Yg,Bb,Ba] at h
 exact h.1
def It (l:List Item):Int:=match Ju YS l with|some k=>(k:Int)|none=> -1
abbrev QeK:Sh:=⟨[(0,.ty (.sl Qm)),(1,.cf 121),(7,.ty tI),(8,.ty tI)],[]⟩
abbrev Qxs:Sh:=⟨[(4,.ty tI)],[]⟩
abbrev Qxt:Sh:=⟨[],[]⟩
def Qma:Fg:=QeK.f
def Qxu:TC:=aF Tryz.f177 [(26,pL 0 Qma),(421,.fg Qxt.f),(13517,.fg Qxs.f)]
def Qxv:TC:=lb 0 Qxu
def Qxw (x0:List Item)(x7 x8:Int):VS:=QeK.st (x0,(),x7,x8,()) ()
def Qmb (x4:Int):VS:=Qxs.st (x4,()) ()
def Qmc  : VS:=Qxt.st () ()
def QJK:VS->Option (Bool×List (Bool×Exit×VS)):=mkL QeK (fun x y=>(Qy x.1 x.2.2.1 x.2.2.2.1&&Yg x.1)) (fun x y=>[(((Ju YS (x.1.drop x.2.2.2.1.toNat)).isSome),.ret,Qmb (x.2.2.2.1+((Ju YS (x.1.drop x.2.2.2.1.toNat)).getD 0:Nat))),(true,.exit 0,Qmc)])
def Qmd:G:=gG 19 [(121,Qxr)] (Ls [QJK])
def QeL (x0:List Item)(x7 x8:Int):OX:=QA (QC Qmd Qma Qxv) (Qxw x0 x7 x8)
def V8 (kk:List Item->Int->Int->OX)(x0:List Item)(x7 x8:Int):OX:=
 let a1:=lgt Qm x0 (Int.toNat x8)
 br (ilt x8 x7) (br (cIx x0 x8) (br (Z9 a1) (br (YS a1) (some (.ret,Qmb x8)) (kk x0 x7 (Qh .i64 x8 1))) none) none) (some (.exit 0,Qmc))
def QeM (x0:List Item)(x7 x8:Int):OX:=
 let a1:=Ju YS (x0.drop x8.toNat)
 br (a1.isSome) (some (.ret,Qmb (x8+(a1.getD 0:Nat))))<|some (.exit 0,Qmc)
theorem Qxx (x0:List Item)(x7 x8:Int):QeL x0 x7 x8=V8 QeL x0 x7 x8:=lnT (x:=V8 (fun x0 x7 x8=>some (.normal,Qxw x0 x7 x8)) x0 x7 x8) (by simp only [V8,nxA];rfl)
def Qxy (p0:List Item):OV:=
 let a1:=(Ju YS (p0.drop (0:Int).toNat))
 br (Qy p0 (Qc p0) (0:Int)&&Yg p0) (br (a1.isSome) (some (.t tI ((0:Int)+(a1.getD 0:Nat)),[])) (some (.t tI (-1),[]))) none
theorem QJL (x0:List Item)(x7 x8:Int)(h:(Qy x0 x7 x8&&Yg x0)=true):QeL x0 x7 x8=QeM x0 x7 x8:=by
 simp only [Bb] at h
 obtain ⟨h0,hc⟩:=h
 obtain ⟨rfl,h3,k,rfl,hk⟩:=JR h0
 clear h0
 refine Q5 x0 (fun k=>QeL x0 (x0.length:Int) (k:Int)=QeM x0 (x0.length:Int) (k:Int)) ?_ ?_ k hk
 ·rw [Qxx]
  simp [V8,QeM,QD,Qj,Ju]
 ·intro k hk ih
  rw [Qxx]
  have hx:=QeJ hc hk
  simp only [V8,QD,QI,hk,Br,Qf,Bd,QW (show k<4611686018427387904 by omega),ih,QO (y:=Qm) hk,hx]
  simp only [QeM,Bd,Bi hk,Ju]
  cases h:(YS x0[k]) with
  |true=>simp [Qf]
  |false=>
   simp only [Qj,BE,B8]
   cases hq:Ju YS (x0.drop (k+1)) with
   |none=>rfl
   |some j=>
    simp only [B7,Dv,BU,Qf]
    congr 3
    omega
theorem QJM:LO Qmd Qma Qxv 0:=QN (s:=QeK) fun x y h _ q=>by simp only [QK,QL] at q;exact (QJL x.1 x.2.2.1 x.2.2.2.1 h).trans q
theorem QJN (l:List Item)(h:Yg l=true):Qxy l=some (.t tI (It l),[]):=by
 have hl:=Is h
 simp only [Qxy,JS hl,h,B2,Qf,BC,BF,It]
 cases Ju YS l<;>simp [Qf,Qj]
def Qxz:Ent:=WA [.ty (.sl Qm),.cf 121] [] (fun x d=>(Yg x.1)) (fun x d=>(.t tI (It x.1)))
theorem QJO:EM 177 Qxz:=mS (lk:=lkL (lkc QJM lkn)) Qmd Qxu [((.t 4),some tI)] false (gB (gD QJJ gN)) fun m=>Gj m fun x d hok=>kT (QJN x.1 hok)
def FL (l:List Item):Bool:=l.any YS
def QJP:TC:=aF Tryz.f120 []
def QJQ:G:=gG 9 [(177,Qxz)] (fun _ _=>none)
def QxA (p0:List Item):OV:=br (Yg p0) (some (.t .bool (ige (It p0) 0),[])) none
theorem QJR (l:List Item)(h:Yg l=true):QxA l=some (.t .bool (FL l),[]):=by
 simp only [QxA,h,Qf]
 have e:ige (It l) 0=FL l:=by
  unfold It FL
  cases hq:Ju YS l with
  |none=>rw [VK.1 hq];rfl
  |some k=>
   rw [←Qk7,hq]
   simp only [ige,Dv,Ba]
   omega
 rw [e]
def QxB:Ent:=WA [.ty (.sl Qm),.cf 121] [] (fun x d=>(Yg x.1)) (fun x d=>(.t .bool (FL x.1)))
theorem QJS:EM 120 QxB:=mS QJQ QJP [((.t 4),some .bool)] false (gB (gD QJO gN)) fun m=>Gj m fun x d hok=>kT (QJR x.1 hok)
abbrev zEp:Endpoint:=Ty.zero QJ
abbrev Qme (l:List Endpoint)(k:Nat):Endpoint:=l.getD k zEp
def Qmf (l m:List Endpoint)(k:Nat):Bool:=Za (Qme l k)&&(decide (k=0)||slt (Qme m (k-1)).1 (Qme l k).1)
def Wp (l m:List Endpoint)(k:Nat):Bool:=(List.range' k (l.length-k)).all (Qmf l m)
abbrev Qmg (l:List Endpoint)(k:Nat):Bool:=Wp l l k
theorem QJT (l m:List Endpoint):Wp l m l.length=true:=by
 unfold Wp
 rw [DV]
 rfl
theorem QJU {l m:List Endpoint}{k:Nat}(hk:k<l.length):Wp l m k=(Qmf l m k&&Wp l m (k+1)):=by
 have:l.length-k=(l.length-(k+1))+1:=by omega
 unfold Wp
 rw [this,List.range'_succ,B9]
abbrev Yh (e:Estate):List Endpoint:=e.1
abbrev Wq (e:Estate):List Keep:=e.2.1
abbrev QM (e:Estate):List Item:=e.2.2.1
def YD (e:Estate):Bool:=Qmg (Yh e) 0&&((QM e).all Zp&&(ile (Qc (Yh e)) 16&&(ile (Qc (QM e)) 30&&(Yp (Qc (Yh e)) (Wq e) 0&&ile (Qc (Wq e)) 40))))
def Iu (e:Estate):Int:=bif YD e then 0 else 31
theorem QJV (e:Estate):ine (Iu e) 0= !YD e:=by
 unfold Iu
 cases YD e<;>rfl
def YE (e:Estate):Bool:=decide ((Yh e).length<=99999/\(Wq e).length<=99999)&&((Yh e).all Ze&&Yg (QM e))
theorem QJW (l:List Item):FL l= !l.all Zp:=by
 unfold FL
 rw [List.not_all_eq_any_not]
 congr 1
 funext x
 exact QJH x
theorem QxC (a b:Int):ile a b= !igt a b:=by
 simp only [ile,igt, ← decide_not,Int.not_lt]
theorem QJX {β:Type}(v s u:Bool)(R E:Option β):br (!v) R (br (!s) R (br (!u) R E))=br (!((v&&s)&&u)) R E:=by
 cases v<;>cases s<;>rfl
theorem QJY {β:Type}(v u:Bool)(R E:Option β):br (!v) R (br (!u) R E)=br (!((v&&true)&&u)) R E:=by
 cases v<;>rfl
abbrev QeN:Sh:=⟨[(1,.ptr 1 0),(7,.ty (.sl QJ)),(8,.ty tI),(9,.ty tI)],[(1,.box Qr)]⟩
abbrev QxD:Sh:=⟨[(2,.ty tI)],[]⟩
abbrev QxE:Sh:=⟨[(1,.ptr 1 0)],[(1,.box Qr)]⟩
def Qmh:Fg:=QeN.f
def QxF:TC:=aF Tryz.f72 [(26,pL 0 Qmh),(421,.fg QxE.f),(3378,pD [(0,[4]),(1,[]),(2,[]),(3,[]),(4,[]),(5,[]),(6,[]),(7,[1]),(8,[1]),(9,[]),(10,[]),(11,[]),(12,[]),(13,[]),(14,[4]),(15,[4]),(16,[]),(17,[]),(18,[])] (.of [0,1,2,3,4,5,6,7,8,9,10,11,12,13,14,15,16,17,18])),(13517,.fg QxD.f)]
def QxG:TC:=lb 0 QxF
def QxH (x7:List Endpoint)(x8 x9:Int)(y1:Estate):VS:=QeN.st ((),x7,x8,x9,()) (y1,())
def QeO (x2:Int):VS:=QxD.st (x2,()) ()
def Qmi (y1:Estate):VS:=QxE.st ((),()) (y1,())
def QJZ:VS->Option (Bool×List (Bool×Exit×VS)):=mkL QeN (fun x y=>(decide (x.2.1.length=y.1.1.length/\x.2.1.length<=99999)&&(Qy x.2.1 x.2.2.1 x.2.2.2.1&&x.2.1.all Ze))) (fun x y=>[((!Wp x.2.1 y.1.1 x.2.2.2.1.toNat),.ret,QeO (31)),(true,.exit 0,Qmi (y.1))])
def Qmj:G:=gG 59 [(119,Qvi),(120,QxB),(123,Qxp)] (Ls [QJZ])
def QeP (x7:List Endpoint)(x8 x9:Int)(y1:Estate):OX:=QA (QC Qmj Qmh QxG) (QxH x7 x8 x9 y1)
def V9 (kk:List Endpoint->Int->Int->Estate->OX)(x7:List Endpoint)(x8 x9:Int)(y1:Estate):OX:=
 let a1:=lgt QJ x7 (Int.toNat x9)
 br (ilt x9 x8) (br (cIx x7 x9) (br (Ze a1) (br (ine (E2 a1) 0) (some (.ret,QeO 31)) (br (igt x9 0) (br (cIx y1.1 (Qs .i64 x9 1)) (br (!slt ((lgt QJ y1.1 (Int.toNat (Qs .i64 x9 1))).1) (a1.1)) (some (.ret,QeO 31)) (kk x7 x8 (Qh .i64 x9 1) y1)) none) (kk x7 x8 (Qh .i64 x9 1) y1))) none) none) (some (.exit 0,Qmi y1))
def QeQ (x7:List Endpoint)(x8 x9:Int)(y1:Estate):OX:=br (!Wp x7 y1.1 x9.toNat) (some (.ret,QeO (31)))<|some (.exit 0,Qmi (y1))
theorem QxI (x7:List Endpoint)(x8 x9:Int)(y1:Estate):QeP x7 x8 x9 y1=V9 QeP x7 x8 x9 y1:=lnT (x:=V9 (fun x7 x8 x9 y1=>some (.normal,QxH x7 x8 x9 y1)) x7 x8 x9 y1) (by simp only [V9,nxA];rfl)
def r_f72 (p0:Estate):OV:=
 let a1:=((((p0).2).2).1)
 let a2:=Qc ((p0).1)
 br (decide (p0.1.length=p0.1.length/\p0.1.length<=99999)&&(Qy p0.1 (Qc p0.1) (0:Int)&&p0.1.all Ze)) (br (!Wp p0.1 p0.1 (0:Int).toNat) (some (.t tI (31),[])) (br (Yg a1) (br (FL a1) (some (.t tI 31,[])) (br (igt a2 16) (some (.t tI 31,[])) (br (igt (Qc a1) 30) (some (.t tI 31,[])) (br (QeF (((p0).2).1) a2) (br (!(V6 (((p0).2).1) a2)) (some (.t tI 31,[])) (some (.t tI 0,[]))) none)))) none)) none
theorem QJ0 (x7:List Endpoint)(x8 x9:Int)(y1:Estate)(h:(decide (x7.length=y1.1.length/\x7.length<=99999)&&(Qy x7 x8 x9&&x7.all Ze))=true):QeP x7 x8 x9 y1=QeQ x7 x8 x9 y1:=by
 simp only [Bb,Ba,Bh] at h
 obtain ⟨⟨hx,hl⟩,h0,ha⟩:=h
 obtain ⟨rfl,h3,k,rfl,hk⟩:=JR h0
 clear h0
 refine Q5 x7 (fun k=>QeP x7 (x7.length:Int) (k:Int) y1=QeQ x7 (x7.length:Int) (k:Int) y1) ?_ ?_ k hk
 ·rw [QxI]
  simp only [V9,QeQ,QD,BX,BW,Qj,Bd,QJT,BK]
 ·intro k hk ih
  rw [QxI]
  have he:Ze (lgt QJ x7 k)=true:=by rw [QO (y:=QJ) hk];exact ha _ (Bx hk)
  simp only [V9,QD,QI,hk,Br,Qf,Bd,QW (show k<4611686018427387904 by omega),ih,he,QGL]
  simp only [QeQ,Bd,QJU hk]
  by_cases hk0:k=0
  ·subst hk0
   rw [show igt ((0:Nat):Int) 0=false from rfl]
   simp only [Qj]
   exact QJY ..
  ·rw [show igt (k:Int) 0=true from Be (by omega),Qxi (by omega) hk0]
   simp only [Qf,QI,show k-1<y1.1.length by omega,Br,Bd]
   unfold Qmf
   rw [show decide (k=0)=false from Bp hk0,Dr]
   exact QJX ..
theorem QJ1:LO Qmj Qmh QxG 0:=QN (s:=QeN) fun x y h _ q=>by simp only [QK,QL] at q;exact (QJ0 x.2.1 x.2.2.1 x.2.2.2.1 y.1 h).trans q
theorem s_f72 (e:Estate)(h:YE e=true):r_f72 e=some (.t tI (Iu e),[]):=by
 simp only [YE,Bb,Ba] at h
 obtain ⟨⟨h1,h2⟩,h3,h4⟩:=h
 have h5:QeF (Wq e) (Qc (Yh e))=true:=Be h2
 simp only [Yh,Wq,QM] at h1 h2 h3 h4 h5
 simp only [r_f72,JS (show e.1.length<=100000 by omega),Be h1,true_and,By,h3,h4,h5,Qf,BC,QJW]
 unfold Iu YD V6
 simp only [Yh,Wq,QM,Qmg]
 rw [QxC (Qc e.1),QxC (Qc e.2.2.1)]
 cases Wp e.1 e.1 0<;>cases e.2.2.1.all Zp<;>cases igt (Qc e.1) 16<;>cases igt (Qc e.2.2.1) 30<;>cases (Yp (Qc e.1) e.2.1 0&&ile (Qc e.2.1) 40)<;>rfl
def QxJ:Ent:=Qo (.pr Qr .nil) (fun x=>(YE x.1)) (fun x=>(.t tI (Iu x.1)))
theorem ms_f72:EM 72 QxJ:=mS (lk:=lkL (lkc QJ1 lkn)) Qmj QxF [((.t 2),some tI)] false (gB (gD QGP (gD QJS (gD QJG gN)))) fun m=>Qt m fun x hok=>kT (s_f72 x.1 hok)
end
end Go.Proofs.YthlcobdnemhcdaaGreat.K
noncomputable section
namespace Go.Proofs.YthlcobdnemhcdaaGreat.K
open Go.RowKit
noncomputable section
theorem brY {β:Type}{c:Bool}{a b r:Option β}(h:c=true)(k:a=r):br c a b=r:=by
 subst h
 exact k
end
end Go.Proofs.YthlcobdnemhcdaaGreat.K
noncomputable section
namespace Go.Proofs.YthlcobdnemhcdaaGreat.K
open Go.RowKit
noncomputable section
end
end Go.Proofs.YthlcobdnemhcdaaGreat.K
noncomputable section
namespace Go.Proofs.YthlcobdnemhcdaaGreat.K
open Go.RowKit Go.Shelf
end Go.Proofs.YthlcobdnemhcdaaGreat.K
noncomputable section
namespace Go.Proofs.YthlcobdnemhcdaaGreat.K
open Go.RowKit
noncomputable section
end
end Go.Proofs.YthlcobdnemhcdaaGreat.K
noncomputable section
namespace Go.Proofs.YthlcobdnemhcdaaGreat.K
open Go.RowKit
noncomputable section
end
end Go.Proofs.YthlcobdnemhcdaaGreat.K
noncomputable section
namespace Go.Proofs.YthlcobdnemhcdaaGreat.K
open Go.RowKit
noncomputable section
def Ud:List Keep:=[(2,(0,())),(1,(0,())),(5,(2048,())),(16,(128,())),(3,(0,())),(15,(168,()))]
def ZW:Nat->Int->Dice->List Link×Dice
 |0,_,d=>([],d)
 |n+1,day,d=>((lgt Qi Ud (Ql d 6).toNat,(day,()))::(ZW n (Qh .i64 (Qh .i64 day 1) (dof (Qe d 6) [5,30,0,100])) (Qu (Qe d 6) [5,30,0,100])).1,(ZW n (Qh .i64 (Qh .i64 day 1) (dof (Qe d 6) [5,30,0,100])) (Qu (Qe d 6) [5,30,0,100])).2)
def IZ (d:Dice):Dice:=Qe (Qe (Qe (Qe d 2) 4) 20) 3
def JJ (d:Dice):List Link×Dice:=ZW (Qh .i64 1 (Ql (Qe (Qe (Qe d 2) 4) 20) 3)).toNat (Ql (Qe (Qe d 2) 4) 20) (IZ d)
def XU (d:Dice)(s:ByteArray):Item:=(s,(Qh .i64 1 (Ql d 2),(Qh .i64 1 (Ql (Qe d 2) 4),((JJ d).1,(Qh .i64 (lgt QH (JJ d).1 0).2.1 (dof (JJ d).2 [50,300,0,3000]),())))))
def Wv (d:Dice)(_s:ByteArray):Dice:=Qu (JJ d).2 [50,300,0,3000]
def Ue (d:Dice)(_s:ByteArray):Bool:=dOk d
theorem Qz7 {n:Nat}: ∀ {day:Int} {d:Dice},dOk d=true->dOk (ZW n day d).2=true:=by
 induction n with
 |zero=>exact fun h=>h
 |succ n ih=>exact fun h=>ih (XF (l:=[5,30,0,100]) (Q1 h))
theorem QoM {d:Dice}(h:dOk d=true):dOk (JJ d).2=true:=Qz7 (Q1 (Q1 (Q1 (Q1 h))))
theorem QaQ {d:Dice}{s:ByteArray}(h:dOk d=true):dOk (Wv d s)=true:=XF (QoM h)
theorem Qgb: ∀ (n:Nat) (day:Int) (d:Dice),(ZW n day d).1.length=n
 |0,_,_=>rfl
 |n+1,day,d=>by simp only [ZW,Bq,Qgb n]
theorem Qz8:Ud.all Je=true:=by kernel_rfl
theorem QoN {y:Ty}{l:List y.T}{i:Nat}(h:i<l.length):lgt y l i∈l:=by
 rw [QO (y:=y) h]
 exact Bx h
theorem Qz9 {e:Dice}:0<=dof e [5,30,0,100]/\dof e [5,30,0,100]<=100:=by
 have h:=WD (d:=e) (l:=[5,30,0,100]) (by decide)
 simp only [BB,BY,DC] at h
 omega
theorem QoO: ∀ (n:Nat) (day:Int) (d:Dice) (pv:Option Int),n<=3->0<=day->day+101*n<=1000->(∀ e,pv=some e->e<day)->Z8 pv (ZW n day d).1=true
 |0,_,_,pv,_,_,_,_=>by cases pv<;>rfl
 |n+1,day,d,pv,h1,h2,h3,h4=>by
  have hv:=JC (d:=d) (n:=6) (by omega)
  have hs:=Qz9 (e:=Qe d 6)
  have e1:Qh .i64 (Qh .i64 day 1) (dof (Qe d 6) [5,30,0,100])=day+1+dof (Qe d 6) [5,30,0,100]:=by rw [JU (a:=day) (b:=1) (by omega),JU (by omega)]
  unfold ZW
  rw [Gg,e1]
  have hu:Je (lgt Qi Ud (Ql d 6).toNat)=true:=Bh.1 Qz8 _ (QoN (y:=Qi) (by have:Ud.length=6:=rfl;omega))
  have hr:=QoO n (day+1+dof (Qe d 6) [5,30,0,100]) (Qu (Qe d 6) [5,30,0,100]) (some day) (by omega) (by omega) (by omega) (fun e he=>by injection he;omega)
  simp only [hu,hr,Be (show 0<=day/\day<=40000 by omega),By,Dl]
  cases pv with
  |none=>rfl
  |some e=>exact Be (h4 e rfl)
theorem QAa: ∀ (n:Nat) (day:Int) (d:Dice),0<n->((ZW n day d).1.headD ((0,(0,())),(0,()))).2.1=day
 |0,_,_,h=>by omega
 |n+1,day,d,_=>rfl
theorem QAb (d:Dice):1<=(JJ d).1.length/\(JJ d).1.length<=3:=by
 have b3:=JC (d:=Qe (Qe (Qe d 2) 4) 20) (n:=3) (by omega)
 have e3:Qh .i64 1 (Ql (Qe (Qe (Qe d 2) 4) 20) 3)=1+Ql (Qe (Qe (Qe d 2) 4) 20) 3:=JU (by omega)
 unfold JJ
 rw [Qgb,e3]
 omega
theorem QAc (d:Dice){s:ByteArray}(hs:JL s=true):Zp (XU d s)=true:=by
 have b2:=JC (d:=d) (n:=2) (by omega)
 have b4:=JC (d:=Qe d 2) (n:=4) (by omega)
 have b20:=JC (d:=Qe (Qe d 2) 4) (n:=20) (by omega)
 have b3:=JC (d:=Qe (Qe (Qe d 2) 4) 20) (n:=3) (by omega)
 have e2:Qh .i64 1 (Ql d 2)=1+Ql d 2:=JU (by omega)
 have e4:Qh .i64 1 (Ql (Qe d 2) 4)=1+Ql (Qe d 2) 4:=JU (by omega)
 have e3:Qh .i64 1 (Ql (Qe (Qe (Qe d 2) 4) 20) 3)=1+Ql (Qe (Qe (Qe d 2) 4) 20) 3:=JU (by omega)
 have hl:=QAb d
 have hh:((JJ d).1.headD ((0,(0,())),(0,()))).2.1=Ql (Qe (Qe d 2) 4) 20:=QAa _ _ _ (by rw [e3];omega)
 have e0:lgt QH (JJ d).1 0=(JJ d).1.headD ((0,(0,())),(0,())):=by
  cases hq:(JJ d).1 with
  |nil=>rw [hq] at hl;simp at hl
  |cons a l=>rfl
 have hu:0<=dof (JJ d).2 [50,300,0,3000]/\dof (JJ d).2 [50,300,0,3000]<=3000:=by
  have h:=WD (d:=(JJ d).2) (l:=[50,300,0,3000]) (by decide)
  simp only [BB,BY,DC] at h
  omega
 have eu:Qh .i64 (lgt QH (JJ d).1 0).2.1 (dof (JJ d).2 [50,300,0,3000])=(lgt QH (JJ d).1 0).2.1+dof (JJ d).2 [50,300,0,3000]:=JU (by rw [e0,hh];omega)
 refine Jn.2 ⟨hs, ?_, ?_, ?_, ?_, ?_⟩
 ·show 1<=Qh .i64 1 (Ql d 2)/\Qh .i64 1 (Ql d 2)<=2
  omega
 ·show 1<=Qh .i64 1 (Ql (Qe d 2) 4)/\Qh .i64 1 (Ql (Qe d 2) 4)<=4
  omega
 ·show 1<=(JJ d).1.length/\(JJ d).1.length<=8
  omega
 ·exact QoO _ _ _ none (by rw [e3];omega) (by omega) (by omega) (fun e he=>by cases he)
 ·show ((JJ d).1.headD ((0,(0,())),(0,()))).2.1<=Qh .i64 (lgt QH (JJ d).1 0).2.1 (dof (JJ d).2 [50,300,0,3000])/\Qh .i64 (lgt QH (JJ d).1 0).2.1 (dof (JJ d).2 [50,300,0,3000])<=40000
  rw [eu,e0,hh]
  omega
abbrev QaR:Sh:=⟨[(0,.ptr 50000 0),(4,.ptr 4 0),(5,.ptr 5 0),(6,.ty tI),(7,.ty tI)],[(4,.box Qm),(5,.bag [.ty .str,.ty tI,.ty tI,.ms 20503,.ty tI]),(43,.no),(20503,.arr 45 QH),(50000,.box QF)]⟩
abbrev QAd:Sh:=⟨[(0,.ptr 50000 0),(4,.ptr 4 0),(5,.ptr 5 0)],[(4,.box Qm),(5,.bag [.ty .str,.ty tI,.ty tI,.ms 20503,.ty tI]),(43,.no),(20503,.arr 45 QH),(50000,.box QF)]⟩
def Qgc:Fg:=QaR.f
def QoP:TC:=aF Tryz.f48 [(122,.nf 5 3 45 20503),(122,pL 0 Qgc),(1955,.fg ⟨[(0,none),(4,none),(5,none)],[(4,some Qm),(5,some Qm),(43,none),(20503,none),(50000,some QF)]⟩),(62,pD [(0,[5,43,20503]),(1,[5,43,20503]),(2,[43,20503]),(3,[43,20503]),(4,[43,20503]),(5,[50000]),(6,[]),(7,[58,5058,10058,15058,50000]),(8,[]),(9,[5,43,20503]),(10,[4,5,43,20503])] (.of [0,1,2,3,4,5,6,7,8,9,10]))]
def QoQ:TC:=lb 0 QoP
def QoR (x6 x7:Int)(y4:Item)(y5_0:ByteArray)(y5_1 y5_2 y5_4:Int)(Zo:List Link)(Qa:Dice):VS:=QaR.st ((),(),(),x6,x7,()) (y4,(y5_0,y5_1,y5_2,(),y5_4,()),(),Zo,Qa,())
def Qgd (y4:Item)(y5_0:ByteArray)(y5_1 y5_2 y5_4:Int)(Zo:List Link)(Qa:Dice):VS:=QAd.st ((),(),(),()) (y4,(y5_0,y5_1,y5_2,(),y5_4,()),(),Zo,Qa,())
def QAe:VS->Option (Bool×List (Bool×Exit×VS)):=mkL QaR (fun x y=>(dOk y.2.2.2.2.1&&decide (0<=x.2.2.2.2.1/\x.2.2.2.2.1<=100/\y.2.2.2.1.length+x.2.2.2.2.1.toNat<=1000))) (fun x y=>[(true,.exit 0,Qgd (y.1) (y.2.1.1) (y.2.1.2.1) (y.2.1.2.2.1) (y.2.1.2.2.2.2.1) (y.2.2.2.1++(ZW x.2.2.2.2.1.toNat x.2.2.2.1 y.2.2.2.2.1).1) ((ZW x.2.2.2.2.1.toNat x.2.2.2.1 y.2.2.2.2.1).2))])
def Qge:G:=gG 62 [(32,U1),(50,IA)] (Ls [QAe])
def Qgf (x6 x7:Int)(y4:Item)(y5_0:ByteArray)(y5_1 y5_2 y5_4:Int)(Zo:List Link)(Qa:Dice):OX:=QA (QC Qge Qgc QoQ) (QoR x6 x7 y4 y5_0 y5_1 y5_2 y5_4 Zo Qa)
def I0 (kk:Int->Int->Item->ByteArray->Int->Int->Int->List Link->Dice->OX)(x6 x7:Int)(y4:Item)(y5_0:ByteArray)(y5_1 y5_2 y5_4:Int)(Zo:List Link)(Qa:Dice):OX:=
 let a1:=(lgt Qi ([(2,(0,())),(1,(0,())),(5,(2048,())),(16,(128,())),(3,(0,())),(15,(168,()))]) (Int.toNat (Ql Qa 6)))
 let a2:=((a1.1,((a1.2).1,())),(x6,()))
 let a3:=Qe Qa 6
 br (igt x7 0) (br (QG Qa 6) (br (cIx ([(2,(0,())),(1,(0,())),(5,(2048,())),(16,(128,())),(3,(0,())),(15,(168,()))]) (Ql Qa 6)) (br (Qx Zo ([a2]) 24) (br (Jc a3 ([5,30,0,100])) (kk (Qh .i64 (Qh .i64 x6 1) (dof a3 ([5,30,0,100]))) (Qs .i64 x7 1) y4 y5_0 y5_1 y5_2 y5_4 (Zo++([a2])) (Qu a3 ([5,30,0,100]))) none) none) none) none) (some (.exit 0,Qgd y4 y5_0 y5_1 y5_2 y5_4 Zo Qa))
def I1 (x6 x7:Int)(y4:Item)(y5_0:ByteArray)(y5_1 y5_2 y5_4:Int)(Zo:List Link)(Qa:Dice):OX:=
 let a1:=ZW x7.toNat x6 Qa
 some (.exit 0,Qgd (y4) (y5_0) (y5_1) (y5_2) (y5_4) (Zo++a1.1) (a1.2))
theorem QoS (x6 x7:Int)(y4:Item)(y5_0:ByteArray)(y5_1 y5_2 y5_4:Int)(Zo:List Link)(Qa:Dice):Qgf x6 x7 y4 y5_0 y5_1 y5_2 y5_4 Zo Qa=I0 Qgf x6 x7 y4 y5_0 y5_1 y5_2 y5_4 Zo Qa:=lnT (x:=I0 (fun x6 x7 y4 y5_0 y5_1 y5_2 y5_4 Zo Qa=>some (.normal,QoR x6 x7 y4 y5_0 y5_1 y5_2 y5_4 Zo Qa)) x6 x7 y4 y5_0 y5_1 y5_2 y5_4 Zo Qa) (by simp only [I0,nxA];rfl)
def r_f48 (d0:Dice)(p1:ByteArray):OV:=
 let a2:=Qe (Qe (Qe d0 2) 4) 20
 let a3:=Qh .i64 1 (Ql a2 3)
 let a1:=ZW a3.toNat (Ql (Qe (Qe d0 2) 4) 20) (Qe a2 3)
 br (QG d0 2) (br (QG (Qe d0 2) 4) (br (QG (Qe (Qe d0 2) 4) 20) (br (QG a2 3) (br (dOk (Qe a2 3)&&decide (0<=a3/\a3<=100/\([]:List Link).length+a3.toNat<=1000)) (br (cIx (([]:List Link)++a1.1) 0) (br (cLd (([]:List Link)++a1.1) (Int.toNat 0)) (br (Jc (a1.2) ([50,300,0,3000])) (some (.t Qm ((p1),((Qh .i64 1 (Ql d0 2)),((Qh .i64 1 (Ql (Qe d0 2) 4)),((([]:List Link)++a1.1),((Qh .i64 (((lgt QH (([]:List Link)++a1.1) (Int.toNat 0)).2).1) (dof (a1.2) ([50,300,0,3000]))),()))))),[.box (.t QF (Qu (a1.2) ([50,300,0,3000])))])) none) none) none) none) none) none) none) none
theorem QAf (x6 x7:Int)(y4:Item)(y5_0:ByteArray)(y5_1 y5_2 y5_4:Int)(Zo:List Link)(Qa:Dice)(h:(dOk Qa&&decide (0<=x7/\x7<=100/\Zo.length+x7.toNat<=1000))=true):Qgf x6 x7 y4 y5_0 y5_1 y5_2 y5_4 Zo Qa=I1 x6 x7 y4 y5_0 y5_1 y5_2 y5_4 Zo Qa:=by
 simp only [Bb,Ba] at h
 obtain ⟨hd,h1,h2q,h3⟩:=h
 obtain ⟨k,rfl⟩:=Bu h1
 rw [Bd] at h3
 have h2:k<=100:=by omega
 clear h1 h2q
 induction k generalizing Zo Qa x6 with
 |zero=>
  rw [QoS]
  have e1:igt ((0:Nat):Int) 0=false:=rfl
  simp only [I0,e1,Qj,I1,Bd,ZW,BP]
 |succ k ih=>
  rw [QoS]
  have e1:igt ((k+1:Nat):Int) 0=true:=by simp only [igt,Ba];omega
  have e2:Qs .i64 ((k+1:Nat):Int) 1=(k:Int):=by rw [J5 (by omega)];omega
  have hv:=JC (d:=Qa) (n:=6) (by omega)
  have hc:cIx Ud (Ql Qa 6)=true:=by
   have:Ud.length=6:=rfl
   simp only [cIx,Ba]
   omega
  have hla:I1 x6 ((k+1:Nat):Int) y4 y5_0 y5_1 y5_2 y5_4 Zo Qa=I1 (Qh .i64 (Qh .i64 x6 1) (dof (Qe Qa 6) [5,30,0,100])) (k:Int) y4 y5_0 y5_1 y5_2 y5_4 (Zo++[(lgt Qi Ud (Ql Qa 6).toNat,(x6,()))]) (Qu (Qe Qa 6) [5,30,0,100]):=by
   simp only [I1,Bd,ZW,BN]
   rfl
  rw [hla, ← ih _ _ _ (XF (Q1 hd)) (by simp;omega) (by omega)]
  have n6:QG Qa 6=true:=by simp [QG,hd]
  have f1:Jc (Qe Qa 6) [5,30,0,100]=true:=by simp [Jc,Q1 hd]
  simp only [I0,e1,e2,n6,f1,Qf,show ([(2,(0,())),(1,(0,())),(5,(2048,())),(16,(128,())),(3,(0,())),(15,(168,()))]:List Keep)=Ud from rfl,hc]
  rw [Wr (by simp;omega) (by omega),Qf]
  show br (cIx Ud (Ql Qa 6)) _ _=_
  rw [hc,Qf]
theorem QAg:LO Qge Qgc QoQ 0:=QN (s:=QaR) fun x y h _ q=>by simp only [QK,QL] at q;exact (QAf x.2.2.2.1 x.2.2.2.2.1 y.1 y.2.1.1 y.2.1.2.1 y.2.1.2.2.1 y.2.1.2.2.2.2.1 y.2.2.2.1 y.2.2.2.2.1 h).trans q
theorem s_f48 (d:Dice)(s:ByteArray)(h:Ue d s=true):r_f48 d s=some (.t Qm (XU d s),[.box (.t QF (Wv d s))]):=by
 have h:dOk d=true:=h
 have n2:QG d 2=true:=by simp [QG,h]
 have n4:QG (Qe d 2) 4=true:=by simp [QG,Q1 h]
 have n20:QG (Qe (Qe d 2) 4) 20=true:=by simp [QG,Q1 (Q1 h)]
 have n3:QG (Qe (Qe (Qe d 2) 4) 20) 3=true:=by simp [QG,Q1 (Q1 (Q1 h))]
 have b3:=JC (d:=Qe (Qe (Qe d 2) 4) 20) (n:=3) (by omega)
 have e3:Qh .i64 1 (Ql (Qe (Qe (Qe d 2) 4) 20) 3)=1+Ql (Qe (Qe (Qe d 2) 4) 20) 3:=JU (by omega)
 have hl:=Qgb (Qh .i64 1 (Ql (Qe (Qe (Qe d 2) 4) 20) 3)).toNat (Ql (Qe (Qe d 2) 4) 20) (IZ d)
 have hd3:dOk (IZ d)=true:=Q1 (Q1 (Q1 (Q1 h)))
 have hL:dOk (JJ d).2=true:=QoM h
 have f5:Jc (JJ d).2 [50,300,0,3000]=true:=by simp [Jc,hL]
 have hlen:0<(JJ d).1.length:=by
  show 0<(ZW _ _ _).1.length
  rw [hl]
  omega
 have c1:cIx (JJ d).1 0=true:=by simp only [cIx,Ba];omega
 have c2:cLd (JJ d).1 (Int.toNat 0)=true:=by simp only [cLd,Ba];exact hlen
 simp only [r_f48,n2,n4,n20,n3,Qf,BS,show Qe (Qe (Qe (Qe d 2) 4) 20) 3=IZ d from rfl,hd3,By]
 rw [Yq ⟨by omega,by omega,by simp;omega⟩,Qf]
 simp only [show ZW (Qh .i64 1 (Ql (Qe (Qe (Qe d 2) 4) 20) 3)).toNat (Ql (Qe (Qe d 2) 4) 20) (IZ d)=JJ d from rfl,c1,c2,f5,Qf]
 rfl
def QaS:Ent:=Gi QF (.pr .str .nil) (fun d x=>(Ue d x.1)) (fun d x=>(.t Qm (XU d x.1))) (fun d x=>(Wv d x.1))
theorem Qgg:EM 48 QaS:=mS (lk:=lkL (lkc QAg lkn)) Qge QoP [((.c 4 true 5),some Qm)] false (gB (gD GT (gD Qaf gN))) fun m=>El m rfl fun d x hok=>kT (s_f48 d x.1 hok)
def QAh:List DO:=[(.mk (oV 16 0) []),(.mk (oV 17 5) []),(.mk (oP 18 (.ix 2 (.t 16) (.t 17))) [0,1]),(.mk (oM 19 (.ld true 2 (.t 18))) [2]),(.mk (oV 20 1) []),(.mk (oV 21 5) []),(.mk (oP 22 (.ix 2 (.t 20) (.t 21))) [4,5]),(.mk (oM 23 (.ld true 2 (.t 22))) [6]),(.mk (oP 24 (.eqs true [0,0] (.t 19) (.t 23))) [3,7])]
abbrev Qgh:Sh:=⟨[(0,.ty (.sl Qi)),(1,.ty (.sl Qi)),(12,.ty tI),(13,.ty tI)],[]⟩
abbrev Qgi:Sh:=⟨[(4,.ty .bool)],[]⟩
abbrev QaT:Sh:=⟨[],[]⟩
def QAi:Fg:=Qgh.f
def QAj:TC:=(.sq (.reg [(oP 14 (.bin false .lss (.t 13) (.t 12)))]) (.sq (.cd (.t 14) .sk (.fg QaT.f (.ex 0))) (.sq (.bk 1 (.sq (.reg [(oV 15 13),(oV 5 15)]) (.sq (.dr QAh [(0,[]),(1,[]),(2,[]),(3,[]),(4,[]),(5,[]),(6,[]),(7,[]),(8,[])] (.of [0,1,2,3,4,5,6,7,8])) (.cd (.t 24) (.sq (.reg [(oP 4 (.mv (cB false)))]) (.fg Qgi.f .rt)) .sk)))) (.reg [(oP 25 (.bin false .add (.t 13) (cI 1))),(oV 13 25)]))))
def QoT (x0 x1:List Keep)(x12 x13:Int):VS:=Qgh.st (x0,x1,x12,x13,()) ()
def FU (x4:Bool):VS:=Qgi.st (x4,()) ()
def Qgj  : VS:=QaT.st () ()
def QAk:VS->Option (Bool×List (Bool×Exit×VS)):=mkL Qgh (fun x y=>(decide (0<=x.2.2.2.1/\x.2.2.2.1<=x.1.length/\x.1.length=x.2.1.length/\x.2.2.1=x.1.length/\x.1.length<=100000))) (fun x y=>[((!(x.1.drop x.2.2.2.1.toNat==x.2.1.drop x.2.2.2.1.toNat)),.ret,FU (false)),(true,.exit 0,Qgj)])
def g_f38:G:=gG 26 [] (Ls [QAk])
def QaU (x0 x1:List Keep)(x12 x13:Int):OX:=QA (QC g_f38 QAi QAj) (QoT x0 x1 x12 x13)
def I2 (kk:List Keep->List Keep->Int->Int->OX)(x0 x1:List Keep)(x12 x13:Int):OX:=
 let a1:=Int.toNat x13
 br (ilt x13 x12) (br (cIx x0 x13) (br (cIx x1 x13) (br (!(and (ieq ((lgt Qi x0 a1).1) ((lgt Qi x1 a1).1)) (and (ieq (((lgt Qi x0 a1).2).1) (((lgt Qi x1 a1).2).1)) true))) (some (.ret,FU false)) (kk x0 x1 x12 (Qh .i64 x13 1))) none) none) (some (.exit 0,Qgj))
def QaV (x0 x1:List Keep)(x12 x13:Int):OX:=br (!(x0.drop x13.toNat==x1.drop x13.toNat)) (some (.ret,FU (false)))<|some (.exit 0,Qgj)
theorem QoU (x0 x1:List Keep)(x12 x13:Int):QaU x0 x1 x12 x13=I2 QaU x0 x1 x12 x13:=lnT (x:=I2 (fun x0 x1 x12 x13=>some (.normal,QoT x0 x1 x12 x13)) x0 x1 x12 x13) (by simp only [I2,nxA];rfl)
theorem l_f38_0 (x0 x1:List Keep)(x12 x13:Int)(h:(decide (0<=x13/\x13<=x0.length/\x0.length=x1.length/\x12=x0.length/\x0.length<=100000))=true):QaU x0 x1 x12 x13=QaV x0 x1 x12 x13:=by
 simp only [Ba] at h
 obtain ⟨h0,h1,h2,rfl,h3⟩:=h
 obtain ⟨k,rfl⟩:=Bu h0
 refine Q5 x0 (fun k=>QaU x0 x1 (x0.length:Int) (k:Int)=QaV x0 x1 (x0.length:Int) (k:Int)) ?_ ?_ k (by omega)
 ·rw [QoU]
  simp only [I2,QaV,QD,BX,BW,Qj,Bd,B5]
  rw [h2,B5]
  rfl
 ·intro k hk ih
  rw [QoU]
  have hk2:k<x1.length:=by omega
  have hq:(and (ieq x0[k].1 x1[k].1) (and (ieq x0[k].2.1 x1[k].2.1) true))=(x0[k]==x1[k]):=rfl
  simp only [I2,QD,QI,hk,hk2,Br,Qf,Bd,QW (show k<4611686018427387904 by omega),QO (y:=Qi) hk,QO (y:=Qi) hk2,ih]
  rw [hq]
  simp only [QaV,Bd,Bi hk,Bi hk2,List.cons_beq_cons]
  cases x0[k]==x1[k]<;>rfl
abbrev QaW:Sh:=⟨[(1,.ty tI),(7,.ty (.sl tI)),(8,.ty tI),(9,.ty tI)],[]⟩
def Qgk:Fg:=QaW.f
def QoV:TC:=aF Tryz.f27 [(26,pL 0 Qgk),(421,.fg QaT.f),(13517,.fg Qgi.f)]
def QoW:TC:=lb 0 QoV
def QoX (x1:Int)(x7:List Int)(x8 x9:Int):VS:=QaW.st (x1,x7,x8,x9,()) ()
def Qgl  : VS:=QaT.st () ()
def QAl:VS->Option (Bool×List (Bool×Exit×VS)):=mkL QaW (fun x y=>(Qy x.2.1 x.2.2.1 x.2.2.2.1)) (fun x y=>[((Q9 (x.2.1.drop x.2.2.2.1.toNat) x.1),.ret,FU (true)),(true,.exit 0,Qgl)])
def Qgm:G:=gG 17 [] (Ls [QAl])
def QaX (x1:Int)(x7:List Int)(x8 x9:Int):OX:=QA (QC Qgm Qgk QoW) (QoX x1 x7 x8 x9)
def I3 (kk:Int->List Int->Int->Int->OX)(x1:Int)(x7:List Int)(x8 x9:Int):OX:=br (ilt x9 x8) (br (cIx x7 x9) (br (ieq (lgt tI x7 (Int.toNat x9)) x1) (some (.ret,FU true)) (kk x1 x7 x8 (Qh .i64 x9 1))) none) (some (.exit 0,Qgl))
def QaY (x1:Int)(x7:List Int)(x8 x9:Int):OX:=br (Q9 (x7.drop x9.toNat) x1) (some (.ret,FU (true)))<|some (.exit 0,Qgl)
theorem QoY (x1:Int)(x7:List Int)(x8 x9:Int):QaX x1 x7 x8 x9=I3 QaX x1 x7 x8 x9:=lnT (x:=I3 (fun x1 x7 x8 x9=>some (.normal,QoX x1 x7 x8 x9)) x1 x7 x8 x9) (by simp only [I3,nxA];rfl)
def r_f27 (p0:List Int)(p1:Int):OV:=br (Qy p0 (Qc p0) (0:Int)) (br (Q9 (p0.drop (0:Int).toNat) p1) (some (.t .bool (true),[])) (some (.t .bool false,[]))) none
theorem QAm (x1:Int)(x7:List Int)(x8 x9:Int)(h:(Qy x7 x8 x9)=true):QaX x1 x7 x8 x9=QaY x1 x7 x8 x9:=by
 obtain ⟨rfl,h3,k,rfl,hk⟩:=JR h
 clear h
 refine Q5 x7 (fun k=>QaX x1 x7 (x7.length:Int) (k:Int)=QaY x1 x7 (x7.length:Int) (k:Int)) ?_ ?_ k hk
 ·rw [QoY]
  simp only [I3,QaY,QD,BX,BW,Qj,Bd,B5]
  rfl
 ·intro k hk ih
  rw [QoY]
  simp only [I3,QD,QI,hk,Br,Qf,Bd,QW (show k<4611686018427387904 by omega),ih,QO (y:=tI) hk]
  simp only [QaY,Bd,Bi hk]
  have e:Q9 (x7[k]::x7.drop (k+1)) x1=(ieq x7[k] x1||Q9 (x7.drop (k+1)) x1):=by
   unfold Q9
   rw [List.contains_cons]
   congr 1
   simp only [ieq,BEq.comm]
  rw [e]
  cases ieq x7[k] x1<;>rfl
theorem QAn:LO Qgm Qgk QoW 0:=QN (s:=QaW) fun x y h _ q=>by simp only [QK,QL] at q;exact (QAm x.1 x.2.1 x.2.2.1 x.2.2.2.1 h).trans q
theorem s_f27 (l:List Int)(n:Int)(h:J3 l n=true):r_f27 l n=some (.t .bool (Q9 l n),[]):=by
 have hl:l.length<=100000:=BJ h
 simp only [r_f27,JS hl,Qf,BC,BF]
 cases Q9 l n<;>rfl
def Qgn:Ent:=Qo (.pr (.sl tI) (.pr tI .nil)) (fun x=>(J3 x.1 x.2.1)) (fun x=>(.t .bool (Q9 x.1 x.2.1)))
theorem QoZ:EM 27 Qgn:=mS (lk:=lkL (lkc QAn lkn)) Qgm QoV [((.t 4),some .bool)] false (gB gN) fun m=>Qt m fun x hok=>kT (s_f27 x.1 x.2.1 hok)
def JA:Keep:=(5,(2048,()))
def Qo0:TC:=aF Tryz.f88 []
def Qo1:List (RV×Option Ty):=[((.c 0 true 2),some Qi)]
def g_f88:G:=gG 2 [] (fun _ _=>none)
def r_f88  : OV:=some (.t Qi (5,(2048,())),[])
theorem e_f88  : QP g_f88 Qo0 Qo1 false [] []=r_f88  :=by kernel_rfl
theorem s_f88:r_f88=some (.t Qi JA,[]):=rfl
def Qgo:Ent:=Qo .nil (fun x=>true) (fun x=>(.t Qi JA))
theorem Qo2:EM 88 Qgo:=mS g_f88 Qo0 Qo1 false (gB gN) fun m=>Qt m fun x _=>(e_f88 ).trans (s_f88)
def leafC (nm:ByteArray)(k:Keep)(id to:Int):Certificate:=(id,(sRoot,(nm,(k,(id,((3,(0,())),(0,(to,(false,(0,([nm],((0,(0,())),()))))))))))))
def Zl (nm:ByteArray)(k:Keep)(id a to:Int):Identity:=(k,(id,([(Ua (leafC nm k id to) a).1],())))
def Uf (nm:ByteArray)(_k:Keep)(_id _a _to:Int):Bool:=decide (nm.size<=1000)
def tc_f87:TC:=aF Tryz.f87 []
def g_f87:G:=gG 32 [(139,Qnk)] (fun _ _=>none)
def r_f87 (p0:ByteArray)(p1:Keep)(p2 p3 p4:Int):OV:=
 let a1:=((Ua (p2,((ByteArray.mk #[114,111,111,116]),(p0,((p1.1,(p1.2.1,())),(p2,((3,(0,())),(0,(p4,(false,(0,([p0],((0,(0,())),())))))))))))) p3).1)
 let a4:=(((a1.2).2).2)
 let a2:=((a4.2).2)
 let a3:=((((a2.2).2).2).2)
 br (Qfw (p2,((ByteArray.mk #[114,111,111,116]),(p0,((p1.1,(p1.2.1,())),(p2,((3,(0,())),(0,(p4,(false,(0,([p0],((0,(0,())),())))))))))))) p3) (some (.t J4 ((p1.1,(p1.2.1,())),(p2,([(a1.1,((a1.2).1,(((a1.2).2).1,(((a4.1).1,(((a4.1).2).1,())),((a4.2).1,(((a2.1).1,(((a2.1).2).1,())),((a2.2).1,(((a2.2).2).1,((((a2.2).2).2).1,(a3.1,((a3.2).1,(((((a3.2).2).1).1,(((((a3.2).2).1).2).1,())),()))))))))))))],()))),[])) none
theorem s_f87 (nm:ByteArray)(k:Keep)(id a to:Int)(h:Uf nm k id a to=true):r_f87 nm k id a to=some (.t J4 (Zl nm k id a to),[]):=by
 have hs:nm.size<=1000:=BJ h
 unfold r_f87
 exact brY (QKI (by decide) hs (l:=[nm]) (Nat.le_succ 1) (fun t ht=>by rw [BT.1 ht];omega)) rfl
def Qgp:Ent:=Qo (.pr .str (.pr Qi (.pr tI (.pr tI (.pr tI .nil))))) (fun x=>(Uf x.1 x.2.1 x.2.2.1 x.2.2.2.1 x.2.2.2.2.1)) (fun x=>(.t J4 (Zl x.1 x.2.1 x.2.2.1 x.2.2.2.1 x.2.2.2.2.1)))
theorem Qo3:EM 87 Qgp:=mS g_f87 tc_f87 [((.c 10 true 4),some J4)] false (gB (gD Qy9 gN)) fun m=>Qt m fun x hok=>kT (s_f87 x.1 x.2.1 x.2.2.1 x.2.2.2.1 x.2.2.2.2.1 hok)
set_option maxRecDepth 100000 in
end
end Go.Proofs.YthlcobdnemhcdaaGreat.K
noncomputable section
namespace Go.Proofs.YthlcobdnemhcdaaGreat.K
open Go.RowKit
noncomputable section
abbrev X6:List ByteArray:=[(ByteArray.mk #[97,112,112]),(ByteArray.mk #[100,98]),(ByteArray.mk #[119,101,98])]
abbrev sSu:List (List Int):=[[10,8,2],[8,2],[2,10,8,3]]
abbrev sIt:List ByteArray:=[(ByteArray.mk #[98,97,99,107,117,112]),(ByteArray.mk #[100,101,101,100])]
def nm1 (s:ByteArray):Bool:=decide (s.size<=1000)
def Gp (d:Dice):List Int:=bif ieq (dof d [3,3,4]) 4 then [14]++lgt (.sl tI) sSu (Ql (Qu d [3,3,4]) 3).toNat else lgt (.sl tI) sSu (Ql (Qu d [3,3,4]) 3).toNat
def Xj (d:Dice)(k:Nat)(s:ByteArray):Endpoint:=(s,(1,(dof d [3,3,4],(Gp d,(done (Qe (Qu d [3,3,4]) 3) 2,([Zl s JA (Qh .i64 100 (k:Int)) 1 901],([1],([2,3],(done (Qe (Qe (Qu d [3,3,4]) 3) 2) 3,())))))))))
def XH (d:Dice):Dice:=Qe (Qe (Qe (Qu d [3,3,4]) 3) 2) 3
def Zc:List ByteArray->Nat->Dice->List Endpoint×Dice
 | [],_,d=>([],d)
 |s::r,k,d=>(Xj d k s::(Zc r (k+1) (XH d)).1,(Zc r (k+1) (XH d)).2)
def edZ:Nat->Int->Int->List Keep->Dice->List Keep×Dice
 |0,_,_,l,d=>(l,d)
 |m+1,i,k,l,d=>bif ine i k then (bif igt (Ql d 3) 0&&ilt (Qc l) 3 then edZ m i (k+1) (l++[(i,(k,()))]) (Qe d 3) else edZ m i (k+1) l (Qe d 3)) else edZ m i (k+1) l d
def edY:Nat->Nat->Int->List Keep->Dice->List Keep×Dice
 |0,_,_,l,d=>(l,d)
 |m+1,n,i,l,d=>edY m n (i+1) (edZ n i 0 l d).1 (edZ n i 0 l d).2
def itZ:Nat->Dice->List Item×Dice
 |0,d=>([],d)
 |n+1,d=>(XU (Y7 d sIt) (ZH d sIt)::(itZ n (Wv (Y7 d sIt) (ZH d sIt))).1,(itZ n (Wv (Y7 d sIt) (ZH d sIt))).2)
def Jo (d:Dice):List ByteArray:=lsl X6 0 (Qh .i64 2 (Ql d 2))
def JF (d:Dice):List Keep×Dice:=edY (Jo d).length (Jo d).length 0 [] (Zc (Jo d) 0 (Qe d 2)).2
def UB (d:Dice):List Keep:=bif ieq (Qc (JF d).1) 0 then [(0,(1,()))] else (JF d).1
def sndIt (d:Dice):List Item×Dice:=itZ (Ql (JF d).2 3).toNat (Qe (JF d).2 3)
def JB (d:Dice):Estate:=((Zc (Jo d) 0 (Qe d 2)).1,(UB d,((sndIt d).1,())))
def ZO (d:Dice):Dice:=(sndIt d).2
theorem Qjh {d:Dice}(h:dOk d=true):dOk (XH d)=true:=Q1 (Q1 (Q1 (XF (l:=[3,3,4]) h)))
theorem QcE: ∀ (l:List ByteArray) (k:Nat) (d:Dice),dOk d=true->dOk (Zc l k d).2=true
 | [],_,_,h=>h
 |_::r,k,d,h=>QcE r (k+1) (XH d) (Qjh h)
theorem Fe: ∀ (m:Nat) (i k:Int) (l:List Keep) (d:Dice),dOk d=true->l.length<=3->dOk (edZ m i k l d).2=true/\(edZ m i k l d).1.length<=3
 |0,_,_,_,_,h,hl=>⟨h,hl⟩
 |m+1,i,k,l,d,h,hl=>by
  unfold edZ
  cases ine i k with
  |false=>exact Fe m i (k+1) l d h hl
  |true=>
   cases h1:igt (Ql d 3) 0 with
   |false=>exact Fe m i (k+1) l (Qe d 3) (Q1 h) hl
   |true=>
    cases h2:ilt (Qc l) 3 with
    |false=>exact Fe m i (k+1) l (Qe d 3) (Q1 h) hl
    |true=>
     have:l.length<3:=by have:=BJ h2;simp only [Qc] at this;omega
     exact Fe m i (k+1) _ (Qe d 3) (Q1 h) (by simp only [Bl,Bk];omega)
theorem QcF: ∀ (m n:Nat) (i:Int) (l:List Keep) (d:Dice),dOk d=true->l.length<=3->dOk (edY m n i l d).2=true/\(edY m n i l d).1.length<=3
 |0,_,_,_,_,h,hl=>⟨h,hl⟩
 |m+1,n,i,l,d,h,hl=>by
  have:=Fe n i 0 l d h hl
  exact QcF m n (i+1) _ _ this.1 this.2
theorem Ff {d:Dice}(h:dOk d=true):dOk (Y7 d sIt)=true:=Q1 (n:=2) h
theorem Qji (d:Dice):Jo d=X6.take 2∨Jo d=X6:=by
 have hv:=JC (d:=d) (n:=2) (by omega)
 have e:Qh .i64 2 (Ql d 2)=2+Ql d 2:=JU (by omega)
 unfold Jo
 rw [e]
 rcases (show Ql d 2=0∨Ql d 2=1 by omega) with h|h<;>rw [h]
 ·exact .inl rfl
 ·exact .inr rfl
theorem Vb (d:Dice):2<=(Jo d).length/\(Jo d).length<=3/\(Jo d).all nm1=true:=by
 rcases Qji d with h|h<;>rw [h]<;>exact ⟨by decide,by decide,by decide⟩
def QEi:List DO:=dT Tryz.f47 6
def QEj:List DO:=dT Tryz.f47 26
abbrev UC:Sh:=⟨[(0,.ptr 50000 0),(2,.ptr 2 0),(3,.ptr 3 0),(4,.ty (.sl .str)),(16,.ty (.sl .str)),(17,.ty tI),(18,.ty tI)],[(2,.box Qr),(3,.bag [.ms 20300,.ms 20301,.ms 20302]),(61,.no),(94,.no),(103,.no),(119,.no),(20300,.arr 111 QJ),(20301,.arr 113 Qi),(20302,.arr 62 Qm),(50000,.box QF)]⟩
abbrev Qjj:Sh:=⟨[(0,.ptr 50000 0),(2,.ptr 2 0),(3,.ptr 3 0),(4,.ty (.sl .str))],[(2,.box Qr),(3,.bag [.ms 20300,.ms 20301,.ms 20302]),(61,.no),(94,.no),(103,.no),(119,.no),(20300,.arr 111 QJ),(20301,.arr 113 Qi),(20302,.arr 62 Qm),(50000,.box QF)]⟩
abbrev UD:Sh:=⟨[(0,.ptr 50000 0),(2,.ptr 2 0),(3,.ptr 3 0),(4,.ty (.sl .str)),(8,.ty tI),(65,.ty tI),(66,.ty tI),(70,.ty tI),(71,.ty tI)],[(2,.box Qr),(3,.bag [.ms 20300,.ms 20301,.ms 20302]),(61,.no),(94,.no),(103,.no),(119,.no),(20300,.arr 111 QJ),(20301,.arr 113 Qi),(20302,.arr 62 Qm),(50000,.box QF)]⟩
abbrev UE:Sh:=⟨[(0,.ptr 50000 0),(2,.ptr 2 0),(3,.ptr 3 0),(4,.ty (.sl .str)),(65,.ty tI),(66,.ty tI)],[(2,.box Qr),(3,.bag [.ms 20300,.ms 20301,.ms 20302]),(61,.no),(94,.no),(103,.no),(119,.no),(20300,.arr 111 QJ),(20301,.arr 113 Qi),(20302,.arr 62 Qm),(50000,.box QF)]⟩
abbrev Qjk:Sh:=⟨[(0,.ptr 50000 0),(2,.ptr 2 0),(3,.ptr 3 0)],[(2,.box Qr),(3,.bag [.ms 20300,.ms 20301,.ms 20302]),(61,.no),(94,.no),(103,.no),(119,.no),(20300,.arr 111 QJ),(20301,.arr 113 Qi),(20302,.arr 62 Qm),(50000,.box QF)]⟩
abbrev UF:Sh:=⟨[(0,.ptr 50000 0),(2,.ptr 2 0),(3,.ptr 3 0),(10,.ty tI)],[(2,.box Qr),(3,.bag [.ms 20300,.ty (.sl Qi),.ms 20302]),(61,.no),(94,.no),(103,.no),(119,.no),(20300,.arr 111 QJ),(20301,.no),(20302,.arr 62 Qm),(50000,.box QF)]⟩
abbrev Qjl:Sh:=⟨[(2,.ptr 2 0),(3,.ptr 3 0)],[(2,.box Qr),(3,.bag [.ms 20300,.ty (.sl Qi),.ms 20302]),(61,.no),(94,.no),(103,.no),(119,.no),(20300,.arr 111 QJ),(20301,.no),(20302,.arr 62 Qm),(50000,.box QF)]⟩
def Gq:Fg:=UC.f
def Gr:Fg:=UD.f
def Gs:Fg:=UE.f
def Gt:Fg:=UF.f
def Yl:TC:=aF Tryz.f47 [(122,.nf 3 2 62 20302),(122,.nf 3 1 113 20301),(122,.nf 3 0 111 20300),(122,.nf 7 3 3 20703),(122,pL 0 Gq),(1957,.fg ⟨[(0,none),(2,none),(3,none),(4,some (.sl .str))],[(2,some Qr),(3,some Qr),(61,none),(94,none),(103,none),(119,none),(20300,none),(20301,none),(20302,none),(50000,some QF)]⟩),(15666,pD [(0,[]),(1,[50000]),(2,[]),(3,[26,5026,10026,15026,50000]),(4,[]),(5,[]),(6,[]),(7,[]),(8,[50000]),(9,[32,5032,10032,15032,50000]),(10,[]),(11,[]),(12,[50000]),(13,[36,5036,10036,15036,50000]),(14,[]),(15,[]),(16,[50000]),(17,[40,5040,10040,15040,50000]),(18,[]),(19,[7,5007,10007,15007]),(20,[7,45,48,20703])] (.one 0 (.one 1 (.one 2 (.one 4 (.one 5 (.one 6 (.one 7 (.one 8 (.one 12 (.one 14 (.one 15 (.one 16 (.alt 3 (.alt 9 (.one 10 (.one 11 (.alt 13 (.alt 17 (.of [18,19,20]) (.of [19,17,18,20])) (.of [19,13,17,18,20])))) (.of [19,9,10,11,13,17,18,20])) (.of [19,3,9,10,11,13,17,18,20]))))))))))))))),(250,.nf 3 2 62 20302),(250,.nf 3 0 111 20300),(250,.nf 3 1 113 20301),(250,pL 2 Gs),(4005,.fg ⟨[(0,none),(2,none),(3,none)],[(2,some Qr),(3,some Qr),(61,none),(94,none),(103,none),(119,none),(20300,none),(20301,none),(20302,none),(50000,some QF)]⟩),(64102,.nf 3 2 62 20302),(64102,.nf 3 0 111 20300),(64102,.nf 3 1 113 20301),(64102,pL 1 Gr),(1025637,.fg ⟨[(0,none),(2,none),(3,none),(4,some (.sl .str)),(65,some tI),(66,some tI)],[(2,some Qr),(3,some Qr),(61,none),(94,none),(103,none),(119,none),(20300,none),(20301,none),(20302,none),(50000,some QF)]⟩),(1018,.fz [20301,103]),(1018,.nf 3 1 113 20301),(1018,.nf 3 0 111 20300),(1018,.nf 3 2 62 20302),(1018,pL 3 Gt),(16291,.fg ⟨[(2,none),(3,none)],[(2,some Qr),(3,some Qr),(61,none),(94,none),(103,none),(119,none),(20300,none),(20301,none),(20302,none),(50000,some QF)]⟩),(16292,pD [(0,[3,61,94,103,119,20300,20301,20302]),(1,[3,61,94,103,119,20300,20301,20302]),(2,[50000]),(3,[50000]),(4,[]),(5,[116,5116,10116,15116,50000]),(6,[117,5117,10117,15117,50000]),(7,[]),(8,[2,3,61,94,103,119,5119,10119,15119,20300,20301,20302]),(9,[3,61,94,103,119,20300,20301,20302]),(10,[2,3,61,94,103,119,20300,20301,20302])] (.of [0,1,2,3,4,5,6,7,8,9,10]))]
def ED:TC:=lb 0 Yl
def EE:TC:=lb 1 Yl
def EF:TC:=lb 2 Yl
def EG:TC:=lb 3 Yl
def Fh:List (RV×Option Ty):=[((.c 2 true 3),some Qr)]
def Fi (x4 x16:List ByteArray)(x17 x18:Int)(y2:Estate)(Qb:List Endpoint)(Qg:List Keep)(Qd:List Item)(Qa:Dice):VS:=UC.st ((),(),(),x4,x16,x17,x18,()) (y2,((),(),(),()),(),(),(),(),Qb,Qg,Qd,Qa,())
def Gu (x4:List ByteArray)(y2:Estate)(Qb:List Endpoint)(Qg:List Keep)(Qd:List Item)(Qa:Dice):VS:=Qjj.st ((),(),(),x4,()) (y2,((),(),(),()),(),(),(),(),Qb,Qg,Qd,Qa,())
def UG (x4:List ByteArray)(x8 x65 x66 x70 x71:Int)(y2:Estate)(Qb:List Endpoint)(Qg:List Keep)(Qd:List Item)(Qa:Dice):VS:=UD.st ((),(),(),x4,x8,x65,x66,x70,x71,()) (y2,((),(),(),()),(),(),(),(),Qb,Qg,Qd,Qa,())
def Xk (x4:List ByteArray)(x65 x66:Int)(y2:Estate)(Qb:List Endpoint)(Qg:List Keep)(Qd:List Item)(Qa:Dice):VS:=UE.st ((),(),(),x4,x65,x66,()) (y2,((),(),(),()),(),(),(),(),Qb,Qg,Qd,Qa,())
def Gv (y2:Estate)(Qb:List Endpoint)(Qg:List Keep)(Qd:List Item)(Qa:Dice):VS:=Qjk.st ((),(),(),()) (y2,((),(),(),()),(),(),(),(),Qb,Qg,Qd,Qa,())
def EH (x10:Int)(y2:Estate)(y3_1:List Keep)(Qb:List Endpoint)(Qd:List Item)(Qa:Dice):VS:=UF.st ((),(),(),x10,()) (y2,((),y3_1,(),()),(),(),(),(),Qb,(),Qd,Qa,())
def Gw (y2:Estate)(y3_1:List Keep)(Qb:List Endpoint)(Qd:List Item)(Qa:Dice):VS:=Qjl.st ((),(),()) (y2,((),y3_1,(),()),(),(),(),(),Qb,(),Qd,Qa,())
def Qjm:VS->Option (Bool×List (Bool×Exit×VS)):=mkL UC (fun x y=>(Qy x.2.2.2.2.1 x.2.2.2.2.2.1 x.2.2.2.2.2.2.1&&(dOk y.2.2.2.2.2.2.2.2.2.1&&(decide (y.2.2.2.2.2.2.1.length<=x.2.2.2.2.2.2.1)&&x.2.2.2.2.1.all nm1)))) (fun x y=>[(true,.exit 0,Gu (x.2.2.2.1) (y.1) (y.2.2.2.2.2.2.1++(Zc (x.2.2.2.2.1.drop x.2.2.2.2.2.2.1.toNat) x.2.2.2.2.2.2.1.toNat y.2.2.2.2.2.2.2.2.2.1).1) (y.2.2.2.2.2.2.2.1) (y.2.2.2.2.2.2.2.2.1) ((Zc (x.2.2.2.2.1.drop x.2.2.2.2.2.2.1.toNat) x.2.2.2.2.2.2.1.toNat y.2.2.2.2.2.2.2.2.2.1).2))])
def Qjn:VS->Option (Bool×List (Bool×Exit×VS)):=mkL UD (fun x y=>(dOk y.2.2.2.2.2.2.2.2.2.1&&decide (0<=x.2.2.2.2.2.2.2.2.1/\x.2.2.2.2.2.2.2.2.1<=x.2.2.2.2.2.2.2.1/\x.2.2.2.2.2.2.2.1<=3/\y.2.2.2.2.2.2.2.1.length<=3))) (fun x y=>[(true,.exit 4,Xk (x.2.2.2.1) (x.2.2.2.2.2.1) (x.2.2.2.2.2.2.1) (y.1) (y.2.2.2.2.2.2.1) ((edZ (x.2.2.2.2.2.2.2.1-x.2.2.2.2.2.2.2.2.1).toNat x.2.2.2.2.1 x.2.2.2.2.2.2.2.2.1 y.2.2.2.2.2.2.2.1 y.2.2.2.2.2.2.2.2.2.1).1) (y.2.2.2.2.2.2.2.2.1) ((edZ (x.2.2.2.2.2.2.2.1-x.2.2.2.2.2.2.2.2.1).toNat x.2.2.2.2.1 x.2.2.2.2.2.2.2.2.1 y.2.2.2.2.2.2.2.1 y.2.2.2.2.2.2.2.2.2.1).2))])
def Qjo:VS->Option (Bool×List (Bool×Exit×VS)):=mkL UE (fun x y=>(dOk y.2.2.2.2.2.2.2.2.2.1&&decide (0<=x.2.2.2.2.2.1/\x.2.2.2.2.2.1<=x.2.2.2.2.1/\x.2.2.2.2.1<=3/\x.2.2.2.1.length<=3/\y.2.2.2.2.2.2.2.1.length<=3))) (fun x y=>[(true,.exit 2,Gv (y.1) (y.2.2.2.2.2.2.1) ((edY (x.2.2.2.2.1-x.2.2.2.2.2.1).toNat x.2.2.2.1.length x.2.2.2.2.2.1 y.2.2.2.2.2.2.2.1 y.2.2.2.2.2.2.2.2.2.1).1) (y.2.2.2.2.2.2.2.2.1) ((edY (x.2.2.2.2.1-x.2.2.2.2.2.1).toNat x.2.2.2.1.length x.2.2.2.2.2.1 y.2.2.2.2.2.2.2.1 y.2.2.2.2.2.2.2.2.2.1).2))])
def Qjp:VS->Option (Bool×List (Bool×Exit×VS)):=mkL UF (fun x y=>(dOk y.2.2.2.2.2.2.2.2.2.1&&decide (0<=x.2.2.2.1/\x.2.2.2.1<=3/\y.2.2.2.2.2.2.2.2.1.length+x.2.2.2.1.toNat<=100))) (fun x y=>[(true,.exit 6,Gw (y.1) (y.2.1.2.1) (y.2.2.2.2.2.2.1) (y.2.2.2.2.2.2.2.2.1++(itZ x.2.2.2.1.toNat y.2.2.2.2.2.2.2.2.2.1).1) ((itZ x.2.2.2.1.toNat y.2.2.2.2.2.2.2.2.2.1).2))])
def JY:G:=⟨TYs,[45,103],122,EL [(32,U1),(35,Qfb),(48,QaS),(49,Qd6),(50,IA),(87,Qgp),(88,Qgo)],keeps,(Ls [Qjm,Qjn,Qjo,Qjp]),IL [],RL []⟩
def Vc (x4 x16:List ByteArray)(x17 x18:Int)(y2:Estate)(Qb:List Endpoint)(Qg:List Keep)(Qd:List Item)(Qa:Dice):OX:=
 let a5:=lgt .str x16 (Int.toNat x18)
 let a1:=Zl a5 JA (Qh .i64 100 x18) 1 901
 let a2:=(lgt (.sl tI) ([[10,8,2],[8,2],[2,10,8,3]]) (Int.toNat (Ql (Qu Qa ([3,3,4])) 3)))
 let a3:=(Qe (Qu Qa ([3,3,4])) 3)
 let a4:=((done a3 2),([(((a1.1).1,(((a1.1).2).1,())),((a1.2).1,(((a1.2).2).1,())))],([1],([2,3],((done (Qe a3 2) 3),())))))
 let a6:=(dof Qa ([3,3,4]))
 let a7:=Uf a5 JA (Qh .i64 100 x18) 1 901
 br (Jm (Qe a3 2) 3) (br (ieq a6 4) (br (Qx ([14]) a2 8) (br a7 (br (Qx Qb ([(a5,(1,(a6,((([14])++a2),a4))))]) 144) (some (.normal,Fi x4 x16 x17 (Qh .i64 x18 1) y2 (Qb++([(a5,(1,(a6,((([14])++a2),a4))))])) Qg Qd (Qe (Qe a3 2) 3))) none) none) none) (br a7 (br (Qx Qb ([(a5,(1,(a6,(a2,a4))))]) 144) (some (.normal,Fi x4 x16 x17 (Qh .i64 x18 1) y2 (Qb++([(a5,(1,(a6,(a2,a4))))])) Qg Qd (Qe (Qe a3 2) 3))) none) none)) none
def QcG (x4 x16:List ByteArray)(x17 x18:Int)(y2:Estate)(Qb:List Endpoint)(Qg:List Keep)(Qd:List Item)(Qa:Dice):OX:=br (Jm (Qe (Qu Qa ([3,3,4])) 3) 2) (Vc x4 x16 x17 x18 y2 Qb Qg Qd Qa) none
def QcH (x4 x16:List ByteArray)(x17 x18:Int)(y2:Estate)(Qb:List Endpoint)(Qg:List Keep)(Qd:List Item)(Qa:Dice):OX:=
 let a1:=(Qu Qa ([3,3,4]))
 br (QG a1 3) (br (cIx ([[10,8,2],[8,2],[2,10,8,3]]) (Ql a1 3)) (QcG x4 x16 x17 x18 y2 Qb Qg Qd Qa) none) none
def Qjq (x4 x16:List ByteArray)(x17 x18:Int)(y2:Estate)(Qb:List Endpoint)(Qg:List Keep)(Qd:List Item)(Qa:Dice):OX:=
 let a1:=(Qu Qa ([3,3,4]))
 let a2:=(Jc Qa ([3,3,4]))
 br (ilt x18 x17) (br (cIx x16 x18) (frk (br a2 (frk (br (QG a1 3) (br (cIx ([[10,8,2],[8,2],[2,10,8,3]]) (Ql a1 3)) (frk (br (Jm (Qe a1 3) 2) (frk (Vc x4 x16 x17 x18 y2 Qb Qg Qd Qa) (Vc x4 x16 x17 x18 y2 Qb Qg Qd Qa)) none) (QcG x4 x16 x17 x18 y2 Qb Qg Qd Qa)) none) none) (QcH x4 x16 x17 x18 y2 Qb Qg Qd Qa)) none) (br a2 (QcH x4 x16 x17 x18 y2 Qb Qg Qd Qa) none)) none) (some (.exit 0,Gu x4 y2 Qb Qg Qd Qa))
def XI (x4 x16:List ByteArray)(x17 x18:Int)(y2:Estate)(Qb:List Endpoint)(Qg:List Keep)(Qd:List Item)(Qa:Dice):OX:=QA (QC JY Gq ED) (Fi x4 x16 x17 x18 y2 Qb Qg Qd Qa)
def YL (x4 x16:List ByteArray)(x17 x18:Int)(y2:Estate)(Qb:List Endpoint)(Qg:List Keep)(Qd:List Item)(Qa:Dice):OX:=
 let a5:=lgt .str x16 (Int.toNat x18)
 let a1:=Zl a5 JA (Qh .i64 100 x18) 1 901
 let a2:=(lgt (.sl tI) ([[10,8,2],[8,2],[2,10,8,3]]) (Int.toNat (Ql (Qu Qa ([3,3,4])) 3)))
 let a3:=(Qe (Qu Qa ([3,3,4])) 3)
 let a4:=((done a3 2),([(((a1.1).1,(((a1.1).2).1,())),((a1.2).1,(((a1.2).2).1,())))],([1],([2,3],((done (Qe a3 2) 3),())))))
 let a6:=(dof Qa ([3,3,4]))
 let a7:=Uf a5 JA (Qh .i64 100 x18) 1 901
 br (Jm (Qe a3 2) 3) (br (ieq a6 4) (br (Qx ([14]) a2 8) (br a7 (br (Qx Qb ([(a5,(1,(a6,((([14])++a2),a4))))]) 144) (XI x4 x16 x17 (Qh .i64 x18 1) y2 (Qb++([(a5,(1,(a6,((([14])++a2),a4))))])) Qg Qd (Qe (Qe a3 2) 3)) none) none) none) (br a7 (br (Qx Qb ([(a5,(1,(a6,(a2,a4))))]) 144) (XI x4 x16 x17 (Qh .i64 x18 1) y2 (Qb++([(a5,(1,(a6,(a2,a4))))])) Qg Qd (Qe (Qe a3 2) 3)) none) none)) none
def Xl (x4 x16:List ByteArray)(x17 x18:Int)(y2:Estate)(Qb:List Endpoint)(Qg:List Keep)(Qd:List Item)(Qa:Dice):OX:=br (Jm (Qe (Qu Qa ([3,3,4])) 3) 2) (YL x4 x16 x17 x18 y2 Qb Qg Qd Qa) none
def Xm (x4 x16:List ByteArray)(x17 x18:Int)(y2:Estate)(Qb:List Endpoint)(Qg:List Keep)(Qd:List Item)(Qa:Dice):OX:=
 let a1:=(Qu Qa ([3,3,4]))
 br (QG a1 3) (br (cIx ([[10,8,2],[8,2],[2,10,8,3]]) (Ql a1 3)) (Xl x4 x16 x17 x18 y2 Qb Qg Qd Qa) none) none
def XJ (x4 x16:List ByteArray)(x17 x18:Int)(y2:Estate)(Qb:List Endpoint)(Qg:List Keep)(Qd:List Item)(Qa:Dice):OX:=
 let a1:=(Qu Qa ([3,3,4]))
 let a2:=(Jc Qa ([3,3,4]))
 br (ilt x18 x17) (br (cIx x16 x18) (frk (br a2 (frk (br (QG a1 3) (br (cIx ([[10,8,2],[8,2],[2,10,8,3]]) (Ql a1 3)) (frk (br (Jm (Qe a1 3) 2) (frk (YL x4 x16 x17 x18 y2 Qb Qg Qd Qa) (YL x4 x16 x17 x18 y2 Qb Qg Qd Qa)) none) (Xl x4 x16 x17 x18 y2 Qb Qg Qd Qa)) none) none) (Xm x4 x16 x17 x18 y2 Qb Qg Qd Qa)) none) (br a2 (Xm x4 x16 x17 x18 y2 Qb Qg Qd Qa) none)) none) (some (.exit 0,Gu x4 y2 Qb Qg Qd Qa))
def YM (x4 x16:List ByteArray)(x17 x18:Int)(y2:Estate)(Qb:List Endpoint)(Qg:List Keep)(Qd:List Item)(Qa:Dice):OX:=
 let a1:=Zc (x16.drop x18.toNat) x18.toNat Qa
 some (.exit 0,Gu (x4) (y2) (Qb++a1.1) (Qg) (Qd) (a1.2))
theorem QEk (x4 x16:List ByteArray)(x17 x18:Int)(y2:Estate)(Qb:List Endpoint)(Qg:List Keep)(Qd:List Item)(Qa:Dice):QC JY Gq ED (Fi x4 x16 x17 x18 y2 Qb Qg Qd Qa)=Qjq x4 x16 x17 x18 y2 Qb Qg Qd Qa:=by kernel_rfl
theorem Vd (x4 x16:List ByteArray)(x17 x18:Int)(y2:Estate)(Qb:List Endpoint)(Qg:List Keep)(Qd:List Item)(Qa:Dice):XI x4 x16 x17 x18 y2 Qb Qg Qd Qa=XJ x4 x16 x17 x18 y2 Qb Qg Qd Qa:=(G7 _ _).trans (by
 rw [QEk]
 first
 |(simp only [Qjq,Vc,QcG,QcH,JM,XJ,YL,Xl,Xm,JM,YJ,YY,YZ,Y0,Y2]
   rfl)
 |(simp only [Qjq,Vc,QcG,QcH,JM,XJ,YL,Xl,Xm,JM]
   try generalize (Qx Qb ([((lgt .str x16 (Int.toNat x18)),(1,((dof Qa ([3,3,4])),((([14])++(lgt (.sl tI) ([[10,8,2],[8,2],[2,10,8,3]]) (Int.toNat (Ql (Qu Qa ([3,3,4])) 3)))),((done (Qe (Qu Qa ([3,3,4])) 3) 2),([((((Zl (lgt .str x16 (Int.toNat x18)) JA (Qh .i64 100 x18) 1 901).1).1,((((Zl (lgt .str x16 (Int.toNat x18)) JA (Qh .i64 100 x18) 1 901).1).2).1,())),(((Zl (lgt .str x16 (Int.toNat x18)) JA (Qh .i64 100 x18) 1 901).2).1,((((Zl (lgt .str x16 (Int.toNat x18)) JA (Qh .i64 100 x18) 1 901).2).2).1,())))],([1],([2,3],((done (Qe (Qe (Qu Qa ([3,3,4])) 3) 2) 3),())))))))))]) 144)=cq0
   try generalize ((Uf (lgt .str x16 (Int.toNat x18)) JA (Qh .i64 100 x18) 1 901))=cq1
   try generalize (Qx ([14]) (lgt (.sl tI) ([[10,8,2],[8,2],[2,10,8,3]]) (Int.toNat (Ql (Qu Qa ([3,3,4])) 3))) 8)=cq2
   try generalize (Qx Qb ([((lgt .str x16 (Int.toNat x18)),(1,((dof Qa ([3,3,4])),((lgt (.sl tI) ([[10,8,2],[8,2],[2,10,8,3]]) (Int.toNat (Ql (Qu Qa ([3,3,4])) 3))),((done (Qe (Qu Qa ([3,3,4])) 3) 2),([((((Zl (lgt .str x16 (Int.toNat x18)) JA (Qh .i64 100 x18) 1 901).1).1,((((Zl (lgt .str x16 (Int.toNat x18)) JA (Qh .i64 100 x18) 1 901).1).2).1,())),(((Zl (lgt .str x16 (Int.toNat x18)) JA (Qh .i64 100 x18) 1 901).2).1,((((Zl (lgt .str x16 (Int.toNat x18)) JA (Qh .i64 100 x18) 1 901).2).2).1,())))],([1],([2,3],((done (Qe (Qe (Qu Qa ([3,3,4])) 3) 2) 3),())))))))))]) 144)=cq3
   try generalize ((Jm (Qe (Qe (Qu Qa ([3,3,4])) 3) 2) 3))=cq4
   try generalize ((Jm (Qe (Qu Qa ([3,3,4])) 3) 2))=cq5
   try generalize (cIx ([[10,8,2],[8,2],[2,10,8,3]]) (Ql (Qu Qa ([3,3,4])) 3))=cq6
   try generalize ((QG (Qu Qa ([3,3,4])) 3))=cq7
   try generalize ((Jc Qa ([3,3,4])))=cq8
   try generalize (cIx x16 x18)=cq9
   simp only [brN,JM,Bool.and_assoc,Bool.and_comm,Bool.and_left_comm,B2,Bool.and_self_left,YJ,YY,YZ,Y0,Y2]
   try rfl))
def Qs6 (x4:List ByteArray)(x8 x65 x66 x70 x71:Int)(y2:Estate)(Qb:List Endpoint)(Qg:List Keep)(Qd:List Item)(Qa:Dice):OX:=
 let a1:=Qh .i64 x71 1
 let a2:=Qe Qa 3
 br (ilt x71 x70) (br (ine x8 x71) (br (QG Qa 3) (br (igt (Ql Qa 3) 0) (br (ilt (Qc Qg) 3) (br (Qx Qg ([(x8,(x71,()))]) 16) (some (.normal,UG x4 x8 x65 x66 x70 a1 y2 Qb (Qg++([(x8,(x71,()))])) Qd a2)) none) (some (.normal,UG x4 x8 x65 x66 x70 a1 y2 Qb Qg Qd a2))) (some (.normal,UG x4 x8 x65 x66 x70 a1 y2 Qb Qg Qd a2))) none) (some (.normal,UG x4 x8 x65 x66 x70 a1 y2 Qb Qg Qd Qa))) (some (.exit 4,Xk x4 x65 x66 y2 Qb Qg Qd Qa))
def XK (x4:List ByteArray)(x8 x65 x66 x70 x71:Int)(y2:Estate)(Qb:List Endpoint)(Qg:List Keep)(Qd:List Item)(Qa:Dice):OX:=QA (QC JY Gr EE) (UG x4 x8 x65 x66 x70 x71 y2 Qb Qg Qd Qa)
def WE (x4:List ByteArray)(x8 x65 x66 x70 x71:Int)(y2:Estate)(Qb:List Endpoint)(Qg:List Keep)(Qd:List Item)(Qa:Dice):OX:=
 let a1:=Qh .i64 x71 1
 let a2:=Qe Qa 3
 br (ilt x71 x70) (br (ine x8 x71) (br (QG Qa 3) (br (igt (Ql Qa 3) 0) (br (ilt (Qc Qg) 3) (br (Qx Qg ([(x8,(x71,()))]) 16) (XK x4 x8 x65 x66 x70 a1 y2 Qb (Qg++([(x8,(x71,()))])) Qd a2) none) (XK x4 x8 x65 x66 x70 a1 y2 Qb Qg Qd a2)) (XK x4 x8 x65 x66 x70 a1 y2 Qb Qg Qd a2)) none) (XK x4 x8 x65 x66 x70 a1 y2 Qb Qg Qd Qa)) (some (.exit 4,Xk x4 x65 x66 y2 Qb Qg Qd Qa))
def YN (x4:List ByteArray)(x8 x65 x66 x70 x71:Int)(y2:Estate)(Qb:List Endpoint)(Qg:List Keep)(Qd:List Item)(Qa:Dice):OX:=
 let a1:=edZ (x70-x71).toNat x8 x71 Qg Qa
 some (.exit 4,Xk (x4) (x65) (x66) (y2) (Qb) (a1.1) (Qd) (a1.2))
theorem QEl (x4:List ByteArray)(x8 x65 x66 x70 x71:Int)(y2:Estate)(Qb:List Endpoint)(Qg:List Keep)(Qd:List Item)(Qa:Dice):QC JY Gr EE (UG x4 x8 x65 x66 x70 x71 y2 Qb Qg Qd Qa)=Qs6 x4 x8 x65 x66 x70 x71 y2 Qb Qg Qd Qa:=by kernel_rfl
theorem Ve (x4:List ByteArray)(x8 x65 x66 x70 x71:Int)(y2:Estate)(Qb:List Endpoint)(Qg:List Keep)(Qd:List Item)(Qa:Dice):XK x4 x8 x65 x66 x70 x71 y2 Qb Qg Qd Qa=WE x4 x8 x65 x66 x70 x71 y2 Qb Qg Qd Qa:=(G7 _ _).trans (by
 rw [QEl]
 simp only [Qs6,WE,YJ,YY,YZ,Y0,Y2]
 rfl)
def Qs7 (x4:List ByteArray)(x65 x66:Int)(y2:Estate)(Qb:List Endpoint)(Qg:List Keep)(Qd:List Item)(Qa:Dice):OX:=
 let a1:=(edZ ((Qc x4)-(0:Int)).toNat x66 (0:Int) Qg Qa)
 br (ilt x66 x65) (br (dOk Qa&&decide (0<=(0:Int)/\(0:Int)<=(Qc x4)/\(Qc x4)<=3/\Qg.length<=3)) (some (.normal,Xk (x4) (x65) (Qh .i64 (x66) 1) (y2) (Qb) (a1.1) (Qd) (a1.2))) none) (some (.exit 2,Gv y2 Qb Qg Qd Qa))
def UH (x4:List ByteArray)(x65 x66:Int)(y2:Estate)(Qb:List Endpoint)(Qg:List Keep)(Qd:List Item)(Qa:Dice):OX:=QA (QC JY Gs EF) (Xk x4 x65 x66 y2 Qb Qg Qd Qa)
def WF (x4:List ByteArray)(x65 x66:Int)(y2:Estate)(Qb:List Endpoint)(Qg:List Keep)(Qd:List Item)(Qa:Dice):OX:=
 let a1:=(edZ ((Qc x4)-(0:Int)).toNat x66 (0:Int) Qg Qa)
 br (ilt x66 x65) (br (dOk Qa&&decide (0<=(0:Int)/\(0:Int)<=(Qc x4)/\(Qc x4)<=3/\Qg.length<=3)) (UH (x4) (x65) (Qh .i64 (x66) 1) (y2) (Qb) (a1.1) (Qd) (a1.2)) none) (some (.exit 2,Gv y2 Qb Qg Qd Qa))
def UI (x4:List ByteArray)(x65 x66:Int)(y2:Estate)(Qb:List Endpoint)(Qg:List Keep)(Qd:List Item)(Qa:Dice):OX:=
 let a1:=edY (x65-x66).toNat x4.length x66 Qg Qa
 some (.exit 2,Gv (y2) (Qb) (a1.1) (Qd) (a1.2))
theorem QEm (x4:List ByteArray)(x65 x66:Int)(y2:Estate)(Qb:List Endpoint)(Qg:List Keep)(Qd:List Item)(Qa:Dice):QC JY Gs EF (Xk x4 x65 x66 y2 Qb Qg Qd Qa)=Qs7 x4 x65 x66 y2 Qb Qg Qd Qa:=by kernel_rfl
theorem Vf (x4:List ByteArray)(x65 x66:Int)(y2:Estate)(Qb:List Endpoint)(Qg:List Keep)(Qd:List Item)(Qa:Dice):UH x4 x65 x66 y2 Qb Qg Qd Qa=WF x4 x65 x66 y2 Qb Qg Qd Qa:=(G7 _ _).trans (by
 rw [QEm]
 simp only [Qs7,WF,YJ,YY,YZ,Y0,Y2]
 rfl)
def Qs8 (x10:Int)(y2:Estate)(y3_1:List Keep)(Qb:List Endpoint)(Qd:List Item)(Qa:Dice):OX:=
 let a2:=(ByteArray.mk #[98,97,99,107,117,112])
 let a3:=(ByteArray.mk #[100,101,101,100])
 let a5:=(Y7 Qa ([a2,a3]))
 let a6:=(ZH Qa ([a2,a3]))
 let a1:=XU a5 a6
 let a4:=((a1.2).1,(((a1.2).2).1,((((a1.2).2).2).1,(((((a1.2).2).2).2).1,()))))
 br (igt x10 0) (br (Xv Qa ([a2,a3])) (br (Ue a5 a6) (br (Qx Qd ([(a1.1,a4)]) 64) (some (.normal,EH (Qs .i64 x10 1) y2 y3_1 Qb (Qd++([(a1.1,a4)])) (Wv a5 a6))) none) none) none) (some (.exit 6,Gw y2 y3_1 Qb Qd Qa))
def UJ (x10:Int)(y2:Estate)(y3_1:List Keep)(Qb:List Endpoint)(Qd:List Item)(Qa:Dice):OX:=QA (QC JY Gt EG) (EH x10 y2 y3_1 Qb Qd Qa)
def WG (x10:Int)(y2:Estate)(y3_1:List Keep)(Qb:List Endpoint)(Qd:List Item)(Qa:Dice):OX:=
 let a2:=(ByteArray.mk #[98,97,99,107,117,112])
 let a3:=(ByteArray.mk #[100,101,101,100])
 let a5:=(Y7 Qa ([a2,a3]))
 let a6:=(ZH Qa ([a2,a3]))
 let a1:=XU a5 a6
 let a4:=((a1.2).1,(((a1.2).2).1,((((a1.2).2).2).1,(((((a1.2).2).2).2).1,()))))
 br (igt x10 0) (br (Xv Qa ([a2,a3])) (br (Ue a5 a6) (br (Qx Qd ([(a1.1,a4)]) 64) (UJ (Qs .i64 x10 1) y2 y3_1 Qb (Qd++([(a1.1,a4)])) (Wv a5 a6)) none) none) none) (some (.exit 6,Gw y2 y3_1 Qb Qd Qa))
def UK (x10:Int)(y2:Estate)(y3_1:List Keep)(Qb:List Endpoint)(Qd:List Item)(Qa:Dice):OX:=some (.exit 6,Gw (y2) (y3_1) (Qb) (Qd++(itZ x10.toNat Qa).1) ((itZ x10.toNat Qa).2))
theorem QEn (x10:Int)(y2:Estate)(y3_1:List Keep)(Qb:List Endpoint)(Qd:List Item)(Qa:Dice):QC JY Gt EG (EH x10 y2 y3_1 Qb Qd Qa)=Qs8 x10 y2 y3_1 Qb Qd Qa:=by kernel_rfl
theorem Vg (x10:Int)(y2:Estate)(y3_1:List Keep)(Qb:List Endpoint)(Qd:List Item)(Qa:Dice):UJ x10 y2 y3_1 Qb Qd Qa=WG x10 y2 y3_1 Qb Qd Qa:=(G7 _ _).trans (by
 rw [QEn]
 simp only [Qs8,WG,YJ,YY,YZ,Y0,Y2]
 rfl)
def Fj (d0:Dice):OV:=
 let a6:=(ByteArray.mk #[97,112,112])
 let a8:=(ByteArray.mk #[100,98])
 let a7:=(ByteArray.mk #[119,101,98])
 let a2:=(lsl ([a6,a8,a7]) 0 (Qh .i64 2 (Ql d0 2)))
 let a5:=(Zc (a2.drop (0:Int).toNat) (0:Int).toNat (Qe d0 2))
 let a1:=(edY ((Qc a2)-(0:Int)).toNat a2.length (0:Int) ([]:List Keep) (a5.2))
 let a3:=(dOk (Qe (a1.2) 3)&&decide (0<=(Ql (a1.2) 3)/\(Ql (a1.2) 3)<=3/\([]:List Item).length+(Ql (a1.2) 3).toNat<=100))
 let a4:=itZ (Ql (a1.2) 3).toNat (Qe (a1.2) 3)
 br (QG d0 2) (br (cSl ([a6,a8,a7]) 0 (Qh .i64 2 (Ql d0 2)) ((List.length ([a6,a8,a7]):Nat):Int)) (br (Qy a2 (Qc a2) (0:Int)&&(dOk (Qe d0 2)&&(decide (([]:List Endpoint).length<=(0:Int))&&a2.all nm1))) (br (dOk (a5.2)&&decide (0<=(0:Int)/\(0:Int)<=(Qc a2)/\(Qc a2)<=3/\a2.length<=3/\([]:List Keep).length<=3)) (br (ieq (Qc (a1.1)) 0) (br (QG (a1.2) 3) (br a3 (some (.t Qr ((([]:List Endpoint)++a5.1),(([(0,(1,()))]),((([]:List Item)++a4.1),()))),[.box (.t QF (a4.2))])) none) none) (br (QG (a1.2) 3) (br a3 (some (.t Qr ((([]:List Endpoint)++a5.1),((a1.1),((([]:List Item)++a4.1),()))),[.box (.t QF (a4.2))])) none) none)) none) none) none) none
theorem Qjr (d0:Dice):QP JY Yl Fh false [.ptr 50000 0] [.box (.t QF d0)]=Fj d0:=by kernel_rfl
theorem ok_f47:Option.map (trC Tryz.prog) Tryz.f47.body=some Yl.er:=by kernel_rfl
theorem QEo:XV Tryz.prog Tryz.f47.results.toList=some (Fh.map Prod.fst):=by kernel_rfl
theorem Qs9:Q6 Tryz.prog 47:= .inr ⟨by decide,_,Tryz.func47,by kernel_rfl,by kernel_rfl⟩
theorem Qjs:GOk Tryz.prog JY:=Jw _ (gA (gD GT (gD QmM (gD Qgg (gD Qlh (gD Qaf (gD Qo3 (gD Qo2 gN))))))))
theorem Qjt (x4 x16:List ByteArray)(x17 x18:Int)(y2:Estate)(Qb:List Endpoint)(Qg:List Keep)(Qd:List Item)(Qa:Dice)(h:(Qy x16 x17 x18&&(dOk Qa&&(decide (Qb.length<=x18)&&x16.all nm1)))=true):XI x4 x16 x17 x18 y2 Qb Qg Qd Qa=YM x4 x16 x17 x18 y2 Qb Qg Qd Qa:=by
 simp only [Bb,Ba] at h
 obtain ⟨h0,hd,hl,ha⟩:=h
 obtain ⟨rfl,h3,k,rfl,hk⟩:=JR h0
 clear h0
 revert Qb Qa
 refine Q5 x16 (fun k=> ∀ (Qb:List Endpoint) (Qa:Dice),dOk Qa=true->(Qb.length:Int)<=(k:Int)->XI x4 x16 (x16.length:Int) (k:Int) y2 Qb Qg Qd Qa=YM x4 x16 (x16.length:Int) (k:Int) y2 Qb Qg Qd Qa) ?_ ?_ k hk
 ·intro Qb Qa _ _
  rw [Vd]
  simp only [XJ,YL,Xl,Xm,JM,YM,QD,BX,BW,Qj,Bd,B5,Zc,BP]
 ·intro k hk ih Qb Qa hd hl
  rw [Vd]
  have c1:Jc Qa [3,3,4]=true:=Qe8 hd (by decide) (by decide)
  have d1:=XF (l:=[3,3,4]) hd
  have c2:QG (Qu Qa [3,3,4]) 3=true:=YF d1 (by omega)
  have d2:=Q1 (n:=3) d1
  have c3:Jm (Qe (Qu Qa [3,3,4]) 3) 2=true:=Qe9 d2 (by omega) (by omega)
  have c4:Jm (Qe (Qe (Qu Qa [3,3,4]) 3) 2) 3=true:=Qe9 (Q1 d2) (by omega) (by omega)
  have b3:=JC (d:=Qu Qa [3,3,4]) (n:=3) (by omega)
  have c5:cIx ([[10,8,2],[8,2],[2,10,8,3]]:List (List Int)) (Ql (Qu Qa [3,3,4]) 3)=true:=Be ⟨b3.1,b3.2⟩
  have c6:Uf x16[k] JA (Qh .i64 100 (k:Int)) 1 901=true:=Bh.1 ha _ (Bx hk)
  have c7: ∀ v,Qx Qb [v] 144=true:=fun v=>JE (by omega) (by simp only [Bk];omega)
  have b4: ∀ q,(lgt (.sl tI) [[10,8,2],[8,2],[2,10,8,3]] q).length<=4:=fun q=>Qum (by simp) q
  have c8:Qx ([14]:List Int) (lgt (.sl tI) [[10,8,2],[8,2],[2,10,8,3]] (Ql (Qu Qa [3,3,4]) 3).toNat) 8=true:=JE (by decide) (by have:=b4 (Ql (Qu Qa [3,3,4]) 3).toNat;simp only [Bk];omega)
  simp only [XJ,YL,Xl,Xm,JM,QD,QI,hk,Br,Qf,Bd,QW (show k<4611686018427387904 by omega),QO (y:= .str) hk,c1,c2,c3,c4,c6,c7,JM]
  have hi: ∀ v,XI x4 x16 (x16.length:Int) ((k+1:Nat):Int) y2 (Qb++[v]) Qg Qd (XH Qa)=YM x4 x16 (x16.length:Int) ((k+1:Nat):Int) y2 (Qb++[v]) Qg Qd (XH Qa):=fun v=>ih _ _ (Qjh hd) (by simp only [Bl,Bk];omega)
  have goal2:YM x4 x16 (x16.length:Int) ((k+1:Nat):Int) y2 (Qb++[Xj Qa k x16[k]]) Qg Qd (XH Qa)=YM x4 x16 (x16.length:Int) (k:Int) y2 Qb Qg Qd Qa:=by
   simp only [YM,Bd,Bi hk,Zc,BN,BM]
  refine Eq.trans ?_ ((hi _).trans goal2)
  unfold Xj Gp
  refine brY c5 ?_
  cases ieq (dof Qa [3,3,4]) 4 with
  |false=>rfl
  |true=>exact brY rfl (brY c8 rfl)
theorem Qju (x4:List ByteArray)(x8 x65 x66 x70 x71:Int)(y2:Estate)(Qb:List Endpoint)(Qg:List Keep)(Qd:List Item)(Qa:Dice)(h:(dOk Qa&&decide (0<=x71/\x71<=x70/\x70<=3/\Qg.length<=3))=true):XK x4 x8 x65 x66 x70 x71 y2 Qb Qg Qd Qa=YN x4 x8 x65 x66 x70 x71 y2 Qb Qg Qd Qa:=by
 simp only [Bb,Ba] at h
 obtain ⟨hd,h0,h1,h2,hl⟩:=h
 have key: ∀ (m:Nat) (x71:Int) (Qg:List Keep) (Qa:Dice),x71+m=x70->0<=x71->dOk Qa=true->Qg.length<=3->XK x4 x8 x65 x66 x70 x71 y2 Qb Qg Qd Qa=YN x4 x8 x65 x66 x70 x71 y2 Qb Qg Qd Qa:=by
  intro m
  induction m with
  |zero=>
   intro x71 Qg Qa e _ _ _
   rw [Ve]
   have:x70=x71:=by omega
   subst this
   simp only [WE,YN,show ilt x70 x70=false from Bp (by omega),Qj,Int.sub_self,BC,edZ]
  |succ m ih=>
   intro x71 Qg Qa e h0 hd hl
   rw [Ve]
   have c1:QG Qa 3=true:=YF hd (by omega)
   have c2:Qx Qg [(x8,(x71,()))] 16=true:=JE (by omega) (by simp only [Bk];omega)
   have e1:Qh .i64 x71 1=x71+1:=JU (by omega)
   have e2:(x70-x71).toNat=m+1:=by omega
   have e3:(x70-(x71+1)).toNat=m:=by omega
   simp only [WE,show ilt x71 x70=true from Be (by omega),Qf,c1,c2,e1]
   have i0:=ih (x71+1) Qg Qa (by omega) (by omega) hd hl
   have i1:=ih (x71+1) Qg (Qe Qa 3) (by omega) (by omega) (Q1 hd) hl
   rw [i0,i1]
   cases hn:ine x8 x71 with
   |false=>simp only [Qj,YN,e2,e3,edZ,hn,B0]
   |true=>
    cases hg:igt (Ql Qa 3) 0 with
    |false=>simp only [Qf,Qj,YN,e2,e3,edZ,hn,hg,Da,DT,B0]
    |true=>
     cases hq:ilt (Qc Qg) 3 with
     |false=>simp only [Qf,Qj,YN,e2,e3,edZ,hn,hg,hq,Da,Bool.and_false,B0]
     |true=>
      have hl3:Qg.length<3:=by have:=BJ hq;simp only [Qc] at this;omega
      have i2:=ih (x71+1) (Qg++[(x8,(x71,()))]) (Qe Qa 3) (by omega) (by omega) (Q1 hd) (by simp only [Bl,Bk];omega)
      rw [i2]
      simp only [Qf,YN,e2,e3,edZ,hn,hg,hq,Da,B2]
 exact key (x70-x71).toNat x71 Qg Qa (by omega) h0 hd hl
theorem Qjv (x4:List ByteArray)(x65 x66:Int)(y2:Estate)(Qb:List Endpoint)(Qg:List Keep)(Qd:List Item)(Qa:Dice)(h:(dOk Qa&&decide (0<=x66/\x66<=x65/\x65<=3/\x4.length<=3/\Qg.length<=3))=true):UH x4 x65 x66 y2 Qb Qg Qd Qa=UI x4 x65 x66 y2 Qb Qg Qd Qa:=by
 simp only [Bb,Ba] at h
 obtain ⟨hd,h0,h1,h2,h3,hl⟩:=h
 have key: ∀ (m:Nat) (x66:Int) (Qg:List Keep) (Qa:Dice),x66+m=x65->0<=x66->dOk Qa=true->Qg.length<=3->UH x4 x65 x66 y2 Qb Qg Qd Qa=UI x4 x65 x66 y2 Qb Qg Qd Qa:=by
  intro m
  induction m with
  |zero=>
   intro x66 Qg Qa e _ _ _
   rw [Vf]
   have:x65=x66:=by omega
   subst this
   simp only [WF,UI,show ilt x65 x65=false from Bp (by omega),Qj,Int.sub_self,BC,edY]
  |succ m ih=>
   intro x66 Qg Qa e h0 hd hl
   rw [Vf]
   have e1:Qh .i64 x66 1=x66+1:=JU (by omega)
   have e2:(x65-x66).toNat=m+1:=by omega
   have e3:(x65-(x66+1)).toNat=m:=by omega
   have e4:(Qc x4-0).toNat=x4.length:=by simp only [Qc];omega
   have hz:=Fe x4.length x66 0 Qg Qa hd hl
   simp only [WF,show ilt x66 x65=true from Be (by omega),Qf,e1,e4,hd,By]
   refine brY (Be (by simp only [Qc];omega)) ?_
   rw [ih (x66+1) _ _ (by omega) (by omega) hz.1 hz.2]
   simp only [UI,e2,e3,edY]
 exact key (x65-x66).toNat x66 Qg Qa (by omega) h0 hd hl
theorem Qjw (x10:Int)(y2:Estate)(y3_1:List Keep)(Qb:List Endpoint)(Qd:List Item)(Qa:Dice)(h:(dOk Qa&&decide (0<=x10/\x10<=3/\Qd.length+x10.toNat<=100))=true):UJ x10 y2 y3_1 Qb Qd Qa=UK x10 y2 y3_1 Qb Qd Qa:=by
 simp only [Bb,Ba] at h
 obtain ⟨hd,h0,h1,hl⟩:=h
 obtain ⟨n,rfl⟩:=Bu h0
 rw [Bd] at hl
 have key: ∀ (n:Nat) (Qd:List Item) (Qa:Dice),dOk Qa=true->Qd.length+n<=100->UJ (n:Int) y2 y3_1 Qb Qd Qa=UK (n:Int) y2 y3_1 Qb Qd Qa:=by
  intro n
  induction n with
  |zero=>
   intro Qd Qa _ _
   rw [Vg]
   simp only [WG,UK,show igt ((0:Nat):Int) 0=false from rfl,Qj,Bd,itZ,BP]
  |succ n ih=>
   intro Qd Qa hd hl
   rw [Vg]
   have e2:Qs .i64 ((n+1:Nat):Int) 1=(n:Int):=(J5 (by omega)).trans (by omega)
   have c1:Xv Qa sIt=true:=by simp [Xv,hd]
   have c2:Ue (Y7 Qa sIt) (ZH Qa sIt)=true:=Ff hd
   have c3: ∀ v,Qx Qd [v] 64=true:=fun v=>JE (by omega) (by simp only [Bk];omega)
   simp only [WG,show igt ((n+1:Nat):Int) 0=true from Be (by omega),Qf,e2,c1,c2,c3]
   refine Eq.trans (ih _ _ (QaQ (s:=ZH Qa sIt) (Ff hd)) (by simp only [Bl,Bk];omega)) ?_
   simp only [UK,Bd,itZ,BN,BM]
 exact key n Qd Qa hd (by omega)
theorem Qjx:LO JY Gq ED 0:=QN (s:=UC) fun x y h _ q=>by simp only [QK,QL] at q;exact (Qjt x.2.2.2.1 x.2.2.2.2.1 x.2.2.2.2.2.1 x.2.2.2.2.2.2.1 y.1 y.2.2.2.2.2.2.1 y.2.2.2.2.2.2.2.1 y.2.2.2.2.2.2.2.2.1 y.2.2.2.2.2.2.2.2.2.1 h).trans q
theorem Qjy:LO JY Gr EE 1:=QN (s:=UD) fun x y h _ q=>by simp only [QK,QL] at q;exact (Qju x.2.2.2.1 x.2.2.2.2.1 x.2.2.2.2.2.1 x.2.2.2.2.2.2.1 x.2.2.2.2.2.2.2.1 x.2.2.2.2.2.2.2.2.1 y.1 y.2.2.2.2.2.2.1 y.2.2.2.2.2.2.2.1 y.2.2.2.2.2.2.2.2.1 y.2.2.2.2.2.2.2.2.2.1 h).trans q
theorem Qjz:LO JY Gs EF 2:=QN (s:=UE) fun x y h _ q=>by simp only [QK,QL] at q;exact (Qjv x.2.2.2.1 x.2.2.2.2.1 x.2.2.2.2.2.1 y.1 y.2.2.2.2.2.2.1 y.2.2.2.2.2.2.2.1 y.2.2.2.2.2.2.2.2.1 y.2.2.2.2.2.2.2.2.2.1 h).trans q
theorem QjA:LO JY Gt EG 3:=QN (s:=UF) fun x y h _ q=>by simp only [QK,QL] at q;exact (Qjw x.2.2.2.1 y.1 y.2.1.2.1 y.2.2.2.2.2.2.1 y.2.2.2.2.2.2.2.2.1 y.2.2.2.2.2.2.2.2.2.1 h).trans q
theorem QjB:Yl.lok JY:=by
 repeat (first|exact trivial|exact Qjx|exact Qjy|exact Qjz|exact QjA|refine ⟨?_, ?_⟩)
set_option maxRecDepth 100000 in
theorem QjC (d:Dice)(h:dOk d=true):Fj d=some (.t Qr (JB d),[.box (.t QF (ZO d))]):=by
 have hv:=JC (d:=d) (n:=2) (by omega)
 have e:Qh .i64 2 (Ql d 2)=2+Ql d 2:=JU (by omega)
 have c1:QG d 2=true:=YF h (by omega)
 have hn:=Vb d
 have hd:=Q1 (n:=2) h
 have hz:=QcE (Jo d) 0 (Qe d 2) hd
 have hy:=QcF (Jo d).length (Jo d).length 0 [] _ hz (B3 _)
 have hy1:dOk (JF d).2=true:=hy.1
 have hv3:=JC (d:=(JF d).2) (n:=3) (by omega)
 simp only [Fj,show lsl X6 0 (Qh .i64 2 (Ql d 2))=Jo d from rfl,BS,BC,BF,Int.sub_zero,show (Qc (Jo d)).toNat=(Jo d).length by simp only [Qc];omega]
 simp only [show edY (Jo d).length (Jo d).length 0 [] (Zc (Jo d) 0 (Qe d 2)).2=JF d from rfl]
 refine brY c1 (brY (Be (by rw [e];refine ⟨by omega,by omega, ?_, ?_⟩<;>simp<;>omega)) (brY ?_ (brY ?_ ?_)))
 ·rw [JS (by omega),hd,hn.2.2]
  rfl
 ·rw [hz]
  exact Be (by simp only [Qc,BG];omega)
 ·have c2:QG (JF d).2 3=true:=YF hy1 (by omega)
  have c3:(dOk (Qe (JF d).2 3)&&decide (0<=Ql (JF d).2 3/\Ql (JF d).2 3<=3/\([]:List Item).length+(Ql (JF d).2 3).toNat<=100))=true:=by
   rw [Q1 hy1,Be (by simp only [BG];omega)]
   rfl
  cases hq:ieq (Qc (JF d).1) 0 with
  |true=>
   rw [Qf]
   refine brY c2 (brY c3 ?_)
   unfold JB UB
   rw [hq]
   rfl
  |false=>
   rw [Qj]
   refine brY c2 (brY c3 ?_)
   unfold JB UB
   rw [hq]
   rfl
def QcI:Ent:=Gi QF .nil (fun d x=>(dOk d)) (fun d x=>(.t Qr (JB d))) (fun d x=>(ZO d))
theorem Qta:Qp Tryz.prog 47 (Qq QcI):=El (R:=QP JY Yl Fh false) (mG Tryz.func47 (by kernel_rfl) Tryz.ntmps47 (by kernel_rfl) Qjs QjB) rfl fun d x hok=>(Qjr d).trans (QjC d hok)
end
end Go.Proofs.YthlcobdnemhcdaaGreat.K
noncomputable section
namespace Go.Proofs.YthlcobdnemhcdaaGreat.K.SO
open Go.RowKit
noncomputable section
def QEi:List DO:=dT Tryz.f47 6
def QEj:List DO:=dT Tryz.f47 26
abbrev UC:Sh:=⟨[(0,.ptr 50000 0),(2,.ptr 2 0),(3,.ptr 3 0),(4,.ty (.sl .str)),(16,.ty (.sl .str)),(17,.ty tI),(18,.ty tI)],[(2,.box Qr),(3,.bag [.ms 20300,.ms 20301,.ms 20302]),(61,.no),(94,.no),(103,.no),(119,.no),(20300,.arr 111 QJ),(20301,.arr 113 Qi),(20302,.arr 62 Qm),(50000,.box QF)]⟩
abbrev Qjj:Sh:=⟨[(0,.ptr 50000 0),(2,.ptr 2 0),(3,.ptr 3 0),(4,.ty (.sl .str))],[(2,.box Qr),(3,.bag [.ms 20300,.ms 20301,.ms 20302]),(61,.no),(94,.no),(103,.no),(119,.no),(20300,.arr 111 QJ),(20301,.arr 113 Qi),(20302,.arr 62 Qm),(50000,.box QF)]⟩
abbrev UD:Sh:=⟨[(0,.ptr 50000 0),(2,.ptr 2 0),(3,.ptr 3 0),(4,.ty (.sl .str)),(8,.ty tI),(65,.ty tI),(66,.ty tI),(70,.ty tI),(71,.ty tI)],[(2,.box Qr),(3,.bag [.ms 20300,.ms 20301,.ms 20302]),(61,.no),(94,.no),(103,.no),(119,.no),(20300,.arr 111 QJ),(20301,.arr 113 Qi),(20302,.arr 62 Qm),(50000,.box QF)]⟩
abbrev UE:Sh:=⟨[(0,.ptr 50000 0),(2,.ptr 2 0),(3,.ptr 3 0),(4,.ty (.sl .str)),(65,.ty tI),(66,.ty tI)],[(2,.box Qr),(3,.bag [.ms 20300,.ms 20301,.ms 20302]),(61,.no),(94,.no),(103,.no),(119,.no),(20300,.arr 111 QJ),(20301,.arr 113 Qi),(20302,.arr 62 Qm),(50000,.box QF)]⟩
abbrev Qjk:Sh:=⟨[(0,.ptr 50000 0),(2,.ptr 2 0),(3,.ptr 3 0)],[(2,.box Qr),(3,.bag [.ms 20300,.ms 20301,.ms 20302]),(61,.no),(94,.no),(103,.no),(119,.no),(20300,.arr 111 QJ),(20301,.arr 113 Qi),(20302,.arr 62 Qm),(50000,.box QF)]⟩
abbrev UF:Sh:=⟨[(0,.ptr 50000 0),(2,.ptr 2 0),(3,.ptr 3 0),(10,.ty tI)],[(2,.box Qr),(3,.bag [.ms 20300,.ty (.sl Qi),.ms 20302]),(61,.no),(94,.no),(103,.no),(119,.no),(20300,.arr 111 QJ),(20301,.no),(20302,.arr 62 Qm),(50000,.box QF)]⟩
abbrev Qjl:Sh:=⟨[(2,.ptr 2 0),(3,.ptr 3 0)],[(2,.box Qr),(3,.bag [.ms 20300,.ty (.sl Qi),.ms 20302]),(61,.no),(94,.no),(103,.no),(119,.no),(20300,.arr 111 QJ),(20301,.no),(20302,.arr 62 Qm),(50000,.box QF)]⟩
def Gq:Fg:=UC.f
def Gr:Fg:=UD.f
def Gs:Fg:=UE.f
def Gt:Fg:=UF.f
def Yl:TC:=aF Tryz.f47 [(122,.nf 3 2 62 20302),(122,.nf 3 1 113 20301),(122,.nf 3 0 111 20300),(122,.nf 7 3 3 20703),(122,pL 0 Gq),(1957,.fg ⟨[(0,none),(2,none),(3,none),(4,some (.sl .str))],[(2,some Qr),(3,some Qr),(61,none),(94,none),(103,none),(119,none),(20300,none),(20301,none),(20302,none),(50000,some QF)]⟩),(15666,pD [(0,[]),(1,[50000]),(2,[]),(3,[26,5026,10026,15026,50000]),(4,[]),(5,[]),(6,[]),(7,[]),(8,[50000]),(9,[32,5032,10032,15032,50000]),(10,[]),(11,[]),(12,[50000]),(13,[36,5036,10036,15036,50000]),(14,[]),(15,[]),(16,[50000]),(17,[40,5040,10040,15040,50000]),(18,[]),(19,[7,5007,10007,15007]),(20,[7,45,48,20703])] (.one 0 (.one 1 (.one 2 (.one 4 (.one 5 (.one 6 (.one 7 (.one 8 (.one 12 (.one 14 (.one 15 (.one 16 (.alt 3 (.alt 9 (.one 10 (.one 11 (.alt 13 (.alt 17 (.of [18,19,20]) (.of [19,17,18,20])) (.of [19,13,17,18,20])))) (.of [19,9,10,11,13,17,18,20])) (.of [19,3,9,10,11,13,17,18,20]))))))))))))))),(250,.nf 3 2 62 20302),(250,.nf 3 0 111 20300),(250,.nf 3 1 113 20301),(250,pL 2 Gs),(4005,.fg ⟨[(0,none),(2,none),(3,none)],[(2,some Qr),(3,some Qr),(61,none),(94,none),(103,none),(119,none),(20300,none),(20301,none),(20302,none),(50000,some QF)]⟩),(64102,.nf 3 2 62 20302),(64102,.nf 3 0 111 20300),(64102,.nf 3 1 113 20301),(64102,pL 1 Gr),(1025637,.fg ⟨[(0,none),(2,none),(3,none),(4,some (.sl .str)),(65,some tI),(66,some tI)],[(2,some Qr),(3,some Qr),(61,none),(94,none),(103,none),(119,none),(20300,none),(20301,none),(20302,none),(50000,some QF)]⟩),(1018,.fz [20301,103]),(1018,.nf 3 1 113 20301),(1018,.nf 3 0 111 20300),(1018,.nf 3 2 62 20302),(1018,pL 3 Gt),(16291,.fg ⟨[(2,none),(3,none)],[(2,some Qr),(3,some Qr),(61,none),(94,none),(103,none),(119,none),(20300,none),(20301,none),(20302,none),(50000,some QF)]⟩),(16292,pD [(0,[3,61,94,103,119,20300,20301,20302]),(1,[3,61,94,103,119,20300,20301,20302]),(2,[50000]),(3,[50000]),(4,[]),(5,[116,5116,10116,15116,50000]),(6,[117,5117,10117,15117,50000]),(7,[]),(8,[2,3,61,94,103,119,5119,10119,15119,20300,20301,20302]),(9,[3,61,94,103,119,20300,20301,20302]),(10,[2,3,61,94,103,119,20300,20301,20302])] (.of [0,1,2,3,4,5,6,7,8,9,10]))]
def ED:TC:=lb 0 Yl
def EE:TC:=lb 1 Yl
def EF:TC:=lb 2 Yl
def EG:TC:=lb 3 Yl
def Fh:List (RV×Option Ty):=[((.c 2 true 3),none)]
def Fi (x4 x16:List ByteArray)(x17 x18:Int)(y2:Estate)(Qb:List Endpoint)(Qg:List Keep)(Qd:List Item)(Qa:Dice):VS:=UC.st ((),(),(),x4,x16,x17,x18,()) (y2,((),(),(),()),(),(),(),(),Qb,Qg,Qd,Qa,())
def Gu (x4:List ByteArray)(y2:Estate)(Qb:List Endpoint)(Qg:List Keep)(Qd:List Item)(Qa:Dice):VS:=Qjj.st ((),(),(),x4,()) (y2,((),(),(),()),(),(),(),(),Qb,Qg,Qd,Qa,())
def UG (x4:List ByteArray)(x8 x65 x66 x70 x71:Int)(y2:Estate)(Qb:List Endpoint)(Qg:List Keep)(Qd:List Item)(Qa:Dice):VS:=UD.st ((),(),(),x4,x8,x65,x66,x70,x71,()) (y2,((),(),(),()),(),(),(),(),Qb,Qg,Qd,Qa,())
def Xk (x4:List ByteArray)(x65 x66:Int)(y2:Estate)(Qb:List Endpoint)(Qg:List Keep)(Qd:List Item)(Qa:Dice):VS:=UE.st ((),(),(),x4,x65,x66,()) (y2,((),(),(),()),(),(),(),(),Qb,Qg,Qd,Qa,())
def Gv (y2:Estate)(Qb:List Endpoint)(Qg:List Keep)(Qd:List Item)(Qa:Dice):VS:=Qjk.st ((),(),(),()) (y2,((),(),(),()),(),(),(),(),Qb,Qg,Qd,Qa,())
def EH (x10:Int)(y2:Estate)(y3_1:List Keep)(Qb:List Endpoint)(Qd:List Item)(Qa:Dice):VS:=UF.st ((),(),(),x10,()) (y2,((),y3_1,(),()),(),(),(),(),Qb,(),Qd,Qa,())
def Gw (y2:Estate)(y3_1:List Keep)(Qb:List Endpoint)(Qd:List Item)(Qa:Dice):VS:=Qjl.st ((),(),()) (y2,((),y3_1,(),()),(),(),(),(),Qb,(),Qd,Qa,())
def Qjm:VS->Option (Bool×List (Bool×Exit×VS)):=mkL UC (fun x y=>(Qy x.2.2.2.2.1 x.2.2.2.2.2.1 x.2.2.2.2.2.2.1&&(dOk y.2.2.2.2.2.2.2.2.2.1&&(decide (y.2.2.2.2.2.2.1.length<=x.2.2.2.2.2.2.1)&&x.2.2.2.2.1.all nm1)))) (fun x y=>[(true,.exit 0,Gu (x.2.2.2.1) (y.1) (y.2.2.2.2.2.2.1++(Zc (x.2.2.2.2.1.drop x.2.2.2.2.2.2.1.toNat) x.2.2.2.2.2.2.1.toNat y.2.2.2.2.2.2.2.2.2.1).1) (y.2.2.2.2.2.2.2.1) (y.2.2.2.2.2.2.2.2.1) ((Zc (x.2.2.2.2.1.drop x.2.2.2.2.2.2.1.toNat) x.2.2.2.2.2.2.1.toNat y.2.2.2.2.2.2.2.2.2.1).2))])
def Qjn:VS->Option (Bool×List (Bool×Exit×VS)):=mkL UD (fun x y=>(dOk y.2.2.2.2.2.2.2.2.2.1&&decide (0<=x.2.2.2.2.2.2.2.2.1/\x.2.2.2.2.2.2.2.2.1<=x.2.2.2.2.2.2.2.1/\x.2.2.2.2.2.2.2.1<=3/\y.2.2.2.2.2.2.2.1.length<=3))) (fun x y=>[(true,.exit 4,Xk (x.2.2.2.1) (x.2.2.2.2.2.1) (x.2.2.2.2.2.2.1) (y.1) (y.2.2.2.2.2.2.1) ((edZ (x.2.2.2.2.2.2.2.1-x.2.2.2.2.2.2.2.2.1).toNat x.2.2.2.2.1 x.2.2.2.2.2.2.2.2.1 y.2.2.2.2.2.2.2.1 y.2.2.2.2.2.2.2.2.2.1).1) (y.2.2.2.2.2.2.2.2.1) ((edZ (x.2.2.2.2.2.2.2.1-x.2.2.2.2.2.2.2.2.1).toNat x.2.2.2.2.1 x.2.2.2.2.2.2.2.2.1 y.2.2.2.2.2.2.2.1 y.2.2.2.2.2.2.2.2.2.1).2))])
def Qjo:VS->Option (Bool×List (Bool×Exit×VS)):=mkL UE (fun x y=>(dOk y.2.2.2.2.2.2.2.2.2.1&&decide (0<=x.2.2.2.2.2.1/\x.2.2.2.2.2.1<=x.2.2.2.2.1/\x.2.2.2.2.1<=3/\x.2.2.2.1.length<=3/\y.2.2.2.2.2.2.2.1.length<=3))) (fun x y=>[(true,.exit 2,Gv (y.1) (y.2.2.2.2.2.2.1) ((edY (x.2.2.2.2.1-x.2.2.2.2.2.1).toNat x.2.2.2.1.length x.2.2.2.2.2.1 y.2.2.2.2.2.2.2.1 y.2.2.2.2.2.2.2.2.2.1).1) (y.2.2.2.2.2.2.2.2.1) ((edY (x.2.2.2.2.1-x.2.2.2.2.2.1).toNat x.2.2.2.1.length x.2.2.2.2.2.1 y.2.2.2.2.2.2.2.1 y.2.2.2.2.2.2.2.2.2.1).2))])
def Qjp:VS->Option (Bool×List (Bool×Exit×VS)):=mkL UF (fun x y=>(dOk y.2.2.2.2.2.2.2.2.2.1&&decide (0<=x.2.2.2.1/\x.2.2.2.1<=3/\y.2.2.2.2.2.2.2.2.1.length+x.2.2.2.1.toNat<=100))) (fun x y=>[(true,.exit 6,Gw (y.1) (y.2.1.2.1) (y.2.2.2.2.2.2.1) (y.2.2.2.2.2.2.2.2.1++(itZ x.2.2.2.1.toNat y.2.2.2.2.2.2.2.2.2.1).1) ((itZ x.2.2.2.1.toNat y.2.2.2.2.2.2.2.2.2.1).2))])
def JY:G:=⟨TYs,[45,103],122,EL [(32,U1),(35,Qfb),(48,QaS),(49,Qd6),(50,IA),(87,Qgp),(88,Qgo)],keeps,(Ls [Qjm,Qjn,Qjo,Qjp]),IL [],RL []⟩
def XI (x4 x16:List ByteArray)(x17 x18:Int)(y2:Estate)(Qb:List Endpoint)(Qg:List Keep)(Qd:List Item)(Qa:Dice):OX:=QA (QC JY Gq ED) (Fi x4 x16 x17 x18 y2 Qb Qg Qd Qa)
def YL (kk:List ByteArray->List ByteArray->Int->Int->Estate->List Endpoint->List Keep->List Item->Dice->OX)(x4 x16:List ByteArray)(x17 x18:Int)(y2:Estate)(Qb:List Endpoint)(Qg:List Keep)(Qd:List Item)(Qa:Dice):OX:=
 let a5:=lgt .str x16 (Int.toNat x18)
 let a1:=Zl a5 JA (Qh .i64 100 x18) 1 901
 let a2:=(lgt (.sl tI) ([[10,8,2],[8,2],[2,10,8,3]]) (Int.toNat (Ql (Qu Qa ([3,3,4])) 3)))
 let a3:=(Qe (Qu Qa ([3,3,4])) 3)
 let a4:=((done a3 2),([(((a1.1).1,(((a1.1).2).1,())),((a1.2).1,(((a1.2).2).1,())))],([1],([2,3],((done (Qe a3 2) 3),())))))
 let a6:=(dof Qa ([3,3,4]))
 let a7:=Uf a5 JA (Qh .i64 100 x18) 1 901
 br (Jm (Qe a3 2) 3) (br (ieq a6 4) (br (Qx ([14]) a2 8) (br a7 (br (Qx Qb ([(a5,(1,(a6,((([14])++a2),a4))))]) 144) (kk x4 x16 x17 (Qh .i64 x18 1) y2 (Qb++([(a5,(1,(a6,((([14])++a2),a4))))])) Qg Qd (Qe (Qe a3 2) 3)) none) none) none) (br a7 (br (Qx Qb ([(a5,(1,(a6,(a2,a4))))]) 144) (kk x4 x16 x17 (Qh .i64 x18 1) y2 (Qb++([(a5,(1,(a6,(a2,a4))))])) Qg Qd (Qe (Qe a3 2) 3)) none) none)) none
def Xl (kk:List ByteArray->List ByteArray->Int->Int->Estate->List Endpoint->List Keep->List Item->Dice->OX)(x4 x16:List ByteArray)(x17 x18:Int)(y2:Estate)(Qb:List Endpoint)(Qg:List Keep)(Qd:List Item)(Qa:Dice):OX:=br (Jm (Qe (Qu Qa ([3,3,4])) 3) 2) (YL kk x4 x16 x17 x18 y2 Qb Qg Qd Qa) none
def Xm (kk:List ByteArray->List ByteArray->Int->Int->Estate->List Endpoint->List Keep->List Item->Dice->OX)(x4 x16:List ByteArray)(x17 x18:Int)(y2:Estate)(Qb:List Endpoint)(Qg:List Keep)(Qd:List Item)(Qa:Dice):OX:=
 let a1:=(Qu Qa ([3,3,4]))
 br (QG a1 3) (br (cIx ([[10,8,2],[8,2],[2,10,8,3]]) (Ql a1 3)) (Xl kk x4 x16 x17 x18 y2 Qb Qg Qd Qa) none) none
def XJ (kk:List ByteArray->List ByteArray->Int->Int->Estate->List Endpoint->List Keep->List Item->Dice->OX)(x4 x16:List ByteArray)(x17 x18:Int)(y2:Estate)(Qb:List Endpoint)(Qg:List Keep)(Qd:List Item)(Qa:Dice):OX:=
 let a1:=(Qu Qa ([3,3,4]))
 let a2:=(Jc Qa ([3,3,4]))
 br (ilt x18 x17) (br (cIx x16 x18) (frk (br a2 (frk (br (QG a1 3) (br (cIx ([[10,8,2],[8,2],[2,10,8,3]]) (Ql a1 3)) (frk (br (Jm (Qe a1 3) 2) (frk (YL kk x4 x16 x17 x18 y2 Qb Qg Qd Qa) (YL kk x4 x16 x17 x18 y2 Qb Qg Qd Qa)) none) (Xl kk x4 x16 x17 x18 y2 Qb Qg Qd Qa)) none) none) (Xm kk x4 x16 x17 x18 y2 Qb Qg Qd Qa)) none) (br a2 (Xm kk x4 x16 x17 x18 y2 Qb Qg Qd Qa) none)) none) (some (.exit 0,Gu x4 y2 Qb Qg Qd Qa))
def YM (x4 x16:List ByteArray)(x17 x18:Int)(y2:Estate)(Qb:List Endpoint)(Qg:List Keep)(Qd:List Item)(Qa:Dice):OX:=
 let a1:=Zc (x16.drop x18.toNat) x18.toNat Qa
 some (.exit 0,Gu (x4) (y2) (Qb++a1.1) (Qg) (Qd) (a1.2))
theorem Vd (x4 x16:List ByteArray)(x17 x18:Int)(y2:Estate)(Qb:List Endpoint)(Qg:List Keep)(Qd:List Item)(Qa:Dice):XI x4 x16 x17 x18 y2 Qb Qg Qd Qa=XJ XI x4 x16 x17 x18 y2 Qb Qg Qd Qa:=lnT (x:=XJ (fun x4 x16 x17 x18 y2 Qb Qg Qd Qa=>some (.normal,Fi x4 x16 x17 x18 y2 Qb Qg Qd Qa)) x4 x16 x17 x18 y2 Qb Qg Qd Qa) (by
 first
 |(simp only [JM,XJ,YL,Xl,Xm,JM,YJ,YY,YZ,Y0,Y2]
   rfl)
 |(simp only [JM,XJ,YL,Xl,Xm,JM]
   try generalize (Qx Qb ([((lgt .str x16 (Int.toNat x18)),(1,((dof Qa ([3,3,4])),((([14])++(lgt (.sl tI) ([[10,8,2],[8,2],[2,10,8,3]]) (Int.toNat (Ql (Qu Qa ([3,3,4])) 3)))),((done (Qe (Qu Qa ([3,3,4])) 3) 2),([((((Zl (lgt .str x16 (Int.toNat x18)) JA (Qh .i64 100 x18) 1 901).1).1,((((Zl (lgt .str x16 (Int.toNat x18)) JA (Qh .i64 100 x18) 1 901).1).2).1,())),(((Zl (lgt .str x16 (Int.toNat x18)) JA (Qh .i64 100 x18) 1 901).2).1,((((Zl (lgt .str x16 (Int.toNat x18)) JA (Qh .i64 100 x18) 1 901).2).2).1,())))],([1],([2,3],((done (Qe (Qe (Qu Qa ([3,3,4])) 3) 2) 3),())))))))))]) 144)=cq0
   try generalize ((Uf (lgt .str x16 (Int.toNat x18)) JA (Qh .i64 100 x18) 1 901))=cq1
   try generalize (Qx ([14]) (lgt (.sl tI) ([[10,8,2],[8,2],[2,10,8,3]]) (Int.toNat (Ql (Qu Qa ([3,3,4])) 3))) 8)=cq2
   try generalize (Qx Qb ([((lgt .str x16 (Int.toNat x18)),(1,((dof Qa ([3,3,4])),((lgt (.sl tI) ([[10,8,2],[8,2],[2,10,8,3]]) (Int.toNat (Ql (Qu Qa ([3,3,4])) 3))),((done (Qe (Qu Qa ([3,3,4])) 3) 2),([((((Zl (lgt .str x16 (Int.toNat x18)) JA (Qh .i64 100 x18) 1 901).1).1,((((Zl (lgt .str x16 (Int.toNat x18)) JA (Qh .i64 100 x18) 1 901).1).2).1,())),(((Zl (lgt .str x16 (Int.toNat x18)) JA (Qh .i64 100 x18) 1 901).2).1,((((Zl (lgt .str x16 (Int.toNat x18)) JA (Qh .i64 100 x18) 1 901).2).2).1,())))],([1],([2,3],((done (Qe (Qe (Qu Qa ([3,3,4])) 3) 2) 3),())))))))))]) 144)=cq3
   try generalize ((Jm (Qe (Qe (Qu Qa ([3,3,4])) 3) 2) 3))=cq4
   try generalize ((Jm (Qe (Qu Qa ([3,3,4])) 3) 2))=cq5
   try generalize (cIx ([[10,8,2],[8,2],[2,10,8,3]]) (Ql (Qu Qa ([3,3,4])) 3))=cq6
   try generalize ((QG (Qu Qa ([3,3,4])) 3))=cq7
   try generalize ((Jc Qa ([3,3,4])))=cq8
   try generalize (cIx x16 x18)=cq9
   simp only [brN,JM,Bool.and_assoc,Bool.and_comm,Bool.and_left_comm,B2,Bool.and_self_left,YJ,YY,YZ,Y0,Y2]
   try rfl))
def XK (x4:List ByteArray)(x8 x65 x66 x70 x71:Int)(y2:Estate)(Qb:List Endpoint)(Qg:List Keep)(Qd:List Item)(Qa:Dice):OX:=QA (QC JY Gr EE) (UG x4 x8 x65 x66 x70 x71 y2 Qb Qg Qd Qa)
def WE (kk:List ByteArray->Int->Int->Int->Int->Int->Estate->List Endpoint->List Keep->List Item->Dice->OX)(x4:List ByteArray)(x8 x65 x66 x70 x71:Int)(y2:Estate)(Qb:List Endpoint)(Qg:List Keep)(Qd:List Item)(Qa:Dice):OX:=
 let a1:=Qh .i64 x71 1
 let a2:=Qe Qa 3
 br (ilt x71 x70) (br (ine x8 x71) (br (QG Qa 3) (br (igt (Ql Qa 3) 0) (br (ilt (Qc Qg) 3) (br (Qx Qg ([(x8,(x71,()))]) 16) (kk x4 x8 x65 x66 x70 a1 y2 Qb (Qg++([(x8,(x71,()))])) Qd a2) none) (kk x4 x8 x65 x66 x70 a1 y2 Qb Qg Qd a2)) (kk x4 x8 x65 x66 x70 a1 y2 Qb Qg Qd a2)) none) (kk x4 x8 x65 x66 x70 a1 y2 Qb Qg Qd Qa)) (some (.exit 4,Xk x4 x65 x66 y2 Qb Qg Qd Qa))
def YN (x4:List ByteArray)(x8 x65 x66 x70 x71:Int)(y2:Estate)(Qb:List Endpoint)(Qg:List Keep)(Qd:List Item)(Qa:Dice):OX:=
 let a1:=edZ (x70-x71).toNat x8 x71 Qg Qa
 some (.exit 4,Xk (x4) (x65) (x66) (y2) (Qb) (a1.1) (Qd) (a1.2))
theorem Ve (x4:List ByteArray)(x8 x65 x66 x70 x71:Int)(y2:Estate)(Qb:List Endpoint)(Qg:List Keep)(Qd:List Item)(Qa:Dice):XK x4 x8 x65 x66 x70 x71 y2 Qb Qg Qd Qa=WE XK x4 x8 x65 x66 x70 x71 y2 Qb Qg Qd Qa:=lnT (x:=WE (fun x4 x8 x65 x66 x70 x71 y2 Qb Qg Qd Qa=>some (.normal,UG x4 x8 x65 x66 x70 x71 y2 Qb Qg Qd Qa)) x4 x8 x65 x66 x70 x71 y2 Qb Qg Qd Qa) (by simp only [WE,nxA];rfl)
def UH (x4:List ByteArray)(x65 x66:Int)(y2:Estate)(Qb:List Endpoint)(Qg:List Keep)(Qd:List Item)(Qa:Dice):OX:=QA (QC JY Gs EF) (Xk x4 x65 x66 y2 Qb Qg Qd Qa)
def WF (kk:List ByteArray->Int->Int->Estate->List Endpoint->List Keep->List Item->Dice->OX)(x4:List ByteArray)(x65 x66:Int)(y2:Estate)(Qb:List Endpoint)(Qg:List Keep)(Qd:List Item)(Qa:Dice):OX:=
 let a1:=(edZ ((Qc x4)-(0:Int)).toNat x66 (0:Int) Qg Qa)
 br (ilt x66 x65) (br (dOk Qa&&decide (0<=(0:Int)/\(0:Int)<=(Qc x4)/\(Qc x4)<=3/\Qg.length<=3)) (kk (x4) (x65) (Qh .i64 (x66) 1) (y2) (Qb) (a1.1) (Qd) (a1.2)) none) (some (.exit 2,Gv y2 Qb Qg Qd Qa))
def UI (x4:List ByteArray)(x65 x66:Int)(y2:Estate)(Qb:List Endpoint)(Qg:List Keep)(Qd:List Item)(Qa:Dice):OX:=
 let a1:=edY (x65-x66).toNat x4.length x66 Qg Qa
 some (.exit 2,Gv (y2) (Qb) (a1.1) (Qd) (a1.2))
theorem Vf (x4:List ByteArray)(x65 x66:Int)(y2:Estate)(Qb:List Endpoint)(Qg:List Keep)(Qd:List Item)(Qa:Dice):UH x4 x65 x66 y2 Qb Qg Qd Qa=WF UH x4 x65 x66 y2 Qb Qg Qd Qa:=lnT (x:=WF (fun x4 x65 x66 y2 Qb Qg Qd Qa=>some (.normal,Xk x4 x65 x66 y2 Qb Qg Qd Qa)) x4 x65 x66 y2 Qb Qg Qd Qa) (by simp only [WF,nxA];rfl)
def UJ (x10:Int)(y2:Estate)(y3_1:List Keep)(Qb:List Endpoint)(Qd:List Item)(Qa:Dice):OX:=QA (QC JY Gt EG) (EH x10 y2 y3_1 Qb Qd Qa)
def WG (kk:Int->Estate->List Keep->List Endpoint->List Item->Dice->OX)(x10:Int)(y2:Estate)(y3_1:List Keep)(Qb:List Endpoint)(Qd:List Item)(Qa:Dice):OX:=
 let a2:=(ByteArray.mk #[98,97,99,107,117,112])
 let a3:=(ByteArray.mk #[100,101,101,100])
 let a5:=(Y7 Qa ([a2,a3]))
 let a6:=(ZH Qa ([a2,a3]))
 let a1:=XU a5 a6
 let a4:=((a1.2).1,(((a1.2).2).1,((((a1.2).2).2).1,(((((a1.2).2).2).2).1,()))))
 br (igt x10 0) (br (Xv Qa ([a2,a3])) (br (Ue a5 a6) (br (Qx Qd ([(a1.1,a4)]) 64) (kk (Qs .i64 x10 1) y2 y3_1 Qb (Qd++([(a1.1,a4)])) (Wv a5 a6)) none) none) none) (some (.exit 6,Gw y2 y3_1 Qb Qd Qa))
def UK (x10:Int)(y2:Estate)(y3_1:List Keep)(Qb:List Endpoint)(Qd:List Item)(Qa:Dice):OX:=some (.exit 6,Gw (y2) (y3_1) (Qb) (Qd++(itZ x10.toNat Qa).1) ((itZ x10.toNat Qa).2))
theorem Vg (x10:Int)(y2:Estate)(y3_1:List Keep)(Qb:List Endpoint)(Qd:List Item)(Qa:Dice):UJ x10 y2 y3_1 Qb Qd Qa=WG UJ x10 y2 y3_1 Qb Qd Qa:=lnT (x:=WG (fun x10 y2 y3_1 Qb Qd Qa=>some (.normal,EH x10 y2 y3_1 Qb Qd Qa)) x10 y2 y3_1 Qb Qd Qa) (by simp only [WG,nxA];rfl)
def Fj (d0:Dice):OV:=
 let a6:=(ByteArray.mk #[97,112,112])
 let a8:=(ByteArray.mk #[100,98])
 let a7:=(ByteArray.mk #[119,101,98])
 let a2:=(lsl ([a6,a8,a7]) 0 (Qh .i64 2 (Ql d0 2)))
 let a5:=(Zc (a2.drop (0:Int).toNat) (0:Int).toNat (Qe d0 2))
 let a1:=(edY ((Qc a2)-(0:Int)).toNat a2.length (0:Int) ([]:List Keep) (a5.2))
 let a3:=(dOk (Qe (a1.2) 3)&&decide (0<=(Ql (a1.2) 3)/\(Ql (a1.2) 3)<=3/\([]:List Item).length+(Ql (a1.2) 3).toNat<=100))
 let a4:=itZ (Ql (a1.2) 3).toNat (Qe (a1.2) 3)
 br (QG d0 2) (br (cSl ([a6,a8,a7]) 0 (Qh .i64 2 (Ql d0 2)) ((List.length ([a6,a8,a7]):Nat):Int)) (br (Qy a2 (Qc a2) (0:Int)&&(dOk (Qe d0 2)&&(decide (([]:List Endpoint).length<=(0:Int))&&a2.all nm1))) (br (dOk (a5.2)&&decide (0<=(0:Int)/\(0:Int)<=(Qc a2)/\(Qc a2)<=3/\a2.length<=3/\([]:List Keep).length<=3)) (br (ieq (Qc (a1.1)) 0) (br (QG (a1.2) 3) (br a3 (some (.ag [(.ms 50001),(.t (.sl Qi) ([(0,(1,()))])),(.ms 50002)],[.box (.t QF (a4.2)),.arr 111 QJ (([]:List Endpoint)++a5.1),.arr 62 Qm (([]:List Item)++a4.1)])) none) none) (br (QG (a1.2) 3) (br a3 (some (.ag [(.ms 50001),(.t (.sl Qi) (a1.1)),(.ms 50002)],[.box (.t QF (a4.2)),.arr 111 QJ (([]:List Endpoint)++a5.1),.arr 62 Qm (([]:List Item)++a4.1)])) none) none)) none) none) none) none
theorem Qjr (d0:Dice):QP JY Yl Fh true [.ptr 50000 0] [.box (.t QF d0)]=Fj d0:=by kernel_rfl
theorem ok_f47:Option.map (trC Tryz.prog) Tryz.f47.body=some Yl.er:=by kernel_rfl
theorem QEo:XV Tryz.prog Tryz.f47.results.toList=some (Fh.map Prod.fst):=by kernel_rfl
theorem Qs9:Q6 Tryz.prog 47:= .inr ⟨by decide,_,Tryz.func47,by kernel_rfl,by kernel_rfl⟩
theorem Qjs:GOk Tryz.prog JY:=Jw _ (gA (gD GT (gD QmM (gD Qgg (gD Qlh (gD Qaf (gD Qo3 (gD Qo2 gN))))))))
theorem Qjt (x4 x16:List ByteArray)(x17 x18:Int)(y2:Estate)(Qb:List Endpoint)(Qg:List Keep)(Qd:List Item)(Qa:Dice)(h:(Qy x16 x17 x18&&(dOk Qa&&(decide (Qb.length<=x18)&&x16.all nm1)))=true):XI x4 x16 x17 x18 y2 Qb Qg Qd Qa=YM x4 x16 x17 x18 y2 Qb Qg Qd Qa:=by
 simp only [Bb,Ba] at h
 obtain ⟨h0,hd,hl,ha⟩:=h
 obtain ⟨rfl,h3,k,rfl,hk⟩:=JR h0
 clear h0
 revert Qb Qa
 refine Q5 x16 (fun k=> ∀ (Qb:List Endpoint) (Qa:Dice),dOk Qa=true->(Qb.length:Int)<=(k:Int)->XI x4 x16 (x16.length:Int) (k:Int) y2 Qb Qg Qd Qa=YM x4 x16 (x16.length:Int) (k:Int) y2 Qb Qg Qd Qa) ?_ ?_ k hk
 ·intro Qb Qa _ _
  rw [Vd]
  simp only [XJ,YL,Xl,Xm,JM,YM,QD,BX,BW,Qj,Bd,B5,Zc,BP]
 ·intro k hk ih Qb Qa hd hl
  rw [Vd]
  have c1:Jc Qa [3,3,4]=true:=Qe8 hd (by decide) (by decide)
  have d1:=XF (l:=[3,3,4]) hd
  have c2:QG (Qu Qa [3,3,4]) 3=true:=YF d1 (by omega)
  have d2:=Q1 (n:=3) d1
  have c3:Jm (Qe (Qu Qa [3,3,4]) 3) 2=true:=Qe9 d2 (by omega) (by omega)
  have c4:Jm (Qe (Qe (Qu Qa [3,3,4]) 3) 2) 3=true:=Qe9 (Q1 d2) (by omega) (by omega)
  have b3:=JC (d:=Qu Qa [3,3,4]) (n:=3) (by omega)
  have c5:cIx ([[10,8,2],[8,2],[2,10,8,3]]:List (List Int)) (Ql (Qu Qa [3,3,4]) 3)=true:=Be ⟨b3.1,b3.2⟩
  have c6:Uf x16[k] JA (Qh .i64 100 (k:Int)) 1 901=true:=Bh.1 ha _ (Bx hk)
  have c7: ∀ v,Qx Qb [v] 144=true:=fun v=>JE (by omega) (by simp only [Bk];omega)
  have b4: ∀ q,(lgt (.sl tI) [[10,8,2],[8,2],[2,10,8,3]] q).length<=4:=fun q=>Qum (by simp) q
  have c8:Qx ([14]:List Int) (lgt (.sl tI) [[10,8,2],[8,2],[2,10,8,3]] (Ql (Qu Qa [3,3,4]) 3).toNat) 8=true:=JE (by decide) (by have:=b4 (Ql (Qu Qa [3,3,4]) 3).toNat;simp only [Bk];omega)
  simp only [XJ,YL,Xl,Xm,JM,QD,QI,hk,Br,Qf,Bd,QW (show k<4611686018427387904 by omega),QO (y:= .str) hk,c1,c2,c3,c4,c6,c7,JM]
  have hi: ∀ v,XI x4 x16 (x16.length:Int) ((k+1:Nat):Int) y2 (Qb++[v]) Qg Qd (XH Qa)=YM x4 x16 (x16.length:Int) ((k+1:Nat):Int) y2 (Qb++[v]) Qg Qd (XH Qa):=fun v=>ih _ _ (Qjh hd) (by simp only [Bl,Bk];omega)
  have goal2:YM x4 x16 (x16.length:Int) ((k+1:Nat):Int) y2 (Qb++[Xj Qa k x16[k]]) Qg Qd (XH Qa)=YM x4 x16 (x16.length:Int) (k:Int) y2 Qb Qg Qd Qa:=by
   simp only [YM,Bd,Bi hk,Zc,BN,BM]
  refine Eq.trans ?_ ((hi _).trans goal2)
  unfold Xj Gp
  refine brY c5 ?_
  cases ieq (dof Qa [3,3,4]) 4 with
  |false=>rfl
  |true=>exact brY rfl (brY c8 rfl)
theorem Qju (x4:List ByteArray)(x8 x65 x66 x70 x71:Int)(y2:Estate)(Qb:List Endpoint)(Qg:List Keep)(Qd:List Item)(Qa:Dice)(h:(dOk Qa&&decide (0<=x71/\x71<=x70/\x70<=3/\Qg.length<=3))=true):XK x4 x8 x65 x66 x70 x71 y2 Qb Qg Qd Qa=YN x4 x8 x65 x66 x70 x71 y2 Qb Qg Qd Qa:=by
 simp only [Bb,Ba] at h
 obtain ⟨hd,h0,h1,h2,hl⟩:=h
 have key: ∀ (m:Nat) (x71:Int) (Qg:List Keep) (Qa:Dice),x71+m=x70->0<=x71->dOk Qa=true->Qg.length<=3->XK x4 x8 x65 x66 x70 x71 y2 Qb Qg Qd Qa=YN x4 x8 x65 x66 x70 x71 y2 Qb Qg Qd Qa:=by
  intro m
  induction m with
  |zero=>
   intro x71 Qg Qa e _ _ _
   rw [Ve]
   have:x70=x71:=by omega
   subst this
   simp only [WE,YN,show ilt x70 x70=false from Bp (by omega),Qj,Int.sub_self,BC,edZ]
  |succ m ih=>
   intro x71 Qg Qa e h0 hd hl
   rw [Ve]
   have c1:QG Qa 3=true:=YF hd (by omega)
   have c2:Qx Qg [(x8,(x71,()))] 16=true:=JE (by omega) (by simp only [Bk];omega)
   have e1:Qh .i64 x71 1=x71+1:=JU (by omega)
   have e2:(x70-x71).toNat=m+1:=by omega
   have e3:(x70-(x71+1)).toNat=m:=by omega
   simp only [WE,show ilt x71 x70=true from Be (by omega),Qf,c1,c2,e1]
   have i0:=ih (x71+1) Qg Qa (by omega) (by omega) hd hl
   have i1:=ih (x71+1) Qg (Qe Qa 3) (by omega) (by omega) (Q1 hd) hl
   rw [i0,i1]
   cases hn:ine x8 x71 with
   |false=>simp only [Qj,YN,e2,e3,edZ,hn,B0]
   |true=>
    cases hg:igt (Ql Qa 3) 0 with
    |false=>simp only [Qf,Qj,YN,e2,e3,edZ,hn,hg,Da,DT,B0]
    |true=>
     cases hq:ilt (Qc Qg) 3 with
     |false=>simp only [Qf,Qj,YN,e2,e3,edZ,hn,hg,hq,Da,Bool.and_false,B0]
     |true=>
      have hl3:Qg.length<3:=by have:=BJ hq;simp only [Qc] at this;omega
      have i2:=ih (x71+1) (Qg++[(x8,(x71,()))]) (Qe Qa 3) (by omega) (by omega) (Q1 hd) (by simp only [Bl,Bk];omega)
      rw [i2]
      simp only [Qf,YN,e2,e3,edZ,hn,hg,hq,Da,B2]
 exact key (x70-x71).toNat x71 Qg Qa (by omega) h0 hd hl
theorem Qjv (x4:List ByteArray)(x65 x66:Int)(y2:Estate)(Qb:List Endpoint)(Qg:List Keep)(Qd:List Item)(Qa:Dice)(h:(dOk Qa&&decide (0<=x66/\x66<=x65/\x65<=3/\x4.length<=3/\Qg.length<=3))=true):UH x4 x65 x66 y2 Qb Qg Qd Qa=UI x4 x65 x66 y2 Qb Qg Qd Qa:=by
 simp only [Bb,Ba] at h
 obtain ⟨hd,h0,h1,h2,h3,hl⟩:=h
 have key: ∀ (m:Nat) (x66:Int) (Qg:List Keep) (Qa:Dice),x66+m=x65->0<=x66->dOk Qa=true->Qg.length<=3->UH x4 x65 x66 y2 Qb Qg Qd Qa=UI x4 x65 x66 y2 Qb Qg Qd Qa:=by
  intro m
  induction m with
  |zero=>
   intro x66 Qg Qa e _ _ _
   rw [Vf]
   have:x65=x66:=by omega
   subst this
   simp only [WF,UI,show ilt x65 x65=false from Bp (by omega),Qj,Int.sub_self,BC,edY]
  |succ m ih=>
   intro x66 Qg Qa e h0 hd hl
   rw [Vf]
   have e1:Qh .i64 x66 1=x66+1:=JU (by omega)
   have e2:(x65-x66).toNat=m+1:=by omega
   have e3:(x65-(x66+1)).toNat=m:=by omega
   have e4:(Qc x4-0).toNat=x4.length:=by simp only [Qc];omega
   have hz:=Fe x4.length x66 0 Qg Qa hd hl
   simp only [WF,show ilt x66 x65=true from Be (by omega),Qf,e1,e4,hd,By]
   refine brY (Be (by simp only [Qc];omega)) ?_
   rw [ih (x66+1) _ _ (by omega) (by omega) hz.1 hz.2]
   simp only [UI,e2,e3,edY]
 exact key (x65-x66).toNat x66 Qg Qa (by omega) h0 hd hl
theorem Qjw (x10:Int)(y2:Estate)(y3_1:List Keep)(Qb:List Endpoint)(Qd:List Item)(Qa:Dice)(h:(dOk Qa&&decide (0<=x10/\x10<=3/\Qd.length+x10.toNat<=100))=true):UJ x10 y2 y3_1 Qb Qd Qa=UK x10 y2 y3_1 Qb Qd Qa:=by
 simp only [Bb,Ba] at h
 obtain ⟨hd,h0,h1,hl⟩:=h
 obtain ⟨n,rfl⟩:=Bu h0
 rw [Bd] at hl
 have key: ∀ (n:Nat) (Qd:List Item) (Qa:Dice),dOk Qa=true->Qd.length+n<=100->UJ (n:Int) y2 y3_1 Qb Qd Qa=UK (n:Int) y2 y3_1 Qb Qd Qa:=by
  intro n
  induction n with
  |zero=>
   intro Qd Qa _ _
   rw [Vg]
   simp only [WG,UK,show igt ((0:Nat):Int) 0=false from rfl,Qj,Bd,itZ,BP]
  |succ n ih=>
   intro Qd Qa hd hl
   rw [Vg]
   have e2:Qs .i64 ((n+1:Nat):Int) 1=(n:Int):=(J5 (by omega)).trans (by omega)
   have c1:Xv Qa sIt=true:=by simp [Xv,hd]
   have c2:Ue (Y7 Qa sIt) (ZH Qa sIt)=true:=Ff hd
   have c3: ∀ v,Qx Qd [v] 64=true:=fun v=>JE (by omega) (by simp only [Bk];omega)
   simp only [WG,show igt ((n+1:Nat):Int) 0=true from Be (by omega),Qf,e2,c1,c2,c3]
   refine Eq.trans (ih _ _ (QaQ (s:=ZH Qa sIt) (Ff hd)) (by simp only [Bl,Bk];omega)) ?_
   simp only [UK,Bd,itZ,BN,BM]
 exact key n Qd Qa hd (by omega)
theorem Qjx:LO JY Gq ED 0:=QN (s:=UC) fun x y h _ q=>by simp only [QK,QL] at q;exact (Qjt x.2.2.2.1 x.2.2.2.2.1 x.2.2.2.2.2.1 x.2.2.2.2.2.2.1 y.1 y.2.2.2.2.2.2.1 y.2.2.2.2.2.2.2.1 y.2.2.2.2.2.2.2.2.1 y.2.2.2.2.2.2.2.2.2.1 h).trans q
theorem Qjy:LO JY Gr EE 1:=QN (s:=UD) fun x y h _ q=>by simp only [QK,QL] at q;exact (Qju x.2.2.2.1 x.2.2.2.2.1 x.2.2.2.2.2.1 x.2.2.2.2.2.2.1 x.2.2.2.2.2.2.2.1 x.2.2.2.2.2.2.2.2.1 y.1 y.2.2.2.2.2.2.1 y.2.2.2.2.2.2.2.1 y.2.2.2.2.2.2.2.2.1 y.2.2.2.2.2.2.2.2.2.1 h).trans q
theorem Qjz:LO JY Gs EF 2:=QN (s:=UE) fun x y h _ q=>by simp only [QK,QL] at q;exact (Qjv x.2.2.2.1 x.2.2.2.2.1 x.2.2.2.2.2.1 y.1 y.2.2.2.2.2.2.1 y.2.2.2.2.2.2.2.1 y.2.2.2.2.2.2.2.2.1 y.2.2.2.2.2.2.2.2.2.1 h).trans q
theorem QjA:LO JY Gt EG 3:=QN (s:=UF) fun x y h _ q=>by simp only [QK,QL] at q;exact (Qjw x.2.2.2.1 y.1 y.2.1.2.1 y.2.2.2.2.2.2.1 y.2.2.2.2.2.2.2.2.1 y.2.2.2.2.2.2.2.2.2.1 h).trans q
theorem QjB:Yl.lok JY:=by
 repeat (first|exact trivial|exact Qjx|exact Qjy|exact Qjz|exact QjA|refine ⟨?_, ?_⟩)
set_option maxRecDepth 100000 in
theorem QjC (d:Dice)(h:dOk d=true):Fj d=some (.ag [.ms 50001,.t (.sl Qi) (JB d).2.1,.ms 50002],[.box (.t QF (ZO d)),.arr 111 QJ (JB d).1,.arr 62 Qm (JB d).2.2.1]):=by
 have hv:=JC (d:=d) (n:=2) (by omega)
 have e:Qh .i64 2 (Ql d 2)=2+Ql d 2:=JU (by omega)
 have c1:QG d 2=true:=YF h (by omega)
 have hn:=Vb d
 have hd:=Q1 (n:=2) h
 have hz:=QcE (Jo d) 0 (Qe d 2) hd
 have hy:=QcF (Jo d).length (Jo d).length 0 [] _ hz (B3 _)
 have hy1:dOk (JF d).2=true:=hy.1
 have hv3:=JC (d:=(JF d).2) (n:=3) (by omega)
 simp only [Fj,show lsl X6 0 (Qh .i64 2 (Ql d 2))=Jo d from rfl,BS,BC,BF,Int.sub_zero,show (Qc (Jo d)).toNat=(Jo d).length by simp only [Qc];omega]
 simp only [show edY (Jo d).length (Jo d).length 0 [] (Zc (Jo d) 0 (Qe d 2)).2=JF d from rfl]
 refine brY c1 (brY (Be (by rw [e];refine ⟨by omega,by omega, ?_, ?_⟩<;>simp<;>omega)) (brY ?_ (brY ?_ ?_)))
 ·rw [JS (by omega),hd,hn.2.2]
  rfl
 ·rw [hz]
  exact Be (by simp only [Qc,BG];omega)
 ·have c2:QG (JF d).2 3=true:=YF hy1 (by omega)
  have c3:(dOk (Qe (JF d).2 3)&&decide (0<=Ql (JF d).2 3/\Ql (JF d).2 3<=3/\([]:List Item).length+(Ql (JF d).2 3).toNat<=100))=true:=by
   rw [Q1 hy1,Be (by simp only [BG];omega)]
   rfl
  cases hq:ieq (Qc (JF d).1) 0 with
  |true=>
   rw [Qf]
   refine brY c2 (brY c3 ?_)
   unfold JB UB
   rw [hq]
   rfl
  |false=>
   rw [Qj]
   refine brY c2 (brY c3 ?_)
   unfold JB UB
   rw [hq]
   rfl
def QcI:Ent:=XD [.ptr 50000 0] [.box QF] (fun x y=>(dOk y.1)) (fun x y=>(.ag [(.ms 50001),(.t (.sl Qi) (((JB y.1).2).1)),(.ms 50002)])) (fun x y=>[.box (.t QF (ZO y.1)),.arr 111 QJ ((JB y.1).1),.arr 62 Qm ((((JB y.1).2).2).1)])
theorem Qta:Qp Tryz.prog 47 (Qq QcI):=XX (R:=QP JY Yl Fh true) (mG Tryz.func47 (by kernel_rfl) Tryz.ntmps47 (by kernel_rfl) Qjs QjB) fun x y hok=>(Qjr y.1).trans (QjC y.1 hok)
end
end Go.Proofs.YthlcobdnemhcdaaGreat.K.SO
noncomputable section
namespace Go.Proofs.YthlcobdnemhcdaaGreat.K
open Go.RowKit
def Ww (r:Rule)(u:Keep)(p:Int):Bool:=(r.Alg==0||r.Alg==u.1)&&(r.Purpose==0||r.Purpose==p)&&(r.Below==0||(decide (u.2.1 > 0)&&decide (u.2.1<r.Below)))
def I8 (r:Rule)(day:Int):Bool:=decide (r.From<=day)&&decide (day<r.To)
def YU (r:Rule)(u:Keep)(p day:Int):Bool:=Ww r u p&&I8 r day
def QBa:TC:=aF Tryz.f152 []
def g_f152:G:=gG 43 [] (fun _ _=>none)
def QgN (p0:Rule)(p1:Keep)(p2:Int):OV:=br (ieq p0.2.2.1 0) (some (.t .bool true,[])) (br (igt p1.2.1 0) (some (.t .bool (ilt p1.2.1 p0.2.2.1),[])) (some (.t .bool false,[])))
def QgO (p0:Rule)(p1:Keep)(p2:Int):OV:=br (ine p0.2.2.2.1 0) (br (ine p0.2.2.2.1 p2) (some (.t .bool false,[])) (QgN p0 p1 p2)) (QgN p0 p1 p2)
def Qpw (p0:Rule)(p1:Keep)(p2:Int):OV:=br (ine p0.2.1 0) (br (ine p0.2.1 p1.1) (some (.t .bool false,[])) (QgO p0 p1 p2)) (QgO p0 p1 p2)
theorem s_f152 (p0:Rule)(p1:Keep)(p2:Int):Qpw p0 p1 p2=some (.t .bool (Ww p0 p1 p2),[]):=by
 simp only [Qpw,QgO,QgN]
 repeat' (refine QV ?_ ?_<;>intro _)
 all_goals (simp_all [Ww,Estate.Endpoints,Estate.Edges,Estate.Items,Policy.Rules,Policy.Keeps,Keep.Alg,Keep.Bits,Link.Use,Link.Day,Job.Item,Job.Link,Item.Name,Item.Kind,Item.Purpose,Item.Links,Item.Until,Rule.Allow,Rule.Alg,Rule.Below,Rule.Purpose,Rule.From,Rule.To,Exception.Use,Exception.Purpose,Exception.Endpoint,Exception.Days,Exception.Seals,Dice.L,Dice.At,Endpoint.Name,Endpoint.Least,Endpoint.Most,Endpoint.Suites,Endpoint.OwnOrder,Endpoint.Identities,Endpoint.Anchors,Endpoint.Hashes,Endpoint.Fallback,Identity.Key,Identity.KeyId,Identity.Chain,Change.Endpoint,Change.Kind,Change.Number,Change.At,Change.Identity,Rules.p,Rules.l,Rules.o,Rules.day,Method.outcome,Method.uses,Certificate.Serial,Certificate.Issuer,Certificate.Subject,Certificate.Key,Certificate.KeyId,Certificate.Hash,Certificate.From,Certificate.To,Certificate.Authority,Certificate.Path,Certificate.Names,Certificate.Seal,LinkX.day,LinkX.fall,LinkX.falls,Suite.Code,Suite.Name,Suite.Exchange,Suite.Sign,Suite.Cipher,Suite.Mac,Suite.Least,Suite.Most,Row.name,Row.kind,Row.way,Row.sizes,Row.strengths,Talk.server,Talk.version,Talk.suites,Symbol.name,Symbol.kind]<;>omega)
def Qpx:Ent:=Qo (.pr QU (.pr Qi (.pr tI .nil))) (fun x=>true) (fun x=>(.t .bool (Ww x.1 x.2.1 x.2.2.1)))
theorem QBb:EM 152 Qpx:=mS g_f152 QBa [((.t 6),some .bool)] false (gB gN) fun m=>Qt m fun x _=>kT (s_f152 x.1 x.2.1 x.2.2.1)
def QBc:TC:=aF Tryz.f160 []
def g_f160:G:=gG 59 [] (fun _ _=>none)
def QgP (p0:Rule)(p1:Keep)(p2 p3:Int):OV:=br (ige p3 p0.2.2.2.2.1) (some (.t .bool (ilt p3 p0.2.2.2.2.2.1),[])) (some (.t .bool false,[]))
def QgQ (p0:Rule)(p1:Keep)(p2 p3:Int):OV:=br (ieq p0.2.2.2.1 0) (QgP p0 p1 p2 p3) (br (ieq p0.2.2.2.1 p2) (QgP p0 p1 p2 p3) (some (.t .bool false,[])))
def QgR (p0:Rule)(p1:Keep)(p2 p3:Int):OV:=br (ieq p0.2.2.1 0) (QgQ p0 p1 p2 p3) (br (igt p1.2.1 0) (br (ilt p1.2.1 p0.2.2.1) (QgQ p0 p1 p2 p3) (some (.t .bool false,[]))) (some (.t .bool false,[])))
def Qpy (p0:Rule)(p1:Keep)(p2 p3:Int):OV:=br (ieq p0.2.1 0) (QgR p0 p1 p2 p3) (br (ieq p0.2.1 p1.1) (QgR p0 p1 p2 p3) (some (.t .bool false,[])))
theorem s_f160 (p0:Rule)(p1:Keep)(p2 p3:Int):Qpy p0 p1 p2 p3=some (.t .bool (YU p0 p1 p2 p3),[]):=by
 simp only [Qpy,QgR,QgQ,QgP]
 repeat' (refine QV ?_ ?_<;>intro _)
 all_goals (simp_all [YU,Ww,I8,Estate.Endpoints,Estate.Edges,Estate.Items,Policy.Rules,Policy.Keeps,Keep.Alg,Keep.Bits,Link.Use,Link.Day,Job.Item,Job.Link,Item.Name,Item.Kind,Item.Purpose,Item.Links,Item.Until,Rule.Allow,Rule.Alg,Rule.Below,Rule.Purpose,Rule.From,Rule.To,Exception.Use,Exception.Purpose,Exception.Endpoint,Exception.Days,Exception.Seals,Dice.L,Dice.At,Endpoint.Name,Endpoint.Least,Endpoint.Most,Endpoint.Suites,Endpoint.OwnOrder,Endpoint.Identities,Endpoint.Anchors,Endpoint.Hashes,Endpoint.Fallback,Identity.Key,Identity.KeyId,Identity.Chain,Change.Endpoint,Change.Kind,Change.Number,Change.At,Change.Identity,Rules.p,Rules.l,Rules.o,Rules.day,Method.outcome,Method.uses,Certificate.Serial,Certificate.Issuer,Certificate.Subject,Certificate.Key,Certificate.KeyId,Certificate.Hash,Certificate.From,Certificate.To,Certificate.Authority,Certificate.Path,Certificate.Names,Certificate.Seal,LinkX.day,LinkX.fall,LinkX.falls,Suite.Code,Suite.Name,Suite.Exchange,Suite.Sign,Suite.Cipher,Suite.Mac,Suite.Least,Suite.Most,Row.name,Row.kind,Row.way,Row.sizes,Row.strengths,Talk.server,Talk.version,Talk.suites,Symbol.name,Symbol.kind]<;>omega)
def Qpz:Ent:=Qo (.pr QU (.pr Qi (.pr tI (.pr tI .nil)))) (fun x=>true) (fun x=>(.t .bool (YU x.1 x.2.1 x.2.2.1 x.2.2.2.1)))
theorem QBd:EM 160 Qpz:=mS g_f160 QBc [((.t 8),some .bool)] false (gB gN) fun m=>Qt m fun x _=>kT (s_f160 x.1 x.2.1 x.2.2.1 x.2.2.2.1)
def same (a b:List Keep):Bool:=a==b
end Go.Proofs.YthlcobdnemhcdaaGreat.K
