import Derived.Test.YtmjnnemhoeolgaaGreatQ6
import Derived.RangeFuncCalls
import Derived.RangeFuncBound
import Derived.Shelf.RegionOpen
import Derived.OwnWalkIn
import Derived.TacticsInMore
import Derived.LoopNIn
import Derived.LoopIn
import Derived.Lib.SliceRun
set_option linter.unusedSimpArgs false
set_option linter.unusedVariables false
noncomputable section
namespace Go.Proofs.YtmjnnemhoeolgaaGreat.K
open Go.RowKit
noncomputable section
def Xb:Option Int->List Link->Bool
 |_,[]=>true
 |pv,x::r=>Jq x.1&&decide (0<=x.2.1/\x.2.1<=40000)&&(match pv with|none=>true|some d=>decide (d<x.2.1))&&Xb (some x.2.1) r
theorem QkR (pv:Option Int)(x:Link)(r:List Link):Xb pv (x::r)=(Jq x.1&&decide (0<=x.2.1/\x.2.1<=40000)&&(match pv with|none=>true|some d=>decide (d<x.2.1))&&Xb (some x.2.1) r):=by cases pv<;>rfl
def ZN (l:List Link)(k:Nat):Option Int:=if k=0 then none else (l[k-1]?).map fun x:Link=>x.2.1
def J8 (i:Item):Bool:=JD i.1&&decide (1<=i.2.1/\i.2.1<=2)&&decide (1<=i.2.2.1/\i.2.2.1<=4)&&decide (1<=i.2.2.2.1.length/\i.2.2.2.1.length<=8)&&Xb none i.2.2.2.1&&decide ((i.2.2.2.1.headD ((0,(0,())),(0,()))).2.1<=i.2.2.2.2.1/\i.2.2.2.2.1<=40000)
def Yq (i:Item):Int:=if J8 i then 0 else 30
def Yr (i:Item):Bool:=Jg i.1
abbrev Qdn:Sh:=⟨[(1,.ptr 1 0),(45,.ty (.sl Zd)),(46,.ty tI),(47,.ty tI)],[(1,.box Jl)]⟩
abbrev QkS:Sh:=⟨[(2,.ty tI)],[]⟩
abbrev QvF:Sh:=⟨[(1,.ptr 1 0)],[(1,.box Jl)]⟩
def QkT:Fg:=Qdn.f
def QvG:TC:=aF Tryz.f49 [(122,pL 0 QkT),(1957,.fg QvF.f),(15666,pD [(0,[5]),(1,[5]),(2,[]),(3,[]),(4,[]),(5,[5]),(6,[5]),(7,[]),(8,[]),(9,[]),(10,[5]),(11,[5]),(12,[]),(13,[]),(14,[]),(15,[]),(16,[]),(17,[]),(18,[1]),(19,[1]),(20,[]),(21,[]),(22,[]),(23,[]),(24,[]),(25,[5]),(26,[5]),(27,[]),(28,[]),(29,[])] (.of [0,1,2,3,4,5,6,7,8,9,10,11,12,13,14,15,16,17,18,19,20,21,22,23,24,25,26,27,28,29])),(62669,.fg QkS.f),(124,pD [(0,[1]),(1,[1]),(2,[1]),(3,[1]),(4,[]),(5,[]),(6,[]),(7,[]),(8,[]),(9,[1]),(10,[1]),(11,[]),(12,[])] (.of [0,1,2,3,4,5,6,7,8,9,10,11,12]))]
def QvH:TC:=lb 0 QvG
def QvI (x45:List Link)(x46 x47:Int)(y1:Item):VS:=Qdn.st ((),x45,x46,x47,()) (y1,())
def Xc (x2:Int):VS:=QkS.st (x2,()) ()
def QkU (y1:Item):VS:=QvF.st ((),()) (y1,())
def QJu:VS->Option (Bool×List (Bool×Exit×VS)):=mkL Qdn (fun x y=>((x.2.1==y.1.2.2.2.1)&&QA x.2.1 x.2.2.1 x.2.2.2.1)) (fun x y=>[((!(Xb (ZN x.2.1 x.2.2.2.1.toNat) (x.2.1.drop x.2.2.2.1.toNat))),.ret,Xc (30)),(true,.exit 0,QkU (y.1))])
def QkV:G:=gG 96 [(86,Vn),(87,I3)] (Ls [QJu])
def Qdo (x45:List Link)(x46 x47:Int)(y1:Item):OX:=Qr (Qv QkV QkT QvH) (QvI x45 x46 x47 y1)
def O1 (kk:List Link->Int->Int->Item->OX)(x45:List Link)(x46 x47:Int)(y1:Item):OX:=
 let a1:=lgt Zd x45 (Int.toNat x47)
 br (ilt x47 x46) (br (cIx x45 x47) (br (!(Jq (a1.1))) (some (.ret,Xc 30)) (br (ilt ((a1.2).1) 0) (some (.ret,Xc 30)) (br (igt ((a1.2).1) 40000) (some (.ret,Xc 30)) (br (igt x47 0) (br (cIx y1.2.2.2.1 (QY .i64 x47 1)) (br (ige (((lgt Zd y1.2.2.2.1 (Int.toNat (QY .i64 x47 1))).2).1) ((a1.2).1)) (some (.ret,Xc 30)) (kk x45 x46 (Qg .i64 x47 1) y1)) none) (kk x45 x46 (Qg .i64 x47 1) y1))))) none) (some (.exit 0,QkU y1))
def EJ (x45:List Link)(x46 x47:Int)(y1:Item):OX:=br (!(Xb (ZN x45 x47.toNat) (x45.drop x47.toNat))) (some (.ret,Xc (30)))<|some (.exit 0,QkU (y1))
theorem QvJ (x45:List Link)(x46 x47:Int)(y1:Item):Qdo x45 x46 x47 y1=O1 Qdo x45 x46 x47 y1:=lnT (x:=O1 (fun x45 x46 x47 y1=>some (.normal,QvI x45 x46 x47 y1)) x45 x46 x47 y1) (by simp only [O1,nxA];rfl)
def O2 (p0:Item):OV:=
 let a1:=((((p0).2).2).2)
 let a2:=Qa p0.2.2.2.1
 br (ilt p0.2.2.1 1) (some (.t tI 30,[])) (br (igt p0.2.2.1 4) (some (.t tI 30,[])) (br (ilt a2 1) (some (.t tI 30,[])) (br (igt a2 8) (some (.t tI 30,[])) (br ((p0.2.2.2.1==p0.2.2.2.1)&&QA p0.2.2.2.1 a2 (0:Int)) (br (!(Xb (ZN p0.2.2.2.1 (0:Int).toNat) (p0.2.2.2.1.drop (0:Int).toNat))) (some (.t tI (30),[])) (br (cIx (a1.1) 0) (br (ilt ((a1.2).1) (((lgt Zd (a1.1) (Int.toNat 0)).2).1)) (some (.t tI 30,[])) (br (igt ((a1.2).1) 40000) (some (.t tI 30,[])) (some (.t tI 0,[])))) none)) none))))
def r_f49 (p0:Item):OV:=br (ieq p0.2.1 1) (br (Jg p0.1) (br (!(JD p0.1)) (some (.t tI 30,[])) (br (!true) (some (.t tI 30,[])) (O2 p0))) none) (br (Jg p0.1) (br (!(JD p0.1)) (some (.t tI 30,[])) (br (!(ieq p0.2.1 2)) (some (.t tI 30,[])) (O2 p0))) none)
theorem QJv (x45:List Link)(x46 x47:Int)(y1:Item)(h:((x45==y1.2.2.2.1)&&QA x45 x46 x47)=true):Qdo x45 x46 x47 y1=EJ x45 x46 x47 y1:=by
 simp only [Bb,Dc] at h
 obtain ⟨hx,h0⟩:=h
 obtain ⟨rfl,h3,k,rfl,hk⟩:=JB h0
 clear h0
 refine QP x45 (fun k=>Qdo x45 (x45.length:Int) (k:Int) y1=EJ x45 (x45.length:Int) (k:Int) y1) ?_ ?_ k hk
 ·rw [QvJ]
  simp [O1,EJ,Qz,Qf,Xb]
 ·intro k hk ih
  rw [QvJ]
  have el:EJ x45 (x45.length:Int) (k:Int) y1=br (!(Jq x45[k].1&&decide (0<=x45[k].2.1/\x45[k].2.1<=40000)&&(match ZN x45 k with|none=>true|some d=>decide (d<x45[k].2.1)))) (some (.ret,Xc 30)) (EJ x45 (x45.length:Int) ((k+1:Nat):Int) y1):=by
   have e1:ZN x45 (k+1)=some x45[k].2.1:=by
    unfold ZN
    rw [if_neg (by omega),Nat.add_sub_cancel,Bh hk]
    rfl
   simp only [EJ,Bc,e1]
   rw [Bi hk,QkR]
   generalize (Jq x45[k].1&&decide (0<=x45[k].2.1/\x45[k].2.1<=40000)&&(match ZN x45 k with|none=>true|some d=>decide (d<x45[k].2.1)))=c
   cases c<;>rfl
  rw [el]
  simp only [O1,Qz,QJ,hk,Bt,Qb,Bc,QO (show k<4611686018427387904 by omega),QL (y:=Zd) hk,ih, ← hx]
  cases Jq x45[k].1 with
  |false=>rfl
  |true=>
   simp only [BC,Qf,BA]
   by_cases c1:x45[k].2.1<0
   ·rw [show ilt x45[k].2.1 0=true from Be c1,Qb,Bl (show ¬ (0<=x45[k].2.1/\x45[k].2.1<=40000) by omega)]
    rfl
   ·rw [show ilt x45[k].2.1 0=false from Bl c1,Qf]
    by_cases c2:40000<x45[k].2.1
    ·rw [show igt x45[k].2.1 40000=true from Be (by omega),Qb,Bl (show ¬ (0<=x45[k].2.1/\x45[k].2.1<=40000) by omega)]
     rfl
    ·rw [show igt x45[k].2.1 40000=false from Bl (by omega),Qf,Be (show 0<=x45[k].2.1/\x45[k].2.1<=40000 by omega)]
     simp only [BA]
     by_cases hk0:k=0
     ·subst hk0
      rfl
     ·have hk1:k-1<x45.length:=by omega
      have e1:QY .i64 (k:Int) 1=((k-1:Nat):Int):=by rw [Yc (by omega)];omega
      have e2:igt (k:Int) 0=true:=by simp only [igt,Ba];omega
      have e3:ZN x45 k=some x45[k-1].2.1:=by
       unfold ZN
       rw [if_neg hk0,Bh hk1]
       rfl
      rw [e1,e2,e3,Qb]
      simp only [QJ,hk1,Bt,Qb,Bc,QL (y:=Zd) hk1]
      by_cases c3:x45[k-1].2.1<x45[k].2.1
      ·rw [show ige x45[k-1].2.1 x45[k].2.1=false from Bl (by omega),Qf,Be c3]
       rfl
      ·rw [show ige x45[k-1].2.1 x45[k].2.1=true from Be (by omega),Qb,Bl c3]
       rfl
theorem QJw:LO QkV QkT QvH 0:=QH (s:=Qdn) fun x y h _ q=>by simp only [QE,QF] at q;exact (QJv x.2.1 x.2.2.1 x.2.2.2.1 y.1 h).trans q
theorem Zu {i:Item}:J8 i=true↔JD i.1=true/\(1<=i.2.1/\i.2.1<=2)/\(1<=i.2.2.1/\i.2.2.1<=4)/\(1<=i.2.2.2.1.length/\i.2.2.2.1.length<=8)/\Xb none i.2.2.2.1=true/\(i.2.2.2.1.headD ((0,(0,())),(0,()))).2.1<=i.2.2.2.2.1/\i.2.2.2.2.1<=40000:=by
 unfold J8
 simp only [Bb,Ba,and_assoc]
theorem s_f49 (i:Item)(h:Yr i=true):r_f49 i=some (.t tI (Yq i),[]):=by
 have h:Jg i.1=true:=h
 have bad:(J8 i=true->False)->some (V.t tI 30,([]:List VO))=some (V.t tI (Yq i),[]):=fun hq=>by
  cases hi:J8 i with
  |false=>simp [Yq,hi]
  |true=>exact (hq hi).elim
 have tail:JD i.1=true->(1<=i.2.1/\i.2.1<=2)->O2 i=some (.t tI (Yq i),[]):=fun k1 k2=>by
  simp only [O2]
  refine QX (fun g=>bad fun hq=> ?_) (fun g1=>QX (fun g=>bad fun hq=> ?_) (fun g2=>QX (fun g=>bad fun hq=> ?_) (fun g3=>QX (fun g=>bad fun hq=> ?_) (fun g4=> ?_))))
  ·have:=Zu.1 hq;simp only [ilt,Ba] at g;omega
  ·have:=Zu.1 hq;simp only [igt,Ba] at g;omega
  ·have:=Zu.1 hq;simp only [ilt,Qa,Ba] at g;omega
  ·have:=Zu.1 hq;simp only [igt,Qa,Ba] at g;omega
  ·simp only [ilt,igt,Qa,Bn] at g1 g2 g3 g4
   rw [beq_self_eq_true,BA,JC (by omega),Qb]
   have e0:ZN i.2.2.2.1 (0:Int).toNat=none:=rfl
   rw [e0,Br,By]
   refine QX (fun g=>bad fun hq=> ?_) (fun g5=> ?_)
   ·have:=Zu.1 hq
    rw [this.2.2.2.2.1] at g
    cases g
   ·have hl:0<i.2.2.2.1.length:=by omega
    have e1:cIx i.2.2.2.1 0=true:=by simp only [cIx,Ba];omega
    have e2:lgt Zd i.2.2.2.1 0=i.2.2.2.1.headD ((0,(0,())),(0,())):=by
     cases hq:i.2.2.2.1 with
     |nil=>rw [hq] at hl;simp at hl
     |cons a l=>rfl
    rw [e1,Qb,e2]
    refine QX (fun g=>bad fun hq=> ?_) (fun g6=>QX (fun g=>bad fun hq=> ?_) (fun g7=> ?_))
    ·have:=Zu.1 hq;simp only [ilt,Ba] at g;omega
    ·have:=Zu.1 hq;simp only [igt,Ba] at g;omega
    ·simp only [ilt,igt,Bn] at g6 g7
     have:J8 i=true:=Zu.2 ⟨k1,k2,by omega,by omega,by simpa using g5,by omega,by omega⟩
     simp [Yq,this]
 simp only [r_f49,O2] at tail ⊢
 rw [h]
 simp only [Qb]
 refine QX (fun g1=>QX (fun g=>bad fun hq=> ?_) (fun g2=> ?_)) (fun g1=>QX (fun g=>bad fun hq=> ?_) (fun g2=>QX (fun g=>bad fun hq=> ?_) (fun g3=> ?_)))
 ·rw [(Zu.1 hq).1] at g;cases g
 ·simp only [ZV,Ba] at g1
  exact tail (by simpa using g2) (by omega)
 ·rw [(Zu.1 hq).1] at g;cases g
 ·have:=Zu.1 hq
  simp only [ZV,Bn,Bu,Ba] at g1 g
  omega
 ·simp only [ZV,Bn,Bool.not_eq_false',Ba] at g1 g3
  exact tail (by simpa using g2) (by omega)
def QvK:Ent:=Qi (.pr Jl .nil) (fun x=>(Yr x.1)) (fun x=>(.t tI (Yq x.1)))
theorem ms_f49:EM 49 QvK:=mS (lk:=lkL (lkc QJw lkn)) QkV QvG [((.t 2),some tI)] false (gB (gD Qea (gD QaV gN))) fun m=>Qm m fun x hok=>kT (s_f49 x.1 hok)
abbrev Qdp:Sh:=⟨[(1,.ptr 1 0),(3,.ty tI)],[(1,.box Jl)]⟩
abbrev QvL:Sh:=⟨[],[]⟩
def QkW:Fg:=Qdp.f
def QvM:TC:=aF Tryz.f69 [(12,pD [(0,[1]),(1,[1]),(2,[]),(3,[]),(4,[]),(5,[1]),(6,[1]),(7,[]),(8,[]),(9,[1]),(10,[1]),(11,[]),(12,[]),(13,[]),(14,[]),(15,[1]),(16,[1]),(17,[]),(18,[]),(19,[]),(20,[1]),(21,[1]),(22,[]),(23,[]),(24,[]),(25,[1]),(26,[1]),(27,[]),(28,[]),(29,[]),(30,[]),(31,[1]),(32,[1]),(33,[]),(34,[]),(35,[]),(36,[]),(37,[1]),(38,[1]),(39,[]),(40,[]),(41,[]),(42,[1]),(43,[1]),(44,[1]),(45,[1]),(46,[]),(47,[]),(48,[]),(49,[]),(50,[])] (.of [0,1,2,3,4,5,6,7,8,9,10,11,12,13,14,15,16,17,18,19,20,21,22,23,24,25,26,27,28,29,30,31,32,33,34,35,36,37,38,39,40,41,42,43,44,45,46,47,48,49,50])),(58,pL 0 QkW),(931,.fg QvL.f),(1864,pD [(0,[1]),(1,[1]),(2,[]),(3,[]),(4,[]),(5,[]),(6,[]),(7,[]),(8,[]),(9,[1]),(10,[1]),(11,[]),(12,[]),(13,[]),(14,[]),(15,[]),(16,[]),(17,[]),(18,[1]),(19,[1]),(20,[]),(21,[]),(22,[]),(23,[]),(24,[]),(25,[]),(26,[]),(27,[]),(28,[]),(29,[]),(30,[1]),(31,[1]),(32,[]),(33,[]),(34,[]),(35,[]),(36,[]),(37,[1]),(38,[1]),(39,[]),(40,[]),(41,[]),(42,[]),(43,[]),(44,[]),(45,[])] (.of [0,1,2,3,4,5,6,7,8,9,10,11,12,13,14,15,16,17,18,19,20,21,22,23,24,25,26,27,28,29,30,31,32,33,34,35,36,37,38,39,40,41,42,43,44,45])),(7461,.fg QkS.f)]
def QvN:TC:=lb 0 QvM
def QvO (x3:Int)(y1:Item):VS:=Qdp.st ((),x3,()) (y1,())
def QkX  : VS:=QvL.st () ()
def QJx:VS->Option (Bool×List (Bool×Exit×VS)):=mkL Qdp (fun x y=>(decide (0<=x.2.1/\x.2.1<=y.1.2.2.2.1.length/\y.1.2.2.2.1.length<=8))) (fun x y=>[((!(Xb (ZN y.1.2.2.2.1 x.2.1.toNat) (y.1.2.2.2.1.drop x.2.1.toNat))),.ret,Xc (30)),(true,.exit 0,QkX)])
def QkY:G:=gG 108 [(116,Qee),(117,I4)] (Ls [QJx])
def Qdq (x3:Int)(y1:Item):OX:=Qr (Qv QkY QkW QvN) (QvO x3 y1)
def O3 (kk:Int->Item->OX)(x3:Int)(y1:Item):OX:=
 let a1:=lgt Zd y1.2.2.2.1 (Int.toNat x3)
 let a2:=cIx y1.2.2.2.1 x3
 br (ilt x3 (Qa y1.2.2.2.1)) (br a2 (br (!(Jq (a1.1))) (some (.ret,Xc 30)) (br a2 (br (ilt ((a1.2).1) 0) (some (.ret,Xc 30)) (br a2 (br (igt ((a1.2).1) 40000) (some (.ret,Xc 30)) (br (igt x3 0) (br (cIx y1.2.2.2.1 (QY .i64 x3 1)) (br a2 (br (ige (((lgt Zd y1.2.2.2.1 (Int.toNat (QY .i64 x3 1))).2).1) ((a1.2).1)) (some (.ret,Xc 30)) (kk (Qg .i64 x3 1) y1)) none) none) (kk (Qg .i64 x3 1) y1))) none)) none)) none) (some (.exit 0,QkX))
def EK (x3:Int)(y1:Item):OX:=br (!(Xb (ZN y1.2.2.2.1 x3.toNat) (y1.2.2.2.1.drop x3.toNat))) (some (.ret,Xc (30)))<|some (.exit 0,QkX)
theorem QvP (x3:Int)(y1:Item):Qdq x3 y1=O3 Qdq x3 y1:=lnT (x:=O3 (fun x3 y1=>some (.normal,QvO x3 y1)) x3 y1) (by simp only [O3,nxA];rfl)
def Qdr (p0:Item):OV:=br (ilt p0.2.2.1 1) (some (.t tI 30,[])) (br (igt p0.2.2.1 4) (some (.t tI 30,[])) (br (ilt (Qa p0.2.2.2.1) 1) (some (.t tI 30,[])) (br (igt (Qa p0.2.2.2.1) 8) (some (.t tI 30,[])) (br (igt p0.2.2.2.2.1 40000) (some (.t tI 30,[])) (br (cIx p0.2.2.2.1 0) (br (ilt p0.2.2.2.2.1 (((lgt Zd p0.2.2.2.1 (Int.toNat 0)).2).1)) (some (.t tI 30,[])) (br (decide (0<=(0:Int)/\(0:Int)<=p0.2.2.2.1.length/\p0.2.2.2.1.length<=8)) (br (!(Xb (ZN p0.2.2.2.1 (0:Int).toNat) (p0.2.2.2.1.drop (0:Int).toNat))) (some (.t tI (30),[])) (some (.t tI 0,[]))) none)) none)))))
def r_f69 (p0:Item):OV:=br (Jg p0.1) (br (!(JD p0.1)) (some (.t tI 30,[])) (br (ine p0.2.1 1) (br (ine p0.2.1 2) (some (.t tI 30,[])) (Qdr p0)) (Qdr p0))) none
theorem QJy (x3:Int)(y1:Item)(h:(decide (0<=x3/\x3<=y1.2.2.2.1.length/\y1.2.2.2.1.length<=8))=true):Qdq x3 y1=EK x3 y1:=by
 simp only [Ba] at h
 obtain ⟨h1,h2,h3⟩:=h
 obtain ⟨k,rfl⟩:=Bo h1
 refine QP y1.2.2.2.1 (fun k=>Qdq (k:Int) y1=EK (k:Int) y1) ?_ ?_ k (by omega)
 ·rw [QvP]
  simp [O3,EK,Qz,Qa,Qf,Xb]
 ·intro k hk ih
  rw [QvP]
  have el:EK (k:Int) y1=br (!(Jq y1.2.2.2.1[k].1&&decide (0<=y1.2.2.2.1[k].2.1/\y1.2.2.2.1[k].2.1<=40000)&&(match ZN y1.2.2.2.1 k with|none=>true|some d=>decide (d<y1.2.2.2.1[k].2.1)))) (some (.ret,Xc 30)) (EK ((k+1:Nat):Int) y1):=by
   have e1:ZN y1.2.2.2.1 (k+1)=some y1.2.2.2.1[k].2.1:=by
    unfold ZN
    rw [if_neg (by omega),Nat.add_sub_cancel,Bh hk]
    rfl
   simp only [EK,Bc,e1]
   rw [Bi hk,QkR]
   generalize (Jq y1.2.2.2.1[k].1&&decide (0<=y1.2.2.2.1[k].2.1/\y1.2.2.2.1[k].2.1<=40000)&&(match ZN y1.2.2.2.1 k with|none=>true|some d=>decide (d<y1.2.2.2.1[k].2.1)))=c
   cases c<;>rfl
  rw [el]
  simp only [O3,Qz,Qa,QJ,hk,Bt,Qb,Bc,QO (show k<4611686018427387904 by omega),QL (y:=Zd) hk,ih]
  cases Jq y1.2.2.2.1[k].1 with
  |false=>rfl
  |true=>
   simp only [BC,Qf,BA]
   by_cases c1:y1.2.2.2.1[k].2.1<0
   ·rw [show ilt y1.2.2.2.1[k].2.1 0=true from Be c1,Qb,Bl (show ¬ (0<=y1.2.2.2.1[k].2.1/\y1.2.2.2.1[k].2.1<=40000) by omega)]
    rfl
   ·rw [show ilt y1.2.2.2.1[k].2.1 0=false from Bl c1,Qf]
    by_cases c2:40000<y1.2.2.2.1[k].2.1
    ·rw [show igt y1.2.2.2.1[k].2.1 40000=true from Be (by omega),Qb,Bl (show ¬ (0<=y1.2.2.2.1[k].2.1/\y1.2.2.2.1[k].2.1<=40000) by omega)]
     rfl
    ·rw [show igt y1.2.2.2.1[k].2.1 40000=false from Bl (by omega),Qf,Be (show 0<=y1.2.2.2.1[k].2.1/\y1.2.2.2.1[k].2.1<=40000 by omega)]
     simp only [BA]
     by_cases hk0:k=0
     ·subst hk0
      rfl
     ·have hk1:k-1<y1.2.2.2.1.length:=by omega
      have e1:QY .i64 (k:Int) 1=((k-1:Nat):Int):=by rw [Yc (by omega)];omega
      have e2:igt (k:Int) 0=true:=by simp only [igt,Ba];omega
      have e3:ZN y1.2.2.2.1 k=some y1.2.2.2.1[k-1].2.1:=by
       unfold ZN
       rw [if_neg hk0,Bh hk1]
       rfl
      rw [e1,e2,e3,Qb]
      simp only [QJ,hk1,Bt,Qb,Bc,QL (y:=Zd) hk1]
      by_cases c3:y1.2.2.2.1[k-1].2.1<y1.2.2.2.1[k].2.1
      ·rw [show ige y1.2.2.2.1[k-1].2.1 y1.2.2.2.1[k].2.1=false from Bl (by omega),Qf,Be c3]
       rfl
      ·rw [show ige y1.2.2.2.1[k-1].2.1 y1.2.2.2.1[k].2.1=true from Be (by omega),Qb,Bl c3]
       rfl
theorem QJz:LO QkY QkW QvN 0:=QH (s:=Qdp) fun x y h _ q=>by simp only [QE,QF] at q;exact (QJy x.2.1 y.1 h).trans q
theorem s_f69 (i:Item)(h:Yr i=true):r_f69 i=some (.t tI (Yq i),[]):=by
 have h:Jg i.1=true:=h
 have bad:(J8 i=true->False)->some (V.t tI 30,([]:List VO))=some (V.t tI (Yq i),[]):=fun hq=>by
  cases hi:J8 i with
  |false=>simp [Yq,hi]
  |true=>exact (hq hi).elim
 have tail:JD i.1=true->(1<=i.2.1/\i.2.1<=2)->Qdr i=some (.t tI (Yq i),[]):=fun k1 k2=>by
  simp only [Qdr]
  refine QX (fun g=>bad fun hq=> ?_) (fun g1=>QX (fun g=>bad fun hq=> ?_) (fun g2=>QX (fun g=>bad fun hq=> ?_) (fun g3=>QX (fun g=>bad fun hq=> ?_) (fun g4=>QX (fun g=>bad fun hq=> ?_) (fun g5=> ?_)))))
  ·have:=Zu.1 hq;simp only [ilt,Ba] at g;omega
  ·have:=Zu.1 hq;simp only [igt,Ba] at g;omega
  ·have:=Zu.1 hq;simp only [ilt,Qa,Ba] at g;omega
  ·have:=Zu.1 hq;simp only [igt,Qa,Ba] at g;omega
  ·have:=Zu.1 hq;simp only [igt,Ba] at g;omega
  ·simp only [ilt,igt,Qa,Bn] at g1 g2 g3 g4 g5
   have hl:0<i.2.2.2.1.length:=by omega
   have e1:cIx i.2.2.2.1 0=true:=by simp only [cIx,Ba];omega
   have e2:lgt Zd i.2.2.2.1 (Int.toNat 0)=i.2.2.2.1.headD ((0,(0,())),(0,())):=by
    cases hq:i.2.2.2.1 with
    |nil=>rw [hq] at hl;simp at hl
    |cons a l=>rfl
   rw [e1,Qb,e2]
   refine QX (fun g=>bad fun hq=> ?_) (fun g6=> ?_)
   ·have:=Zu.1 hq;simp only [ilt,Ba] at g;omega
   ·simp only [ilt,Bn] at g6
    rw [GR ⟨BV 0,by omega,by omega⟩,Qb]
    have e0:ZN i.2.2.2.1 (0:Int).toNat=none:=rfl
    rw [e0,Br,By]
    refine QX (fun g=>bad fun hq=> ?_) (fun g7=> ?_)
    ·have:=Zu.1 hq
     rw [this.2.2.2.2.1] at g
     cases g
    ·have:J8 i=true:=Zu.2 ⟨k1,k2,by omega,by omega,by simpa using g7,by omega,by omega⟩
     simp [Yq,this]
 simp only [r_f69]
 rw [h]
 simp only [Qb]
 refine QX (fun g=>bad fun hq=> ?_) (fun g1=>QX (fun g2=>QX (fun g=>bad fun hq=> ?_) (fun g3=> ?_)) (fun g2=> ?_))
 ·rw [(Zu.1 hq).1] at g;cases g
 ·have:=Zu.1 hq
  simp only [ine,bne_iff_ne,ne_eq] at g g2
  omega
 ·simp only [ine,bne_eq_false_iff_eq] at g3
  exact tail (by simpa using g1) (by omega)
 ·simp only [ine,bne_eq_false_iff_eq] at g2
  exact tail (by simpa using g1) (by omega)
def QvQ:Ent:=Qi (.pr Jl .nil) (fun x=>(Yr x.1)) (fun x=>(.t tI (Yq x.1)))
theorem ms_f69:EM 69 QvQ:=mS (lk:=lkL (lkc QJz lkn)) QkY QvM [((.t 2),some tI)] false (gB (gD QlV (gD QaZ gN))) fun m=>Qm m fun x hok=>kT (s_f69 x.1 hok)
end
end Go.Proofs.YtmjnnemhoeolgaaGreat.K
noncomputable section
namespace Go.Proofs.YtmjnnemhoeolgaaGreat.K
open Go.RowKit
noncomputable section
abbrev JS (l:List Keep)(k:Nat):Keep:=l.getD k zK
def egLt (a b:Keep):Bool:= !igt a.1 b.1&& !(ieq a.1 b.1&&ige a.2.1 b.2.1)
def FP (n:Int)(x:Keep):Bool:= !ilt x.1 0&&(!ige x.1 n&&(!ilt x.2.1 0&&(!ige x.2.1 n&& !ieq x.1 x.2.1)))
def I5 (n:Int)(l:List Keep)(k:Nat):Bool:=FP n (JS l k)&&(decide (k=0)||egLt (JS l (k-1)) (JS l k))
def Zl (n:Int)(l:List Keep)(k:Nat):Bool:=(List.range' k (l.length-k)).all (I5 n l)
theorem QEj (n:Int)(l:List Keep):Zl n l l.length=true:=by
 unfold Zl
 rw [DV]
 rfl
theorem QEk {n:Int}{l:List Keep}{k:Nat}(hk:k<l.length):Zl n l k=(I5 n l k&&Zl n l (k+1)):=by
 have:l.length-k=(l.length-(k+1))+1:=by omega
 unfold Zl
 rw [this,Dr,BW]
theorem QEl {β:Type}(c1 c2 c3 c4 c5 u:Bool)(R E:Option β):br c1 R (br c2 R (br c3 R (br c4 R (br c5 R (br (!u) R E)))))=br (!(((!c1&&(!c2&&(!c3&&(!c4&& !c5))))&&true)&&u)) R E:=by
 cases c1<;>cases c2<;>cases c3<;>cases c4<;>cases c5<;>rfl
theorem QEm {β:Type}(c1 c2 c3 c4 c5 a b c u:Bool)(R E:Option β):br c1 R (br c2 R (br c3 R (br c4 R (br c5 R (br a R (br b (br c R (br (!u) R E)) (br (!u) R E)))))))=br (!(((!c1&&(!c2&&(!c3&&(!c4&& !c5))))&&(!a&& !(b&&c)))&&u)) R E:=by
 cases c1<;>cases c2<;>cases c3<;>cases c4<;>cases c5<;>cases a<;>cases b<;>cases c<;>rfl
theorem Qhm {k:Nat}(hk:k<100000)(h0:k≠0):QY .i64 (k:Int) 1=((k-1:Nat):Int):=by
 rw [Yc (by omega)]
 omega
def Qa0 (l:List Keep)(n:Int):Bool:=Zl n l 0&&ile (Qa l) 40
def Qhn (l:List Keep)(_n:Int):Bool:=decide (l.length<=99999)
abbrev Qho:Sh:=⟨[(0,.ty (.sl Qd)),(1,.ty tI),(7,.ty (.sl Qd)),(8,.ty tI),(9,.ty tI)],[]⟩
abbrev Qp1:Sh:=⟨[(4,.ty .bool)],[]⟩
abbrev QEn:Sh:=⟨[(0,.ty (.sl Qd))],[]⟩
def Qp2:Fg:=Qho.f
def QEo:TC:=aF Tryz.f50 [(26,pL 0 Qp2),(421,.fg QEn.f),(27029,.fg Qp1.f),(6758,pD [(0,[]),(1,[]),(2,[]),(3,[]),(4,[]),(5,[]),(6,[]),(7,[]),(8,[]),(9,[6]),(10,[6]),(11,[]),(12,[]),(13,[]),(14,[]),(15,[]),(16,[]),(17,[]),(18,[]),(19,[6]),(20,[6]),(21,[]),(22,[]),(23,[]),(24,[]),(25,[]),(26,[]),(27,[]),(28,[]),(29,[6]),(30,[6]),(31,[]),(32,[]),(33,[]),(34,[])] (.of [0,1,2,3,4,5,6,7,8,9,10,11,12,13,14,15,16,17,18,19,20,21,22,23,24,25,26,27,28,29,30,31,32,33,34])),(27037,.fg Qp1.f)]
def QEp:TC:=lb 0 QEo
def QEq (x0:List Keep)(x1:Int)(x7:List Keep)(x8 x9:Int):VS:=Qho.st (x0,x1,x7,x8,x9,()) ()
def UZ (x4:Bool):VS:=Qp1.st (x4,()) ()
def Qp3 (x0:List Keep):VS:=QEn.st (x0,()) ()
def QSt:VS->Option (Bool×List (Bool×Exit×VS)):=mkL Qho (fun x y=>(x.2.2.1==x.1&&(QA x.2.2.1 x.2.2.2.1 x.2.2.2.2.1&&decide (x.2.2.1.length<=99999)))) (fun x y=>[((!Zl x.2.1 x.2.2.1 x.2.2.2.2.1.toNat),.ret,UZ (false)),(true,.exit 0,Qp3 (x.1))])
def Qp4:G:=gG 80 [] (Ls [QSt])
def Qhp (x0:List Keep)(x1:Int)(x7:List Keep)(x8 x9:Int):OX:=Qr (Qv Qp4 Qp2 QEp) (QEq x0 x1 x7 x8 x9)
def Qa1 (kk:List Keep->Int->List Keep->Int->Int->OX)(x0:List Keep)(x1:Int)(x7:List Keep)(x8 x9:Int):OX:=
 let a1:=lgt Qd x7 (Int.toNat x9)
 let a2:=lgt Qd x0 (Int.toNat (QY .i64 x9 1))
 let a3:=cIx x0 (QY .i64 x9 1)
 let a4:=Qg .i64 x9 1
 br (ilt x9 x8) (br (cIx x7 x9) (br (ilt (a1.1) 0) (some (.ret,UZ false)) (br (ige (a1.1) x1) (some (.ret,UZ false)) (br (ilt ((a1.2).1) 0) (some (.ret,UZ false)) (br (ige ((a1.2).1) x1) (some (.ret,UZ false)) (br (ieq (a1.1) ((a1.2).1)) (some (.ret,UZ false)) (br (igt x9 0) (br a3 (br (igt (a2.1) (a1.1)) (some (.ret,UZ false)) (br a3 (br (ieq (a2.1) (a1.1)) (br a3 (br (ige ((a2.2).1) ((a1.2).1)) (some (.ret,UZ false)) (kk x0 x1 x7 x8 a4)) none) (kk x0 x1 x7 x8 a4)) none)) none) (kk x0 x1 x7 x8 a4))))))) none) (some (.exit 0,Qp3 x0))
def Qhq (x0:List Keep)(x1:Int)(x7:List Keep)(x8 x9:Int):OX:=br (!Zl x1 x7 x9.toNat) (some (.ret,UZ (false)))<|some (.exit 0,Qp3 (x0))
theorem QEr (x0:List Keep)(x1:Int)(x7:List Keep)(x8 x9:Int):Qhp x0 x1 x7 x8 x9=Qa1 Qhp x0 x1 x7 x8 x9:=lnT (x:=Qa1 (fun x0 x1 x7 x8 x9=>some (.normal,QEq x0 x1 x7 x8 x9)) x0 x1 x7 x8 x9) (by simp only [Qa1,nxA];rfl)
def r_f50 (p0:List Keep)(p1:Int):OV:=br (p0==p0&&(QA p0 (Qa p0) (0:Int)&&decide (p0.length<=99999))) (br (!Zl p1 p0 (0:Int).toNat) (some (.t .bool (false),[])) (some (.t .bool (ile (Qa (p0)) 40),[]))) none
theorem QSu (x0:List Keep)(x1:Int)(x7:List Keep)(x8 x9:Int)(h:(x7==x0&&(QA x7 x8 x9&&decide (x7.length<=99999)))=true):Qhp x0 x1 x7 x8 x9=Qhq x0 x1 x7 x8 x9:=by
 simp only [Bb,Dc,Ba] at h
 obtain ⟨rfl,h0,hl⟩:=h
 obtain ⟨rfl,h3,k,rfl,hk⟩:=JB h0
 clear h0
 refine QP x7 (fun k=>Qhp x7 x1 x7 (x7.length:Int) (k:Int)=Qhq x7 x1 x7 (x7.length:Int) (k:Int)) ?_ ?_ k hk
 ·rw [QEr]
  simp only [Qa1,Qhq,Qz,BT,B0,Qf,Bc,QEj,BC]
 ·intro k hk ih
  rw [QEr]
  simp only [Qa1,Qz,QJ,hk,Bt,Qb,Bc,QO (show k<4611686018427387904 by omega),ih]
  simp only [Qhq,Bc,QEk hk]
  by_cases hk0:k=0
  ·subst hk0
   rw [show igt ((0:Nat):Int) 0=false from rfl]
   simp only [Qf]
   exact QEl ..
  ·rw [show igt (k:Int) 0=true from Be (by omega),Qhm (by omega) hk0]
   simp only [Qb,QJ,show k-1<x7.length by omega,Bt,Bc]
   unfold I5
   rw [show decide (k=0)=false from Bl hk0,Da]
   exact QEm ..
theorem QSv:LO Qp4 Qp2 QEp 0:=QH (s:=Qho) fun x y h _ q=>by simp only [QE,QF] at q;exact (QSu x.1 x.2.1 x.2.2.1 x.2.2.2.1 x.2.2.2.2.1 h).trans q
theorem s_f50 (l:List Keep)(n:Int)(h:Qhn l n=true):r_f50 l n=some (.t .bool (Qa0 l n),[]):=by
 have hl:l.length<=99999:=Bx h
 simp only [r_f50,beq_self_eq_true,BA,JC (show l.length<=100000 by omega),Be hl,Qb,Br]
 unfold Qa0
 cases Zl n l 0<;>rfl
def QEs:Ent:=Qi (.pr (.sl Qd) (.pr tI .nil)) (fun x=>(Qhn x.1 x.2.1)) (fun x=>(.t .bool (Qa0 x.1 x.2.1)))
theorem ms_f50:EM 50 QEs:=mS (lk:=lkL (lkc QSv lkn)) Qp4 QEo [((.t 4),some .bool)] false (gB gN) fun m=>Qm m fun x hok=>kT (s_f50 x.1 x.2.1 hok)
def Y3 (i:Item):Bool:=ine (Yq i) 0
theorem QEt (i:Item):Y3 i= !J8 i:=by
 unfold Y3 Yq
 cases J8 i<;>rfl
def tc_f48:TC:=aF Tryz.f48 []
def g_f48:G:=gG 6 [(49,QvK)] (fun _ _=>none)
def r_f48 (p0:Item):OV:=br (Yr p0) (some (.t .bool (ine (Yq p0) 0),[])) none
theorem s_f48 (i:Item)(h:Yr i=true):r_f48 i=some (.t .bool (Y3 i),[]):=by
 simp only [r_f48,h,Qb]
 rfl
def QEu:Ent:=Qi (.pr Jl .nil) (fun x=>(Yr x.1)) (fun x=>(.t .bool (Y3 x.1)))
theorem ms_f48:EM 48 QEu:=mS g_f48 tc_f48 [((.t 2),some .bool)] false (gB (gD ms_f49 gN)) fun m=>Qm m fun x hok=>kT (s_f48 x.1 hok)
def Ym (l:List Item):Bool:=decide (l.length<=100000)&&l.all Yr
theorem QSw {l:List Item}(h:Ym l=true){k:Nat}(hk:k<l.length):Yr l[k]=true:=by
 simp only [Ym,Bb,Bf] at h
 exact h.2 _ (Bw hk)
theorem QEv {l:List Item}(h:Ym l=true):l.length<=100000:=by
 simp only [Ym,Bb,Ba] at h
 exact h.1
def I6 (l:List Item):Int:=match Qs Y3 l with|some k=>(k:Int)|none=> -1
abbrev Qhr:Sh:=⟨[(0,.ty (.sl Jl)),(1,.cf 48),(7,.ty tI),(8,.ty tI)],[]⟩
abbrev QEw:Sh:=⟨[(4,.ty tI)],[]⟩
abbrev Qhs:Sh:=⟨[],[]⟩
def Qp5:Fg:=Qhr.f
def QEx:TC:=aF Tryz.f85 [(26,pL 0 Qp5),(421,.fg Qhs.f),(13517,.fg QEw.f)]
def QEy:TC:=lb 0 QEx
def QEz (x0:List Item)(x7 x8:Int):VS:=Qhr.st (x0,(),x7,x8,()) ()
def Qp6 (x4:Int):VS:=QEw.st (x4,()) ()
def Qp7  : VS:=Qhs.st () ()
def QSx:VS->Option (Bool×List (Bool×Exit×VS)):=mkL Qhr (fun x y=>(QA x.1 x.2.2.1 x.2.2.2.1&&Ym x.1)) (fun x y=>[(((Qs Y3 (x.1.drop x.2.2.2.1.toNat)).isSome),.ret,Qp6 (x.2.2.2.1+((Qs Y3 (x.1.drop x.2.2.2.1.toNat)).getD 0:Nat))),(true,.exit 0,Qp7)])
def Qp8:G:=gG 19 [(48,QEu)] (Ls [QSx])
def Qht (x0:List Item)(x7 x8:Int):OX:=Qr (Qv Qp8 Qp5 QEy) (QEz x0 x7 x8)
def Qa2 (kk:List Item->Int->Int->OX)(x0:List Item)(x7 x8:Int):OX:=
 let a1:=lgt Jl x0 (Int.toNat x8)
 br (ilt x8 x7) (br (cIx x0 x8) (br (Yr a1) (br (Y3 a1) (some (.ret,Qp6 x8)) (kk x0 x7 (Qg .i64 x8 1))) none) none) (some (.exit 0,Qp7))
def Qhu (x0:List Item)(x7 x8:Int):OX:=
 let a1:=Qs Y3 (x0.drop x8.toNat)
 br (a1.isSome) (some (.ret,Qp6 (x8+(a1.getD 0:Nat))))<|some (.exit 0,Qp7)
theorem QEA (x0:List Item)(x7 x8:Int):Qht x0 x7 x8=Qa2 Qht x0 x7 x8:=lnT (x:=Qa2 (fun x0 x7 x8=>some (.normal,QEz x0 x7 x8)) x0 x7 x8) (by simp only [Qa2,nxA];rfl)
def QEB (p0:List Item):OV:=
 let a1:=(Qs Y3 (p0.drop (0:Int).toNat))
 br (QA p0 (Qa p0) (0:Int)&&Ym p0) (br (a1.isSome) (some (.t tI ((0:Int)+(a1.getD 0:Nat)),[])) (some (.t tI (-1),[]))) none
theorem QSy (x0:List Item)(x7 x8:Int)(h:(QA x0 x7 x8&&Ym x0)=true):Qht x0 x7 x8=Qhu x0 x7 x8:=by
 simp only [Bb] at h
 obtain ⟨h0,hc⟩:=h
 obtain ⟨rfl,h3,k,rfl,hk⟩:=JB h0
 clear h0
 refine QP x0 (fun k=>Qht x0 (x0.length:Int) (k:Int)=Qhu x0 (x0.length:Int) (k:Int)) ?_ ?_ k hk
 ·rw [QEA]
  simp [Qa2,Qhu,Qz,Qf,Qs]
 ·intro k hk ih
  rw [QEA]
  have hx:=QSw hc hk
  simp only [Qa2,Qz,QJ,hk,Bt,Qb,Bc,QO (show k<4611686018427387904 by omega),ih,QL (y:=Jl) hk,hx]
  simp only [Qhu,Bc,Bi hk,Qs]
  cases h:(Y3 x0[k]) with
  |true=>simp [Qb]
  |false=>
   simp only [Qf,BF,Dd]
   cases hq:Qs Y3 (x0.drop (k+1)) with
   |none=>rfl
   |some j=>
    simp only [B3,B7,BH,Qb]
    congr 3
    omega
theorem QSz:LO Qp8 Qp5 QEy 0:=QH (s:=Qhr) fun x y h _ q=>by simp only [QE,QF] at q;exact (QSy x.1 x.2.2.1 x.2.2.2.1 h).trans q
theorem QSA (l:List Item)(h:Ym l=true):QEB l=some (.t tI (I6 l),[]):=by
 have hl:=QEv h
 simp only [QEB,JC hl,h,BZ,Qb,Br,By,I6]
 cases Qs Y3 l<;>simp [Qb,Qf]
def QEC:Ent:=Ye [.ty (.sl Jl),.cf 48] [] (fun x d=>(Ym x.1)) (fun x d=>(.t tI (I6 x.1)))
theorem QSB:EM 85 QEC:=mS (lk:=lkL (lkc QSz lkn)) Qp8 QEx [((.t 4),some tI)] false (gB (gD ms_f48 gN)) fun m=>ZZ m fun x d hok=>kT (QSA x.1 hok)
def FQ (l:List Item):Bool:=l.any Y3
def QSC:TC:=aF Tryz.f47 []
def QSD:G:=gG 9 [(85,QEC)] (fun _ _=>none)
def QED (p0:List Item):OV:=br (Ym p0) (some (.t .bool (ige (I6 p0) 0),[])) none
theorem QSE (l:List Item)(h:Ym l=true):QED l=some (.t .bool (FQ l),[]):=by
 simp only [QED,h,Qb]
 have e:ige (I6 l) 0=FQ l:=by
  unfold I6 FQ
  cases hq:Qs Y3 l with
  |none=>rw [Vl.1 hq];rfl
  |some k=>
   rw [←Qd6,hq]
   simp only [ige,B7,Ba]
   omega
 rw [e]
def QEE:Ent:=Ye [.ty (.sl Jl),.cf 48] [] (fun x d=>(Ym x.1)) (fun x d=>(.t .bool (FQ x.1)))
theorem QSF:EM 47 QEE:=mS QSD QSC [((.t 4),some .bool)] false (gB (gD QSB gN)) fun m=>ZZ m fun x d hok=>kT (QSE x.1 hok)
abbrev zEp:Endpoint:=Ty.zero Qo
abbrev Jb (l:List Endpoint)(k:Nat):Endpoint:=l.getD k zEp
def Qa3 (l m:List Endpoint)(k:Nat):Bool:=QN (Jb l k)&&(decide (k=0)||slt (Jb m (k-1)).1 (Jb l k).1)
def YP (l m:List Endpoint)(k:Nat):Bool:=(List.range' k (l.length-k)).all (Qa3 l m)
abbrev Ua (l:List Endpoint)(k:Nat):Bool:=YP l l k
theorem QEF (l m:List Endpoint):YP l m l.length=true:=by
 unfold YP
 rw [DV]
 rfl
theorem QEG {l m:List Endpoint}{k:Nat}(hk:k<l.length):YP l m k=(Qa3 l m k&&YP l m (k+1)):=by
 have:l.length-k=(l.length-(k+1))+1:=by omega
 unfold YP
 rw [this,Dr,BW]
abbrev Qt (e:Estate):List Endpoint:=e.1
abbrev Q9 (e:Estate):List Keep:=e.2.1
abbrev ZB (e:Estate):List Item:=e.2.2.1
def J0 (e:Estate):Bool:=Ua (Qt e) 0&&((ZB e).all J8&&(ile (Qa (Qt e)) 16&&(ile (Qa (ZB e)) 30&&(Zl (Qa (Qt e)) (Q9 e) 0&&ile (Qa (Q9 e)) 40))))
def YQ (e:Estate):Int:=bif J0 e then 0 else 31
theorem Qhv (e:Estate):ine (YQ e) 0= !J0 e:=by
 unfold YQ
 cases J0 e<;>rfl
def JN (e:Estate):Bool:=decide ((Qt e).length<=99999/\(Q9 e).length<=99999)&&((Qt e).all QS&&Ym (ZB e))
theorem QSG (l:List Item):FQ l= !l.all J8:=by
 unfold FQ
 rw [List.not_all_eq_any_not]
 congr 1
 funext x
 exact QEt x
theorem Qa4 (a b:Int):ile a b= !igt a b:=by
 simp only [ile,igt, ← decide_not,Int.not_lt]
theorem QEH {β:Type}(v s u:Bool)(R E:Option β):br (!v) R (br (!s) R (br (!u) R E))=br (!((v&&s)&&u)) R E:=by
 cases v<;>cases s<;>rfl
theorem QEI {β:Type}(v u:Bool)(R E:Option β):br (!v) R (br (!u) R E)=br (!((v&&true)&&u)) R E:=by
 cases v<;>rfl
abbrev Qhw:Sh:=⟨[(1,.ptr 1 0),(7,.ty (.sl Qo)),(8,.ty tI),(9,.ty tI)],[(1,.box Qx)]⟩
abbrev I7:Sh:=⟨[(2,.ty tI)],[]⟩
abbrev Qhx:Sh:=⟨[(1,.ptr 1 0)],[(1,.box Qx)]⟩
def Qp9:Fg:=Qhw.f
def QEJ:TC:=aF Tryz.f27 [(26,pL 0 Qp9),(421,.fg Qhx.f),(3378,pD [(0,[4]),(1,[]),(2,[]),(3,[]),(4,[]),(5,[]),(6,[]),(7,[1]),(8,[1]),(9,[]),(10,[]),(11,[]),(12,[]),(13,[]),(14,[4]),(15,[4]),(16,[]),(17,[]),(18,[])] (.of [0,1,2,3,4,5,6,7,8,9,10,11,12,13,14,15,16,17,18])),(13517,.fg I7.f)]
def QEK:TC:=lb 0 QEJ
def QEL (x7:List Endpoint)(x8 x9:Int)(y1:Estate):VS:=Qhw.st ((),x7,x8,x9,()) (y1,())
def ZU (x2:Int):VS:=I7.st (x2,()) ()
def U0 (y1:Estate):VS:=Qhx.st ((),()) (y1,())
def QSH:VS->Option (Bool×List (Bool×Exit×VS)):=mkL Qhw (fun x y=>(decide (x.2.1.length=y.1.1.length/\x.2.1.length<=99999)&&(QA x.2.1 x.2.2.1 x.2.2.2.1&&x.2.1.all QS))) (fun x y=>[((!YP x.2.1 y.1.1 x.2.2.2.1.toNat),.ret,ZU (31)),(true,.exit 0,U0 (y.1))])
def Qqa:G:=gG 59 [(46,Qev),(47,QEE),(50,QEs)] (Ls [QSH])
def Qhy (x7:List Endpoint)(x8 x9:Int)(y1:Estate):OX:=Qr (Qv Qqa Qp9 QEK) (QEL x7 x8 x9 y1)
def Qa5 (kk:List Endpoint->Int->Int->Estate->OX)(x7:List Endpoint)(x8 x9:Int)(y1:Estate):OX:=
 let a1:=lgt Qo x7 (Int.toNat x9)
 br (ilt x9 x8) (br (cIx x7 x9) (br (QS a1) (br (ine (JZ a1) 0) (some (.ret,ZU 31)) (br (igt x9 0) (br (cIx y1.1 (QY .i64 x9 1)) (br (!slt ((lgt Qo y1.1 (Int.toNat (QY .i64 x9 1))).1) (a1.1)) (some (.ret,ZU 31)) (kk x7 x8 (Qg .i64 x9 1) y1)) none) (kk x7 x8 (Qg .i64 x9 1) y1))) none) none) (some (.exit 0,U0 y1))
def Qhz (x7:List Endpoint)(x8 x9:Int)(y1:Estate):OX:=br (!YP x7 y1.1 x9.toNat) (some (.ret,ZU (31)))<|some (.exit 0,U0 (y1))
theorem QEM (x7:List Endpoint)(x8 x9:Int)(y1:Estate):Qhy x7 x8 x9 y1=Qa5 Qhy x7 x8 x9 y1:=lnT (x:=Qa5 (fun x7 x8 x9 y1=>some (.normal,QEL x7 x8 x9 y1)) x7 x8 x9 y1) (by simp only [Qa5,nxA];rfl)
def r_f27 (p0:Estate):OV:=
 let a1:=((((p0).2).2).1)
 let a2:=Qa ((p0).1)
 br (decide (p0.1.length=p0.1.length/\p0.1.length<=99999)&&(QA p0.1 (Qa p0.1) (0:Int)&&p0.1.all QS)) (br (!YP p0.1 p0.1 (0:Int).toNat) (some (.t tI (31),[])) (br (Ym a1) (br (FQ a1) (some (.t tI 31,[])) (br (igt a2 16) (some (.t tI 31,[])) (br (igt (Qa a1) 30) (some (.t tI 31,[])) (br (Qhn (((p0).2).1) a2) (br (!(Qa0 (((p0).2).1) a2)) (some (.t tI 31,[])) (some (.t tI 0,[]))) none)))) none)) none
theorem QSI (x7:List Endpoint)(x8 x9:Int)(y1:Estate)(h:(decide (x7.length=y1.1.length/\x7.length<=99999)&&(QA x7 x8 x9&&x7.all QS))=true):Qhy x7 x8 x9 y1=Qhz x7 x8 x9 y1:=by
 simp only [Bb,Ba,Bf] at h
 obtain ⟨⟨hx,hl⟩,h0,ha⟩:=h
 obtain ⟨rfl,h3,k,rfl,hk⟩:=JB h0
 clear h0
 refine QP x7 (fun k=>Qhy x7 (x7.length:Int) (k:Int) y1=Qhz x7 (x7.length:Int) (k:Int) y1) ?_ ?_ k hk
 ·rw [QEM]
  simp only [Qa5,Qhz,Qz,BT,B0,Qf,Bc,QEF,BC]
 ·intro k hk ih
  rw [QEM]
  have he:QS (lgt Qo x7 k)=true:=by rw [QL (y:=Qo) hk];exact ha _ (Bw hk)
  simp only [Qa5,Qz,QJ,hk,Bt,Qb,Bc,QO (show k<4611686018427387904 by omega),ih,he,Gm]
  simp only [Qhz,Bc,QEG hk]
  by_cases hk0:k=0
  ·subst hk0
   rw [show igt ((0:Nat):Int) 0=false from rfl]
   simp only [Qf]
   exact QEI ..
  ·rw [show igt (k:Int) 0=true from Be (by omega),Qhm (by omega) hk0]
   simp only [Qb,QJ,show k-1<y1.1.length by omega,Bt,Bc]
   unfold Qa3
   rw [show decide (k=0)=false from Bl hk0,Da]
   exact QEH ..
theorem QSJ:LO Qqa Qp9 QEK 0:=QH (s:=Qhw) fun x y h _ q=>by simp only [QE,QF] at q;exact (QSI x.2.1 x.2.2.1 x.2.2.2.1 y.1 h).trans q
theorem s_f27 (e:Estate)(h:JN e=true):r_f27 e=some (.t tI (YQ e),[]):=by
 simp only [JN,Bb,Ba] at h
 obtain ⟨⟨h1,h2⟩,h3,h4⟩:=h
 have h5:Qhn (Q9 e) (Qa (Qt e))=true:=Be h2
 simp only [Qt,Q9,ZB] at h1 h2 h3 h4 h5
 simp only [r_f27,JC (show e.1.length<=100000 by omega),Be h1,true_and,BA,h3,h4,h5,Qb,Br,QSG]
 unfold YQ J0 Qa0
 simp only [Qt,Q9,ZB,Ua]
 rw [Qa4 (Qa e.1),Qa4 (Qa e.2.2.1)]
 cases YP e.1 e.1 0<;>cases e.2.2.1.all J8<;>cases igt (Qa e.1) 16<;>cases igt (Qa e.2.2.1) 30<;>cases (Zl (Qa e.1) e.2.1 0&&ile (Qa e.2.1) 40)<;>rfl
def QhA:Ent:=Qi (.pr Qx .nil) (fun x=>(JN x.1)) (fun x=>(.t tI (YQ x.1)))
theorem Qqb:EM 27 QhA:=mS (lk:=lkL (lkc QSJ lkn)) Qqa QEJ [((.t 2),some tI)] false (gB (gD Qmn (gD QSF (gD ms_f50 gN)))) fun m=>Qm m fun x hok=>kT (s_f27 x.1 hok)
abbrev QhB:Sh:=⟨[(1,.ptr 1 0),(3,.ty tI)],[(1,.box Qx)]⟩
abbrev QhC:Sh:=⟨[(1,.ptr 1 0),(4,.ty tI)],[(1,.box Qx)]⟩
abbrev QhD:Sh:=⟨[(1,.ptr 1 0),(6,.ty tI)],[(1,.box Qx)]⟩
def Qqc:Fg:=QhB.f
def Qqd:Fg:=QhC.f
def Qqe:Fg:=QhD.f
def QhE:TC:=aF Tryz.f42 [(58,pL 0 Qqc),(931,.fg Qhx.f),(1864,pD [(0,[1]),(1,[1]),(2,[]),(3,[]),(4,[]),(5,[]),(6,[]),(7,[]),(8,[]),(9,[]),(10,[]),(11,[1]),(12,[1]),(13,[]),(14,[]),(15,[]),(16,[]),(17,[]),(18,[1]),(19,[1]),(20,[]),(21,[]),(22,[]),(23,[]),(24,[]),(25,[]),(26,[])] (.of [0,1,2,3,4,5,6,7,8,9,10,11,12,13,14,15,16,17,18,19,20,21,22,23,24,25,26])),(7461,.fg I7.f),(122,pL 1 Qqd),(1955,.fg Qhx.f),(62613,.fg I7.f),(15654,pD [(0,[]),(1,[]),(2,[]),(3,[1]),(4,[1]),(5,[]),(6,[]),(7,[]),(8,[]),(9,[]),(10,[5]),(11,[5]),(12,[]),(13,[]),(14,[1]),(15,[1]),(16,[]),(17,[]),(18,[]),(19,[]),(20,[]),(21,[5]),(22,[5]),(23,[]),(24,[]),(25,[1]),(26,[1]),(27,[]),(28,[]),(29,[]),(30,[]),(31,[]),(32,[5]),(33,[5]),(34,[]),(35,[]),(36,[]),(37,[])] (.of [0,1,2,3,4,5,6,7,8,9,10,11,12,13,14,15,16,17,18,19,20,21,22,23,24,25,26,27,28,29,30,31,32,33,34,35,36,37])),(62621,.fg I7.f),(250,pL 2 Qqe),(4003,.fg Qhs.f),(32037,.fg I7.f)]
def QEN:TC:=lb 0 QhE
def QEO:TC:=lb 1 QhE
def QEP:TC:=lb 2 QhE
def QEQ (x3:Int)(y1:Estate):VS:=QhB.st ((),x3,()) (y1,())
def QER (x4:Int)(y1:Estate):VS:=QhC.st ((),x4,()) (y1,())
def QES (x6:Int)(y1:Estate):VS:=QhD.st ((),x6,()) (y1,())
def Qqf  : VS:=Qhs.st () ()
def QSK:VS->Option (Bool×List (Bool×Exit×VS)):=mkL QhB (fun x y=>(decide (0<=x.2.1/\x.2.1<=y.1.1.length/\y.1.1.length<=16)&&y.1.1.all QS)) (fun x y=>[((!Ua y.1.1 x.2.1.toNat),.ret,ZU (31)),(true,.exit 0,U0 (y.1))])
def QSL:VS->Option (Bool×List (Bool×Exit×VS)):=mkL QhC (fun x y=>(decide (0<=x.2.1/\x.2.1<=y.1.2.1.length/\y.1.2.1.length<=40))) (fun x y=>[((!Zl (Qa y.1.1) y.1.2.1 x.2.1.toNat),.ret,ZU (31)),(true,.exit 2,U0 (y.1))])
def QSM:VS->Option (Bool×List (Bool×Exit×VS)):=mkL QhD (fun x y=>(decide (0<=x.2.1/\x.2.1<=y.1.2.2.1.length/\y.1.2.2.1.length<=30)&&y.1.2.2.1.all Yr)) (fun x y=>[((!((y.1.2.2.1.drop x.2.1.toNat).all J8)),.ret,ZU (31)),(true,.exit 4,Qqf)])
def FR:G:=gG 152 [(61,Fm),(69,QvQ)] (Ls [QSK,QSL,QSM])
def QhF (x3:Int)(y1:Estate):OX:=Qr (Qv FR Qqc QEN) (QEQ x3 y1)
def Qa6 (kk:Int->Estate->OX)(x3:Int)(y1:Estate):OX:=
 let a1:=lgt Qo y1.1 (Int.toNat x3)
 br (ilt x3 (Qa y1.1)) (br (cIx y1.1 x3) (br (QS a1) (br (ine (JZ a1) 0) (some (.ret,ZU 31)) (br (igt x3 0) (br (cIx y1.1 (QY .i64 x3 1)) (br (cIx y1.1 x3) (br (!slt ((lgt Qo y1.1 (Int.toNat (QY .i64 x3 1))).1) (a1.1)) (some (.ret,ZU 31)) (kk (Qg .i64 x3 1) y1)) none) none) (kk (Qg .i64 x3 1) y1))) none) none) (some (.exit 0,U0 y1))
def QhG (x3:Int)(y1:Estate):OX:=br (!Ua y1.1 x3.toNat) (some (.ret,ZU (31)))<|some (.exit 0,U0 (y1))
theorem QET (x3:Int)(y1:Estate):QhF x3 y1=Qa6 QhF x3 y1:=lnT (x:=Qa6 (fun x3 y1=>some (.normal,QEQ x3 y1)) x3 y1) (by simp only [Qa6,nxA];rfl)
def QhH (x4:Int)(y1:Estate):OX:=Qr (Qv FR Qqd QEO) (QER x4 y1)
def Qa7 (kk:Int->Estate->OX)(x4:Int)(y1:Estate):OX:=
 let a1:=lgt Qd y1.2.1 (Int.toNat x4)
 let a2:=lgt Qd y1.2.1 (Int.toNat (QY .i64 x4 1))
 let a3:=cIx y1.2.1 (QY .i64 x4 1)
 let a4:=Qg .i64 x4 1
 br (ilt x4 (Qa y1.2.1)) (br (cIx y1.2.1 x4) (br (ilt (a1.1) 0) (some (.ret,ZU 31)) (br (ige (a1.1) (Qa y1.1)) (some (.ret,ZU 31)) (br (ilt ((a1.2).1) 0) (some (.ret,ZU 31)) (br (ige ((a1.2).1) (Qa y1.1)) (some (.ret,ZU 31)) (br (ieq (a1.1) ((a1.2).1)) (some (.ret,ZU 31)) (br (igt x4 0) (br a3 (br (igt (a2.1) (a1.1)) (some (.ret,ZU 31)) (br a3 (br (ieq (a2.1) (a1.1)) (br a3 (br (ige ((a2.2).1) ((a1.2).1)) (some (.ret,ZU 31)) (kk a4 y1)) none) (kk a4 y1)) none)) none) (kk a4 y1))))))) none) (some (.exit 2,U0 y1))
def QhI (x4:Int)(y1:Estate):OX:=br (!Zl (Qa y1.1) y1.2.1 x4.toNat) (some (.ret,ZU (31)))<|some (.exit 2,U0 (y1))
theorem QEU (x4:Int)(y1:Estate):QhH x4 y1=Qa7 QhH x4 y1:=lnT (x:=Qa7 (fun x4 y1=>some (.normal,QER x4 y1)) x4 y1) (by simp only [Qa7,nxA];rfl)
def QhJ (x6:Int)(y1:Estate):OX:=Qr (Qv FR Qqe QEP) (QES x6 y1)
def Qa8 (kk:Int->Estate->OX)(x6:Int)(y1:Estate):OX:=
 let a1:=lgt Jl y1.2.2.1 (Int.toNat x6)
 br (ilt x6 (Qa y1.2.2.1)) (br (cIx y1.2.2.1 x6) (br (Yr a1) (br (ine (Yq a1) 0) (some (.ret,ZU 31)) (kk (Qg .i64 x6 1) y1)) none) none) (some (.exit 4,Qqf))
def QhK (x6:Int)(y1:Estate):OX:=br (!((y1.2.2.1.drop x6.toNat).all J8)) (some (.ret,ZU (31)))<|some (.exit 4,Qqf)
theorem QEV (x6:Int)(y1:Estate):QhJ x6 y1=Qa8 QhJ x6 y1:=lnT (x:=Qa8 (fun x6 y1=>some (.normal,QES x6 y1)) x6 y1) (by simp only [Qa8,nxA];rfl)
def r_f42 (p0:Estate):OV:=br (igt (Qa p0.1) 16) (some (.t tI 31,[])) (br (igt (Qa p0.2.1) 40) (some (.t tI 31,[])) (br (igt (Qa p0.2.2.1) 30) (some (.t tI 31,[])) (br (decide (0<=(0:Int)/\(0:Int)<=p0.1.length/\p0.1.length<=16)&&p0.1.all QS) (br (!Ua p0.1 (0:Int).toNat) (some (.t tI (31),[])) (br (decide (0<=(0:Int)/\(0:Int)<=(p0).2.1.length/\(p0).2.1.length<=40)) (br (!Zl (Qa (p0).1) (p0).2.1 (0:Int).toNat) (some (.t tI (31),[])) (br (decide (0<=(0:Int)/\(0:Int)<=(p0).2.2.1.length/\(p0).2.2.1.length<=30)&&(p0).2.2.1.all Yr) (br (!(((p0).2.2.1.drop (0:Int).toNat).all J8)) (some (.t tI (31),[])) (some (.t tI 0,[]))) none)) none)) none)))
theorem QSN (x3:Int)(y1:Estate)(h:(decide (0<=x3/\x3<=y1.1.length/\y1.1.length<=16)&&y1.1.all QS)=true):QhF x3 y1=QhG x3 y1:=by
 simp only [Bb,Ba,Bf] at h
 obtain ⟨⟨h0,h1,h2⟩,ha⟩:=h
 obtain ⟨k,rfl⟩:=Bo h0
 refine QP y1.1 (fun k=>QhF (k:Int) y1=QhG (k:Int) y1) ?_ ?_ k (by omega)
 ·rw [QET]
  simp only [Qa6,QhG,Qa,Qz,BT,B0,Qf,Bc,QEF,BC]
 ·intro k hk ih
  rw [QET]
  have he:QS (lgt Qo y1.1 k)=true:=by rw [QL (y:=Qo) hk];exact ha _ (Bw hk)
  simp only [Qa6,Qa,Qz,QJ,hk,Bt,Qb,Bc,QO (show k<4611686018427387904 by omega),ih,he,Gm]
  simp only [QhG,Bc,QEG hk]
  by_cases hk0:k=0
  ·subst hk0
   rw [show igt ((0:Nat):Int) 0=false from rfl]
   simp only [Qf]
   exact QEI ..
  ·rw [show igt (k:Int) 0=true from Be (by omega),Qhm (by omega) hk0]
   simp only [Qb,QJ,show k-1<y1.1.length by omega,Bt,Bc]
   unfold Qa3
   rw [show decide (k=0)=false from Bl hk0,Da]
   exact QEH ..
theorem QSO (x4:Int)(y1:Estate)(h:(decide (0<=x4/\x4<=y1.2.1.length/\y1.2.1.length<=40))=true):QhH x4 y1=QhI x4 y1:=by
 obtain ⟨h0,h1,h2⟩:=Bx h
 obtain ⟨k,rfl⟩:=Bo h0
 refine QP y1.2.1 (fun k=>QhH (k:Int) y1=QhI (k:Int) y1) ?_ ?_ k (by omega)
 ·rw [QEU]
  simp only [Qa7,QhI,show Qa y1.2.1=(y1.2.1.length:Int) from rfl,Qz,BT,B0,Qf,Bc,QEj,BC]
 ·intro k hk ih
  rw [QEU]
  simp only [Qa7,show Qa y1.2.1=(y1.2.1.length:Int) from rfl,Qz,QJ,hk,Bt,Qb,Bc,QO (show k<4611686018427387904 by omega),ih]
  simp only [QhI,Bc,QEk hk]
  by_cases hk0:k=0
  ·subst hk0
   rw [show igt ((0:Nat):Int) 0=false from rfl]
   simp only [Qf]
   exact QEl ..
  ·rw [show igt (k:Int) 0=true from Be (by omega),Qhm (by omega) hk0]
   simp only [Qb,QJ,show k-1<y1.2.1.length by omega,Bt,Bc]
   unfold I5
   rw [show decide (k=0)=false from Bl hk0,Da]
   exact QEm ..
theorem QSP (x6:Int)(y1:Estate)(h:(decide (0<=x6/\x6<=y1.2.2.1.length/\y1.2.2.1.length<=30)&&y1.2.2.1.all Yr)=true):QhJ x6 y1=QhK x6 y1:=by
 simp only [Bb,Ba,Bf] at h
 obtain ⟨⟨h0,h1,h2⟩,ha⟩:=h
 obtain ⟨k,rfl⟩:=Bo h0
 refine QP y1.2.2.1 (fun k=>QhJ (k:Int) y1=QhK (k:Int) y1) ?_ ?_ k (by omega)
 ·rw [QEV]
  simp only [Qa8,QhK,Qa,Qz,BT,B0,Qf,Bc,BK,Dy,BC]
 ·intro k hk ih
  rw [QEV]
  have he:Yr y1.2.2.1[k]=true:=ha _ (Bw hk)
  have hb:ine (Yq y1.2.2.1[k]) 0= !J8 y1.2.2.1[k]:=QEt _
  simp only [Qa8,Qa,Qz,QJ,hk,Bt,Qb,Bc,QO (show k<4611686018427387904 by omega),ih,QL (y:=Jl) hk,he,hb]
  simp only [QhK,Bc,Bi hk,BW]
  cases J8 y1.2.2.1[k]<;>rfl
theorem QSQ:LO FR Qqc QEN 0:=QH (s:=QhB) fun x y h _ q=>by simp only [QE,QF] at q;exact (QSN x.2.1 y.1 h).trans q
theorem QSR:LO FR Qqd QEO 1:=QH (s:=QhC) fun x y h _ q=>by simp only [QE,QF] at q;exact (QSO x.2.1 y.1 h).trans q
theorem QSS:LO FR Qqe QEP 2:=QH (s:=QhD) fun x y h _ q=>by simp only [QE,QF] at q;exact (QSP x.2.1 y.1 h).trans q
theorem s_f42 (e:Estate)(h:JN e=true):r_f42 e=some (.t tI (YQ e),[]):=by
 simp only [JN,Bb,Ba] at h
 obtain ⟨⟨h1,h2⟩,h3,h4⟩:=h
 have h6:(ZB e).all Yr=true:=by
  simp only [Ym,Bb] at h4
  exact h4.2
 simp only [Qt,Q9,ZB] at h1 h2 h3 h6
 simp only [r_f42,h3,h6,Df,Br,By]
 unfold YQ J0
 simp only [Qt,Q9,ZB,Ua]
 rw [Qa4 (Qa e.1),Qa4 (Qa e.2.2.1),Qa4 (Qa e.2.1)]
 cases g1:igt (Qa e.1) 16 with
 |true=>cases YP e.1 e.1 0<;>cases e.2.2.1.all J8<;>rfl
 |false=>
  cases g2:igt (Qa e.2.1) 40 with
  |true=>cases YP e.1 e.1 0<;>cases e.2.2.1.all J8<;>cases igt (Qa e.2.2.1) 30<;>cases Zl (Qa e.1) e.2.1 0<;>rfl
  |false=>
   cases g3:igt (Qa e.2.2.1) 30 with
   |true=>cases YP e.1 e.1 0<;>cases e.2.2.1.all J8<;>rfl
   |false=>
    simp only [igt,Qa,Bn] at g1 g2 g3
    rw [Be (show (0:Int)<=0/\(0:Int)<=e.1.length/\e.1.length<=16 by omega),Be (show (0:Int)<=0/\(0:Int)<=e.2.1.length/\e.2.1.length<=40 by omega),Be (show (0:Int)<=0/\(0:Int)<=e.2.2.1.length/\e.2.2.1.length<=30 by omega)]
    cases YP e.1 e.1 0<;>cases e.2.2.1.all J8<;>cases Zl (Qa e.1) e.2.1 0<;>rfl
def QEW:Ent:=Qi (.pr Qx .nil) (fun x=>(JN x.1)) (fun x=>(.t tI (YQ x.1)))
theorem ms_f42:EM 42 QEW:=mS (lk:=lkL (lkc QSQ (lkc QSR (lkc QSS lkn)))) FR QhE [((.t 2),some tI)] false (gB (gD Ia (gD ms_f69 gN))) fun m=>Qm m fun x hok=>kT (s_f42 x.1 hok)
end
end Go.Proofs.YtmjnnemhoeolgaaGreat.K
noncomputable section
namespace Go.Proofs.YtmjnnemhoeolgaaGreat.K
open Go.RowKit
noncomputable section
theorem brY {β:Type}{c:Bool}{a b r:Option β}(h:c=true)(k:a=r):br c a b=r:=by
 subst h
 exact k
def Uc (e:Estate)(i:Int):Endpoint×Endpoint:=(Jb (Qt e) (JS (Q9 e) i.toNat).1.toNat,Jb (Qt e) (JS (Q9 e) i.toNat).2.1.toNat)
def FV (e:Estate)(i:Int):Bool:=cIx (Q9 e) i&&(cIx (Qt e) (JS (Q9 e) i.toNat).1&&cIx (Qt e) (JS (Q9 e) i.toNat).2.1)
theorem eg_all {n:Int}{l:List Keep}(h:Zl n l 0=true){k:Nat}(hk:k<l.length):FP n (JS l k)=true:=by
 unfold Zl at h
 rw [Bf] at h
 have:=h k (by rw [List.mem_range'];exact ⟨k,by omega,by omega⟩)
 unfold I5 at this
 exact (Bg.1 this).1
theorem eg_in {n:Int}{x:Keep}(h:FP n x=true):(0<=x.1/\x.1<n)/\(0<=x.2.1/\x.2.1<n)/\x.1≠x.2.1:=by
 simp only [FP,ilt,ige,ZV,Bb,Bu,Bn] at h
 refine ⟨⟨by omega,by omega⟩,⟨by omega,by omega⟩,h.2.2.2.2⟩
theorem Ud {e:Estate}(h:J0 e=true):Ua (Qt e) 0=true/\(ZB e).all J8=true/\(Qt e).length<=16/\(ZB e).length<=30/\Zl (Qa (Qt e)) (Q9 e) 0=true/\(Q9 e).length<=40:=by
 simp only [J0,ile,Qa,Bb,Ba] at h
 exact ⟨h.1,h.2.1,by omega,by omega,h.2.2.2.2.1,by omega⟩
theorem QqA {e:Estate}(h:J0 e=true){k:Nat}(hk:k<(Q9 e).length):(0<=(JS (Q9 e) k).1/\(JS (Q9 e) k).1<(Qt e).length)/\(0<=(JS (Q9 e) k).2.1/\(JS (Q9 e) k).2.1<(Qt e).length)/\(JS (Q9 e) k).1≠(JS (Q9 e) k).2.1:=
 eg_in (eg_all (Ud h).2.2.2.2.1 hk)
theorem QqB {e:Estate}{i:Int}(h:J0 e=true)(h0:0<=i)(h1:i<(Q9 e).length):FV e i=true:=by
 obtain ⟨k,rfl⟩:=Bo h0
 have:=QqA h (k:=k) (by omega)
 simp only [FV,cIx,Bc,Bb,Ba]
 exact ⟨⟨by omega,by omega⟩,⟨this.1.1,this.1.2⟩,this.2.1.1,this.2.1.2⟩
theorem QqC {e:Estate}(h:JN e=true):(Qt e).all QS=true:=by
 simp only [JN,Bb] at h
 exact h.2.1
theorem QqD {l:List Endpoint}(h:l.all QS=true){c:Int}(hc:cIx l c=true):QS (Jb l c.toNat)=true:=by
 simp only [cIx,Ba] at hc
 obtain ⟨k,rfl⟩:=Bo hc.1
 have hk:k<l.length:=by omega
 rw [Bc,show Jb l k=l[k] by simp only [Jb,Bk,Bh hk,BH]]
 exact Bf.1 h _ (Bw hk)
theorem QFq {e:Estate}{i:Int}(h:JN e=true)(hi:FV e i=true):WW (Uc e i).1 (Uc e i).2=true:=by
 simp only [FV,Bb] at hi
 exact Bg.2 ⟨QqD (QqC h) hi.2.1,QqD (QqC h) hi.2.2⟩
end
end Go.Proofs.YtmjnnemhoeolgaaGreat.K
noncomputable section
namespace Go.Proofs.YtmjnnemhoeolgaaGreat.K
open Go.RowKit
noncomputable section
theorem Vd {x:Int}(h:ine x 0=false):x=0:=by
 simpa [ine] using h
theorem QKV (s:Endpoint)(o:List Int): ∀ (n v:Nat),(W4 s o v n).length<=16*n:=by
 intro n
 induction n with
 |zero=>intro v;simp [W4]
 |succ n ih=>
  intro v
  have h1:(Fs s o (v:Int) 1).length<=16:=by
   unfold Fs
   rw [BR]
   exact Dg (List.length_filter_le _ _) (by rw [List.length_range'];omega)
  have h2:=ih (v+1)
  unfold W4 at h2 ⊢
  rw [Dr,BO,Bm]
  omega
theorem Ve {c s:Endpoint}:(Z4 c s).length<=64:=by
 unfold Z4
 cases h:XB c s with
 |false=>exact BX _
 |true=>
  obtain ⟨hv,hw⟩:=Bg.1 h
  have v1:=WL hv
  have v2:=WL hw
  refine Dg (QKV _ _ _ _) ?_
  simp only [hiC,loC,imn,imx]
  split<;>split<;>omega
end
end Go.Proofs.YtmjnnemhoeolgaaGreat.K
noncomputable section
namespace Go.Proofs.YtmjnnemhoeolgaaGreat.K
open Go.RowKit Go.Shelf
end Go.Proofs.YtmjnnemhoeolgaaGreat.K
noncomputable section
namespace Go.Proofs.YtmjnnemhoeolgaaGreat.K
open Go.RowKit
noncomputable section
end
end Go.Proofs.YtmjnnemhoeolgaaGreat.K
noncomputable section
namespace Go.Proofs.YtmjnnemhoeolgaaGreat.K
open Go.RowKit
noncomputable section
end
end Go.Proofs.YtmjnnemhoeolgaaGreat.K
noncomputable section
namespace Go.Proofs.YtmjnnemhoeolgaaGreat.K
open Go.RowKit
noncomputable section
def UK:List Keep:=[(2,(0,())),(1,(0,())),(5,(2048,())),(16,(128,())),(3,(0,())),(15,(168,()))]
def Yu:Nat->Int->Dice->List Link×Dice
 |0,_,d=>([],d)
 |n+1,day,d=>((lgt Qd UK (Qj d 6).toNat,(day,()))::(Yu n (Qg .i64 (Qg .i64 day 1) (dof (Qe d 6) [5,30,0,100])) (QU (Qe d 6) [5,30,0,100])).1,(Yu n (Qg .i64 (Qg .i64 day 1) (dof (Qe d 6) [5,30,0,100])) (QU (Qe d 6) [5,30,0,100])).2)
def VR (d:Dice):Dice:=Qe (Qe (Qe (Qe d 2) 4) 20) 3
def JJ (d:Dice):List Link×Dice:=Yu (Qg .i64 1 (Qj (Qe (Qe (Qe d 2) 4) 20) 3)).toNat (Qj (Qe (Qe d 2) 4) 20) (VR d)
def VT (d:Dice)(s:ByteArray):Item:=(s,(Qg .i64 1 (Qj d 2),(Qg .i64 1 (Qj (Qe d 2) 4),((JJ d).1,(Qg .i64 (lgt Zd (JJ d).1 0).2.1 (dof (JJ d).2 [50,300,0,3000]),())))))
def Fo (d:Dice)(_s:ByteArray):Dice:=QU (JJ d).2 [50,300,0,3000]
def Qfh (d:Dice)(_s:ByteArray):Bool:=dOk d
theorem QNN {n:Nat}: ∀ {day:Int} {d:Dice},dOk d=true->dOk (Yu n day d).2=true:=by
 induction n with
 |zero=>exact fun h=>h
 |succ n ih=>exact fun h=>ih (F8 (l:=[5,30,0,100]) (QW h))
theorem QzM {d:Dice}(h:dOk d=true):dOk (JJ d).2=true:=QNN (QW (QW (QW (QW h))))
theorem QzN {d:Dice}{s:ByteArray}(h:dOk d=true):dOk (Fo d s)=true:=F8 (QzM h)
theorem Qm9: ∀ (n:Nat) (day:Int) (d:Dice),(Yu n day d).1.length=n
 |0,_,_=>rfl
 |n+1,day,d=>by simp only [Yu,Bv,Qm9 n]
theorem QNO:UK.all Jq=true:=by kernel_rfl
theorem QNP {y:Ty}{l:List y.T}{i:Nat}(h:i<l.length):lgt y l i∈l:=by
 rw [QL (y:=y) h]
 exact Bw h
theorem QNQ {e:Dice}:0<=dof e [5,30,0,100]/\dof e [5,30,0,100]<=100:=by
 have h:=Oo (d:=e) (l:=[5,30,0,100]) (by decide)
 simp only [B5,Do,or_false] at h
 omega
theorem QzO: ∀ (n:Nat) (day:Int) (d:Dice) (pv:Option Int),n<=3->0<=day->day+101*n<=1000->(∀ e,pv=some e->e<day)->Xb pv (Yu n day d).1=true
 |0,_,_,pv,_,_,_,_=>by cases pv<;>rfl
 |n+1,day,d,pv,h1,h2,h3,h4=>by
  have hv:=JO (d:=d) (n:=6) (by omega)
  have hs:=QNQ (e:=Qe d 6)
  have e1:Qg .i64 (Qg .i64 day 1) (dof (Qe d 6) [5,30,0,100])=day+1+dof (Qe d 6) [5,30,0,100]:=by rw [J6 (a:=day) (b:=1) (by omega),J6 (by omega)]
  unfold Yu
  rw [QkR,e1]
  have hu:Jq (lgt Qd UK (Qj d 6).toNat)=true:=Bf.1 QNO _ (QNP (y:=Qd) (by have:UK.length=6:=rfl;omega))
  have hr:=QzO n (day+1+dof (Qe d 6) [5,30,0,100]) (QU (Qe d 6) [5,30,0,100]) (some day) (by omega) (by omega) (by omega) (fun e he=>by injection he;omega)
  simp only [hu,hr,Be (show 0<=day/\day<=40000 by omega),BA,Df]
  cases pv with
  |none=>rfl
  |some e=>exact Be (h4 e rfl)
theorem QNR: ∀ (n:Nat) (day:Int) (d:Dice),0<n->((Yu n day d).1.headD ((0,(0,())),(0,()))).2.1=day
 |0,_,_,h=>by omega
 |n+1,day,d,_=>rfl
theorem QNS (d:Dice):1<=(JJ d).1.length/\(JJ d).1.length<=3:=by
 have b3:=JO (d:=Qe (Qe (Qe d 2) 4) 20) (n:=3) (by omega)
 have e3:Qg .i64 1 (Qj (Qe (Qe (Qe d 2) 4) 20) 3)=1+Qj (Qe (Qe (Qe d 2) 4) 20) 3:=J6 (by omega)
 unfold JJ
 rw [Qm9,e3]
 omega
theorem QNT (d:Dice){s:ByteArray}(hs:JD s=true):J8 (VT d s)=true:=by
 have b2:=JO (d:=d) (n:=2) (by omega)
 have b4:=JO (d:=Qe d 2) (n:=4) (by omega)
 have b20:=JO (d:=Qe (Qe d 2) 4) (n:=20) (by omega)
 have b3:=JO (d:=Qe (Qe (Qe d 2) 4) 20) (n:=3) (by omega)
 have e2:Qg .i64 1 (Qj d 2)=1+Qj d 2:=J6 (by omega)
 have e4:Qg .i64 1 (Qj (Qe d 2) 4)=1+Qj (Qe d 2) 4:=J6 (by omega)
 have e3:Qg .i64 1 (Qj (Qe (Qe (Qe d 2) 4) 20) 3)=1+Qj (Qe (Qe (Qe d 2) 4) 20) 3:=J6 (by omega)
 have hl:=QNS d
 have hh:((JJ d).1.headD ((0,(0,())),(0,()))).2.1=Qj (Qe (Qe d 2) 4) 20:=QNR _ _ _ (by rw [e3];omega)
 have e0:lgt Zd (JJ d).1 0=(JJ d).1.headD ((0,(0,())),(0,())):=by
  cases hq:(JJ d).1 with
  |nil=>rw [hq] at hl;simp at hl
  |cons a l=>rfl
 have hu:0<=dof (JJ d).2 [50,300,0,3000]/\dof (JJ d).2 [50,300,0,3000]<=3000:=by
  have h:=Oo (d:=(JJ d).2) (l:=[50,300,0,3000]) (by decide)
  simp only [B5,Do,or_false] at h
  omega
 have eu:Qg .i64 (lgt Zd (JJ d).1 0).2.1 (dof (JJ d).2 [50,300,0,3000])=(lgt Zd (JJ d).1 0).2.1+dof (JJ d).2 [50,300,0,3000]:=J6 (by rw [e0,hh];omega)
 refine Zu.2 ⟨hs, ?_, ?_, ?_, ?_, ?_⟩
 ·show 1<=Qg .i64 1 (Qj d 2)/\Qg .i64 1 (Qj d 2)<=2
  omega
 ·show 1<=Qg .i64 1 (Qj (Qe d 2) 4)/\Qg .i64 1 (Qj (Qe d 2) 4)<=4
  omega
 ·show 1<=(JJ d).1.length/\(JJ d).1.length<=8
  omega
 ·exact QzO _ _ _ none (by rw [e3];omega) (by omega) (by omega) (fun e he=>by cases he)
 ·show ((JJ d).1.headD ((0,(0,())),(0,()))).2.1<=Qg .i64 (lgt Zd (JJ d).1 0).2.1 (dof (JJ d).2 [50,300,0,3000])/\Qg .i64 (lgt Zd (JJ d).1 0).2.1 (dof (JJ d).2 [50,300,0,3000])<=40000
  rw [eu,e0,hh]
  omega
abbrev Qfi:Sh:=⟨[(0,.ptr 50000 0),(4,.ptr 4 0),(5,.ptr 5 0),(6,.ty tI),(7,.ty tI)],[(4,.box Jl),(5,.bag [.ty .str,.ty tI,.ty tI,.ms 20503,.ty tI]),(43,.no),(20503,.arr 153 Zd),(50000,.box QK)]⟩
abbrev QNU:Sh:=⟨[(0,.ptr 50000 0),(4,.ptr 4 0),(5,.ptr 5 0)],[(4,.box Jl),(5,.bag [.ty .str,.ty tI,.ty tI,.ms 20503,.ty tI]),(43,.no),(20503,.arr 153 Zd),(50000,.box QK)]⟩
def Qna:Fg:=Qfi.f
def QzP:TC:=aF Tryz.f40 [(122,.nf 5 3 153 20503),(122,pL 0 Qna),(1955,.fg ⟨[(0,none),(4,none),(5,none)],[(4,some Jl),(5,some Jl),(43,none),(20503,none),(50000,some QK)]⟩),(62,pD [(0,[5,43,20503]),(1,[5,43,20503]),(2,[43,20503]),(3,[43,20503]),(4,[43,20503]),(5,[50000]),(6,[]),(7,[58,5058,10058,15058,50000]),(8,[]),(9,[5,43,20503]),(10,[4,5,43,20503])] (.of [0,1,2,3,4,5,6,7,8,9,10]))]
def QzQ:TC:=lb 0 QzP
def QzR (x6 x7:Int)(y4:Item)(y5_0:ByteArray)(y5_1 y5_2 y5_4:Int)(Zs:List Link)(Qc:Dice):VS:=Qfi.st ((),(),(),x6,x7,()) (y4,(y5_0,y5_1,y5_2,(),y5_4,()),(),Zs,Qc,())
def Qnb (y4:Item)(y5_0:ByteArray)(y5_1 y5_2 y5_4:Int)(Zs:List Link)(Qc:Dice):VS:=QNU.st ((),(),(),()) (y4,(y5_0,y5_1,y5_2,(),y5_4,()),(),Zs,Qc,())
def QNV:VS->Option (Bool×List (Bool×Exit×VS)):=mkL Qfi (fun x y=>(dOk y.2.2.2.2.1&&decide (0<=x.2.2.2.2.1/\x.2.2.2.2.1<=100/\y.2.2.2.1.length+x.2.2.2.2.1.toNat<=1000))) (fun x y=>[(true,.exit 0,Qnb (y.1) (y.2.1.1) (y.2.1.2.1) (y.2.1.2.2.1) (y.2.1.2.2.2.2.1) (y.2.2.2.1++(Yu x.2.2.2.2.1.toNat x.2.2.2.1 y.2.2.2.2.1).1) ((Yu x.2.2.2.2.1.toNat x.2.2.2.1 y.2.2.2.2.1).2))])
def Qnc:G:=gG 62 [(22,U7),(26,QbY)] (Ls [QNV])
def Qnd (x6 x7:Int)(y4:Item)(y5_0:ByteArray)(y5_1 y5_2 y5_4:Int)(Zs:List Link)(Qc:Dice):OX:=Qr (Qv Qnc Qna QzQ) (QzR x6 x7 y4 y5_0 y5_1 y5_2 y5_4 Zs Qc)
def VU (kk:Int->Int->Item->ByteArray->Int->Int->Int->List Link->Dice->OX)(x6 x7:Int)(y4:Item)(y5_0:ByteArray)(y5_1 y5_2 y5_4:Int)(Zs:List Link)(Qc:Dice):OX:=
 let a1:=(lgt Qd ([(2,(0,())),(1,(0,())),(5,(2048,())),(16,(128,())),(3,(0,())),(15,(168,()))]) (Int.toNat (Qj Qc 6)))
 let a2:=((a1.1,((a1.2).1,())),(x6,()))
 let a3:=Qe Qc 6
 br (igt x7 0) (br (Q2 Qc 6) (br (cIx ([(2,(0,())),(1,(0,())),(5,(2048,())),(16,(128,())),(3,(0,())),(15,(168,()))]) (Qj Qc 6)) (br (QM Zs ([a2]) 24) (br (YC a3 ([5,30,0,100])) (kk (Qg .i64 (Qg .i64 x6 1) (dof a3 ([5,30,0,100]))) (QY .i64 x7 1) y4 y5_0 y5_1 y5_2 y5_4 (Zs++([a2])) (QU a3 ([5,30,0,100]))) none) none) none) none) (some (.exit 0,Qnb y4 y5_0 y5_1 y5_2 y5_4 Zs Qc))
def VV (x6 x7:Int)(y4:Item)(y5_0:ByteArray)(y5_1 y5_2 y5_4:Int)(Zs:List Link)(Qc:Dice):OX:=
 let a1:=Yu x7.toNat x6 Qc
 some (.exit 0,Qnb (y4) (y5_0) (y5_1) (y5_2) (y5_4) (Zs++a1.1) (a1.2))
theorem QzS (x6 x7:Int)(y4:Item)(y5_0:ByteArray)(y5_1 y5_2 y5_4:Int)(Zs:List Link)(Qc:Dice):Qnd x6 x7 y4 y5_0 y5_1 y5_2 y5_4 Zs Qc=VU Qnd x6 x7 y4 y5_0 y5_1 y5_2 y5_4 Zs Qc:=lnT (x:=VU (fun x6 x7 y4 y5_0 y5_1 y5_2 y5_4 Zs Qc=>some (.normal,QzR x6 x7 y4 y5_0 y5_1 y5_2 y5_4 Zs Qc)) x6 x7 y4 y5_0 y5_1 y5_2 y5_4 Zs Qc) (by simp only [VU,nxA];rfl)
def r_f40 (d0:Dice)(p1:ByteArray):OV:=
 let a2:=Qe (Qe (Qe d0 2) 4) 20
 let a3:=Qg .i64 1 (Qj a2 3)
 let a1:=Yu a3.toNat (Qj (Qe (Qe d0 2) 4) 20) (Qe a2 3)
 br (Q2 d0 2) (br (Q2 (Qe d0 2) 4) (br (Q2 (Qe (Qe d0 2) 4) 20) (br (Q2 a2 3) (br (dOk (Qe a2 3)&&decide (0<=a3/\a3<=100/\([]:List Link).length+a3.toNat<=1000)) (br (cIx (([]:List Link)++a1.1) 0) (br (cLd (([]:List Link)++a1.1) (Int.toNat 0)) (br (YC (a1.2) ([50,300,0,3000])) (some (.t Jl ((p1),((Qg .i64 1 (Qj d0 2)),((Qg .i64 1 (Qj (Qe d0 2) 4)),((([]:List Link)++a1.1),((Qg .i64 (((lgt Zd (([]:List Link)++a1.1) (Int.toNat 0)).2).1) (dof (a1.2) ([50,300,0,3000]))),()))))),[.box (.t QK (QU (a1.2) ([50,300,0,3000])))])) none) none) none) none) none) none) none) none
theorem QNW (x6 x7:Int)(y4:Item)(y5_0:ByteArray)(y5_1 y5_2 y5_4:Int)(Zs:List Link)(Qc:Dice)(h:(dOk Qc&&decide (0<=x7/\x7<=100/\Zs.length+x7.toNat<=1000))=true):Qnd x6 x7 y4 y5_0 y5_1 y5_2 y5_4 Zs Qc=VV x6 x7 y4 y5_0 y5_1 y5_2 y5_4 Zs Qc:=by
 simp only [Bb,Ba] at h
 obtain ⟨hd,h1,h2q,h3⟩:=h
 obtain ⟨k,rfl⟩:=Bo h1
 rw [Bc] at h3
 have h2:k<=100:=by omega
 clear h1 h2q
 induction k generalizing Zs Qc x6 with
 |zero=>
  rw [QzS]
  have e1:igt ((0:Nat):Int) 0=false:=rfl
  simp only [VU,e1,Qf,VV,Bc,Yu,BQ]
 |succ k ih=>
  rw [QzS]
  have e1:igt ((k+1:Nat):Int) 0=true:=by simp only [igt,Ba];omega
  have e2:QY .i64 ((k+1:Nat):Int) 1=(k:Int):=by rw [Yc (by omega)];omega
  have hv:=JO (d:=Qc) (n:=6) (by omega)
  have hc:cIx UK (Qj Qc 6)=true:=by
   have:UK.length=6:=rfl
   simp only [cIx,Ba]
   omega
  have hla:VV x6 ((k+1:Nat):Int) y4 y5_0 y5_1 y5_2 y5_4 Zs Qc=VV (Qg .i64 (Qg .i64 x6 1) (dof (Qe Qc 6) [5,30,0,100])) (k:Int) y4 y5_0 y5_1 y5_2 y5_4 (Zs++[(lgt Qd UK (Qj Qc 6).toNat,(x6,()))]) (QU (Qe Qc 6) [5,30,0,100]):=by
   simp only [VV,Bc,Yu,BU]
   rfl
  rw [hla, ← ih _ _ _ (F8 (QW hd)) (by simp;omega) (by omega)]
  have n6:Q2 Qc 6=true:=by simp [Q2,hd]
  have f1:YC (Qe Qc 6) [5,30,0,100]=true:=by simp [YC,QW hd]
  simp only [VU,e1,e2,n6,f1,Qb,show ([(2,(0,())),(1,(0,())),(5,(2048,())),(16,(128,())),(3,(0,())),(15,(168,()))]:List Keep)=UK from rfl,hc]
  rw [QGm (by simp;omega) (by omega),Qb]
  show br (cIx UK (Qj Qc 6)) _ _=_
  rw [hc,Qb]
theorem QNX:LO Qnc Qna QzQ 0:=QH (s:=Qfi) fun x y h _ q=>by simp only [QE,QF] at q;exact (QNW x.2.2.2.1 x.2.2.2.2.1 y.1 y.2.1.1 y.2.1.2.1 y.2.1.2.2.1 y.2.1.2.2.2.2.1 y.2.2.2.1 y.2.2.2.2.1 h).trans q
theorem s_f40 (d:Dice)(s:ByteArray)(h:Qfh d s=true):r_f40 d s=some (.t Jl (VT d s),[.box (.t QK (Fo d s))]):=by
 have h:dOk d=true:=h
 have n2:Q2 d 2=true:=by simp [Q2,h]
 have n4:Q2 (Qe d 2) 4=true:=by simp [Q2,QW h]
 have n20:Q2 (Qe (Qe d 2) 4) 20=true:=by simp [Q2,QW (QW h)]
 have n3:Q2 (Qe (Qe (Qe d 2) 4) 20) 3=true:=by simp [Q2,QW (QW (QW h))]
 have b3:=JO (d:=Qe (Qe (Qe d 2) 4) 20) (n:=3) (by omega)
 have e3:Qg .i64 1 (Qj (Qe (Qe (Qe d 2) 4) 20) 3)=1+Qj (Qe (Qe (Qe d 2) 4) 20) 3:=J6 (by omega)
 have hl:=Qm9 (Qg .i64 1 (Qj (Qe (Qe (Qe d 2) 4) 20) 3)).toNat (Qj (Qe (Qe d 2) 4) 20) (VR d)
 have hd3:dOk (VR d)=true:=QW (QW (QW (QW h)))
 have hL:dOk (JJ d).2=true:=QzM h
 have f5:YC (JJ d).2 [50,300,0,3000]=true:=by simp [YC,hL]
 have hlen:0<(JJ d).1.length:=by
  show 0<(Yu _ _ _).1.length
  rw [hl]
  omega
 have c1:cIx (JJ d).1 0=true:=by simp only [cIx,Ba];omega
 have c2:cLd (JJ d).1 (Int.toNat 0)=true:=by simp only [cLd,Ba];exact hlen
 simp only [r_f40,n2,n4,n20,n3,Qb,BP,show Qe (Qe (Qe (Qe d 2) 4) 20) 3=VR d from rfl,hd3,BA]
 rw [GR ⟨by omega,by omega,by simp;omega⟩,Qb]
 simp only [show Yu (Qg .i64 1 (Qj (Qe (Qe (Qe d 2) 4) 20) 3)).toNat (Qj (Qe (Qe d 2) 4) 20) (VR d)=JJ d from rfl,c1,c2,f5,Qb]
 rfl
def QzT:Ent:=Wn QK (.pr .str .nil) (fun d x=>(Qfh d x.1)) (fun d x=>(.t Jl (VT d x.1))) (fun d x=>(Fo d x.1))
theorem ms_f40:EM 40 QzT:=mS (lk:=lkL (lkc QNX lkn)) Qnc QzP [((.c 4 true 5),some Jl)] false (gB (gD GT (gD QiL gN))) fun m=>Um m rfl fun d x hok=>kT (s_f40 d x.1 hok)
abbrev Qfj:Sh:=⟨[(1,.ty tI),(7,.ty (.sl tI)),(8,.ty tI),(9,.ty tI)],[]⟩
abbrev QzU:Sh:=⟨[(4,.ty .bool)],[]⟩
abbrev QzV:Sh:=⟨[],[]⟩
def Qne:Fg:=Qfj.f
def QzW:TC:=aF Tryz.f17 [(26,pL 0 Qne),(421,.fg QzV.f),(13517,.fg QzU.f)]
def QzX:TC:=lb 0 QzW
def QzY (x1:Int)(x7:List Int)(x8 x9:Int):VS:=Qfj.st (x1,x7,x8,x9,()) ()
def Qnf (x4:Bool):VS:=QzU.st (x4,()) ()
def Qng  : VS:=QzV.st () ()
def QNY:VS->Option (Bool×List (Bool×Exit×VS)):=mkL Qfj (fun x y=>(QA x.2.1 x.2.2.1 x.2.2.2.1)) (fun x y=>[((QR (x.2.1.drop x.2.2.2.1.toNat) x.1),.ret,Qnf (true)),(true,.exit 0,Qng)])
def Qnh:G:=gG 17 [] (Ls [QNY])
def Qfk (x1:Int)(x7:List Int)(x8 x9:Int):OX:=Qr (Qv Qnh Qne QzX) (QzY x1 x7 x8 x9)
def VW (kk:Int->List Int->Int->Int->OX)(x1:Int)(x7:List Int)(x8 x9:Int):OX:=br (ilt x9 x8) (br (cIx x7 x9) (br (ieq (lgt tI x7 (Int.toNat x9)) x1) (some (.ret,Qnf true)) (kk x1 x7 x8 (Qg .i64 x9 1))) none) (some (.exit 0,Qng))
def Qfl (x1:Int)(x7:List Int)(x8 x9:Int):OX:=br (QR (x7.drop x9.toNat) x1) (some (.ret,Qnf (true)))<|some (.exit 0,Qng)
theorem QzZ (x1:Int)(x7:List Int)(x8 x9:Int):Qfk x1 x7 x8 x9=VW Qfk x1 x7 x8 x9:=lnT (x:=VW (fun x1 x7 x8 x9=>some (.normal,QzY x1 x7 x8 x9)) x1 x7 x8 x9) (by simp only [VW,nxA];rfl)
def r_f17 (p0:List Int)(p1:Int):OV:=br (QA p0 (Qa p0) (0:Int)) (br (QR (p0.drop (0:Int).toNat) p1) (some (.t .bool (true),[])) (some (.t .bool false,[]))) none
theorem QNZ (x1:Int)(x7:List Int)(x8 x9:Int)(h:(QA x7 x8 x9)=true):Qfk x1 x7 x8 x9=Qfl x1 x7 x8 x9:=by
 obtain ⟨rfl,h3,k,rfl,hk⟩:=JB h
 clear h
 refine QP x7 (fun k=>Qfk x1 x7 (x7.length:Int) (k:Int)=Qfl x1 x7 (x7.length:Int) (k:Int)) ?_ ?_ k hk
 ·rw [QzZ]
  simp only [VW,Qfl,Qz,BT,B0,Qf,Bc,BK]
  rfl
 ·intro k hk ih
  rw [QzZ]
  simp only [VW,Qz,QJ,hk,Bt,Qb,Bc,QO (show k<4611686018427387904 by omega),ih,QL (y:=tI) hk]
  simp only [Qfl,Bc,Bi hk]
  have e:QR (x7[k]::x7.drop (k+1)) x1=(ieq x7[k] x1||QR (x7.drop (k+1)) x1):=by
   unfold QR
   rw [List.contains_cons]
   congr 1
   simp only [ieq,BEq.comm]
  rw [e]
  cases ieq x7[k] x1<;>rfl
theorem QN0:LO Qnh Qne QzX 0:=QH (s:=Qfj) fun x y h _ q=>by simp only [QE,QF] at q;exact (QNZ x.1 x.2.1 x.2.2.1 x.2.2.2.1 h).trans q
theorem s_f17 (l:List Int)(n:Int)(h:Jc l n=true):r_f17 l n=some (.t .bool (QR l n),[]):=by
 have hl:l.length<=100000:=Bx h
 simp only [r_f17,JC hl,Qb,Br,By]
 cases QR l n<;>rfl
def Qz0:Ent:=Qi (.pr (.sl tI) (.pr tI .nil)) (fun x=>(Jc x.1 x.2.1)) (fun x=>(.t .bool (QR x.1 x.2.1)))
theorem ms_f17:EM 17 Qz0:=mS (lk:=lkL (lkc QN0 lkn)) Qnh QzW [((.t 4),some .bool)] false (gB gN) fun m=>Qm m fun x hok=>kT (s_f17 x.1 x.2.1 hok)
def Jy:Keep:=(5,(2048,()))
def Qz1:TC:=aF Tryz.f39 []
def Qz2:List (RV×Option Ty):=[((.c 0 true 2),some Qd)]
def g_f39:G:=gG 2 [] (fun _ _=>none)
def r_f39  : OV:=some (.t Qd (5,(2048,())),[])
theorem e_f39  : J2 g_f39 Qz1 Qz2 false [] []=r_f39  :=by kernel_rfl
theorem s_f39:r_f39=some (.t Qd Jy,[]):=rfl
def Qni:Ent:=Qi .nil (fun x=>true) (fun x=>(.t Qd Jy))
theorem Qz3:EM 39 Qni:=mS g_f39 Qz1 Qz2 false (gB gN) fun m=>Qm m fun x _=>(e_f39 ).trans (s_f39)
def leafC (nm:ByteArray)(k:Keep)(id to:Int):Certificate:=(id,(sRoot,(nm,(k,(id,((3,(0,())),(0,(to,(false,(0,([nm],((0,(0,())),()))))))))))))
def Yi (nm:ByteArray)(k:Keep)(id a to:Int):Identity:=(k,(id,([(Ue (leafC nm k id to) a).1],())))
def Ir (nm:ByteArray)(_k:Keep)(_id _a _to:Int):Bool:=decide (nm.size<=1000)
def tc_f38:TC:=aF Tryz.f38 []
def g_f38:G:=gG 32 [(68,QqS)] (fun _ _=>none)
def r_f38 (p0:ByteArray)(p1:Keep)(p2 p3 p4:Int):OV:=
 let a1:=((Ue (p2,((ByteArray.mk #[114,111,111,116]),(p0,((p1.1,(p1.2.1,())),(p2,((3,(0,())),(0,(p4,(false,(0,([p0],((0,(0,())),())))))))))))) p3).1)
 let a4:=(((a1.2).2).2)
 let a2:=((a4.2).2)
 let a3:=((((a2.2).2).2).2)
 br (U3 (p2,((ByteArray.mk #[114,111,111,116]),(p0,((p1.1,(p1.2.1,())),(p2,((3,(0,())),(0,(p4,(false,(0,([p0],((0,(0,())),())))))))))))) p3) (some (.t QV ((p1.1,(p1.2.1,())),(p2,([(a1.1,((a1.2).1,(((a1.2).2).1,(((a4.1).1,(((a4.1).2).1,())),((a4.2).1,(((a2.1).1,(((a2.1).2).1,())),((a2.2).1,(((a2.2).2).1,((((a2.2).2).2).1,(a3.1,((a3.2).1,(((((a3.2).2).1).1,(((((a3.2).2).1).2).1,())),()))))))))))))],()))),[])) none
theorem s_f38 (nm:ByteArray)(k:Keep)(id a to:Int)(h:Ir nm k id a to=true):r_f38 nm k id a to=some (.t QV (Yi nm k id a to),[]):=by
 have hs:nm.size<=1000:=Bx h
 unfold r_f38
 exact brY (QLs (by decide) hs (l:=[nm]) (Nat.le_succ 1) (fun t ht=>by rw [Dm.1 ht];omega)) rfl
def Qnj:Ent:=Qi (.pr .str (.pr Qd (.pr tI (.pr tI (.pr tI .nil))))) (fun x=>(Ir x.1 x.2.1 x.2.2.1 x.2.2.2.1 x.2.2.2.2.1)) (fun x=>(.t QV (Yi x.1 x.2.1 x.2.2.1 x.2.2.2.1 x.2.2.2.2.1)))
theorem Qz4:EM 38 Qnj:=mS g_f38 tc_f38 [((.c 10 true 4),some QV)] false (gB (gD ms_f68 gN)) fun m=>Qm m fun x hok=>kT (s_f38 x.1 x.2.1 x.2.2.1 x.2.2.2.1 x.2.2.2.2.1 hok)
set_option maxRecDepth 100000 in
end
end Go.Proofs.YtmjnnemhoeolgaaGreat.K
noncomputable section
namespace Go.Proofs.YtmjnnemhoeolgaaGreat.K
open Go.RowKit
noncomputable section
attribute [local irreducible] epV epN prZ
end
end Go.Proofs.YtmjnnemhoeolgaaGreat.K
noncomputable section
namespace Go.Proofs.YtmjnnemhoeolgaaGreat.K
open Go.RowKit
noncomputable section
theorem QLu {k:Keep}{id:Int}{l:List Certificate}(hk:Yx k 2=true)(hd:Zf id=true)(hl:l.length<=8)(h1:l.all Q0=true)(h2:Od k id l=true):Xo k id l=true:=by
 simp only [Yx,Bb] at hk
 have h8:igt (Qa l) 8=false:=Bl (by simp only [Qa];omega)
 have hi:ine (Yw k.1) 2=false:=by rw [Fv,hk.2];rfl
 unfold Xo
 rw [hk.1,hi,hd,h8,h1,h2]
 rfl
theorem QLv {c:Int}(h:1<=c/\c<=16):ieq (QB c).2 0=true:=by
 unfold QB
 rw [if_neg (by omega)]
 rfl
theorem QLw {l:List Int}(hn:l.Nodup)(hr: ∀ x∈l,1<=x/\x<=16):ZW l=true:=by
 have key: ∀ (k:Nat) (hk:k<l.length),(ieq (QB l[k]).2 0&& !QR (l.take k) l[k])=true:=by
  intro k hk
  rw [QLv (hr _ (Bw hk)),BA,Bu]
  unfold QR
  rw [Bool.eq_false_iff]
  intro hc
  have hm:=BI.1 hc
  obtain ⟨j,hj,he⟩:=List.mem_iff_getElem.1 hm
  rw [Db] at hj
  rw [List.getElem_take] at he
  have:=(List.nodup_iff_pairwise_ne.1 hn)
  rw [List.pairwise_iff_getElem] at this
  exact this j k (by omega) hk (by omega) he
 simp only [ZW,YS,Bf,Dw]
 intro k hk
 have hk2:k<l.length:=by omega
 simp only [Bk,Bh hk2,BH]
 exact key k hk2
def goodS (l:List Int):Prop:=l.Nodup∧ ∀ x∈l,1<=x/\x<=16
def QlY (l:List Int):Bool:= !igt (Qa l) 16&&(Xs l&&l.all Zf)
def QlZ (l:List Int):Bool:=Xs l&&l.all Wm
theorem QLx {e:Endpoint}(hw:Wl e.1=true)(h1:1<=e.2.1)(h2:e.2.1<=e.2.2.1)(h3:e.2.2.1<=4)(hs:goodS (Qq e))(hi:(Qp e).length<=4)(hv:(Qp e).all Wy=true)(ha:QlY (Q7 e)=true)(hh:QlZ (Ja e)=true):QN e=true:=by
 simp only [QlY,QlZ,Bb] at ha hh
 have g1:ilt e.2.1 1=false:=Bl (by omega)
 have g2:igt e.2.1 e.2.2.1=false:=Bl (by omega)
 have g3:igt e.2.2.1 4=false:=Bl (by omega)
 have g4:igt (Qa (Qp e)) 4=false:=Bl (by simp only [Qa];omega)
 unfold QN
 rw [hw,g1,g2,g3,QLw hs.1 hs.2,g4,ha.1,ha.2.1,ha.2.2,hv,hh.1,hh.2]
 rfl
attribute [local irreducible] epV epN prZ
end
end Go.Proofs.YtmjnnemhoeolgaaGreat.K
noncomputable section
namespace Go.Proofs.YtmjnnemhoeolgaaGreat.K
open Go.RowKit
noncomputable section
theorem QFO {c s:Endpoint}{x:Keep}(hx:x∈Z4 c s):JL s (Qq c) x.1 x.2.1=true/\loC c s<=x.1/\x.1<=hiC c s:=by
 unfold Z4 at hx
 cases hr:XB c s with
 |false=>rw [hr] at hx;cases hx
 |true=>
  rw [hr] at hx
  obtain ⟨hv,hw⟩:=Bg.1 hr
  have v1:=WL hv
  have v2:=WL hw
  have b1:1<=loC c s:=by simp only [loC,imx];omega
  change x∈W4 s (Qq c) (loC c s).toNat (hiC c s+1-loC c s).toNat at hx
  unfold W4 Fs at hx
  simp only [DA,Dw,B9,List.mem_filter] at hx
  obtain ⟨j,hj,k,⟨_,hp⟩,rfl⟩:=hx
  exact ⟨hp,by show loC c s<=(j:Int);omega,by show (j:Int)<=hiC c s;omega⟩
theorem QFP {c s:Endpoint}{v k:Int}(hr:XB c s=true)(h1:loC c s<=v)(h2:v<=hiC c s)(hp:JL s (Qq c) v k=true):(v,(k,()))∈Z4 c s:=by
 have hk:1<=k/\k<=16:=by
  simp only [JL,Bb] at hp
  exact Qer hp.1
 obtain ⟨hv,hw⟩:=Bg.1 hr
 have v1:=WL hv
 have v2:=WL hw
 have b1:1<=loC c s:=by simp only [loC,imx];omega
 unfold Z4
 rw [hr]
 show _∈W4 s (Qq c) (loC c s).toNat (hiC c s+1-loC c s).toNat
 unfold W4 Fs
 simp only [DA,Dw,B9,List.mem_filter]
 refine ⟨v.toNat,by omega,k.toNat,⟨by omega, ?_⟩, ?_⟩
 ·rw [DX (by omega),DX (by omega)]
  exact hp
 ·rw [DX (by omega),DX (by omega)]
end
end Go.Proofs.YtmjnnemhoeolgaaGreat.K
noncomputable section
namespace Go.Proofs.YtmjnnemhoeolgaaGreat.K.PE
open Go.RowKit
noncomputable section
-- loop 0: (x1 : ByteArray) (x6 : Int) (y4 : Endpoint) (y5_0 : ByteArray) (y5_1 : Int) (y5_2 : Int) (y5_4 : Bool) (y5_8 : Bool) (y15 : (List Int)) (Qqz : (List Identity)) (Qc : Dice); out: ('exit', 0) (y4 : Endpoint) (y5_0 : ByteArray) (y5_1 : Int) (y5_2 : Int) (y5_4 : Bool) (y5_8 : Bool) (y15 : (List Int)) (Qqz : (List Identity)) (Qc : Dice)
end
end Go.Proofs.YtmjnnemhoeolgaaGreat.K.PE
noncomputable section
namespace Go.Proofs.YtmjnnemhoeolgaaGreat.K
open Go.RowKit
noncomputable section
abbrev YO:List ByteArray:=[(ByteArray.mk #[97,112,112]),(ByteArray.mk #[100,98]),(ByteArray.mk #[119,101,98])]
abbrev sSu:List (List Int):=[[10,8,2],[8,2],[2,10,8,3]]
abbrev sIt:List ByteArray:=[(ByteArray.mk #[98,97,99,107,117,112]),(ByteArray.mk #[100,101,101,100])]
def nm1 (s:ByteArray):Bool:=decide (s.size<=1000)
def GI (d:Dice):List Int:=bif ieq (dof d [3,3,4]) 4 then [14]++lgt (.sl tI) sSu (Qj (QU d [3,3,4]) 3).toNat else lgt (.sl tI) sSu (Qj (QU d [3,3,4]) 3).toNat
def WE (d:Dice)(k:Nat)(s:ByteArray):Endpoint:=(s,(1,(dof d [3,3,4],(GI d,(done (Qe (QU d [3,3,4]) 3) 2,([Yi s Jy (Qg .i64 100 (k:Int)) 1 901],([1],([2,3],(done (Qe (Qe (QU d [3,3,4]) 3) 2) 3,())))))))))
def UV (d:Dice):Dice:=Qe (Qe (Qe (QU d [3,3,4]) 3) 2) 3
def Z8:List ByteArray->Nat->Dice->List Endpoint×Dice
 | [],_,d=>([],d)
 |s::r,k,d=>(WE d k s::(Z8 r (k+1) (UV d)).1,(Z8 r (k+1) (UV d)).2)
def edZ:Nat->Int->Int->List Keep->Dice->List Keep×Dice
 |0,_,_,l,d=>(l,d)
 |m+1,i,k,l,d=>bif ine i k then (bif igt (Qj d 3) 0&&ilt (Qa l) 3 then edZ m i (k+1) (l++[(i,(k,()))]) (Qe d 3) else edZ m i (k+1) l (Qe d 3)) else edZ m i (k+1) l d
def edY:Nat->Nat->Int->List Keep->Dice->List Keep×Dice
 |0,_,_,l,d=>(l,d)
 |m+1,n,i,l,d=>edY m n (i+1) (edZ n i 0 l d).1 (edZ n i 0 l d).2
def itZ:Nat->Dice->List Item×Dice
 |0,d=>([],d)
 |n+1,d=>(VT (UD d sIt) (Xg d sIt)::(itZ n (Fo (UD d sIt) (Xg d sIt))).1,(itZ n (Fo (UD d sIt) (Xg d sIt))).2)
def JF (d:Dice):List ByteArray:=lsl YO 0 (Qg .i64 2 (Qj d 2))
def Zp (d:Dice):List Keep×Dice:=edY (JF d).length (JF d).length 0 [] (Z8 (JF d) 0 (Qe d 2)).2
def FI (d:Dice):List Keep:=bif ieq (Qa (Zp d).1) 0 then [(0,(1,()))] else (Zp d).1
def sndIt (d:Dice):List Item×Dice:=itZ (Qj (Zp d).2 3).toNat (Qe (Zp d).2 3)
def QD (d:Dice):Estate:=((Z8 (JF d) 0 (Qe d 2)).1,(FI d,((sndIt d).1,())))
def Y2 (d:Dice):Dice:=(sndIt d).2
theorem QDC {d:Dice}(h:dOk d=true):dOk (UV d)=true:=QW (QW (QW (F8 (l:=[3,3,4]) h)))
theorem Qpy: ∀ (l:List ByteArray) (k:Nat) (d:Dice),dOk d=true->dOk (Z8 l k d).2=true
 | [],_,_,h=>h
 |_::r,k,d,h=>Qpy r (k+1) (UV d) (QDC h)
theorem IW: ∀ (m:Nat) (i k:Int) (l:List Keep) (d:Dice),dOk d=true->l.length<=3->dOk (edZ m i k l d).2=true/\(edZ m i k l d).1.length<=3
 |0,_,_,_,_,h,hl=>⟨h,hl⟩
 |m+1,i,k,l,d,h,hl=>by
  unfold edZ
  cases ine i k with
  |false=>exact IW m i (k+1) l d h hl
  |true=>
   cases h1:igt (Qj d 3) 0 with
   |false=>exact IW m i (k+1) l (Qe d 3) (QW h) hl
   |true=>
    cases h2:ilt (Qa l) 3 with
    |false=>exact IW m i (k+1) l (Qe d 3) (QW h) hl
    |true=>
     have:l.length<3:=by have:=Bx h2;simp only [Qa] at this;omega
     exact IW m i (k+1) _ (Qe d 3) (QW h) (by simp only [Bm,Bq];omega)
theorem Qpz: ∀ (m n:Nat) (i:Int) (l:List Keep) (d:Dice),dOk d=true->l.length<=3->dOk (edY m n i l d).2=true/\(edY m n i l d).1.length<=3
 |0,_,_,_,_,h,hl=>⟨h,hl⟩
 |m+1,n,i,l,d,h,hl=>by
  have:=IW n i 0 l d h hl
  exact Qpz m n (i+1) _ _ this.1 this.2
theorem QpA {d:Dice}(h:dOk d=true):dOk (UD d sIt)=true:=QW (n:=2) h
theorem QpB (d:Dice):JF d=YO.take 2∨JF d=YO:=by
 have hv:=JO (d:=d) (n:=2) (by omega)
 have e:Qg .i64 2 (Qj d 2)=2+Qj d 2:=J6 (by omega)
 unfold JF
 rw [e]
 rcases (show Qj d 2=0∨Qj d 2=1 by omega) with h|h<;>rw [h]
 ·exact .inl rfl
 ·exact .inr rfl
theorem IX (d:Dice):2<=(JF d).length/\(JF d).length<=3/\(JF d).all nm1=true:=by
 rcases QpB d with h|h<;>rw [h]<;>exact ⟨by decide,by decide,by decide⟩
abbrev Qg5:Sh:=⟨[(0,.ptr 50000 0),(2,.ptr 2 0),(3,.ptr 3 0),(4,.ty (.sl .str)),(16,.ty (.sl .str)),(17,.ty tI),(18,.ty tI)],[(2,.box Qx),(3,.bag [.ms 20300,.ms 20301,.ms 20302]),(61,.no),(94,.no),(103,.no),(119,.no),(20300,.arr 61 Qo),(20301,.arr 47 Qd),(20302,.arr 106 Jl),(50000,.box QK)]⟩
abbrev QRH:Sh:=⟨[(0,.ptr 50000 0),(2,.ptr 2 0),(3,.ptr 3 0),(4,.ty (.sl .str))],[(2,.box Qx),(3,.bag [.ms 20300,.ms 20301,.ms 20302]),(61,.no),(94,.no),(103,.no),(119,.no),(20300,.arr 61 Qo),(20301,.arr 47 Qd),(20302,.arr 106 Jl),(50000,.box QK)]⟩
abbrev Qg6:Sh:=⟨[(0,.ptr 50000 0),(2,.ptr 2 0),(3,.ptr 3 0),(4,.ty (.sl .str)),(8,.ty tI),(65,.ty tI),(66,.ty tI),(70,.ty tI),(71,.ty tI)],[(2,.box Qx),(3,.bag [.ms 20300,.ms 20301,.ms 20302]),(61,.no),(94,.no),(103,.no),(119,.no),(20300,.arr 61 Qo),(20301,.arr 47 Qd),(20302,.arr 106 Jl),(50000,.box QK)]⟩
abbrev Qg7:Sh:=⟨[(0,.ptr 50000 0),(2,.ptr 2 0),(3,.ptr 3 0),(4,.ty (.sl .str)),(65,.ty tI),(66,.ty tI)],[(2,.box Qx),(3,.bag [.ms 20300,.ms 20301,.ms 20302]),(61,.no),(94,.no),(103,.no),(119,.no),(20300,.arr 61 Qo),(20301,.arr 47 Qd),(20302,.arr 106 Jl),(50000,.box QK)]⟩
abbrev QRI:Sh:=⟨[(0,.ptr 50000 0),(2,.ptr 2 0),(3,.ptr 3 0)],[(2,.box Qx),(3,.bag [.ms 20300,.ms 20301,.ms 20302]),(61,.no),(94,.no),(103,.no),(119,.no),(20300,.arr 61 Qo),(20301,.arr 47 Qd),(20302,.arr 106 Jl),(50000,.box QK)]⟩
abbrev Qg8:Sh:=⟨[(0,.ptr 50000 0),(2,.ptr 2 0),(3,.ptr 3 0),(10,.ty tI)],[(2,.box Qx),(3,.bag [.ms 20300,.ty (.sl Qd),.ms 20302]),(61,.no),(94,.no),(103,.no),(119,.no),(20300,.arr 61 Qo),(20301,.no),(20302,.arr 106 Jl),(50000,.box QK)]⟩
abbrev QRJ:Sh:=⟨[(2,.ptr 2 0),(3,.ptr 3 0)],[(2,.box Qx),(3,.bag [.ms 20300,.ty (.sl Qd),.ms 20302]),(61,.no),(94,.no),(103,.no),(119,.no),(20300,.arr 61 Qo),(20301,.no),(20302,.arr 106 Jl),(50000,.box QK)]⟩
def QpC:Fg:=Qg5.f
def QpD:Fg:=Qg6.f
def QpE:Fg:=Qg7.f
def QpF:Fg:=Qg8.f
def QaL:TC:=aF Tryz.f20 [(122,.nf 3 2 106 20302),(122,.nf 3 1 47 20301),(122,.nf 3 0 61 20300),(122,.nf 7 3 3 20703),(122,pL 0 QpC),(1957,.fg ⟨[(0,none),(2,none),(3,none),(4,some (.sl .str))],[(2,some Qx),(3,some Qx),(61,none),(94,none),(103,none),(119,none),(20300,none),(20301,none),(20302,none),(50000,some QK)]⟩),(15666,pD [(0,[]),(1,[50000]),(2,[]),(3,[26,5026,10026,15026,50000]),(4,[]),(5,[]),(6,[]),(7,[]),(8,[50000]),(9,[32,5032,10032,15032,50000]),(10,[]),(11,[]),(12,[50000]),(13,[36,5036,10036,15036,50000]),(14,[]),(15,[]),(16,[50000]),(17,[40,5040,10040,15040,50000]),(18,[]),(19,[7,5007,10007,15007]),(20,[7,45,48,20703])] (.one 0 (.one 1 (.one 2 (.one 4 (.one 5 (.one 6 (.one 7 (.one 8 (.one 12 (.one 14 (.one 15 (.one 16 (.alt 3 (.alt 9 (.one 10 (.one 11 (.alt 13 (.alt 17 (.of [18,19,20]) (.of [19,17,18,20])) (.of [19,13,17,18,20])))) (.of [19,9,10,11,13,17,18,20])) (.of [19,3,9,10,11,13,17,18,20]))))))))))))))),(250,.nf 3 2 106 20302),(250,.nf 3 0 61 20300),(250,.nf 3 1 47 20301),(250,pL 2 QpE),(4005,.fg ⟨[(0,none),(2,none),(3,none)],[(2,some Qx),(3,some Qx),(61,none),(94,none),(103,none),(119,none),(20300,none),(20301,none),(20302,none),(50000,some QK)]⟩),(64102,.nf 3 2 106 20302),(64102,.nf 3 0 61 20300),(64102,.nf 3 1 47 20301),(64102,pL 1 QpD),(1025637,.fg ⟨[(0,none),(2,none),(3,none),(4,some (.sl .str)),(65,some tI),(66,some tI)],[(2,some Qx),(3,some Qx),(61,none),(94,none),(103,none),(119,none),(20300,none),(20301,none),(20302,none),(50000,some QK)]⟩),(1018,.fz [20301,103]),(1018,.nf 3 1 47 20301),(1018,.nf 3 0 61 20300),(1018,.nf 3 2 106 20302),(1018,pL 3 QpF),(16291,.fg ⟨[(2,none),(3,none)],[(2,some Qx),(3,some Qx),(61,none),(94,none),(103,none),(119,none),(20300,none),(20301,none),(20302,none),(50000,some QK)]⟩),(16292,pD [(0,[3,61,94,103,119,20300,20301,20302]),(1,[3,61,94,103,119,20300,20301,20302]),(2,[50000]),(3,[50000]),(4,[]),(5,[116,5116,10116,15116,50000]),(6,[117,5117,10117,15117,50000]),(7,[]),(8,[2,3,61,94,103,119,5119,10119,15119,20300,20301,20302]),(9,[3,61,94,103,119,20300,20301,20302]),(10,[2,3,61,94,103,119,20300,20301,20302])] (.of [0,1,2,3,4,5,6,7,8,9,10]))]
def QDD:TC:=lb 0 QaL
def QDE:TC:=lb 1 QaL
def QDF:TC:=lb 2 QaL
def QDG:TC:=lb 3 QaL
def QDH (x4 x16:List ByteArray)(x17 x18:Int)(y2:Estate)(Qk:List Endpoint)(Qu:List Keep)(Ql:List Item)(Qc:Dice):VS:=Qg5.st ((),(),(),x4,x16,x17,x18,()) (y2,((),(),(),()),(),(),(),(),Qk,Qu,Ql,Qc,())
def QpG (x4:List ByteArray)(y2:Estate)(Qk:List Endpoint)(Qu:List Keep)(Ql:List Item)(Qc:Dice):VS:=QRH.st ((),(),(),x4,()) (y2,((),(),(),()),(),(),(),(),Qk,Qu,Ql,Qc,())
def QDI (x4:List ByteArray)(x8 x65 x66 x70 x71:Int)(y2:Estate)(Qk:List Endpoint)(Qu:List Keep)(Ql:List Item)(Qc:Dice):VS:=Qg6.st ((),(),(),x4,x8,x65,x66,x70,x71,()) (y2,((),(),(),()),(),(),(),(),Qk,Qu,Ql,Qc,())
def QaM (x4:List ByteArray)(x65 x66:Int)(y2:Estate)(Qk:List Endpoint)(Qu:List Keep)(Ql:List Item)(Qc:Dice):VS:=Qg7.st ((),(),(),x4,x65,x66,()) (y2,((),(),(),()),(),(),(),(),Qk,Qu,Ql,Qc,())
def QpH (y2:Estate)(Qk:List Endpoint)(Qu:List Keep)(Ql:List Item)(Qc:Dice):VS:=QRI.st ((),(),(),()) (y2,((),(),(),()),(),(),(),(),Qk,Qu,Ql,Qc,())
def QDJ (x10:Int)(y2:Estate)(y3_1:List Keep)(Qk:List Endpoint)(Ql:List Item)(Qc:Dice):VS:=Qg8.st ((),(),(),x10,()) (y2,((),y3_1,(),()),(),(),(),(),Qk,(),Ql,Qc,())
def QpI (y2:Estate)(y3_1:List Keep)(Qk:List Endpoint)(Ql:List Item)(Qc:Dice):VS:=QRJ.st ((),(),()) (y2,((),y3_1,(),()),(),(),(),(),Qk,(),Ql,Qc,())
def QRK:VS->Option (Bool×List (Bool×Exit×VS)):=mkL Qg5 (fun x y=>(QA x.2.2.2.2.1 x.2.2.2.2.2.1 x.2.2.2.2.2.2.1&&(dOk y.2.2.2.2.2.2.2.2.2.1&&(decide (y.2.2.2.2.2.2.1.length<=x.2.2.2.2.2.2.1)&&x.2.2.2.2.1.all nm1)))) (fun x y=>[(true,.exit 0,QpG (x.2.2.2.1) (y.1) (y.2.2.2.2.2.2.1++(Z8 (x.2.2.2.2.1.drop x.2.2.2.2.2.2.1.toNat) x.2.2.2.2.2.2.1.toNat y.2.2.2.2.2.2.2.2.2.1).1) (y.2.2.2.2.2.2.2.1) (y.2.2.2.2.2.2.2.2.1) ((Z8 (x.2.2.2.2.1.drop x.2.2.2.2.2.2.1.toNat) x.2.2.2.2.2.2.1.toNat y.2.2.2.2.2.2.2.2.2.1).2))])
def QRL:VS->Option (Bool×List (Bool×Exit×VS)):=mkL Qg6 (fun x y=>(dOk y.2.2.2.2.2.2.2.2.2.1&&decide (0<=x.2.2.2.2.2.2.2.2.1/\x.2.2.2.2.2.2.2.2.1<=x.2.2.2.2.2.2.2.1/\x.2.2.2.2.2.2.2.1<=3/\y.2.2.2.2.2.2.2.1.length<=3))) (fun x y=>[(true,.exit 4,QaM (x.2.2.2.1) (x.2.2.2.2.2.1) (x.2.2.2.2.2.2.1) (y.1) (y.2.2.2.2.2.2.1) ((edZ (x.2.2.2.2.2.2.2.1-x.2.2.2.2.2.2.2.2.1).toNat x.2.2.2.2.1 x.2.2.2.2.2.2.2.2.1 y.2.2.2.2.2.2.2.1 y.2.2.2.2.2.2.2.2.2.1).1) (y.2.2.2.2.2.2.2.2.1) ((edZ (x.2.2.2.2.2.2.2.1-x.2.2.2.2.2.2.2.2.1).toNat x.2.2.2.2.1 x.2.2.2.2.2.2.2.2.1 y.2.2.2.2.2.2.2.1 y.2.2.2.2.2.2.2.2.2.1).2))])
def QRM:VS->Option (Bool×List (Bool×Exit×VS)):=mkL Qg7 (fun x y=>(dOk y.2.2.2.2.2.2.2.2.2.1&&decide (0<=x.2.2.2.2.2.1/\x.2.2.2.2.2.1<=x.2.2.2.2.1/\x.2.2.2.2.1<=3/\x.2.2.2.1.length<=3/\y.2.2.2.2.2.2.2.1.length<=3))) (fun x y=>[(true,.exit 2,QpH (y.1) (y.2.2.2.2.2.2.1) ((edY (x.2.2.2.2.1-x.2.2.2.2.2.1).toNat x.2.2.2.1.length x.2.2.2.2.2.1 y.2.2.2.2.2.2.2.1 y.2.2.2.2.2.2.2.2.2.1).1) (y.2.2.2.2.2.2.2.2.1) ((edY (x.2.2.2.2.1-x.2.2.2.2.2.1).toNat x.2.2.2.1.length x.2.2.2.2.2.1 y.2.2.2.2.2.2.2.1 y.2.2.2.2.2.2.2.2.2.1).2))])
def QRN:VS->Option (Bool×List (Bool×Exit×VS)):=mkL Qg8 (fun x y=>(dOk y.2.2.2.2.2.2.2.2.2.1&&decide (0<=x.2.2.2.1/\x.2.2.2.1<=3/\y.2.2.2.2.2.2.2.2.1.length+x.2.2.2.1.toNat<=100))) (fun x y=>[(true,.exit 6,QpI (y.1) (y.2.1.2.1) (y.2.2.2.2.2.2.1) (y.2.2.2.2.2.2.2.2.1++(itZ x.2.2.2.1.toNat y.2.2.2.2.2.2.2.2.2.1).1) ((itZ x.2.2.2.1.toNat y.2.2.2.2.2.2.2.2.2.1).2))])
def UW:G:=⟨TYs,[45,103],122,EL [(22,U7),(26,QbY),(37,QiK),(38,Qnj),(39,Qni),(40,QzT),(41,Qxp)],X9,(Ls [QRK,QRL,QRM,QRN]),IL [],RL []⟩
def QaN (x4 x16:List ByteArray)(x17 x18:Int)(y2:Estate)(Qk:List Endpoint)(Qu:List Keep)(Ql:List Item)(Qc:Dice):OX:=Qr (Qv UW QpC QDD) (QDH x4 x16 x17 x18 y2 Qk Qu Ql Qc)
def FJ (kk:List ByteArray->List ByteArray->Int->Int->Estate->List Endpoint->List Keep->List Item->Dice->OX)(x4 x16:List ByteArray)(x17 x18:Int)(y2:Estate)(Qk:List Endpoint)(Qu:List Keep)(Ql:List Item)(Qc:Dice):OX:=
 let a5:=lgt .str x16 (Int.toNat x18)
 let a1:=Yi a5 Jy (Qg .i64 100 x18) 1 901
 let a2:=(lgt (.sl tI) ([[10,8,2],[8,2],[2,10,8,3]]) (Int.toNat (Qj (QU Qc ([3,3,4])) 3)))
 let a3:=(Qe (QU Qc ([3,3,4])) 3)
 let a4:=((done a3 2),([(((a1.1).1,(((a1.1).2).1,())),((a1.2).1,(((a1.2).2).1,())))],([1],([2,3],((done (Qe a3 2) 3),())))))
 let a6:=(dof Qc ([3,3,4]))
 let a7:=Ir a5 Jy (Qg .i64 100 x18) 1 901
 br (Y5 (Qe a3 2) 3) (br (ieq a6 4) (br (QM ([14]) a2 8) (br a7 (br (QM Qk ([(a5,(1,(a6,((([14])++a2),a4))))]) 144) (kk x4 x16 x17 (Qg .i64 x18 1) y2 (Qk++([(a5,(1,(a6,((([14])++a2),a4))))])) Qu Ql (Qe (Qe a3 2) 3)) none) none) none) (br a7 (br (QM Qk ([(a5,(1,(a6,(a2,a4))))]) 144) (kk x4 x16 x17 (Qg .i64 x18 1) y2 (Qk++([(a5,(1,(a6,(a2,a4))))])) Qu Ql (Qe (Qe a3 2) 3)) none) none)) none
def IY (kk:List ByteArray->List ByteArray->Int->Int->Estate->List Endpoint->List Keep->List Item->Dice->OX)(x4 x16:List ByteArray)(x17 x18:Int)(y2:Estate)(Qk:List Endpoint)(Qu:List Keep)(Ql:List Item)(Qc:Dice):OX:=br (Y5 (Qe (QU Qc ([3,3,4])) 3) 2) (FJ kk x4 x16 x17 x18 y2 Qk Qu Ql Qc) none
def IZ (kk:List ByteArray->List ByteArray->Int->Int->Estate->List Endpoint->List Keep->List Item->Dice->OX)(x4 x16:List ByteArray)(x17 x18:Int)(y2:Estate)(Qk:List Endpoint)(Qu:List Keep)(Ql:List Item)(Qc:Dice):OX:=
 let a1:=(QU Qc ([3,3,4]))
 br (Q2 a1 3) (br (cIx ([[10,8,2],[8,2],[2,10,8,3]]) (Qj a1 3)) (IY kk x4 x16 x17 x18 y2 Qk Qu Ql Qc) none) none
def I0 (kk:List ByteArray->List ByteArray->Int->Int->Estate->List Endpoint->List Keep->List Item->Dice->OX)(x4 x16:List ByteArray)(x17 x18:Int)(y2:Estate)(Qk:List Endpoint)(Qu:List Keep)(Ql:List Item)(Qc:Dice):OX:=
 let a1:=(QU Qc ([3,3,4]))
 let a2:=(YC Qc ([3,3,4]))
 br (ilt x18 x17) (br (cIx x16 x18) (frk (br a2 (frk (br (Q2 a1 3) (br (cIx ([[10,8,2],[8,2],[2,10,8,3]]) (Qj a1 3)) (frk (br (Y5 (Qe a1 3) 2) (frk (FJ kk x4 x16 x17 x18 y2 Qk Qu Ql Qc) (FJ kk x4 x16 x17 x18 y2 Qk Qu Ql Qc)) none) (IY kk x4 x16 x17 x18 y2 Qk Qu Ql Qc)) none) none) (IZ kk x4 x16 x17 x18 y2 Qk Qu Ql Qc)) none) (br a2 (IZ kk x4 x16 x17 x18 y2 Qk Qu Ql Qc) none)) none) (some (.exit 0,QpG x4 y2 Qk Qu Ql Qc))
def FK (x4 x16:List ByteArray)(x17 x18:Int)(y2:Estate)(Qk:List Endpoint)(Qu:List Keep)(Ql:List Item)(Qc:Dice):OX:=
 let a1:=Z8 (x16.drop x18.toNat) x18.toNat Qc
 some (.exit 0,QpG (x4) (y2) (Qk++a1.1) (Qu) (Ql) (a1.2))
theorem QDK (x4 x16:List ByteArray)(x17 x18:Int)(y2:Estate)(Qk:List Endpoint)(Qu:List Keep)(Ql:List Item)(Qc:Dice):QaN x4 x16 x17 x18 y2 Qk Qu Ql Qc=I0 QaN x4 x16 x17 x18 y2 Qk Qu Ql Qc:=lnT (x:=I0 (fun x4 x16 x17 x18 y2 Qk Qu Ql Qc=>some (.normal,QDH x4 x16 x17 x18 y2 Qk Qu Ql Qc)) x4 x16 x17 x18 y2 Qk Qu Ql Qc) (by
 first
 |(simp only [Yk,I0,FJ,IY,IZ,Yk,Gf,G3,G4,G5,G6]
   rfl)
 |(simp only [Yk,I0,FJ,IY,IZ,Yk]
   try generalize (QM Qk ([((lgt .str x16 (Int.toNat x18)),(1,((dof Qc ([3,3,4])),((([14])++(lgt (.sl tI) ([[10,8,2],[8,2],[2,10,8,3]]) (Int.toNat (Qj (QU Qc ([3,3,4])) 3)))),((done (Qe (QU Qc ([3,3,4])) 3) 2),([((((Yi (lgt .str x16 (Int.toNat x18)) Jy (Qg .i64 100 x18) 1 901).1).1,((((Yi (lgt .str x16 (Int.toNat x18)) Jy (Qg .i64 100 x18) 1 901).1).2).1,())),(((Yi (lgt .str x16 (Int.toNat x18)) Jy (Qg .i64 100 x18) 1 901).2).1,((((Yi (lgt .str x16 (Int.toNat x18)) Jy (Qg .i64 100 x18) 1 901).2).2).1,())))],([1],([2,3],((done (Qe (Qe (QU Qc ([3,3,4])) 3) 2) 3),())))))))))]) 144)=cq0
   try generalize ((Ir (lgt .str x16 (Int.toNat x18)) Jy (Qg .i64 100 x18) 1 901))=cq1
   try generalize (QM ([14]) (lgt (.sl tI) ([[10,8,2],[8,2],[2,10,8,3]]) (Int.toNat (Qj (QU Qc ([3,3,4])) 3))) 8)=cq2
   try generalize (QM Qk ([((lgt .str x16 (Int.toNat x18)),(1,((dof Qc ([3,3,4])),((lgt (.sl tI) ([[10,8,2],[8,2],[2,10,8,3]]) (Int.toNat (Qj (QU Qc ([3,3,4])) 3))),((done (Qe (QU Qc ([3,3,4])) 3) 2),([((((Yi (lgt .str x16 (Int.toNat x18)) Jy (Qg .i64 100 x18) 1 901).1).1,((((Yi (lgt .str x16 (Int.toNat x18)) Jy (Qg .i64 100 x18) 1 901).1).2).1,())),(((Yi (lgt .str x16 (Int.toNat x18)) Jy (Qg .i64 100 x18) 1 901).2).1,((((Yi (lgt .str x16 (Int.toNat x18)) Jy (Qg .i64 100 x18) 1 901).2).2).1,())))],([1],([2,3],((done (Qe (Qe (QU Qc ([3,3,4])) 3) 2) 3),())))))))))]) 144)=cq3
   try generalize ((Y5 (Qe (Qe (QU Qc ([3,3,4])) 3) 2) 3))=cq4
   try generalize ((Y5 (Qe (QU Qc ([3,3,4])) 3) 2))=cq5
   try generalize (cIx ([[10,8,2],[8,2],[2,10,8,3]]) (Qj (QU Qc ([3,3,4])) 3))=cq6
   try generalize ((Q2 (QU Qc ([3,3,4])) 3))=cq7
   try generalize ((YC Qc ([3,3,4])))=cq8
   try generalize (cIx x16 x18)=cq9
   simp only [brN,Yk,Bool.and_assoc,Bool.and_comm,Bool.and_left_comm,BZ,Bool.and_self_left,Gf,G3,G4,G5,G6]
   try rfl))
def Qg9 (x4:List ByteArray)(x8 x65 x66 x70 x71:Int)(y2:Estate)(Qk:List Endpoint)(Qu:List Keep)(Ql:List Item)(Qc:Dice):OX:=Qr (Qv UW QpD QDE) (QDI x4 x8 x65 x66 x70 x71 y2 Qk Qu Ql Qc)
def QaO (kk:List ByteArray->Int->Int->Int->Int->Int->Estate->List Endpoint->List Keep->List Item->Dice->OX)(x4:List ByteArray)(x8 x65 x66 x70 x71:Int)(y2:Estate)(Qk:List Endpoint)(Qu:List Keep)(Ql:List Item)(Qc:Dice):OX:=
 let a1:=Qg .i64 x71 1
 let a2:=Qe Qc 3
 br (ilt x71 x70) (br (ine x8 x71) (br (Q2 Qc 3) (br (igt (Qj Qc 3) 0) (br (ilt (Qa Qu) 3) (br (QM Qu ([(x8,(x71,()))]) 16) (kk x4 x8 x65 x66 x70 a1 y2 Qk (Qu++([(x8,(x71,()))])) Ql a2) none) (kk x4 x8 x65 x66 x70 a1 y2 Qk Qu Ql a2)) (kk x4 x8 x65 x66 x70 a1 y2 Qk Qu Ql a2)) none) (kk x4 x8 x65 x66 x70 a1 y2 Qk Qu Ql Qc)) (some (.exit 4,QaM x4 x65 x66 y2 Qk Qu Ql Qc))
def FL (x4:List ByteArray)(x8 x65 x66 x70 x71:Int)(y2:Estate)(Qk:List Endpoint)(Qu:List Keep)(Ql:List Item)(Qc:Dice):OX:=
 let a1:=edZ (x70-x71).toNat x8 x71 Qu Qc
 some (.exit 4,QaM (x4) (x65) (x66) (y2) (Qk) (a1.1) (Ql) (a1.2))
theorem QDL (x4:List ByteArray)(x8 x65 x66 x70 x71:Int)(y2:Estate)(Qk:List Endpoint)(Qu:List Keep)(Ql:List Item)(Qc:Dice):Qg9 x4 x8 x65 x66 x70 x71 y2 Qk Qu Ql Qc=QaO Qg9 x4 x8 x65 x66 x70 x71 y2 Qk Qu Ql Qc:=lnT (x:=QaO (fun x4 x8 x65 x66 x70 x71 y2 Qk Qu Ql Qc=>some (.normal,QDI x4 x8 x65 x66 x70 x71 y2 Qk Qu Ql Qc)) x4 x8 x65 x66 x70 x71 y2 Qk Qu Ql Qc) (by simp only [QaO,nxA];rfl)
def Qha (x4:List ByteArray)(x65 x66:Int)(y2:Estate)(Qk:List Endpoint)(Qu:List Keep)(Ql:List Item)(Qc:Dice):OX:=Qr (Qv UW QpE QDF) (QaM x4 x65 x66 y2 Qk Qu Ql Qc)
def QaP (kk:List ByteArray->Int->Int->Estate->List Endpoint->List Keep->List Item->Dice->OX)(x4:List ByteArray)(x65 x66:Int)(y2:Estate)(Qk:List Endpoint)(Qu:List Keep)(Ql:List Item)(Qc:Dice):OX:=
 let a1:=(edZ ((Qa x4)-(0:Int)).toNat x66 (0:Int) Qu Qc)
 br (ilt x66 x65) (br (dOk Qc&&decide (0<=(0:Int)/\(0:Int)<=(Qa x4)/\(Qa x4)<=3/\Qu.length<=3)) (kk (x4) (x65) (Qg .i64 (x66) 1) (y2) (Qk) (a1.1) (Ql) (a1.2)) none) (some (.exit 2,QpH y2 Qk Qu Ql Qc))
def Qhb (x4:List ByteArray)(x65 x66:Int)(y2:Estate)(Qk:List Endpoint)(Qu:List Keep)(Ql:List Item)(Qc:Dice):OX:=
 let a1:=edY (x65-x66).toNat x4.length x66 Qu Qc
 some (.exit 2,QpH (y2) (Qk) (a1.1) (Ql) (a1.2))
theorem QDM (x4:List ByteArray)(x65 x66:Int)(y2:Estate)(Qk:List Endpoint)(Qu:List Keep)(Ql:List Item)(Qc:Dice):Qha x4 x65 x66 y2 Qk Qu Ql Qc=QaP Qha x4 x65 x66 y2 Qk Qu Ql Qc:=lnT (x:=QaP (fun x4 x65 x66 y2 Qk Qu Ql Qc=>some (.normal,QaM x4 x65 x66 y2 Qk Qu Ql Qc)) x4 x65 x66 y2 Qk Qu Ql Qc) (by simp only [QaP,nxA];rfl)
def Qhc (x10:Int)(y2:Estate)(y3_1:List Keep)(Qk:List Endpoint)(Ql:List Item)(Qc:Dice):OX:=Qr (Qv UW QpF QDG) (QDJ x10 y2 y3_1 Qk Ql Qc)
def QaQ (kk:Int->Estate->List Keep->List Endpoint->List Item->Dice->OX)(x10:Int)(y2:Estate)(y3_1:List Keep)(Qk:List Endpoint)(Ql:List Item)(Qc:Dice):OX:=
 let a2:=(ByteArray.mk #[98,97,99,107,117,112])
 let a3:=(ByteArray.mk #[100,101,101,100])
 let a5:=(UD Qc ([a2,a3]))
 let a6:=(Xg Qc ([a2,a3]))
 let a1:=VT a5 a6
 let a4:=((a1.2).1,(((a1.2).2).1,((((a1.2).2).2).1,(((((a1.2).2).2).2).1,()))))
 br (igt x10 0) (br (E5 Qc ([a2,a3])) (br (Qfh a5 a6) (br (QM Ql ([(a1.1,a4)]) 64) (kk (QY .i64 x10 1) y2 y3_1 Qk (Ql++([(a1.1,a4)])) (Fo a5 a6)) none) none) none) (some (.exit 6,QpI y2 y3_1 Qk Ql Qc))
def Qhd (x10:Int)(y2:Estate)(y3_1:List Keep)(Qk:List Endpoint)(Ql:List Item)(Qc:Dice):OX:=some (.exit 6,QpI (y2) (y3_1) (Qk) (Ql++(itZ x10.toNat Qc).1) ((itZ x10.toNat Qc).2))
theorem QDN (x10:Int)(y2:Estate)(y3_1:List Keep)(Qk:List Endpoint)(Ql:List Item)(Qc:Dice):Qhc x10 y2 y3_1 Qk Ql Qc=QaQ Qhc x10 y2 y3_1 Qk Ql Qc:=lnT (x:=QaQ (fun x10 y2 y3_1 Qk Ql Qc=>some (.normal,QDJ x10 y2 y3_1 Qk Ql Qc)) x10 y2 y3_1 Qk Ql Qc) (by simp only [QaQ,nxA];rfl)
def r_f20 (d0:Dice):OV:=
 let a6:=(ByteArray.mk #[97,112,112])
 let a8:=(ByteArray.mk #[100,98])
 let a7:=(ByteArray.mk #[119,101,98])
 let a2:=(lsl ([a6,a8,a7]) 0 (Qg .i64 2 (Qj d0 2)))
 let a5:=(Z8 (a2.drop (0:Int).toNat) (0:Int).toNat (Qe d0 2))
 let a1:=(edY ((Qa a2)-(0:Int)).toNat a2.length (0:Int) ([]:List Keep) (a5.2))
 let a3:=(dOk (Qe (a1.2) 3)&&decide (0<=(Qj (a1.2) 3)/\(Qj (a1.2) 3)<=3/\([]:List Item).length+(Qj (a1.2) 3).toNat<=100))
 let a4:=itZ (Qj (a1.2) 3).toNat (Qe (a1.2) 3)
 br (Q2 d0 2) (br (cSl ([a6,a8,a7]) 0 (Qg .i64 2 (Qj d0 2)) ((List.length ([a6,a8,a7]):Nat):Int)) (br (QA a2 (Qa a2) (0:Int)&&(dOk (Qe d0 2)&&(decide (([]:List Endpoint).length<=(0:Int))&&a2.all nm1))) (br (dOk (a5.2)&&decide (0<=(0:Int)/\(0:Int)<=(Qa a2)/\(Qa a2)<=3/\a2.length<=3/\([]:List Keep).length<=3)) (br (ieq (Qa (a1.1)) 0) (br (Q2 (a1.2) 3) (br a3 (some (.t Qx ((([]:List Endpoint)++a5.1),(([(0,(1,()))]),((([]:List Item)++a4.1),()))),[.box (.t QK (a4.2))])) none) none) (br (Q2 (a1.2) 3) (br a3 (some (.t Qx ((([]:List Endpoint)++a5.1),((a1.1),((([]:List Item)++a4.1),()))),[.box (.t QK (a4.2))])) none) none)) none) none) none) none
theorem QRO (x4 x16:List ByteArray)(x17 x18:Int)(y2:Estate)(Qk:List Endpoint)(Qu:List Keep)(Ql:List Item)(Qc:Dice)(h:(QA x16 x17 x18&&(dOk Qc&&(decide (Qk.length<=x18)&&x16.all nm1)))=true):QaN x4 x16 x17 x18 y2 Qk Qu Ql Qc=FK x4 x16 x17 x18 y2 Qk Qu Ql Qc:=by
 simp only [Bb,Ba] at h
 obtain ⟨h0,hd,hl,ha⟩:=h
 obtain ⟨rfl,h3,k,rfl,hk⟩:=JB h0
 clear h0
 revert Qk Qc
 refine QP x16 (fun k=> ∀ (Qk:List Endpoint) (Qc:Dice),dOk Qc=true->(Qk.length:Int)<=(k:Int)->QaN x4 x16 (x16.length:Int) (k:Int) y2 Qk Qu Ql Qc=FK x4 x16 (x16.length:Int) (k:Int) y2 Qk Qu Ql Qc) ?_ ?_ k hk
 ·intro Qk Qc _ _
  rw [QDK]
  simp only [I0,FJ,IY,IZ,Yk,FK,Qz,BT,B0,Qf,Bc,BK,Z8,BQ]
 ·intro k hk ih Qk Qc hd hl
  rw [QDK]
  have c1:YC Qc [3,3,4]=true:=QlW hd (by decide) (by decide)
  have d1:=F8 (l:=[3,3,4]) hd
  have c2:Q2 (QU Qc [3,3,4]) 3=true:=Fl d1 (by omega)
  have d2:=QW (n:=3) d1
  have c3:Y5 (Qe (QU Qc [3,3,4]) 3) 2=true:=Qef d2 (by omega) (by omega)
  have c4:Y5 (Qe (Qe (QU Qc [3,3,4]) 3) 2) 3=true:=Qef (QW d2) (by omega) (by omega)
  have b3:=JO (d:=QU Qc [3,3,4]) (n:=3) (by omega)
  have c5:cIx ([[10,8,2],[8,2],[2,10,8,3]]:List (List Int)) (Qj (QU Qc [3,3,4]) 3)=true:=Be ⟨b3.1,b3.2⟩
  have c6:Ir x16[k] Jy (Qg .i64 100 (k:Int)) 1 901=true:=Bf.1 ha _ (Bw hk)
  have c7: ∀ v,QM Qk [v] 144=true:=fun v=>Jk (by omega) (by simp only [Bq];omega)
  have b4: ∀ q,(lgt (.sl tI) [[10,8,2],[8,2],[2,10,8,3]] q).length<=4:=fun q=>QLt (by simp) q
  have c8:QM ([14]:List Int) (lgt (.sl tI) [[10,8,2],[8,2],[2,10,8,3]] (Qj (QU Qc [3,3,4]) 3).toNat) 8=true:=Jk (by decide) (by have:=b4 (Qj (QU Qc [3,3,4]) 3).toNat;simp only [Bq];omega)
  simp only [I0,FJ,IY,IZ,Yk,Qz,QJ,hk,Bt,Qb,Bc,QO (show k<4611686018427387904 by omega),QL (y:= .str) hk,c1,c2,c3,c4,c6,c7,Yk]
  have hi: ∀ v,QaN x4 x16 (x16.length:Int) ((k+1:Nat):Int) y2 (Qk++[v]) Qu Ql (UV Qc)=FK x4 x16 (x16.length:Int) ((k+1:Nat):Int) y2 (Qk++[v]) Qu Ql (UV Qc):=fun v=>ih _ _ (QDC hd) (by simp only [Bm,Bq];omega)
  have goal2:FK x4 x16 (x16.length:Int) ((k+1:Nat):Int) y2 (Qk++[WE Qc k x16[k]]) Qu Ql (UV Qc)=FK x4 x16 (x16.length:Int) (k:Int) y2 Qk Qu Ql Qc:=by
   simp only [FK,Bc,Bi hk,Z8,BU,BN]
  refine Eq.trans ?_ ((hi _).trans goal2)
  unfold WE GI
  refine brY c5 ?_
  cases ieq (dof Qc [3,3,4]) 4 with
  |false=>rfl
  |true=>exact brY rfl (brY c8 rfl)
theorem QRP (x4:List ByteArray)(x8 x65 x66 x70 x71:Int)(y2:Estate)(Qk:List Endpoint)(Qu:List Keep)(Ql:List Item)(Qc:Dice)(h:(dOk Qc&&decide (0<=x71/\x71<=x70/\x70<=3/\Qu.length<=3))=true):Qg9 x4 x8 x65 x66 x70 x71 y2 Qk Qu Ql Qc=FL x4 x8 x65 x66 x70 x71 y2 Qk Qu Ql Qc:=by
 simp only [Bb,Ba] at h
 obtain ⟨hd,h0,h1,h2,hl⟩:=h
 have key: ∀ (m:Nat) (x71:Int) (Qu:List Keep) (Qc:Dice),x71+m=x70->0<=x71->dOk Qc=true->Qu.length<=3->Qg9 x4 x8 x65 x66 x70 x71 y2 Qk Qu Ql Qc=FL x4 x8 x65 x66 x70 x71 y2 Qk Qu Ql Qc:=by
  intro m
  induction m with
  |zero=>
   intro x71 Qu Qc e _ _ _
   rw [QDL]
   have:x70=x71:=by omega
   subst this
   simp only [QaO,FL,show ilt x70 x70=false from Bl (by omega),Qf,Int.sub_self,Br,edZ]
  |succ m ih=>
   intro x71 Qu Qc e h0 hd hl
   rw [QDL]
   have c1:Q2 Qc 3=true:=Fl hd (by omega)
   have c2:QM Qu [(x8,(x71,()))] 16=true:=Jk (by omega) (by simp only [Bq];omega)
   have e1:Qg .i64 x71 1=x71+1:=J6 (by omega)
   have e2:(x70-x71).toNat=m+1:=by omega
   have e3:(x70-(x71+1)).toNat=m:=by omega
   simp only [QaO,show ilt x71 x70=true from Be (by omega),Qb,c1,c2,e1]
   have i0:=ih (x71+1) Qu Qc (by omega) (by omega) hd hl
   have i1:=ih (x71+1) Qu (Qe Qc 3) (by omega) (by omega) (QW hd) hl
   rw [i0,i1]
   cases hn:ine x8 x71 with
   |false=>simp only [Qf,FL,e2,e3,edZ,hn,BM]
   |true=>
    cases hg:igt (Qj Qc 3) 0 with
    |false=>simp only [Qb,Qf,FL,e2,e3,edZ,hn,hg,B2,DH,BM]
    |true=>
     cases hq:ilt (Qa Qu) 3 with
     |false=>simp only [Qb,Qf,FL,e2,e3,edZ,hn,hg,hq,B2,Bool.and_false,BM]
     |true=>
      have hl3:Qu.length<3:=by have:=Bx hq;simp only [Qa] at this;omega
      have i2:=ih (x71+1) (Qu++[(x8,(x71,()))]) (Qe Qc 3) (by omega) (by omega) (QW hd) (by simp only [Bm,Bq];omega)
      rw [i2]
      simp only [Qb,FL,e2,e3,edZ,hn,hg,hq,B2,BZ]
 exact key (x70-x71).toNat x71 Qu Qc (by omega) h0 hd hl
theorem QRQ (x4:List ByteArray)(x65 x66:Int)(y2:Estate)(Qk:List Endpoint)(Qu:List Keep)(Ql:List Item)(Qc:Dice)(h:(dOk Qc&&decide (0<=x66/\x66<=x65/\x65<=3/\x4.length<=3/\Qu.length<=3))=true):Qha x4 x65 x66 y2 Qk Qu Ql Qc=Qhb x4 x65 x66 y2 Qk Qu Ql Qc:=by
 simp only [Bb,Ba] at h
 obtain ⟨hd,h0,h1,h2,h3,hl⟩:=h
 have key: ∀ (m:Nat) (x66:Int) (Qu:List Keep) (Qc:Dice),x66+m=x65->0<=x66->dOk Qc=true->Qu.length<=3->Qha x4 x65 x66 y2 Qk Qu Ql Qc=Qhb x4 x65 x66 y2 Qk Qu Ql Qc:=by
  intro m
  induction m with
  |zero=>
   intro x66 Qu Qc e _ _ _
   rw [QDM]
   have:x65=x66:=by omega
   subst this
   simp only [QaP,Qhb,show ilt x65 x65=false from Bl (by omega),Qf,Int.sub_self,Br,edY]
  |succ m ih=>
   intro x66 Qu Qc e h0 hd hl
   rw [QDM]
   have e1:Qg .i64 x66 1=x66+1:=J6 (by omega)
   have e2:(x65-x66).toNat=m+1:=by omega
   have e3:(x65-(x66+1)).toNat=m:=by omega
   have e4:(Qa x4-0).toNat=x4.length:=by simp only [Qa];omega
   have hz:=IW x4.length x66 0 Qu Qc hd hl
   simp only [QaP,show ilt x66 x65=true from Be (by omega),Qb,e1,e4,hd,BA]
   refine brY (Be (by simp only [Qa];omega)) ?_
   rw [ih (x66+1) _ _ (by omega) (by omega) hz.1 hz.2]
   simp only [Qhb,e2,e3,edY]
 exact key (x65-x66).toNat x66 Qu Qc (by omega) h0 hd hl
theorem QRR (x10:Int)(y2:Estate)(y3_1:List Keep)(Qk:List Endpoint)(Ql:List Item)(Qc:Dice)(h:(dOk Qc&&decide (0<=x10/\x10<=3/\Ql.length+x10.toNat<=100))=true):Qhc x10 y2 y3_1 Qk Ql Qc=Qhd x10 y2 y3_1 Qk Ql Qc:=by
 simp only [Bb,Ba] at h
 obtain ⟨hd,h0,h1,hl⟩:=h
 obtain ⟨n,rfl⟩:=Bo h0
 rw [Bc] at hl
 have key: ∀ (n:Nat) (Ql:List Item) (Qc:Dice),dOk Qc=true->Ql.length+n<=100->Qhc (n:Int) y2 y3_1 Qk Ql Qc=Qhd (n:Int) y2 y3_1 Qk Ql Qc:=by
  intro n
  induction n with
  |zero=>
   intro Ql Qc _ _
   rw [QDN]
   simp only [QaQ,Qhd,show igt ((0:Nat):Int) 0=false from rfl,Qf,Bc,itZ,BQ]
  |succ n ih=>
   intro Ql Qc hd hl
   rw [QDN]
   have e2:QY .i64 ((n+1:Nat):Int) 1=(n:Int):=(Yc (by omega)).trans (by omega)
   have c1:E5 Qc sIt=true:=by simp [E5,hd]
   have c2:Qfh (UD Qc sIt) (Xg Qc sIt)=true:=QpA hd
   have c3: ∀ v,QM Ql [v] 64=true:=fun v=>Jk (by omega) (by simp only [Bq];omega)
   simp only [QaQ,show igt ((n+1:Nat):Int) 0=true from Be (by omega),Qb,e2,c1,c2,c3]
   refine Eq.trans (ih _ _ (QzN (s:=Xg Qc sIt) (QpA hd)) (by simp only [Bm,Bq];omega)) ?_
   simp only [Qhd,Bc,itZ,BU,BN]
 exact key n Ql Qc hd (by omega)
theorem QRS:LO UW QpC QDD 0:=QH (s:=Qg5) fun x y h _ q=>by simp only [QE,QF] at q;exact (QRO x.2.2.2.1 x.2.2.2.2.1 x.2.2.2.2.2.1 x.2.2.2.2.2.2.1 y.1 y.2.2.2.2.2.2.1 y.2.2.2.2.2.2.2.1 y.2.2.2.2.2.2.2.2.1 y.2.2.2.2.2.2.2.2.2.1 h).trans q
theorem QRT:LO UW QpD QDE 1:=QH (s:=Qg6) fun x y h _ q=>by simp only [QE,QF] at q;exact (QRP x.2.2.2.1 x.2.2.2.2.1 x.2.2.2.2.2.1 x.2.2.2.2.2.2.1 x.2.2.2.2.2.2.2.1 x.2.2.2.2.2.2.2.2.1 y.1 y.2.2.2.2.2.2.1 y.2.2.2.2.2.2.2.1 y.2.2.2.2.2.2.2.2.1 y.2.2.2.2.2.2.2.2.2.1 h).trans q
theorem QRU:LO UW QpE QDF 2:=QH (s:=Qg7) fun x y h _ q=>by simp only [QE,QF] at q;exact (QRQ x.2.2.2.1 x.2.2.2.2.1 x.2.2.2.2.2.1 y.1 y.2.2.2.2.2.2.1 y.2.2.2.2.2.2.2.1 y.2.2.2.2.2.2.2.2.1 y.2.2.2.2.2.2.2.2.2.1 h).trans q
theorem QRV:LO UW QpF QDG 3:=QH (s:=Qg8) fun x y h _ q=>by simp only [QE,QF] at q;exact (QRR x.2.2.2.1 y.1 y.2.1.2.1 y.2.2.2.2.2.2.1 y.2.2.2.2.2.2.2.2.1 y.2.2.2.2.2.2.2.2.2.1 h).trans q
set_option maxRecDepth 100000 in
theorem s_f20 (d:Dice)(h:dOk d=true):r_f20 d=some (.t Qx (QD d),[.box (.t QK (Y2 d))]):=by
 have hv:=JO (d:=d) (n:=2) (by omega)
 have e:Qg .i64 2 (Qj d 2)=2+Qj d 2:=J6 (by omega)
 have c1:Q2 d 2=true:=Fl h (by omega)
 have hn:=IX d
 have hd:=QW (n:=2) h
 have hz:=Qpy (JF d) 0 (Qe d 2) hd
 have hy:=Qpz (JF d).length (JF d).length 0 [] _ hz (BX _)
 have hy1:dOk (Zp d).2=true:=hy.1
 have hv3:=JO (d:=(Zp d).2) (n:=3) (by omega)
 simp only [r_f20,show lsl YO 0 (Qg .i64 2 (Qj d 2))=JF d from rfl,BP,Br,By,Int.sub_zero,show (Qa (JF d)).toNat=(JF d).length by simp only [Qa];omega]
 simp only [show edY (JF d).length (JF d).length 0 [] (Z8 (JF d) 0 (Qe d 2)).2=Zp d from rfl]
 refine brY c1 (brY (Be (by rw [e];refine ⟨by omega,by omega, ?_, ?_⟩<;>simp<;>omega)) (brY ?_ (brY ?_ ?_)))
 ·rw [JC (by omega),hd,hn.2.2]
  rfl
 ·rw [hz]
  exact Be (by simp only [Qa,BB];omega)
 ·have c2:Q2 (Zp d).2 3=true:=Fl hy1 (by omega)
  have c3:(dOk (Qe (Zp d).2 3)&&decide (0<=Qj (Zp d).2 3/\Qj (Zp d).2 3<=3/\([]:List Item).length+(Qj (Zp d).2 3).toNat<=100))=true:=by
   rw [QW hy1,Be (by simp only [BB];omega)]
   rfl
  cases hq:ieq (Qa (Zp d).1) 0 with
  |true=>
   rw [Qb]
   refine brY c2 (brY c3 ?_)
   unfold QD FI
   rw [hq]
   rfl
  |false=>
   rw [Qf]
   refine brY c2 (brY c3 ?_)
   unfold QD FI
   rw [hq]
   rfl
def QDO:Ent:=Wn QK .nil (fun d x=>(dOk d)) (fun d x=>(.t Qx (QD d))) (fun d x=>(Y2 d))
theorem ms_f20:EM 20 QDO:=mS (lk:=lkL (lkc QRS (lkc QRU (lkc QRT (lkc QRV lkn))))) UW QaL [((.c 2 true 3),some Qx)] false (ZX _ (gA (gD GT (gD QiL (gD QrX (gD Qz4 (gD Qz3 (gD ms_f40 (gD ms_f41 gN))))))))) fun m=>Um m rfl fun d x hok=>kT (s_f20 d hok)
end
end Go.Proofs.YtmjnnemhoeolgaaGreat.K
noncomputable section
namespace Go.Proofs.YtmjnnemhoeolgaaGreat.K.PE
open Go.RowKit
noncomputable section
abbrev mAll:List ByteArray:=[(ByteArray.mk #[97,112,112]),(ByteArray.mk #[100,98]),(ByteArray.mk #[109,97,105,108]),(ByteArray.mk #[119,101,98])]
def mkZ:List ByteArray->Dice->List Endpoint×Dice
 | [],d=>([],d)
 |s::r,d=>(epV d s::(mkZ r (epN d s)).1,(mkZ r (epN d s)).2)
def edM:Nat->Int->Int->List Keep->Dice->List Keep×Dice
 |0,_,_,l,d=>(l,d)
 |m+1,i,k,l,d=>bif ine i k then (bif ieq (Qj d 3) 0 then edM m i (k+1) (l++[(i,(k,()))]) (Qe d 3) else edM m i (k+1) l (Qe d 3)) else edM m i (k+1) l d
def edN:Nat->Nat->Int->List Keep->Dice->List Keep×Dice
 |0,_,_,l,d=>(l,d)
 |m+1,n,i,l,d=>edN m n (i+1) (edM n i 0 l d).1 (edM n i 0 l d).2
def Qlu (d:Dice):List ByteArray:=lsl mAll 0 (Qg .i64 2 (Qj d 3))
def mkEd (d:Dice):List Keep×Dice:=edN (Qlu d).length (Qlu d).length 0 [] (mkZ (Qlu d) (Qe d 3)).2
def F7 (d:Dice):List Item×Dice:=itZ (Qj (mkEd d).2 3).toNat (Qe (mkEd d).2 3)
-- loop 0: (x4 : (List ByteArray)) (x5 : Int) (y2 : Estate) (Qk : (List Endpoint)) (Qu : (List Keep)) (Ql : (List Item)) (Qc : Dice); out: ('exit', 0) (x4 : (List ByteArray)) (y2 : Estate) (Qk : (List Endpoint)) (Qu : (List Keep)) (Ql : (List Item)) (Qc : Dice)
-- loop 1: (x4 : (List ByteArray)) (x6 : Int) (x7 : Int) (y2 : Estate) (Qk : (List Endpoint)) (Qu : (List Keep)) (Ql : (List Item)) (Qc : Dice); out: ('exit', 4) (x4 : (List ByteArray)) (x6 : Int) (y2 : Estate) (Qk : (List Endpoint)) (Qu : (List Keep)) (Ql : (List Item)) (Qc : Dice)
-- loop 2: (x4 : (List ByteArray)) (x6 : Int) (y2 : Estate) (Qk : (List Endpoint)) (Qu : (List Keep)) (Ql : (List Item)) (Qc : Dice); out: ('exit', 2) (y2 : Estate) (Qk : (List Endpoint)) (Qu : (List Keep)) (Ql : (List Item)) (Qc : Dice)
-- loop 3: (x8 : Int) (y2 : Estate) (Qk : (List Endpoint)) (Qu : (List Keep)) (Ql : (List Item)) (Qc : Dice); out: ('exit', 6) (y2 : Estate) (Qk : (List Endpoint)) (Qu : (List Keep)) (Ql : (List Item)) (Qc : Dice)
end
end Go.Proofs.YtmjnnemhoeolgaaGreat.K.PE
noncomputable section
namespace Go.Proofs.YtmjnnemhoeolgaaGreat.K
open Go.RowKit
abbrev XK (s:ByteArray)(k:Nat):Certificate:=(Ue (leafC s Jy (Qg .i64 100 (k:Int)) 901) 1).1
def QhW (s:ByteArray)(k:Nat):Bool:=
 JA (XK s k)&&(Q0 (XK s k)&&(Od Jy (Qg .i64 100 (k:Int)) [XK s k]&&(Zf (Qg .i64 100 (k:Int))&&(WQ (Qw (XK s k)) s&&(!XM [XK s k] 11&&(!XM [XK s k] 15&&(!XM [XK s k] 10&&(ieq (YY (XK s k)).1 1&&(ieq (XK s k).2.2.2.2.2.2.1 0&&(ieq (XK s k).2.2.2.2.2.2.2.1 901&&(ieq (XK s k).2.2.2.2.2.1.1 3&&(Wl s&&Jg s))))))))))))
set_option maxRecDepth 100000 in
theorem QS7:(YO.all fun s=>(List.range 3).all fun k=>QhW s k)=true:=by kernel_rfl
theorem QFi {s:ByteArray}{k:Nat}(hs:s∈YO)(hk:k<3):QhW s k=true:=
 Bf.1 (Bf.1 QS7 s hs) k (Di.2 hk)
def GL (e:Endpoint):Prop:= ∃ d k s,e=WE d k s/\s∈YO/\k<3
theorem QS8:Yx Jy 2=true:=by kernel_rfl
theorem QS9 (d:Dice):dof d [3,3,4]=3∨dof d [3,3,4]=4:=by
 have h:=Oo (d:=d) (l:=[3,3,4]) (by decide)
 simp only [B5,Do,or_false] at h
 omega
def Qqu (l:List Int):Bool:=decide l.Nodup&&l.all fun x=>decide (1<=x/\x<=16)
theorem QTa {l:List Int}(h:Qqu l=true):goodS l:=by
 simp only [Qqu,Bb,Ba,Bf] at h
 exact h
theorem QTb (d:Dice):GI d∈[[10,8,2],[8,2],[2,10,8,3],[14,10,8,2],[14,8,2],([14,2,10,8,3]:List Int)]:=by
 have b3:=JO (d:=QU d [3,3,4]) (n:=3) (by omega)
 unfold GI
 rcases (show Qj (QU d [3,3,4]) 3=0∨Qj (QU d [3,3,4]) 3=1∨Qj (QU d [3,3,4]) 3=2 by omega) with h|h|h<;>rw [h]<;>cases ieq (dof d [3,3,4]) 4<;>decide
theorem Qqv {p:List Int->Bool}(h:[[10,8,2],[8,2],[2,10,8,3],[14,10,8,2],[14,8,2],([14,2,10,8,3]:List Int)].all p=true)(d:Dice):p (GI d)=true:=Bf.1 h _ (QTb d)
theorem QFj {e:Endpoint}(h:GL e):QS e=true:=by
 obtain ⟨d,k,s,rfl,hs,hk⟩:=h
 have hg:=QFi hs hk
 simp only [QhW,Bb] at hg
 have hsu:(GI d).length<=5:=Bx (Qqv (p:=fun l=>decide (l.length<=5)) (by decide) d)
 have hc:Js [XK s k]=true:=by
  simp only [Js,BW,Dy,hg.1,Df]
  rfl
 unfold QS
 simp only [Bb,Ba]
 refine ⟨⟨hg.2.2.2.2.2.2.2.2.2.2.2.2.2,⟨?_, ?_, ?_, ?_⟩⟩, ?_⟩
 ·show (GI d).length<=100000
  omega
 ·exact (show 1<=100000 by decide)
 ·exact (show 1<=100000 by decide)
 ·exact (show 2<=100000 by decide)
 ·show (Jo (Yi s Jy (Qg .i64 100 (k:Int)) 1 901)&&true)=true
  rw [Df]
  exact hc
theorem Qqw {e:Endpoint}(h:GL e):QN e=true:=by
 obtain ⟨d,k,s,rfl,hs,hk⟩:=h
 have hg:=QFi hs hk
 simp only [QhW,Bb] at hg
 have hm:=QS9 d
 refine QLx (e:=WE d k s) hg.2.2.2.2.2.2.2.2.2.2.2.2.1 (BV _) ?_ ?_ (QTa (Qqv (p:=Qqu) (by decide) d)) (show 1<=4 by decide) ?_ (show QlY [1]=true by decide) (show QlZ [2,3]=true by kernel_rfl)
 ·show (1:Int)<=dof d [3,3,4]
  omega
 ·show dof d [3,3,4]<=4
  omega
 ·show (Wy (Yi s Jy (Qg .i64 100 (k:Int)) 1 901)&&true)=true
  rw [Df]
  refine QLu QS8 hg.2.2.2.1 (show 1<=8 by decide) ?_ hg.2.2.1
  show (Q0 (XK s k)&&true)=true
  rw [hg.2.1]
  rfl
theorem QFk: ∀ (l:List ByteArray) (k:Nat) (d:Dice),(Z8 l k d).1.length=l.length
 | [],_,_=>rfl
 |_::r,k,d=>by simp only [Z8,Bv,QFk r (k+1) (UV d)]
theorem QFl: ∀ (l:List ByteArray) (k:Nat) (d:Dice),(∀ s∈l,s∈YO)->k+l.length<=3→ ∀ e∈(Z8 l k d).1,GL e
 | [],_,_,_,_,e,he=>by cases he
 |s::r,k,d,h,hk,e,he=>by
  simp only [Z8,B5] at he
  simp only [Bv] at hk
  rcases he with rfl|he
  ·exact ⟨d,k,s,rfl,h s B8,by omega⟩
  ·exact QFl r (k+1) (UV d) (fun s hs=>h s (B4 _ hs)) (by omega) e he
theorem QTc (d:Dice): ∀ s∈JF d,s∈YO:=by
 rcases QpB d with h|h<;>rw [h]
 ·exact fun s hs=>Du hs
 ·exact fun s hs=>hs
theorem Qqx (d:Dice): ∀ e∈Qt (QD d),GL e:=QFl (JF d) 0 (Qe d 2) (QTc d) (by have:=IX d;omega)
theorem QhX (d:Dice):(Qt (QD d)).length=(JF d).length:=QFk _ _ _
theorem snd_up (d:Dice):Ua (Qt (QD d)) 0=true:=by
 have hv: ∀ d k s,s∈YO->k<3->QN (WE d k s)=true:=fun d k s hs hk=>Qqw ⟨d,k,s,rfl,hs,hk⟩
 have q1:slt (ByteArray.mk #[97,112,112]) (ByteArray.mk #[100,98])=true:=by kernel_rfl
 have q2:slt (ByteArray.mk #[100,98]) (ByteArray.mk #[119,101,98])=true:=by kernel_rfl
 show YP (Z8 (JF d) 0 (Qe d 2)).1 (Z8 (JF d) 0 (Qe d 2)).1 0=true
 rcases QpB d with h|h<;>rw [h]
 ·show (QN (WE _ 0 _)&&true&&(QN (WE _ 1 _)&&(false||slt (ByteArray.mk #[97,112,112]) (ByteArray.mk #[100,98]))&&true))=true
  rw [hv _ _ _ (by simp) (by decide),hv _ _ _ (by simp) (by decide),q1]
  rfl
 ·show (QN (WE _ 0 _)&&true&&(QN (WE _ 1 _)&&(false||slt (ByteArray.mk #[97,112,112]) (ByteArray.mk #[100,98]))&&(QN (WE _ 2 _)&&(false||slt (ByteArray.mk #[100,98]) (ByteArray.mk #[119,101,98]))&&true)))=true
  rw [hv _ _ _ (by simp) (by decide),hv _ _ _ (by simp) (by decide),hv _ _ _ (by simp) (by decide),q1,q2]
  rfl
def QhY (a b:Keep):Prop:=a.1<b.1∨(a.1=b.1/\a.2.1<b.2.1)
def edG (n:Int)(l:List Keep)(i k:Int):Prop:=(∀ x∈l,FP n x=true)/\l.Pairwise QhY∧ ∀ x∈l,QhY x (i,(k,()))
theorem QhZ {n:Int}{l:List Keep}{i k i' k':Int}(h:edG n l i k)(hl:i<i'∨(i=i'/\k<=k')):edG n l i' k':=by
 refine ⟨h.1,h.2.1,fun x hx=> ?_⟩
 have:=h.2.2 x hx
 simp only [QhY] at this ⊢
 omega
theorem Qh0 {n:Int}: ∀ (m:Nat) (i k:Int) (l:List Keep) (d:Dice),0<=i->i<n->0<=k->k+m<=n->edG n l i k->edG n (edZ m i k l d).1 i (k+m)
 |0,i,k,l,d,_,_,_,_,h=>QhZ h (.inr ⟨rfl,by omega⟩)
 |m+1,i,k,l,d,h0,h1,h2,h3,h=>by
  have hs:edG n l i (k+1):=QhZ h (.inr ⟨rfl,by omega⟩)
  have e:k+((m+1:Nat):Int)=k+1+m:=by omega
  unfold edZ
  rw [e]
  cases hn:ine i k with
  |false=>exact Qh0 m i (k+1) l d h0 h1 (by omega) (by omega) hs
  |true=>
   cases h4:(igt (Qj d 3) 0&&ilt (Qa l) 3) with
   |false=>exact Qh0 m i (k+1) l (Qe d 3) h0 h1 (by omega) (by omega) hs
   |true=>
    have hne:i≠k:=by simpa [ine] using hn
    refine Qh0 m i (k+1) (l++[(i,(k,()))]) (Qe d 3) h0 h1 (by omega) (by omega) ⟨fun x hx=> ?_, ?_,fun x hx=> ?_⟩
    ·rcases BE.1 hx with hx|hx
     ·exact h.1 x hx
     ·rw [Dm.1 hx]
      simp only [FP,ilt,ige,ZV,Bb,Bu,Bn]
      exact ⟨by omega,by omega,by omega,by omega,hne⟩
    ·rw [List.pairwise_append]
     refine ⟨h.2.1,List.pairwise_singleton _ _,fun x hx y hy=> ?_⟩
     rw [Dm.1 hy]
     exact h.2.2 x hx
    ·rcases BE.1 hx with hx|hx
     ·exact hs.2.2 x hx
     ·rw [Dm.1 hx]
      exact .inr ⟨rfl,by show k<k+1;omega⟩
theorem QFm {n:Int}: ∀ (m nn:Nat) (i:Int) (l:List Keep) (d:Dice),(nn:Int)<=n->0<=i->i+m<=n->edG n l i 0->edG n (edY m nn i l d).1 (i+m) 0
 |0,nn,i,l,d,_,_,_,h=>QhZ h (by omega)
 |m+1,nn,i,l,d,hnn,h0,h1,h=>by
  have:=Qh0 nn i 0 l d h0 (by omega) (by omega) (by omega) h
  have e:i+((m+1:Nat):Int)=i+1+m:=by omega
  unfold edY
  rw [e]
  exact QFm m nn (i+1) _ _ hnn (by omega) (by omega) (QhZ this (.inl (by omega)))
theorem QFn {n i k:Int}{l:List Keep}(h:edG n l i k):Zl n l 0=true:=by
 unfold Zl
 rw [Bf]
 intro j hj
 have hj:j<l.length:=by
  rw [List.mem_range'] at hj
  obtain ⟨a,ha,rfl⟩:=hj
  omega
 have at_: ∀ q (hq:q<l.length),JS l q=l[q]:=fun q hq=>by simp only [JS,Bk,Bh hq,BH]
 unfold I5
 rw [at_ j hj,h.1 _ (Bw hj),BA]
 by_cases h0:j=0
 ·rw [Be h0,Bool.true_or]
 ·rw [Bl h0,Da,at_ (j-1) (by omega)]
  have hp:=List.pairwise_iff_getElem.1 h.2.1 (j-1) j (by omega) hj (by omega)
  simp only [QhY] at hp
  simp only [egLt,igt,ige,ZV,Bb,Bu,Bn,Bool.and_eq_false_imp,Ba]
  refine ⟨by omega,fun he=>by omega⟩
theorem QFo (d:Dice):Zl (Qa (Qt (QD d))) (Q9 (QD d)) 0=true/\(Q9 (QD d)).length<=3/\0<(Q9 (QD d)).length:=by
 have hn:=IX d
 have hl:Qa (Qt (QD d))=((JF d).length:Int):=by rw [Qa,QhX]
 rw [hl]
 show Zl _ (FI d) 0=true/\(FI d).length<=3/\0<(FI d).length
 unfold FI
 cases hq:ieq (Qa (Zp d).1) 0 with
 |true=>
  refine ⟨?_,(show 1<=3 by decide),(show 0<1 by decide)⟩
  show Zl _ [(0,(1,()))] 0=true
  refine QFn (i:=5) (k:=5) ⟨fun x hx=> ?_,List.pairwise_singleton _ _,fun x hx=> ?_⟩<;>rw [Dm.1 hx]
  ·simp only [FP,ilt,ige,ZV,Bb,Bu,Bn]
   exact ⟨by omega,by omega,by omega,by omega,by omega⟩
  ·exact .inl (by decide)
 |false=>
  have hy:=QFm (n:=((JF d).length:Int)) (JF d).length (JF d).length 0 [] (Z8 (JF d) 0 (Qe d 2)).2 (BV _) (BV _) (by omega) (⟨fun x hx=>(nomatch hx),List.Pairwise.nil,fun x hx=>(nomatch hx)⟩:edG _ [] 0 0)
  refine ⟨QFn hy, ?_, ?_⟩
  ·have hp: ∀ (m:Nat) (i k:Int) (l:List Keep) (d:Dice),l.length<=3->(edZ m i k l d).1.length<=3:=by
    intro m
    induction m with
    |zero=>exact fun _ _ _ _ h=>h
    |succ m ih=>
     intro i k l d h
     unfold edZ
     cases ine i k with
     |false=>exact ih _ _ _ _ h
     |true=>
      cases h1:igt (Qj d 3) 0 with
      |false=>exact ih _ _ _ _ h
      |true=>
       cases h2:ilt (Qa l) 3 with
       |false=>exact ih _ _ _ _ h
       |true=>
        have:=Bx h2
        simp only [Qa] at this
        exact ih _ _ _ _ (by simp only [Bm,Bq];omega)
   have hr: ∀ (m n:Nat) (i:Int) (l:List Keep) (d:Dice),l.length<=3->(edY m n i l d).1.length<=3:=by
    intro m
    induction m with
    |zero=>exact fun _ _ _ _ h=>h
    |succ m ih=>exact fun n i l d h=>ih n (i+1) _ _ (hp n i 0 l d h)
   exact hr _ _ _ [] _ (by decide)
  ·simp only [ZV,Qa,Bn] at hq
   show 0<(Zp d).1.length
   omega
theorem QTd {d:Dice}:JD (Xg d sIt)=true:=by
 have hv:=JO (d:=d) (n:=2) (by omega)
 unfold Xg
 show JD (sIt.getD (Qj d 2).toNat ByteArray.empty)=true
 rcases (show Qj d 2=0∨Qj d 2=1 by omega) with h|h<;>rw [h]<;>kernel_rfl
theorem QTe {d:Dice}:Jg (Xg d sIt)=true:=by
 have hv:=JO (d:=d) (n:=2) (by omega)
 unfold Xg
 show Jg (sIt.getD (Qj d 2).toNat ByteArray.empty)=true
 rcases (show Qj d 2=0∨Qj d 2=1 by omega) with h|h<;>rw [h]<;>kernel_rfl
theorem QFp: ∀ (n:Nat) (d:Dice),(itZ n d).1.all J8=true/\(itZ n d).1.all Yr=true/\(itZ n d).1.length=n
 |0,_=>⟨rfl,rfl,rfl⟩
 |n+1,d=>by
  have:=QFp n (Fo (UD d sIt) (Xg d sIt))
  simp only [itZ,BW,Bv,this,Df,and_true]
  exact ⟨QNT _ QTd,QTe⟩
theorem Qbk (d:Dice):J0 (QD d)=true/\JN (QD d)=true:=by
 have hn:=IX d
 have h1:=snd_up d
 obtain ⟨h2,h3,h4⟩:=QFo d
 have hv3:=JO (d:=(Zp d).2) (n:=3) (by omega)
 have hi:=QFp (Qj (Zp d).2 3).toNat (Qe (Zp d).2 3)
 have hl:(Qt (QD d)).length<=3:=by rw [QhX];omega
 have hx:ZB (QD d)=(itZ (Qj (Zp d).2 3).toNat (Qe (Zp d).2 3)).1:=rfl
 constructor
 ·unfold J0
  rw [h1,h2,hx,hi.1,show ile (Qa (Qt (QD d))) 16=true from Be (by simp only [Qa];omega),show ile (Qa (Q9 (QD d))) 40=true from Be (by simp only [Qa];omega),show ile (Qa (itZ (Qj (Zp d).2 3).toNat (Qe (Zp d).2 3)).1) 30=true from Be (by simp only [Qa];omega)]
  rfl
 ·unfold JN Ym
  rw [hx,hi.2.1,Be (show (Qt (QD d)).length<=99999/\(Q9 (QD d)).length<=99999 by omega),Be (show (itZ (Qj (Zp d).2 3).toNat (Qe (Zp d).2 3)).1.length<=100000 by omega),BA,BA,Df]
  exact Bf.2 fun e he=>QFj (Qqx d e he)
end Go.Proofs.YtmjnnemhoeolgaaGreat.K
noncomputable section
namespace Go.Proofs.YtmjnnemhoeolgaaGreat.K
open Go.RowKit
noncomputable section
open Classical in
end
end Go.Proofs.YtmjnnemhoeolgaaGreat.K
