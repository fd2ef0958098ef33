import Derived.Test.YthlcobdnemhcdaaGreatQ5
import Derived.Test.YthlcobdnemhcdaaGreatQ3
import Derived.Test.YthlcobdnemhcdaaGreatQ4
import Derived.RangeFuncCalls
import Derived.RangeFuncBound
import Derived.Shelf.RegionOpen
import Derived.OwnWalkIn
import Derived.TacticsInMore
import Derived.LoopNIn
import Derived.LoopIn
import Derived.Lib.SliceRun
set_option linter.unusedSimpArgs false
set_option linter.unusedVariables false
noncomputable section
namespace Go.Proofs.YthlcobdnemhcdaaGreat.K
open Go.RowKit
noncomputable section
def Xn:Option Int->List Link->Bool
 |_,[]=>true
 |pv,x::r=>Jq x.1&&decide (0<=x.2.1/\x.2.1<=40000)&&(match pv with|none=>true|some d=>decide (d<x.2.1))&&Xn (some x.2.1) r
theorem QgE (pv:Option Int)(x:Link)(r:List Link):Xn pv (x::r)=(Jq x.1&&decide (0<=x.2.1/\x.2.1<=40000)&&(match pv with|none=>true|some d=>decide (d<x.2.1))&&Xn (some x.2.1) r):=by cases pv<;>rfl
def XV (l:List Link)(k:Nat):Option Int:=if k=0 then none else (l[k-1]?).map fun x:Link=>x.2.1
def ZA (i:Item):Bool:=Jv i.1&&decide (1<=i.2.1/\i.2.1<=2)&&decide (1<=i.2.2.1/\i.2.2.1<=4)&&decide (1<=i.2.2.2.1.length/\i.2.2.2.1.length<=8)&&Xn none i.2.2.2.1&&decide ((i.2.2.2.1.headD ((0,(0,())),(0,()))).2.1<=i.2.2.2.2.1/\i.2.2.2.2.1<=40000)
def Yz (i:Item):Int:=if ZA i then 0 else 30
def Yh (i:Item):Bool:=Jk i.1
abbrev Qaz:Sh:=⟨[(1,.ptr 1 0),(45,.ty (.sl Q6)),(46,.ty tI),(47,.ty tI)],[(1,.box Qq)]⟩
abbrev Qop:Sh:=⟨[(2,.ty tI)],[]⟩
abbrev Qoq:Sh:=⟨[(1,.ptr 1 0)],[(1,.box Qq)]⟩
def QgF:Fg:=Qaz.f
def Qor:TC:=aF Tryz.f122 [(122,pL 0 QgF),(1957,.fg Qoq.f),(15666,pD [(0,[5]),(1,[5]),(2,[]),(3,[]),(4,[]),(5,[5]),(6,[5]),(7,[]),(8,[]),(9,[]),(10,[5]),(11,[5]),(12,[]),(13,[]),(14,[]),(15,[]),(16,[]),(17,[]),(18,[1]),(19,[1]),(20,[]),(21,[]),(22,[]),(23,[]),(24,[]),(25,[5]),(26,[5]),(27,[]),(28,[]),(29,[])] (.of [0,1,2,3,4,5,6,7,8,9,10,11,12,13,14,15,16,17,18,19,20,21,22,23,24,25,26,27,28,29])),(62669,.fg Qop.f),(124,pD [(0,[1]),(1,[1]),(2,[1]),(3,[1]),(4,[]),(5,[]),(6,[]),(7,[]),(8,[]),(9,[1]),(10,[1]),(11,[]),(12,[])] (.of [0,1,2,3,4,5,6,7,8,9,10,11,12]))]
def Qos:TC:=lb 0 Qor
def Qot (x45:List Link)(x46 x47:Int)(y1:Item):VS:=Qaz.st ((),x45,x46,x47,()) (y1,())
def Gv (x2:Int):VS:=Qop.st (x2,()) ()
def QgG (y1:Item):VS:=Qoq.st ((),()) (y1,())
def Qzp:VS->Option (Bool×List (Bool×Exit×VS)):=mkL Qaz (fun x y=>((x.2.1==y.1.2.2.2.1)&&Qy x.2.1 x.2.2.1 x.2.2.2.1)) (fun x y=>[((!(Xn (XV x.2.1 x.2.2.2.1.toNat) (x.2.1.drop x.2.2.2.1.toNat))),.ret,Gv (30)),(true,.exit 0,QgG (y.1))])
def QgH:G:=gG 96 [(92,UM),(178,QcW)] (Ls [Qzp])
def QaA (x45:List Link)(x46 x47:Int)(y1:Item):OX:=Qx (Qz QgH QgF Qos) (Qot x45 x46 x47 y1)
def IH (kk:List Link->Int->Int->Item->OX)(x45:List Link)(x46 x47:Int)(y1:Item):OX:=
 let a1:=lgt Q6 x45 (Int.toNat x47)
 br (ilt x47 x46) (br (cIx x45 x47) (br (!(Jq (a1.1))) (some (.ret,Gv 30)) (br (ilt ((a1.2).1) 0) (some (.ret,Gv 30)) (br (igt ((a1.2).1) 40000) (some (.ret,Gv 30)) (br (igt x47 0) (br (cIx y1.2.2.2.1 (QD .i64 x47 1)) (br (ige (((lgt Q6 y1.2.2.2.1 (Int.toNat (QD .i64 x47 1))).2).1) ((a1.2).1)) (some (.ret,Gv 30)) (kk x45 x46 (Qi .i64 x47 1) y1)) none) (kk x45 x46 (Qi .i64 x47 1) y1))))) none) (some (.exit 0,QgG y1))
def FJ (x45:List Link)(x46 x47:Int)(y1:Item):OX:=br (!(Xn (XV x45 x47.toNat) (x45.drop x47.toNat))) (some (.ret,Gv (30)))<|some (.exit 0,QgG (y1))
theorem Qou (x45:List Link)(x46 x47:Int)(y1:Item):QaA x45 x46 x47 y1=IH QaA x45 x46 x47 y1:=lnT (x:=IH (fun x45 x46 x47 y1=>some (.normal,Qot x45 x46 x47 y1)) x45 x46 x47 y1) (by simp only [IH,nxA];rfl)
def II (p0:Item):OV:=
 let a1:=((((p0).2).2).2)
 let a2:=Qd p0.2.2.2.1
 br (ilt p0.2.2.1 1) (some (.t tI 30,[])) (br (igt p0.2.2.1 4) (some (.t tI 30,[])) (br (ilt a2 1) (some (.t tI 30,[])) (br (igt a2 8) (some (.t tI 30,[])) (br ((p0.2.2.2.1==p0.2.2.2.1)&&Qy p0.2.2.2.1 a2 (0:Int)) (br (!(Xn (XV p0.2.2.2.1 (0:Int).toNat) (p0.2.2.2.1.drop (0:Int).toNat))) (some (.t tI (30),[])) (br (cIx (a1.1) 0) (br (ilt ((a1.2).1) (((lgt Q6 (a1.1) (Int.toNat 0)).2).1)) (some (.t tI 30,[])) (br (igt ((a1.2).1) 40000) (some (.t tI 30,[])) (some (.t tI 0,[])))) none)) none))))
def Qov (p0:Item):OV:=br (ieq p0.2.1 1) (br (Jk p0.1) (br (!(Jv p0.1)) (some (.t tI 30,[])) (br (!true) (some (.t tI 30,[])) (II p0))) none) (br (Jk p0.1) (br (!(Jv p0.1)) (some (.t tI 30,[])) (br (!(ieq p0.2.1 2)) (some (.t tI 30,[])) (II p0))) none)
theorem Qzq (x45:List Link)(x46 x47:Int)(y1:Item)(h:((x45==y1.2.2.2.1)&&Qy x45 x46 x47)=true):QaA x45 x46 x47 y1=FJ x45 x46 x47 y1:=by
 simp only [Bc,De] at h
 obtain ⟨hx,h0⟩:=h
 obtain ⟨rfl,h3,k,rfl,hk⟩:=JE h0
 clear h0
 refine QX x45 (fun k=>QaA x45 (x45.length:Int) (k:Int) y1=FJ x45 (x45.length:Int) (k:Int) y1) ?_ ?_ k hk
 ·rw [Qou]
  simp [IH,FJ,QA,Ql,Xn]
 ·intro k hk ih
  rw [Qou]
  have el:FJ x45 (x45.length:Int) (k:Int) y1=br (!(Jq x45[k].1&&decide (0<=x45[k].2.1/\x45[k].2.1<=40000)&&(match XV x45 k with|none=>true|some d=>decide (d<x45[k].2.1)))) (some (.ret,Gv 30)) (FJ x45 (x45.length:Int) ((k+1:Nat):Int) y1):=by
   have e1:XV x45 (k+1)=some x45[k].2.1:=by
    unfold XV
    rw [if_neg (by omega),Nat.add_sub_cancel,Bi hk]
    rfl
   simp only [FJ,Bd,e1]
   rw [Bj hk,QgE]
   generalize (Jq x45[k].1&&decide (0<=x45[k].2.1/\x45[k].2.1<=40000)&&(match XV x45 k with|none=>true|some d=>decide (d<x45[k].2.1)))=c
   cases c<;>rfl
  rw [el]
  simp only [IH,QA,QM,hk,Bx,Qg,Bd,QW (show k<4611686018427387904 by omega),QP (y:=Q6) hk,ih, ← hx]
  cases Jq x45[k].1 with
  |false=>rfl
  |true=>
   simp only [BI,Ql,By]
   by_cases c1:x45[k].2.1<0
   ·rw [show ilt x45[k].2.1 0=true from Be c1,Qg,Bt (show ¬ (0<=x45[k].2.1/\x45[k].2.1<=40000) by omega)]
    rfl
   ·rw [show ilt x45[k].2.1 0=false from Bt c1,Ql]
    by_cases c2:40000<x45[k].2.1
    ·rw [show igt x45[k].2.1 40000=true from Be (by omega),Qg,Bt (show ¬ (0<=x45[k].2.1/\x45[k].2.1<=40000) by omega)]
     rfl
    ·rw [show igt x45[k].2.1 40000=false from Bt (by omega),Ql,Be (show 0<=x45[k].2.1/\x45[k].2.1<=40000 by omega)]
     simp only [By]
     by_cases hk0:k=0
     ·subst hk0
      rfl
     ·have hk1:k-1<x45.length:=by omega
      have e1:QD .i64 (k:Int) 1=((k-1:Nat):Int):=by rw [Ze (by omega)];omega
      have e2:igt (k:Int) 0=true:=by simp only [igt,Ba];omega
      have e3:XV x45 k=some x45[k-1].2.1:=by
       unfold XV
       rw [if_neg hk0,Bi hk1]
       rfl
      rw [e1,e2,e3,Qg]
      simp only [QM,hk1,Bx,Qg,Bd,QP (y:=Q6) hk1]
      by_cases c3:x45[k-1].2.1<x45[k].2.1
      ·rw [show ige x45[k-1].2.1 x45[k].2.1=false from Bt (by omega),Ql,Be c3]
       rfl
      ·rw [show ige x45[k-1].2.1 x45[k].2.1=true from Be (by omega),Qg,Bt c3]
       rfl
theorem Qzr:LO QgH QgF Qos 0:=QI (s:=Qaz) fun x y h _ q=>by simp only [QG,QH] at q;exact (Qzq x.2.1 x.2.2.1 x.2.2.2.1 y.1 h).trans q
theorem Zh {i:Item}:ZA i=true↔Jv i.1=true/\(1<=i.2.1/\i.2.1<=2)/\(1<=i.2.2.1/\i.2.2.1<=4)/\(1<=i.2.2.2.1.length/\i.2.2.2.1.length<=8)/\Xn none i.2.2.2.1=true/\(i.2.2.2.1.headD ((0,(0,())),(0,()))).2.1<=i.2.2.2.2.1/\i.2.2.2.2.1<=40000:=by
 unfold ZA
 simp only [Bc,Ba,and_assoc]
theorem s_f122 (i:Item)(h:Yh i=true):Qov i=some (.t tI (Yz i),[]):=by
 have h:Jk i.1=true:=h
 have bad:(ZA i=true->False)->some (V.t tI 30,([]:List VO))=some (V.t tI (Yz i),[]):=fun hq=>by
  cases hi:ZA i with
  |false=>simp [Yz,hi]
  |true=>exact (hq hi).elim
 have tail:Jv i.1=true->(1<=i.2.1/\i.2.1<=2)->II i=some (.t tI (Yz i),[]):=fun k1 k2=>by
  simp only [II]
  refine Q8 (fun g=>bad fun hq=> ?_) (fun g1=>Q8 (fun g=>bad fun hq=> ?_) (fun g2=>Q8 (fun g=>bad fun hq=> ?_) (fun g3=>Q8 (fun g=>bad fun hq=> ?_) (fun g4=> ?_))))
  ·have:=Zh.1 hq;simp only [ilt,Ba] at g;omega
  ·have:=Zh.1 hq;simp only [igt,Ba] at g;omega
  ·have:=Zh.1 hq;simp only [ilt,Qd,Ba] at g;omega
  ·have:=Zh.1 hq;simp only [igt,Qd,Ba] at g;omega
  ·simp only [ilt,igt,Qd,Bo] at g1 g2 g3 g4
   rw [beq_self_eq_true,By,JF (by omega),Qg]
   have e0:XV i.2.2.2.1 (0:Int).toNat=none:=rfl
   rw [e0,BE,BL]
   refine Q8 (fun g=>bad fun hq=> ?_) (fun g5=> ?_)
   ·have:=Zh.1 hq
    rw [this.2.2.2.2.1] at g
    cases g
   ·have hl:0<i.2.2.2.1.length:=by omega
    have e1:cIx i.2.2.2.1 0=true:=by simp only [cIx,Ba];omega
    have e2:lgt Q6 i.2.2.2.1 0=i.2.2.2.1.headD ((0,(0,())),(0,())):=by
     cases hq:i.2.2.2.1 with
     |nil=>rw [hq] at hl;simp at hl
     |cons a l=>rfl
    rw [e1,Qg,e2]
    refine Q8 (fun g=>bad fun hq=> ?_) (fun g6=>Q8 (fun g=>bad fun hq=> ?_) (fun g7=> ?_))
    ·have:=Zh.1 hq;simp only [ilt,Ba] at g;omega
    ·have:=Zh.1 hq;simp only [igt,Ba] at g;omega
    ·simp only [ilt,igt,Bo] at g6 g7
     have:ZA i=true:=Zh.2 ⟨k1,k2,by omega,by omega,by simpa using g5,by omega,by omega⟩
     simp [Yz,this]
 simp only [Qov,II] at tail ⊢
 rw [h]
 simp only [Qg]
 refine Q8 (fun g1=>Q8 (fun g=>bad fun hq=> ?_) (fun g2=> ?_)) (fun g1=>Q8 (fun g=>bad fun hq=> ?_) (fun g2=>Q8 (fun g=>bad fun hq=> ?_) (fun g3=> ?_)))
 ·rw [(Zh.1 hq).1] at g;cases g
 ·simp only [Zy,Ba] at g1
  exact tail (by simpa using g2) (by omega)
 ·rw [(Zh.1 hq).1] at g;cases g
 ·have:=Zh.1 hq
  simp only [Zy,Bo,Bw,Ba] at g1 g
  omega
 ·simp only [Zy,Bo,Bool.not_eq_false',Ba] at g1 g3
  exact tail (by simpa using g2) (by omega)
def QgI:Ent:=Qn (.pr Qq .nil) (fun x=>(Yh x.1)) (fun x=>(.t tI (Yz x.1)))
theorem Qow:EM 122 QgI:=mS (lk:=lkL (lkc Qzr lkn)) QgH Qor [((.t 2),some tI)] false (gB (gD GD (gD Qjn gN))) fun m=>Qt m fun x hok=>kT (s_f122 x.1 hok)
end
end Go.Proofs.YthlcobdnemhcdaaGreat.K
noncomputable section
namespace Go.Proofs.YthlcobdnemhcdaaGreat.K
open Go.RowKit
noncomputable section
abbrev O3 (l:List Keep)(k:Nat):Keep:=l.getD k zK
def egLt (a b:Keep):Bool:= !igt a.1 b.1&& !(ieq a.1 b.1&&ige a.2.1 b.2.1)
def Qdx (n:Int)(x:Keep):Bool:= !ilt x.1 0&&(!ige x.1 n&&(!ilt x.2.1 0&&(!ige x.2.1 n&& !ieq x.1 x.2.1)))
def Qdy (n:Int)(l:List Keep)(k:Nat):Bool:=Qdx n (O3 l k)&&(decide (k=0)||egLt (O3 l (k-1)) (O3 l k))
def ZG (n:Int)(l:List Keep)(k:Nat):Bool:=(List.range' k (l.length-k)).all (Qdy n l)
theorem QGf (n:Int)(l:List Keep):ZG n l l.length=true:=by
 unfold ZG
 rw [Nat.sub_self]
 rfl
theorem QGg {n:Int}{l:List Keep}{k:Nat}(hk:k<l.length):ZG n l k=(Qdy n l k&&ZG n l (k+1)):=by
 have:l.length-k=(l.length-(k+1))+1:=by omega
 unfold ZG
 rw [this,List.range'_succ,B4]
theorem QGh {β:Type}(c1 c2 c3 c4 c5 u:Bool)(R E:Option β):br c1 R (br c2 R (br c3 R (br c4 R (br c5 R (br (!u) R E)))))=br (!(((!c1&&(!c2&&(!c3&&(!c4&& !c5))))&&true)&&u)) R E:=by
 cases c1<;>cases c2<;>cases c3<;>cases c4<;>cases c5<;>rfl
theorem QGi {β:Type}(c1 c2 c3 c4 c5 a b c u:Bool)(R E:Option β):br c1 R (br c2 R (br c3 R (br c4 R (br c5 R (br a R (br b (br c R (br (!u) R E)) (br (!u) R E)))))))=br (!(((!c1&&(!c2&&(!c3&&(!c4&& !c5))))&&(!a&& !(b&&c)))&&u)) R E:=by
 cases c1<;>cases c2<;>cases c3<;>cases c4<;>cases c5<;>cases a<;>cases b<;>cases c<;>rfl
theorem QuA {k:Nat}(hk:k<100000)(h0:k≠0):QD .i64 (k:Int) 1=((k-1:Nat):Int):=by
 rw [Ze (by omega)]
 omega
def O4 (l:List Keep)(n:Int):Bool:=ZG n l 0&&ile (Qd l) 40
def Qdz (l:List Keep)(_n:Int):Bool:=decide (l.length<=99999)
abbrev QdA:Sh:=⟨[(0,.ty (.sl Qk)),(1,.ty tI),(7,.ty (.sl Qk)),(8,.ty tI),(9,.ty tI)],[]⟩
abbrev Qkf:Sh:=⟨[(4,.ty .bool)],[]⟩
abbrev QuB:Sh:=⟨[(0,.ty (.sl Qk))],[]⟩
def Qkg:Fg:=QdA.f
def QuC:TC:=aF Tryz.f123 [(26,pL 0 Qkg),(421,.fg QuB.f),(27029,.fg Qkf.f),(6758,pD [(0,[]),(1,[]),(2,[]),(3,[]),(4,[]),(5,[]),(6,[]),(7,[]),(8,[]),(9,[6]),(10,[6]),(11,[]),(12,[]),(13,[]),(14,[]),(15,[]),(16,[]),(17,[]),(18,[]),(19,[6]),(20,[6]),(21,[]),(22,[]),(23,[]),(24,[]),(25,[]),(26,[]),(27,[]),(28,[]),(29,[6]),(30,[6]),(31,[]),(32,[]),(33,[]),(34,[])] (.of [0,1,2,3,4,5,6,7,8,9,10,11,12,13,14,15,16,17,18,19,20,21,22,23,24,25,26,27,28,29,30,31,32,33,34])),(27037,.fg Qkf.f)]
def QuD:TC:=lb 0 QuC
def QuE (x0:List Keep)(x1:Int)(x7:List Keep)(x8 x9:Int):VS:=QdA.st (x0,x1,x7,x8,x9,()) ()
def Uq (x4:Bool):VS:=Qkf.st (x4,()) ()
def Qkh (x0:List Keep):VS:=QuB.st (x0,()) ()
def QGj:VS->Option (Bool×List (Bool×Exit×VS)):=mkL QdA (fun x y=>(x.2.2.1==x.1&&(Qy x.2.2.1 x.2.2.2.1 x.2.2.2.2.1&&decide (x.2.2.1.length<=99999)))) (fun x y=>[((!ZG x.2.1 x.2.2.1 x.2.2.2.2.1.toNat),.ret,Uq (false)),(true,.exit 0,Qkh (x.1))])
def Qki:G:=gG 80 [] (Ls [QGj])
def QdB (x0:List Keep)(x1:Int)(x7:List Keep)(x8 x9:Int):OX:=Qx (Qz Qki Qkg QuD) (QuE x0 x1 x7 x8 x9)
def O5 (kk:List Keep->Int->List Keep->Int->Int->OX)(x0:List Keep)(x1:Int)(x7:List Keep)(x8 x9:Int):OX:=
 let a1:=lgt Qk x7 (Int.toNat x9)
 let a2:=lgt Qk x0 (Int.toNat (QD .i64 x9 1))
 let a3:=cIx x0 (QD .i64 x9 1)
 let a4:=Qi .i64 x9 1
 br (ilt x9 x8) (br (cIx x7 x9) (br (ilt (a1.1) 0) (some (.ret,Uq false)) (br (ige (a1.1) x1) (some (.ret,Uq false)) (br (ilt ((a1.2).1) 0) (some (.ret,Uq false)) (br (ige ((a1.2).1) x1) (some (.ret,Uq false)) (br (ieq (a1.1) ((a1.2).1)) (some (.ret,Uq false)) (br (igt x9 0) (br a3 (br (igt (a2.1) (a1.1)) (some (.ret,Uq false)) (br a3 (br (ieq (a2.1) (a1.1)) (br a3 (br (ige ((a2.2).1) ((a1.2).1)) (some (.ret,Uq false)) (kk x0 x1 x7 x8 a4)) none) (kk x0 x1 x7 x8 a4)) none)) none) (kk x0 x1 x7 x8 a4))))))) none) (some (.exit 0,Qkh x0))
def QdC (x0:List Keep)(x1:Int)(x7:List Keep)(x8 x9:Int):OX:=br (!ZG x1 x7 x9.toNat) (some (.ret,Uq (false)))<|some (.exit 0,Qkh (x0))
theorem QuF (x0:List Keep)(x1:Int)(x7:List Keep)(x8 x9:Int):QdB x0 x1 x7 x8 x9=O5 QdB x0 x1 x7 x8 x9:=lnT (x:=O5 (fun x0 x1 x7 x8 x9=>some (.normal,QuE x0 x1 x7 x8 x9)) x0 x1 x7 x8 x9) (by simp only [O5,nxA];rfl)
def QuG (p0:List Keep)(p1:Int):OV:=br (p0==p0&&(Qy p0 (Qd p0) (0:Int)&&decide (p0.length<=99999))) (br (!ZG p1 p0 (0:Int).toNat) (some (.t .bool (false),[])) (some (.t .bool (ile (Qd (p0)) 40),[]))) none
theorem QGk (x0:List Keep)(x1:Int)(x7:List Keep)(x8 x9:Int)(h:(x7==x0&&(Qy x7 x8 x9&&decide (x7.length<=99999)))=true):QdB x0 x1 x7 x8 x9=QdC x0 x1 x7 x8 x9:=by
 simp only [Bc,De,Ba] at h
 obtain ⟨rfl,h0,hl⟩:=h
 obtain ⟨rfl,h3,k,rfl,hk⟩:=JE h0
 clear h0
 refine QX x7 (fun k=>QdB x7 x1 x7 (x7.length:Int) (k:Int)=QdC x7 x1 x7 (x7.length:Int) (k:Int)) ?_ ?_ k hk
 ·rw [QuF]
  simp only [O5,QdC,QA,BS,BV,Ql,Bd,QGf,BI]
 ·intro k hk ih
  rw [QuF]
  simp only [O5,QA,QM,hk,Bx,Qg,Bd,QW (show k<4611686018427387904 by omega),ih]
  simp only [QdC,Bd,QGg hk]
  by_cases hk0:k=0
  ·subst hk0
   rw [show igt ((0:Nat):Int) 0=false from rfl]
   simp only [Ql]
   exact QGh ..
  ·rw [show igt (k:Int) 0=true from Be (by omega),QuA (by omega) hk0]
   simp only [Qg,QM,show k-1<x7.length by omega,Bx,Bd]
   unfold Qdy
   rw [show decide (k=0)=false from Bt hk0,Du]
   exact QGi ..
theorem QGl:LO Qki Qkg QuD 0:=QI (s:=QdA) fun x y h _ q=>by simp only [QG,QH] at q;exact (QGk x.1 x.2.1 x.2.2.1 x.2.2.2.1 x.2.2.2.2.1 h).trans q
theorem s_f123 (l:List Keep)(n:Int)(h:Qdz l n=true):QuG l n=some (.t .bool (O4 l n),[]):=by
 have hl:l.length<=99999:=BC h
 simp only [QuG,beq_self_eq_true,By,JF (show l.length<=100000 by omega),Be hl,Qg,BE]
 unfold O4
 cases ZG n l 0<;>rfl
def QuH:Ent:=Qn (.pr (.sl Qk) (.pr tI .nil)) (fun x=>(Qdz x.1 x.2.1)) (fun x=>(.t .bool (O4 x.1 x.2.1)))
theorem QGm:EM 123 QuH:=mS (lk:=lkL (lkc QGl lkn)) Qki QuC [((.t 4),some .bool)] false (gB gN) fun m=>Qt m fun x hok=>kT (s_f123 x.1 x.2.1 hok)
def Yc (i:Item):Bool:=ine (Yz i) 0
theorem QGn (i:Item):Yc i= !ZA i:=by
 unfold Yc Yz
 cases ZA i<;>rfl
def QGo:TC:=aF Tryz.f121 []
def g_f121:G:=gG 6 [(122,QgI)] (fun _ _=>none)
def QuI (p0:Item):OV:=br (Yh p0) (some (.t .bool (ine (Yz p0) 0),[])) none
theorem s_f121 (i:Item)(h:Yh i=true):QuI i=some (.t .bool (Yc i),[]):=by
 simp only [QuI,h,Qg]
 rfl
def QuJ:Ent:=Qn (.pr Qq .nil) (fun x=>(Yh x.1)) (fun x=>(.t .bool (Yc x.1)))
theorem QGp:EM 121 QuJ:=mS g_f121 QGo [((.t 2),some .bool)] false (gB (gD Qow gN)) fun m=>Qt m fun x hok=>kT (s_f121 x.1 hok)
def Zx (l:List Item):Bool:=decide (l.length<=100000)&&l.all Yh
theorem Qkj {l:List Item}(h:Zx l=true){k:Nat}(hk:k<l.length):Yh l[k]=true:=by
 simp only [Zx,Bc,Bg] at h
 exact h.2 _ (Bu hk)
theorem O6 {l:List Item}(h:Zx l=true):l.length<=100000:=by
 simp only [Zx,Bc,Ba] at h
 exact h.1
def EJ (l:List Item):Int:=match Ja Yc l with|some k=>(k:Int)|none=> -1
abbrev QdD:Sh:=⟨[(0,.ty (.sl Qq)),(1,.cf 121),(7,.ty tI),(8,.ty tI)],[]⟩
abbrev QuK:Sh:=⟨[(4,.ty tI)],[]⟩
abbrev QuL:Sh:=⟨[],[]⟩
def Qkk:Fg:=QdD.f
def QuM:TC:=aF Tryz.f177 [(26,pL 0 Qkk),(421,.fg QuL.f),(13517,.fg QuK.f)]
def QuN:TC:=lb 0 QuM
def QuO (x0:List Item)(x7 x8:Int):VS:=QdD.st (x0,(),x7,x8,()) ()
def Qkl (x4:Int):VS:=QuK.st (x4,()) ()
def Qkm  : VS:=QuL.st () ()
def QGq:VS->Option (Bool×List (Bool×Exit×VS)):=mkL QdD (fun x y=>(Qy x.1 x.2.2.1 x.2.2.2.1&&Zx x.1)) (fun x y=>[(((Ja Yc (x.1.drop x.2.2.2.1.toNat)).isSome),.ret,Qkl (x.2.2.2.1+((Ja Yc (x.1.drop x.2.2.2.1.toNat)).getD 0:Nat))),(true,.exit 0,Qkm)])
def Qkn:G:=gG 19 [(121,QuJ)] (Ls [QGq])
def QdE (x0:List Item)(x7 x8:Int):OX:=Qx (Qz Qkn Qkk QuN) (QuO x0 x7 x8)
def O7 (kk:List Item->Int->Int->OX)(x0:List Item)(x7 x8:Int):OX:=
 let a1:=lgt Qq x0 (Int.toNat x8)
 br (ilt x8 x7) (br (cIx x0 x8) (br (Yh a1) (br (Yc a1) (some (.ret,Qkl x8)) (kk x0 x7 (Qi .i64 x8 1))) none) none) (some (.exit 0,Qkm))
def QdF (x0:List Item)(x7 x8:Int):OX:=
 let a1:=Ja Yc (x0.drop x8.toNat)
 br (a1.isSome) (some (.ret,Qkl (x8+(a1.getD 0:Nat))))<|some (.exit 0,Qkm)
theorem QuP (x0:List Item)(x7 x8:Int):QdE x0 x7 x8=O7 QdE x0 x7 x8:=lnT (x:=O7 (fun x0 x7 x8=>some (.normal,QuO x0 x7 x8)) x0 x7 x8) (by simp only [O7,nxA];rfl)
def QuQ (p0:List Item):OV:=
 let a1:=(Ja Yc (p0.drop (0:Int).toNat))
 br (Qy p0 (Qd p0) (0:Int)&&Zx p0) (br (a1.isSome) (some (.t tI ((0:Int)+(a1.getD 0:Nat)),[])) (some (.t tI (-1),[]))) none
theorem QGr (x0:List Item)(x7 x8:Int)(h:(Qy x0 x7 x8&&Zx x0)=true):QdE x0 x7 x8=QdF x0 x7 x8:=by
 simp only [Bc] at h
 obtain ⟨h0,hc⟩:=h
 obtain ⟨rfl,h3,k,rfl,hk⟩:=JE h0
 clear h0
 refine QX x0 (fun k=>QdE x0 (x0.length:Int) (k:Int)=QdF x0 (x0.length:Int) (k:Int)) ?_ ?_ k hk
 ·rw [QuP]
  simp [O7,QdF,QA,Ql,Ja]
 ·intro k hk ih
  rw [QuP]
  have hx:=Qkj hc hk
  simp only [O7,QA,QM,hk,Bx,Qg,Bd,QW (show k<4611686018427387904 by omega),ih,QP (y:=Qq) hk,hx]
  simp only [QdF,Bd,Bj hk,Ja]
  cases h:(Yc x0[k]) with
  |true=>simp [Qg]
  |false=>
   simp only [Ql,BG,Df]
   cases hq:Ja Yc (x0.drop (k+1)) with
   |none=>rfl
   |some j=>
    simp only [B0,Dn,BU,Qg]
    congr 3
    omega
theorem QGs:LO Qkn Qkk QuN 0:=QI (s:=QdD) fun x y h _ q=>by simp only [QG,QH] at q;exact (QGr x.1 x.2.2.1 x.2.2.2.1 h).trans q
theorem QGt (l:List Item)(h:Zx l=true):QuQ l=some (.t tI (EJ l),[]):=by
 have hl:=O6 h
 simp only [QuQ,JF hl,h,B5,Qg,BE,BL,EJ]
 cases Ja Yc l<;>simp [Qg,Ql]
def QuR:Ent:=X6 [.ty (.sl Qq),.cf 121] [] (fun x d=>(Zx x.1)) (fun x d=>(.t tI (EJ x.1)))
theorem QGu:EM 177 QuR:=mS (lk:=lkL (lkc QGs lkn)) Qkn QuM [((.t 4),some tI)] false (gB (gD QGp gN)) fun m=>UI m fun x d hok=>kT (QGt x.1 hok)
def Fd (l:List Item):Bool:=l.any Yc
def QGv:TC:=aF Tryz.f120 []
def QGw:G:=gG 9 [(177,QuR)] (fun _ _=>none)
def QuS (p0:List Item):OV:=br (Zx p0) (some (.t .bool (ige (EJ p0) 0),[])) none
theorem QGx (l:List Item)(h:Zx l=true):QuS l=some (.t .bool (Fd l),[]):=by
 simp only [QuS,h,Qg]
 have e:ige (EJ l) 0=Fd l:=by
  unfold EJ Fd
  cases hq:Ja Yc l with
  |none=>rw [OI.1 hq];rfl
  |some k=>
   rw [←Qji,hq]
   simp only [ige,Dn,Ba]
   omega
 rw [e]
def QuT:Ent:=X6 [.ty (.sl Qq),.cf 121] [] (fun x d=>(Zx x.1)) (fun x d=>(.t .bool (Fd x.1)))
theorem QGy:EM 120 QuT:=mS QGw QGv [((.t 4),some .bool)] false (gB (gD QGu gN)) fun m=>UI m fun x d hok=>kT (QGx x.1 hok)
abbrev zEp:Endpoint:=Ty.zero QE
abbrev Qko (l:List Endpoint)(k:Nat):Endpoint:=l.getD k zEp
def Qkp (l m:List Endpoint)(k:Nat):Bool:=JH (Qko l k)&&(decide (k=0)||slt (Qko m (k-1)).1 (Qko l k).1)
def XO (l m:List Endpoint)(k:Nat):Bool:=(List.range' k (l.length-k)).all (Qkp l m)
abbrev Qkq (l:List Endpoint)(k:Nat):Bool:=XO l l k
theorem QGz (l m:List Endpoint):XO l m l.length=true:=by
 unfold XO
 rw [Nat.sub_self]
 rfl
theorem QGA {l m:List Endpoint}{k:Nat}(hk:k<l.length):XO l m k=(Qkp l m k&&XO l m (k+1)):=by
 have:l.length-k=(l.length-(k+1))+1:=by omega
 unfold XO
 rw [this,List.range'_succ,B4]
abbrev JQ (e:Estate):List Endpoint:=e.1
abbrev ZW (e:Estate):List Keep:=e.2.1
abbrev Ji (e:Estate):List Item:=e.2.2.1
def Xj (e:Estate):Bool:=Qkq (JQ e) 0&&((Ji e).all ZA&&(ile (Qd (JQ e)) 16&&(ile (Qd (Ji e)) 30&&(ZG (Qd (JQ e)) (ZW e) 0&&ile (Qd (ZW e)) 40))))
def EK (e:Estate):Int:=bif Xj e then 0 else 31
theorem QGB (e:Estate):ine (EK e) 0= !Xj e:=by
 unfold EK
 cases Xj e<;>rfl
def ZH (e:Estate):Bool:=decide ((JQ e).length<=99999/\(ZW e).length<=99999)&&((JQ e).all Jy&&Zx (Ji e))
theorem QGC (l:List Item):Fd l= !l.all ZA:=by
 unfold Fd
 rw [List.not_all_eq_any_not]
 congr 1
 funext x
 exact QGn x
theorem QuU (a b:Int):ile a b= !igt a b:=by
 simp only [ile,igt, ← decide_not,Int.not_lt]
theorem QGD {β:Type}(v s u:Bool)(R E:Option β):br (!v) R (br (!s) R (br (!u) R E))=br (!((v&&s)&&u)) R E:=by
 cases v<;>cases s<;>rfl
theorem QGE {β:Type}(v u:Bool)(R E:Option β):br (!v) R (br (!u) R E)=br (!((v&&true)&&u)) R E:=by
 cases v<;>rfl
abbrev QdG:Sh:=⟨[(1,.ptr 1 0),(7,.ty (.sl QE)),(8,.ty tI),(9,.ty tI)],[(1,.box Qo)]⟩
abbrev QuV:Sh:=⟨[(2,.ty tI)],[]⟩
abbrev QuW:Sh:=⟨[(1,.ptr 1 0)],[(1,.box Qo)]⟩
def Qkr:Fg:=QdG.f
def QuX:TC:=aF Tryz.f72 [(26,pL 0 Qkr),(421,.fg QuW.f),(3378,pD [(0,[4]),(1,[]),(2,[]),(3,[]),(4,[]),(5,[]),(6,[]),(7,[1]),(8,[1]),(9,[]),(10,[]),(11,[]),(12,[]),(13,[]),(14,[4]),(15,[4]),(16,[]),(17,[]),(18,[])] (.of [0,1,2,3,4,5,6,7,8,9,10,11,12,13,14,15,16,17,18])),(13517,.fg QuV.f)]
def QuY:TC:=lb 0 QuX
def QuZ (x7:List Endpoint)(x8 x9:Int)(y1:Estate):VS:=QdG.st ((),x7,x8,x9,()) (y1,())
def QdH (x2:Int):VS:=QuV.st (x2,()) ()
def Qks (y1:Estate):VS:=QuW.st ((),()) (y1,())
def QGF:VS->Option (Bool×List (Bool×Exit×VS)):=mkL QdG (fun x y=>(decide (x.2.1.length=y.1.1.length/\x.2.1.length<=99999)&&(Qy x.2.1 x.2.2.1 x.2.2.2.1&&x.2.1.all Jy))) (fun x y=>[((!XO x.2.1 y.1.1 x.2.2.2.1.toNat),.ret,QdH (31)),(true,.exit 0,Qks (y.1))])
def Qkt:G:=gG 59 [(119,QsA),(120,QuT),(123,QuH)] (Ls [QGF])
def QdI (x7:List Endpoint)(x8 x9:Int)(y1:Estate):OX:=Qx (Qz Qkt Qkr QuY) (QuZ x7 x8 x9 y1)
def O8 (kk:List Endpoint->Int->Int->Estate->OX)(x7:List Endpoint)(x8 x9:Int)(y1:Estate):OX:=
 let a1:=lgt QE x7 (Int.toNat x9)
 br (ilt x9 x8) (br (cIx x7 x9) (br (Jy a1) (br (ine (Ei a1) 0) (some (.ret,QdH 31)) (br (igt x9 0) (br (cIx y1.1 (QD .i64 x9 1)) (br (!slt ((lgt QE y1.1 (Int.toNat (QD .i64 x9 1))).1) (a1.1)) (some (.ret,QdH 31)) (kk x7 x8 (Qi .i64 x9 1) y1)) none) (kk x7 x8 (Qi .i64 x9 1) y1))) none) none) (some (.exit 0,Qks y1))
def QdJ (x7:List Endpoint)(x8 x9:Int)(y1:Estate):OX:=br (!XO x7 y1.1 x9.toNat) (some (.ret,QdH (31)))<|some (.exit 0,Qks (y1))
theorem Qu0 (x7:List Endpoint)(x8 x9:Int)(y1:Estate):QdI x7 x8 x9 y1=O8 QdI x7 x8 x9 y1:=lnT (x:=O8 (fun x7 x8 x9 y1=>some (.normal,QuZ x7 x8 x9 y1)) x7 x8 x9 y1) (by simp only [O8,nxA];rfl)
def r_f72 (p0:Estate):OV:=
 let a1:=((((p0).2).2).1)
 let a2:=Qd ((p0).1)
 br (decide (p0.1.length=p0.1.length/\p0.1.length<=99999)&&(Qy p0.1 (Qd p0.1) (0:Int)&&p0.1.all Jy)) (br (!XO p0.1 p0.1 (0:Int).toNat) (some (.t tI (31),[])) (br (Zx a1) (br (Fd a1) (some (.t tI 31,[])) (br (igt a2 16) (some (.t tI 31,[])) (br (igt (Qd a1) 30) (some (.t tI 31,[])) (br (Qdz (((p0).2).1) a2) (br (!(O4 (((p0).2).1) a2)) (some (.t tI 31,[])) (some (.t tI 0,[]))) none)))) none)) none
theorem QGG (x7:List Endpoint)(x8 x9:Int)(y1:Estate)(h:(decide (x7.length=y1.1.length/\x7.length<=99999)&&(Qy x7 x8 x9&&x7.all Jy))=true):QdI x7 x8 x9 y1=QdJ x7 x8 x9 y1:=by
 simp only [Bc,Ba,Bg] at h
 obtain ⟨⟨hx,hl⟩,h0,ha⟩:=h
 obtain ⟨rfl,h3,k,rfl,hk⟩:=JE h0
 clear h0
 refine QX x7 (fun k=>QdI x7 (x7.length:Int) (k:Int) y1=QdJ x7 (x7.length:Int) (k:Int) y1) ?_ ?_ k hk
 ·rw [Qu0]
  simp only [O8,QdJ,QA,BS,BV,Ql,Bd,QGz,BI]
 ·intro k hk ih
  rw [Qu0]
  have he:Jy (lgt QE x7 k)=true:=by rw [QP (y:=QE) hk];exact ha _ (Bu hk)
  simp only [O8,QA,QM,hk,Bx,Qg,Bd,QW (show k<4611686018427387904 by omega),ih,he,QDs]
  simp only [QdJ,Bd,QGA hk]
  by_cases hk0:k=0
  ·subst hk0
   rw [show igt ((0:Nat):Int) 0=false from rfl]
   simp only [Ql]
   exact QGE ..
  ·rw [show igt (k:Int) 0=true from Be (by omega),QuA (by omega) hk0]
   simp only [Qg,QM,show k-1<y1.1.length by omega,Bx,Bd]
   unfold Qkp
   rw [show decide (k=0)=false from Bt hk0,Du]
   exact QGD ..
theorem QGH:LO Qkt Qkr QuY 0:=QI (s:=QdG) fun x y h _ q=>by simp only [QG,QH] at q;exact (QGG x.2.1 x.2.2.1 x.2.2.2.1 y.1 h).trans q
theorem s_f72 (e:Estate)(h:ZH e=true):r_f72 e=some (.t tI (EK e),[]):=by
 simp only [ZH,Bc,Ba] at h
 obtain ⟨⟨h1,h2⟩,h3,h4⟩:=h
 have h5:Qdz (ZW e) (Qd (JQ e))=true:=Be h2
 simp only [JQ,ZW,Ji] at h1 h2 h3 h4 h5
 simp only [r_f72,JF (show e.1.length<=100000 by omega),Be h1,true_and,By,h3,h4,h5,Qg,BE,QGC]
 unfold EK Xj O4
 simp only [JQ,ZW,Ji,Qkq]
 rw [QuU (Qd e.1),QuU (Qd e.2.2.1)]
 cases XO e.1 e.1 0<;>cases e.2.2.1.all ZA<;>cases igt (Qd e.1) 16<;>cases igt (Qd e.2.2.1) 30<;>cases (ZG (Qd e.1) e.2.1 0&&ile (Qd e.2.1) 40)<;>rfl
def Qu1:Ent:=Qn (.pr Qo .nil) (fun x=>(ZH x.1)) (fun x=>(.t tI (EK x.1)))
theorem ms_f72:EM 72 Qu1:=mS (lk:=lkL (lkc QGH lkn)) Qkt QuX [((.t 2),some tI)] false (gB (gD QDw (gD QGy (gD QGm gN)))) fun m=>Qt m fun x hok=>kT (s_f72 x.1 hok)
end
end Go.Proofs.YthlcobdnemhcdaaGreat.K
noncomputable section
namespace Go.Proofs.YthlcobdnemhcdaaGreat.K
open Go.RowKit
noncomputable section
theorem brY {β:Type}{c:Bool}{a b r:Option β}(h:c=true)(k:a=r):br c a b=r:=by
 subst h
 exact k
end
end Go.Proofs.YthlcobdnemhcdaaGreat.K
noncomputable section
namespace Go.Proofs.YthlcobdnemhcdaaGreat.K
open Go.RowKit
noncomputable section
end
end Go.Proofs.YthlcobdnemhcdaaGreat.K
noncomputable section
namespace Go.Proofs.YthlcobdnemhcdaaGreat.K
open Go.RowKit Go.Shelf
end Go.Proofs.YthlcobdnemhcdaaGreat.K
noncomputable section
namespace Go.Proofs.YthlcobdnemhcdaaGreat.K
open Go.RowKit
noncomputable section
end
end Go.Proofs.YthlcobdnemhcdaaGreat.K
noncomputable section
namespace Go.Proofs.YthlcobdnemhcdaaGreat.K
open Go.RowKit
noncomputable section
end
end Go.Proofs.YthlcobdnemhcdaaGreat.K
noncomputable section
namespace Go.Proofs.YthlcobdnemhcdaaGreat.K
open Go.RowKit
noncomputable section
def Wz:List Keep:=[(2,(0,())),(1,(0,())),(5,(2048,())),(16,(128,())),(3,(0,())),(15,(168,()))]
def Zf:Nat->Int->Dice->List Link×Dice
 |0,_,d=>([],d)
 |n+1,day,d=>((lgt Qk Wz (Qj d 6).toNat,(day,()))::(Zf n (Qi .i64 (Qi .i64 day 1) (dof (Qe d 6) [5,30,0,100])) (Qs (Qe d 6) [5,30,0,100])).1,(Zf n (Qi .i64 (Qi .i64 day 1) (dof (Qe d 6) [5,30,0,100])) (Qs (Qe d 6) [5,30,0,100])).2)
def If (d:Dice):Dice:=Qe (Qe (Qe (Qe d 2) 4) 20) 3
def Jp (d:Dice):List Link×Dice:=Zf (Qi .i64 1 (Qj (Qe (Qe (Qe d 2) 4) 20) 3)).toNat (Qj (Qe (Qe d 2) 4) 20) (If d)
def Xm (d:Dice)(s:ByteArray):Item:=(s,(Qi .i64 1 (Qj d 2),(Qi .i64 1 (Qj (Qe d 2) 4),((Jp d).1,(Qi .i64 (lgt Q6 (Jp d).1 0).2.1 (dof (Jp d).2 [50,300,0,3000]),())))))
def XS (d:Dice)(_s:ByteArray):Dice:=Qs (Jp d).2 [50,300,0,3000]
def WA (d:Dice)(_s:ByteArray):Bool:=dOk d
theorem Qxp {n:Nat}: ∀ {day:Int} {d:Dice},dOk d=true->dOk (Zf n day d).2=true:=by
 induction n with
 |zero=>exact fun h=>h
 |succ n ih=>exact fun h=>ih (Y4 (l:=[5,30,0,100]) (QS h))
theorem QmB {d:Dice}(h:dOk d=true):dOk (Jp d).2=true:=Qxp (QS (QS (QS (QS h))))
theorem VM {d:Dice}{s:ByteArray}(h:dOk d=true):dOk (XS d s)=true:=Y4 (QmB h)
theorem Qfa: ∀ (n:Nat) (day:Int) (d:Dice),(Zf n day d).1.length=n
 |0,_,_=>rfl
 |n+1,day,d=>by simp only [Zf,Bp,Qfa n]
theorem Qxq:Wz.all Jq=true:=by kernel_rfl
theorem QmC {y:Ty}{l:List y.T}{i:Nat}(h:i<l.length):lgt y l i∈l:=by
 rw [QP (y:=y) h]
 exact Bu h
theorem Qxr {e:Dice}:0<=dof e [5,30,0,100]/\dof e [5,30,0,100]<=100:=by
 have h:=UP (d:=e) (l:=[5,30,0,100]) (by decide)
 simp only [BJ,B1,DE] at h
 omega
theorem QmD: ∀ (n:Nat) (day:Int) (d:Dice) (pv:Option Int),n<=3->0<=day->day+101*n<=1000->(∀ e,pv=some e->e<day)->Xn pv (Zf n day d).1=true
 |0,_,_,pv,_,_,_,_=>by cases pv<;>rfl
 |n+1,day,d,pv,h1,h2,h3,h4=>by
  have hv:=Jm (d:=d) (n:=6) (by omega)
  have hs:=Qxr (e:=Qe d 6)
  have e1:Qi .i64 (Qi .i64 day 1) (dof (Qe d 6) [5,30,0,100])=day+1+dof (Qe d 6) [5,30,0,100]:=by rw [JL (a:=day) (b:=1) (by omega),JL (by omega)]
  unfold Zf
  rw [QgE,e1]
  have hu:Jq (lgt Qk Wz (Qj d 6).toNat)=true:=Bg.1 Qxq _ (QmC (y:=Qk) (by have:Wz.length=6:=rfl;omega))
  have hr:=QmD n (day+1+dof (Qe d 6) [5,30,0,100]) (Qs (Qe d 6) [5,30,0,100]) (some day) (by omega) (by omega) (by omega) (fun e he=>by injection he;omega)
  simp only [hu,hr,Be (show 0<=day/\day<=40000 by omega),By,Dh]
  cases pv with
  |none=>rfl
  |some e=>exact Be (h4 e rfl)
theorem Qxs: ∀ (n:Nat) (day:Int) (d:Dice),0<n->((Zf n day d).1.headD ((0,(0,())),(0,()))).2.1=day
 |0,_,_,h=>by omega
 |n+1,day,d,_=>rfl
theorem Qxt (d:Dice):1<=(Jp d).1.length/\(Jp d).1.length<=3:=by
 have b3:=Jm (d:=Qe (Qe (Qe d 2) 4) 20) (n:=3) (by omega)
 have e3:Qi .i64 1 (Qj (Qe (Qe (Qe d 2) 4) 20) 3)=1+Qj (Qe (Qe (Qe d 2) 4) 20) 3:=JL (by omega)
 unfold Jp
 rw [Qfa,e3]
 omega
theorem Qxu (d:Dice){s:ByteArray}(hs:Jv s=true):ZA (Xm d s)=true:=by
 have b2:=Jm (d:=d) (n:=2) (by omega)
 have b4:=Jm (d:=Qe d 2) (n:=4) (by omega)
 have b20:=Jm (d:=Qe (Qe d 2) 4) (n:=20) (by omega)
 have b3:=Jm (d:=Qe (Qe (Qe d 2) 4) 20) (n:=3) (by omega)
 have e2:Qi .i64 1 (Qj d 2)=1+Qj d 2:=JL (by omega)
 have e4:Qi .i64 1 (Qj (Qe d 2) 4)=1+Qj (Qe d 2) 4:=JL (by omega)
 have e3:Qi .i64 1 (Qj (Qe (Qe (Qe d 2) 4) 20) 3)=1+Qj (Qe (Qe (Qe d 2) 4) 20) 3:=JL (by omega)
 have hl:=Qxt d
 have hh:((Jp d).1.headD ((0,(0,())),(0,()))).2.1=Qj (Qe (Qe d 2) 4) 20:=Qxs _ _ _ (by rw [e3];omega)
 have e0:lgt Q6 (Jp d).1 0=(Jp d).1.headD ((0,(0,())),(0,())):=by
  cases hq:(Jp d).1 with
  |nil=>rw [hq] at hl;simp at hl
  |cons a l=>rfl
 have hu:0<=dof (Jp d).2 [50,300,0,3000]/\dof (Jp d).2 [50,300,0,3000]<=3000:=by
  have h:=UP (d:=(Jp d).2) (l:=[50,300,0,3000]) (by decide)
  simp only [BJ,B1,DE] at h
  omega
 have eu:Qi .i64 (lgt Q6 (Jp d).1 0).2.1 (dof (Jp d).2 [50,300,0,3000])=(lgt Q6 (Jp d).1 0).2.1+dof (Jp d).2 [50,300,0,3000]:=JL (by rw [e0,hh];omega)
 refine Zh.2 ⟨hs, ?_, ?_, ?_, ?_, ?_⟩
 ·show 1<=Qi .i64 1 (Qj d 2)/\Qi .i64 1 (Qj d 2)<=2
  omega
 ·show 1<=Qi .i64 1 (Qj (Qe d 2) 4)/\Qi .i64 1 (Qj (Qe d 2) 4)<=4
  omega
 ·show 1<=(Jp d).1.length/\(Jp d).1.length<=8
  omega
 ·exact QmD _ _ _ none (by rw [e3];omega) (by omega) (by omega) (fun e he=>by cases he)
 ·show ((Jp d).1.headD ((0,(0,())),(0,()))).2.1<=Qi .i64 (lgt Q6 (Jp d).1 0).2.1 (dof (Jp d).2 [50,300,0,3000])/\Qi .i64 (lgt Q6 (Jp d).1 0).2.1 (dof (Jp d).2 [50,300,0,3000])<=40000
  rw [eu,e0,hh]
  omega
abbrev VN:Sh:=⟨[(0,.ptr 50000 0),(4,.ptr 4 0),(5,.ptr 5 0),(6,.ty tI),(7,.ty tI)],[(4,.box Qq),(5,.bag [.ty .str,.ty tI,.ty tI,.ms 20503,.ty tI]),(43,.no),(20503,.arr 45 Q6),(50000,.box QB)]⟩
abbrev Qxv:Sh:=⟨[(0,.ptr 50000 0),(4,.ptr 4 0),(5,.ptr 5 0)],[(4,.box Qq),(5,.bag [.ty .str,.ty tI,.ty tI,.ms 20503,.ty tI]),(43,.no),(20503,.arr 45 Q6),(50000,.box QB)]⟩
def Qfb:Fg:=VN.f
def QmE:TC:=aF Tryz.f48 [(122,.nf 5 3 45 20503),(122,pL 0 Qfb),(1955,.fg ⟨[(0,none),(4,none),(5,none)],[(4,some Qq),(5,some Qq),(43,none),(20503,none),(50000,some QB)]⟩),(62,pD [(0,[5,43,20503]),(1,[5,43,20503]),(2,[43,20503]),(3,[43,20503]),(4,[43,20503]),(5,[50000]),(6,[]),(7,[58,5058,10058,15058,50000]),(8,[]),(9,[5,43,20503]),(10,[4,5,43,20503])] (.of [0,1,2,3,4,5,6,7,8,9,10]))]
def QmF:TC:=lb 0 QmE
def QmG (x6 x7:Int)(y4:Item)(y5_0:ByteArray)(y5_1 y5_2 y5_4:Int)(JR:List Link)(Qa:Dice):VS:=VN.st ((),(),(),x6,x7,()) (y4,(y5_0,y5_1,y5_2,(),y5_4,()),(),JR,Qa,())
def Qfc (y4:Item)(y5_0:ByteArray)(y5_1 y5_2 y5_4:Int)(JR:List Link)(Qa:Dice):VS:=Qxv.st ((),(),(),()) (y4,(y5_0,y5_1,y5_2,(),y5_4,()),(),JR,Qa,())
def Qxw:VS->Option (Bool×List (Bool×Exit×VS)):=mkL VN (fun x y=>(dOk y.2.2.2.2.1&&decide (0<=x.2.2.2.2.1/\x.2.2.2.2.1<=100/\y.2.2.2.1.length+x.2.2.2.2.1.toNat<=1000))) (fun x y=>[(true,.exit 0,Qfc (y.1) (y.2.1.1) (y.2.1.2.1) (y.2.1.2.2.1) (y.2.1.2.2.2.2.1) (y.2.2.2.1++(Zf x.2.2.2.2.1.toNat x.2.2.2.1 y.2.2.2.2.1).1) ((Zf x.2.2.2.2.1.toNat x.2.2.2.1 y.2.2.2.2.1).2))])
def Qfd:G:=gG 62 [(32,Ut),(50,ET)] (Ls [Qxw])
def Qfe (x6 x7:Int)(y4:Item)(y5_0:ByteArray)(y5_1 y5_2 y5_4:Int)(JR:List Link)(Qa:Dice):OX:=Qx (Qz Qfd Qfb QmF) (QmG x6 x7 y4 y5_0 y5_1 y5_2 y5_4 JR Qa)
def Ig (kk:Int->Int->Item->ByteArray->Int->Int->Int->List Link->Dice->OX)(x6 x7:Int)(y4:Item)(y5_0:ByteArray)(y5_1 y5_2 y5_4:Int)(JR:List Link)(Qa:Dice):OX:=
 let a1:=(lgt Qk ([(2,(0,())),(1,(0,())),(5,(2048,())),(16,(128,())),(3,(0,())),(15,(168,()))]) (Int.toNat (Qj Qa 6)))
 let a2:=((a1.1,((a1.2).1,())),(x6,()))
 let a3:=Qe Qa 6
 br (igt x7 0) (br (QC Qa 6) (br (cIx ([(2,(0,())),(1,(0,())),(5,(2048,())),(16,(128,())),(3,(0,())),(15,(168,()))]) (Qj Qa 6)) (br (Qw JR ([a2]) 24) (br (Q0 a3 ([5,30,0,100])) (kk (Qi .i64 (Qi .i64 x6 1) (dof a3 ([5,30,0,100]))) (QD .i64 x7 1) y4 y5_0 y5_1 y5_2 y5_4 (JR++([a2])) (Qs a3 ([5,30,0,100]))) none) none) none) none) (some (.exit 0,Qfc y4 y5_0 y5_1 y5_2 y5_4 JR Qa))
def Ih (x6 x7:Int)(y4:Item)(y5_0:ByteArray)(y5_1 y5_2 y5_4:Int)(JR:List Link)(Qa:Dice):OX:=
 let a1:=Zf x7.toNat x6 Qa
 some (.exit 0,Qfc (y4) (y5_0) (y5_1) (y5_2) (y5_4) (JR++a1.1) (a1.2))
theorem QmH (x6 x7:Int)(y4:Item)(y5_0:ByteArray)(y5_1 y5_2 y5_4:Int)(JR:List Link)(Qa:Dice):Qfe x6 x7 y4 y5_0 y5_1 y5_2 y5_4 JR Qa=Ig Qfe x6 x7 y4 y5_0 y5_1 y5_2 y5_4 JR Qa:=lnT (x:=Ig (fun x6 x7 y4 y5_0 y5_1 y5_2 y5_4 JR Qa=>some (.normal,QmG x6 x7 y4 y5_0 y5_1 y5_2 y5_4 JR Qa)) x6 x7 y4 y5_0 y5_1 y5_2 y5_4 JR Qa) (by simp only [Ig,nxA];rfl)
def r_f48 (d0:Dice)(p1:ByteArray):OV:=
 let a2:=Qe (Qe (Qe d0 2) 4) 20
 let a3:=Qi .i64 1 (Qj a2 3)
 let a1:=Zf a3.toNat (Qj (Qe (Qe d0 2) 4) 20) (Qe a2 3)
 br (QC d0 2) (br (QC (Qe d0 2) 4) (br (QC (Qe (Qe d0 2) 4) 20) (br (QC a2 3) (br (dOk (Qe a2 3)&&decide (0<=a3/\a3<=100/\([]:List Link).length+a3.toNat<=1000)) (br (cIx (([]:List Link)++a1.1) 0) (br (cLd (([]:List Link)++a1.1) (Int.toNat 0)) (br (Q0 (a1.2) ([50,300,0,3000])) (some (.t Qq ((p1),((Qi .i64 1 (Qj d0 2)),((Qi .i64 1 (Qj (Qe d0 2) 4)),((([]:List Link)++a1.1),((Qi .i64 (((lgt Q6 (([]:List Link)++a1.1) (Int.toNat 0)).2).1) (dof (a1.2) ([50,300,0,3000]))),()))))),[.box (.t QB (Qs (a1.2) ([50,300,0,3000])))])) none) none) none) none) none) none) none) none
theorem Qxx (x6 x7:Int)(y4:Item)(y5_0:ByteArray)(y5_1 y5_2 y5_4:Int)(JR:List Link)(Qa:Dice)(h:(dOk Qa&&decide (0<=x7/\x7<=100/\JR.length+x7.toNat<=1000))=true):Qfe x6 x7 y4 y5_0 y5_1 y5_2 y5_4 JR Qa=Ih x6 x7 y4 y5_0 y5_1 y5_2 y5_4 JR Qa:=by
 simp only [Bc,Ba] at h
 obtain ⟨hd,h1,h2q,h3⟩:=h
 obtain ⟨k,rfl⟩:=Br h1
 rw [Bd] at h3
 have h2:k<=100:=by omega
 clear h1 h2q
 induction k generalizing JR Qa x6 with
 |zero=>
  rw [QmH]
  have e1:igt ((0:Nat):Int) 0=false:=rfl
  simp only [Ig,e1,Ql,Ih,Bd,Zf,BP]
 |succ k ih=>
  rw [QmH]
  have e1:igt ((k+1:Nat):Int) 0=true:=by simp only [igt,Ba];omega
  have e2:QD .i64 ((k+1:Nat):Int) 1=(k:Int):=by rw [Ze (by omega)];omega
  have hv:=Jm (d:=Qa) (n:=6) (by omega)
  have hc:cIx Wz (Qj Qa 6)=true:=by
   have:Wz.length=6:=rfl
   simp only [cIx,Ba]
   omega
  have hla:Ih x6 ((k+1:Nat):Int) y4 y5_0 y5_1 y5_2 y5_4 JR Qa=Ih (Qi .i64 (Qi .i64 x6 1) (dof (Qe Qa 6) [5,30,0,100])) (k:Int) y4 y5_0 y5_1 y5_2 y5_4 (JR++[(lgt Qk Wz (Qj Qa 6).toNat,(x6,()))]) (Qs (Qe Qa 6) [5,30,0,100]):=by
   simp only [Ih,Bd,Zf,BN]
   rfl
  rw [hla, ← ih _ _ _ (Y4 (QS hd)) (by simp;omega) (by omega)]
  have n6:QC Qa 6=true:=by simp [QC,hd]
  have f1:Q0 (Qe Qa 6) [5,30,0,100]=true:=by simp [Q0,QS hd]
  simp only [Ig,e1,e2,n6,f1,Qg,show ([(2,(0,())),(1,(0,())),(5,(2048,())),(16,(128,())),(3,(0,())),(15,(168,()))]:List Keep)=Wz from rfl,hc]
  rw [Gi (by simp;omega) (by omega),Qg]
  show br (cIx Wz (Qj Qa 6)) _ _=_
  rw [hc,Qg]
theorem Qxy:LO Qfd Qfb QmF 0:=QI (s:=VN) fun x y h _ q=>by simp only [QG,QH] at q;exact (Qxx x.2.2.2.1 x.2.2.2.2.1 y.1 y.2.1.1 y.2.1.2.1 y.2.1.2.2.1 y.2.1.2.2.2.2.1 y.2.2.2.1 y.2.2.2.2.1 h).trans q
theorem s_f48 (d:Dice)(s:ByteArray)(h:WA d s=true):r_f48 d s=some (.t Qq (Xm d s),[.box (.t QB (XS d s))]):=by
 have h:dOk d=true:=h
 have n2:QC d 2=true:=by simp [QC,h]
 have n4:QC (Qe d 2) 4=true:=by simp [QC,QS h]
 have n20:QC (Qe (Qe d 2) 4) 20=true:=by simp [QC,QS (QS h)]
 have n3:QC (Qe (Qe (Qe d 2) 4) 20) 3=true:=by simp [QC,QS (QS (QS h))]
 have b3:=Jm (d:=Qe (Qe (Qe d 2) 4) 20) (n:=3) (by omega)
 have e3:Qi .i64 1 (Qj (Qe (Qe (Qe d 2) 4) 20) 3)=1+Qj (Qe (Qe (Qe d 2) 4) 20) 3:=JL (by omega)
 have hl:=Qfa (Qi .i64 1 (Qj (Qe (Qe (Qe d 2) 4) 20) 3)).toNat (Qj (Qe (Qe d 2) 4) 20) (If d)
 have hd3:dOk (If d)=true:=QS (QS (QS (QS h)))
 have hL:dOk (Jp d).2=true:=QmB h
 have f5:Q0 (Jp d).2 [50,300,0,3000]=true:=by simp [Q0,hL]
 have hlen:0<(Jp d).1.length:=by
  show 0<(Zf _ _ _).1.length
  rw [hl]
  omega
 have c1:cIx (Jp d).1 0=true:=by simp only [cIx,Ba];omega
 have c2:cLd (Jp d).1 (Int.toNat 0)=true:=by simp only [cLd,Ba];exact hlen
 simp only [r_f48,n2,n4,n20,n3,Qg,BT,show Qe (Qe (Qe (Qe d 2) 4) 20) 3=If d from rfl,hd3,By]
 rw [Us ⟨by omega,by omega,by simp;omega⟩,Qg]
 simp only [show Zf (Qi .i64 1 (Qj (Qe (Qe (Qe d 2) 4) 20) 3)).toNat (Qj (Qe (Qe d 2) 4) 20) (If d)=Jp d from rfl,c1,c2,f5,Qg]
 rfl
def VP:Ent:=UH QB (.pr .str .nil) (fun d x=>(WA d x.1)) (fun d x=>(.t Qq (Xm d x.1))) (fun d x=>(XS d x.1))
theorem Qff:EM 48 VP:=mS (lk:=lkL (lkc Qxy lkn)) Qfd QmE [((.c 4 true 5),some Qq)] false (gB (gD Gj (gD Ve gN))) fun m=>FN m rfl fun d x hok=>kT (s_f48 d x.1 hok)
def Jf:Keep:=(5,(2048,()))
def QmI:TC:=aF Tryz.f88 []
def QmJ:List (RV×Option Ty):=[((.c 0 true 2),some Qk)]
def g_f88:G:=gG 2 [] (fun _ _=>none)
def r_f88  : OV:=some (.t Qk (5,(2048,())),[])
theorem e_f88  : QK g_f88 QmI QmJ false [] []=r_f88  :=by kernel_rfl
theorem s_f88:r_f88=some (.t Qk Jf,[]):=rfl
def Qfg:Ent:=Qn .nil (fun x=>true) (fun x=>(.t Qk Jf))
theorem QmK:EM 88 Qfg:=mS g_f88 QmI QmJ false (gB gN) fun m=>Qt m fun x _=>(e_f88 ).trans (s_f88)
def leafC (nm:ByteArray)(k:Keep)(id to:Int):Certificate:=(id,(sRoot,(nm,(k,(id,((3,(0,())),(0,(to,(false,(0,([nm],((0,(0,())),()))))))))))))
def JO (nm:ByteArray)(k:Keep)(id a to:Int):Identity:=(k,(id,([(Wx (leafC nm k id to) a).1],())))
def WB (nm:ByteArray)(_k:Keep)(_id _a _to:Int):Bool:=decide (nm.size<=1000)
def tc_f87:TC:=aF Tryz.f87 []
def g_f87:G:=gG 32 [(139,Qlz)] (fun _ _=>none)
def r_f87 (p0:ByteArray)(p1:Keep)(p2 p3 p4:Int):OV:=
 let a1:=((Wx (p2,((ByteArray.mk #[114,111,111,116]),(p0,((p1.1,(p1.2.1,())),(p2,((3,(0,())),(0,(p4,(false,(0,([p0],((0,(0,())),())))))))))))) p3).1)
 let a4:=(((a1.2).2).2)
 let a2:=((a4.2).2)
 let a3:=((((a2.2).2).2).2)
 br (QeG (p2,((ByteArray.mk #[114,111,111,116]),(p0,((p1.1,(p1.2.1,())),(p2,((3,(0,())),(0,(p4,(false,(0,([p0],((0,(0,())),())))))))))))) p3) (some (.t Jd ((p1.1,(p1.2.1,())),(p2,([(a1.1,((a1.2).1,(((a1.2).2).1,(((a4.1).1,(((a4.1).2).1,())),((a4.2).1,(((a2.1).1,(((a2.1).2).1,())),((a2.2).1,(((a2.2).2).1,((((a2.2).2).2).1,(a3.1,((a3.2).1,(((((a3.2).2).1).1,(((((a3.2).2).1).2).1,())),()))))))))))))],()))),[])) none
theorem s_f87 (nm:ByteArray)(k:Keep)(id a to:Int)(h:WB nm k id a to=true):r_f87 nm k id a to=some (.t Jd (JO nm k id a to),[]):=by
 have hs:nm.size<=1000:=BC h
 unfold r_f87
 exact brY (QHo (by decide) hs (l:=[nm]) (Nat.le_succ 1) (fun t ht=>by rw [Dj.1 ht];omega)) rfl
def Qfh:Ent:=Qn (.pr .str (.pr Qk (.pr tI (.pr tI (.pr tI .nil))))) (fun x=>(WB x.1 x.2.1 x.2.2.1 x.2.2.2.1 x.2.2.2.2.1)) (fun x=>(.t Jd (JO x.1 x.2.1 x.2.2.1 x.2.2.2.1 x.2.2.2.2.1)))
theorem QmL:EM 87 Qfh:=mS g_f87 tc_f87 [((.c 10 true 4),some Jd)] false (gB (gD QwH gN)) fun m=>Qt m fun x hok=>kT (s_f87 x.1 x.2.1 x.2.2.1 x.2.2.2.1 x.2.2.2.2.1 hok)
set_option maxRecDepth 100000 in
end
end Go.Proofs.YthlcobdnemhcdaaGreat.K
noncomputable section
namespace Go.Proofs.YthlcobdnemhcdaaGreat.K
open Go.RowKit
noncomputable section
abbrev Xx:List ByteArray:=[(ByteArray.mk #[97,112,112]),(ByteArray.mk #[100,98]),(ByteArray.mk #[119,101,98])]
abbrev sSu:List (List Int):=[[10,8,2],[8,2],[2,10,8,3]]
abbrev sIt:List ByteArray:=[(ByteArray.mk #[98,97,99,107,117,112]),(ByteArray.mk #[100,101,101,100])]
def nm1 (s:ByteArray):Bool:=decide (s.size<=1000)
def UQ (d:Dice):List Int:=bif ieq (dof d [3,3,4]) 4 then [14]++lgt (.sl tI) sSu (Qj (Qs d [3,3,4]) 3).toNat else lgt (.sl tI) sSu (Qj (Qs d [3,3,4]) 3).toNat
def YE (d:Dice)(k:Nat)(s:ByteArray):Endpoint:=(s,(1,(dof d [3,3,4],(UQ d,(done (Qe (Qs d [3,3,4]) 3) 2,([JO s Jf (Qi .i64 100 (k:Int)) 1 901],([1],([2,3],(done (Qe (Qe (Qs d [3,3,4]) 3) 2) 3,())))))))))
def Y6 (d:Dice):Dice:=Qe (Qe (Qe (Qs d [3,3,4]) 3) 2) 3
def JJ:List ByteArray->Nat->Dice->List Endpoint×Dice
 | [],_,d=>([],d)
 |s::r,k,d=>(YE d k s::(JJ r (k+1) (Y6 d)).1,(JJ r (k+1) (Y6 d)).2)
def edZ:Nat->Int->Int->List Keep->Dice->List Keep×Dice
 |0,_,_,l,d=>(l,d)
 |m+1,i,k,l,d=>bif ine i k then (bif igt (Qj d 3) 0&&ilt (Qd l) 3 then edZ m i (k+1) (l++[(i,(k,()))]) (Qe d 3) else edZ m i (k+1) l (Qe d 3)) else edZ m i (k+1) l d
def edY:Nat->Nat->Int->List Keep->Dice->List Keep×Dice
 |0,_,_,l,d=>(l,d)
 |m+1,n,i,l,d=>edY m n (i+1) (edZ n i 0 l d).1 (edZ n i 0 l d).2
def itZ:Nat->Dice->List Item×Dice
 |0,d=>([],d)
 |n+1,d=>(Xm (Yr d sIt) (J7 d sIt)::(itZ n (XS (Yr d sIt) (J7 d sIt))).1,(itZ n (XS (Yr d sIt) (J7 d sIt))).2)
def Q7 (d:Dice):List ByteArray:=lsl Xx 0 (Qi .i64 2 (Qj d 2))
def Jj (d:Dice):List Keep×Dice:=edY (Q7 d).length (Q7 d).length 0 [] (JJ (Q7 d) 0 (Qe d 2)).2
def WW (d:Dice):List Keep:=bif ieq (Qd (Jj d).1) 0 then [(0,(1,()))] else (Jj d).1
def sndIt (d:Dice):List Item×Dice:=itZ (Qj (Jj d).2 3).toNat (Qe (Jj d).2 3)
def Jh (d:Dice):Estate:=((JJ (Q7 d) 0 (Qe d 2)).1,(WW d,((sndIt d).1,())))
def Zj (d:Dice):Dice:=(sndIt d).2
theorem Qhv {d:Dice}(h:dOk d=true):dOk (Y6 d)=true:=QS (QS (QS (Y4 (l:=[3,3,4]) h)))
theorem Qbe: ∀ (l:List ByteArray) (k:Nat) (d:Dice),dOk d=true->dOk (JJ l k d).2=true
 | [],_,_,h=>h
 |_::r,k,d,h=>Qbe r (k+1) (Y6 d) (Qhv h)
theorem GH: ∀ (m:Nat) (i k:Int) (l:List Keep) (d:Dice),dOk d=true->l.length<=3->dOk (edZ m i k l d).2=true/\(edZ m i k l d).1.length<=3
 |0,_,_,_,_,h,hl=>⟨h,hl⟩
 |m+1,i,k,l,d,h,hl=>by
  unfold edZ
  cases ine i k with
  |false=>exact GH m i (k+1) l d h hl
  |true=>
   cases h1:igt (Qj d 3) 0 with
   |false=>exact GH m i (k+1) l (Qe d 3) (QS h) hl
   |true=>
    cases h2:ilt (Qd l) 3 with
    |false=>exact GH m i (k+1) l (Qe d 3) (QS h) hl
    |true=>
     have:l.length<3:=by have:=BC h2;simp only [Qd] at this;omega
     exact GH m i (k+1) _ (Qe d 3) (QS h) (by simp only [Bm,Bl];omega)
theorem Qbf: ∀ (m n:Nat) (i:Int) (l:List Keep) (d:Dice),dOk d=true->l.length<=3->dOk (edY m n i l d).2=true/\(edY m n i l d).1.length<=3
 |0,_,_,_,_,h,hl=>⟨h,hl⟩
 |m+1,n,i,l,d,h,hl=>by
  have:=GH n i 0 l d h hl
  exact Qbf m n (i+1) _ _ this.1 this.2
theorem GI {d:Dice}(h:dOk d=true):dOk (Yr d sIt)=true:=QS (n:=2) h
theorem Qhw (d:Dice):Q7 d=Xx.take 2∨Q7 d=Xx:=by
 have hv:=Jm (d:=d) (n:=2) (by omega)
 have e:Qi .i64 2 (Qj d 2)=2+Qj d 2:=JL (by omega)
 unfold Q7
 rw [e]
 rcases (show Qj d 2=0∨Qj d 2=1 by omega) with h|h<;>rw [h]
 ·exact .inl rfl
 ·exact .inr rfl
theorem I5 (d:Dice):2<=(Q7 d).length/\(Q7 d).length<=3/\(Q7 d).all nm1=true:=by
 rcases Qhw d with h|h<;>rw [h]<;>exact ⟨by decide,by decide,by decide⟩
def QAV:List DO:=dT Tryz.f47 6
def QAW:List DO:=dT Tryz.f47 26
abbrev WX:Sh:=⟨[(0,.ptr 50000 0),(2,.ptr 2 0),(3,.ptr 3 0),(4,.ty (.sl .str)),(16,.ty (.sl .str)),(17,.ty tI),(18,.ty tI)],[(2,.box Qo),(3,.bag [.ms 20300,.ms 20301,.ms 20302]),(61,.no),(94,.no),(103,.no),(119,.no),(20300,.arr 111 QE),(20301,.arr 113 Qk),(20302,.arr 62 Qq),(50000,.box QB)]⟩
abbrev Qhx:Sh:=⟨[(0,.ptr 50000 0),(2,.ptr 2 0),(3,.ptr 3 0),(4,.ty (.sl .str))],[(2,.box Qo),(3,.bag [.ms 20300,.ms 20301,.ms 20302]),(61,.no),(94,.no),(103,.no),(119,.no),(20300,.arr 111 QE),(20301,.arr 113 Qk),(20302,.arr 62 Qq),(50000,.box QB)]⟩
abbrev WY:Sh:=⟨[(0,.ptr 50000 0),(2,.ptr 2 0),(3,.ptr 3 0),(4,.ty (.sl .str)),(8,.ty tI),(65,.ty tI),(66,.ty tI),(70,.ty tI),(71,.ty tI)],[(2,.box Qo),(3,.bag [.ms 20300,.ms 20301,.ms 20302]),(61,.no),(94,.no),(103,.no),(119,.no),(20300,.arr 111 QE),(20301,.arr 113 Qk),(20302,.arr 62 Qq),(50000,.box QB)]⟩
abbrev WZ:Sh:=⟨[(0,.ptr 50000 0),(2,.ptr 2 0),(3,.ptr 3 0),(4,.ty (.sl .str)),(65,.ty tI),(66,.ty tI)],[(2,.box Qo),(3,.bag [.ms 20300,.ms 20301,.ms 20302]),(61,.no),(94,.no),(103,.no),(119,.no),(20300,.arr 111 QE),(20301,.arr 113 Qk),(20302,.arr 62 Qq),(50000,.box QB)]⟩
abbrev Qhy:Sh:=⟨[(0,.ptr 50000 0),(2,.ptr 2 0),(3,.ptr 3 0)],[(2,.box Qo),(3,.bag [.ms 20300,.ms 20301,.ms 20302]),(61,.no),(94,.no),(103,.no),(119,.no),(20300,.arr 111 QE),(20301,.arr 113 Qk),(20302,.arr 62 Qq),(50000,.box QB)]⟩
abbrev W0:Sh:=⟨[(0,.ptr 50000 0),(2,.ptr 2 0),(3,.ptr 3 0),(10,.ty tI)],[(2,.box Qo),(3,.bag [.ms 20300,.ty (.sl Qk),.ms 20302]),(61,.no),(94,.no),(103,.no),(119,.no),(20300,.arr 111 QE),(20301,.no),(20302,.arr 62 Qq),(50000,.box QB)]⟩
abbrev Qhz:Sh:=⟨[(2,.ptr 2 0),(3,.ptr 3 0)],[(2,.box Qo),(3,.bag [.ms 20300,.ty (.sl Qk),.ms 20302]),(61,.no),(94,.no),(103,.no),(119,.no),(20300,.arr 111 QE),(20301,.no),(20302,.arr 62 Qq),(50000,.box QB)]⟩
def UR:Fg:=WX.f
def US:Fg:=WY.f
def UT:Fg:=WZ.f
def UU:Fg:=W0.f
def ZB:TC:=aF Tryz.f47 [(122,.nf 3 2 62 20302),(122,.nf 3 1 113 20301),(122,.nf 3 0 111 20300),(122,.nf 7 3 3 20703),(122,pL 0 UR),(1957,.fg ⟨[(0,none),(2,none),(3,none),(4,some (.sl .str))],[(2,some Qo),(3,some Qo),(61,none),(94,none),(103,none),(119,none),(20300,none),(20301,none),(20302,none),(50000,some QB)]⟩),(15666,pD [(0,[]),(1,[50000]),(2,[]),(3,[26,5026,10026,15026,50000]),(4,[]),(5,[]),(6,[]),(7,[]),(8,[50000]),(9,[32,5032,10032,15032,50000]),(10,[]),(11,[]),(12,[50000]),(13,[36,5036,10036,15036,50000]),(14,[]),(15,[]),(16,[50000]),(17,[40,5040,10040,15040,50000]),(18,[]),(19,[7,5007,10007,15007]),(20,[7,45,48,20703])] (.one 0 (.one 1 (.one 2 (.one 4 (.one 5 (.one 6 (.one 7 (.one 8 (.one 12 (.one 14 (.one 15 (.one 16 (.alt 3 (.alt 9 (.one 10 (.one 11 (.alt 13 (.alt 17 (.of [18,19,20]) (.of [19,17,18,20])) (.of [19,13,17,18,20])))) (.of [19,9,10,11,13,17,18,20])) (.of [19,3,9,10,11,13,17,18,20]))))))))))))))),(250,.nf 3 2 62 20302),(250,.nf 3 0 111 20300),(250,.nf 3 1 113 20301),(250,pL 2 UT),(4005,.fg ⟨[(0,none),(2,none),(3,none)],[(2,some Qo),(3,some Qo),(61,none),(94,none),(103,none),(119,none),(20300,none),(20301,none),(20302,none),(50000,some QB)]⟩),(64102,.nf 3 2 62 20302),(64102,.nf 3 0 111 20300),(64102,.nf 3 1 113 20301),(64102,pL 1 US),(1025637,.fg ⟨[(0,none),(2,none),(3,none),(4,some (.sl .str)),(65,some tI),(66,some tI)],[(2,some Qo),(3,some Qo),(61,none),(94,none),(103,none),(119,none),(20300,none),(20301,none),(20302,none),(50000,some QB)]⟩),(1018,.fz [20301,103]),(1018,.nf 3 1 113 20301),(1018,.nf 3 0 111 20300),(1018,.nf 3 2 62 20302),(1018,pL 3 UU),(16291,.fg ⟨[(2,none),(3,none)],[(2,some Qo),(3,some Qo),(61,none),(94,none),(103,none),(119,none),(20300,none),(20301,none),(20302,none),(50000,some QB)]⟩),(16292,pD [(0,[3,61,94,103,119,20300,20301,20302]),(1,[3,61,94,103,119,20300,20301,20302]),(2,[50000]),(3,[50000]),(4,[]),(5,[116,5116,10116,15116,50000]),(6,[117,5117,10117,15117,50000]),(7,[]),(8,[2,3,61,94,103,119,5119,10119,15119,20300,20301,20302]),(9,[3,61,94,103,119,20300,20301,20302]),(10,[2,3,61,94,103,119,20300,20301,20302])] (.of [0,1,2,3,4,5,6,7,8,9,10]))]
def FZ:TC:=lb 0 ZB
def F0:TC:=lb 1 ZB
def F1:TC:=lb 2 ZB
def F3:TC:=lb 3 ZB
def GJ:List (RV×Option Ty):=[((.c 2 true 3),some Qo)]
def GK (x4 x16:List ByteArray)(x17 x18:Int)(y2:Estate)(Qb:List Endpoint)(Qf:List Keep)(Qc:List Item)(Qa:Dice):VS:=WX.st ((),(),(),x4,x16,x17,x18,()) (y2,((),(),(),()),(),(),(),(),Qb,Qf,Qc,Qa,())
def UV (x4:List ByteArray)(y2:Estate)(Qb:List Endpoint)(Qf:List Keep)(Qc:List Item)(Qa:Dice):VS:=Qhx.st ((),(),(),x4,()) (y2,((),(),(),()),(),(),(),(),Qb,Qf,Qc,Qa,())
def W8 (x4:List ByteArray)(x8 x65 x66 x70 x71:Int)(y2:Estate)(Qb:List Endpoint)(Qf:List Keep)(Qc:List Item)(Qa:Dice):VS:=WY.st ((),(),(),x4,x8,x65,x66,x70,x71,()) (y2,((),(),(),()),(),(),(),(),Qb,Qf,Qc,Qa,())
def YF (x4:List ByteArray)(x65 x66:Int)(y2:Estate)(Qb:List Endpoint)(Qf:List Keep)(Qc:List Item)(Qa:Dice):VS:=WZ.st ((),(),(),x4,x65,x66,()) (y2,((),(),(),()),(),(),(),(),Qb,Qf,Qc,Qa,())
def UW (y2:Estate)(Qb:List Endpoint)(Qf:List Keep)(Qc:List Item)(Qa:Dice):VS:=Qhy.st ((),(),(),()) (y2,((),(),(),()),(),(),(),(),Qb,Qf,Qc,Qa,())
def F4 (x10:Int)(y2:Estate)(y3_1:List Keep)(Qb:List Endpoint)(Qc:List Item)(Qa:Dice):VS:=W0.st ((),(),(),x10,()) (y2,((),y3_1,(),()),(),(),(),(),Qb,(),Qc,Qa,())
def UX (y2:Estate)(y3_1:List Keep)(Qb:List Endpoint)(Qc:List Item)(Qa:Dice):VS:=Qhz.st ((),(),()) (y2,((),y3_1,(),()),(),(),(),(),Qb,(),Qc,Qa,())
def QhA:VS->Option (Bool×List (Bool×Exit×VS)):=mkL WX (fun x y=>(Qy x.2.2.2.2.1 x.2.2.2.2.2.1 x.2.2.2.2.2.2.1&&(dOk y.2.2.2.2.2.2.2.2.2.1&&(decide (y.2.2.2.2.2.2.1.length<=x.2.2.2.2.2.2.1)&&x.2.2.2.2.1.all nm1)))) (fun x y=>[(true,.exit 0,UV (x.2.2.2.1) (y.1) (y.2.2.2.2.2.2.1++(JJ (x.2.2.2.2.1.drop x.2.2.2.2.2.2.1.toNat) x.2.2.2.2.2.2.1.toNat y.2.2.2.2.2.2.2.2.2.1).1) (y.2.2.2.2.2.2.2.1) (y.2.2.2.2.2.2.2.2.1) ((JJ (x.2.2.2.2.1.drop x.2.2.2.2.2.2.1.toNat) x.2.2.2.2.2.2.1.toNat y.2.2.2.2.2.2.2.2.2.1).2))])
def QhB:VS->Option (Bool×List (Bool×Exit×VS)):=mkL WY (fun x y=>(dOk y.2.2.2.2.2.2.2.2.2.1&&decide (0<=x.2.2.2.2.2.2.2.2.1/\x.2.2.2.2.2.2.2.2.1<=x.2.2.2.2.2.2.2.1/\x.2.2.2.2.2.2.2.1<=3/\y.2.2.2.2.2.2.2.1.length<=3))) (fun x y=>[(true,.exit 4,YF (x.2.2.2.1) (x.2.2.2.2.2.1) (x.2.2.2.2.2.2.1) (y.1) (y.2.2.2.2.2.2.1) ((edZ (x.2.2.2.2.2.2.2.1-x.2.2.2.2.2.2.2.2.1).toNat x.2.2.2.2.1 x.2.2.2.2.2.2.2.2.1 y.2.2.2.2.2.2.2.1 y.2.2.2.2.2.2.2.2.2.1).1) (y.2.2.2.2.2.2.2.2.1) ((edZ (x.2.2.2.2.2.2.2.1-x.2.2.2.2.2.2.2.2.1).toNat x.2.2.2.2.1 x.2.2.2.2.2.2.2.2.1 y.2.2.2.2.2.2.2.1 y.2.2.2.2.2.2.2.2.2.1).2))])
def QhC:VS->Option (Bool×List (Bool×Exit×VS)):=mkL WZ (fun x y=>(dOk y.2.2.2.2.2.2.2.2.2.1&&decide (0<=x.2.2.2.2.2.1/\x.2.2.2.2.2.1<=x.2.2.2.2.1/\x.2.2.2.2.1<=3/\x.2.2.2.1.length<=3/\y.2.2.2.2.2.2.2.1.length<=3))) (fun x y=>[(true,.exit 2,UW (y.1) (y.2.2.2.2.2.2.1) ((edY (x.2.2.2.2.1-x.2.2.2.2.2.1).toNat x.2.2.2.1.length x.2.2.2.2.2.1 y.2.2.2.2.2.2.2.1 y.2.2.2.2.2.2.2.2.2.1).1) (y.2.2.2.2.2.2.2.2.1) ((edY (x.2.2.2.2.1-x.2.2.2.2.2.1).toNat x.2.2.2.1.length x.2.2.2.2.2.1 y.2.2.2.2.2.2.2.1 y.2.2.2.2.2.2.2.2.2.1).2))])
def QhD:VS->Option (Bool×List (Bool×Exit×VS)):=mkL W0 (fun x y=>(dOk y.2.2.2.2.2.2.2.2.2.1&&decide (0<=x.2.2.2.1/\x.2.2.2.1<=3/\y.2.2.2.2.2.2.2.2.1.length+x.2.2.2.1.toNat<=100))) (fun x y=>[(true,.exit 6,UX (y.1) (y.2.1.2.1) (y.2.2.2.2.2.2.1) (y.2.2.2.2.2.2.2.2.1++(itZ x.2.2.2.1.toNat y.2.2.2.2.2.2.2.2.2.1).1) ((itZ x.2.2.2.1.toNat y.2.2.2.2.2.2.2.2.2.1).2))])
def Jw:G:=⟨TYs,[45,103],122,EL [(32,Ut),(35,Qd4),(48,VP),(49,Qc0),(50,ET),(87,Qfh),(88,Qfg)],keeps,(Ls [QhA,QhB,QhC,QhD]),IL [],RL []⟩
def I6 (x4 x16:List ByteArray)(x17 x18:Int)(y2:Estate)(Qb:List Endpoint)(Qf:List Keep)(Qc:List Item)(Qa:Dice):OX:=
 let a5:=lgt .str x16 (Int.toNat x18)
 let a1:=JO a5 Jf (Qi .i64 100 x18) 1 901
 let a2:=(lgt (.sl tI) ([[10,8,2],[8,2],[2,10,8,3]]) (Int.toNat (Qj (Qs Qa ([3,3,4])) 3)))
 let a3:=(Qe (Qs Qa ([3,3,4])) 3)
 let a4:=((done a3 2),([(((a1.1).1,(((a1.1).2).1,())),((a1.2).1,(((a1.2).2).1,())))],([1],([2,3],((done (Qe a3 2) 3),())))))
 let a6:=(dof Qa ([3,3,4]))
 let a7:=WB a5 Jf (Qi .i64 100 x18) 1 901
 br (Q5 (Qe a3 2) 3) (br (ieq a6 4) (br (Qw ([14]) a2 8) (br a7 (br (Qw Qb ([(a5,(1,(a6,((([14])++a2),a4))))]) 144) (some (.normal,GK x4 x16 x17 (Qi .i64 x18 1) y2 (Qb++([(a5,(1,(a6,((([14])++a2),a4))))])) Qf Qc (Qe (Qe a3 2) 3))) none) none) none) (br a7 (br (Qw Qb ([(a5,(1,(a6,(a2,a4))))]) 144) (some (.normal,GK x4 x16 x17 (Qi .i64 x18 1) y2 (Qb++([(a5,(1,(a6,(a2,a4))))])) Qf Qc (Qe (Qe a3 2) 3))) none) none)) none
def Qbg (x4 x16:List ByteArray)(x17 x18:Int)(y2:Estate)(Qb:List Endpoint)(Qf:List Keep)(Qc:List Item)(Qa:Dice):OX:=br (Q5 (Qe (Qs Qa ([3,3,4])) 3) 2) (I6 x4 x16 x17 x18 y2 Qb Qf Qc Qa) none
def Qbh (x4 x16:List ByteArray)(x17 x18:Int)(y2:Estate)(Qb:List Endpoint)(Qf:List Keep)(Qc:List Item)(Qa:Dice):OX:=
 let a1:=(Qs Qa ([3,3,4]))
 br (QC a1 3) (br (cIx ([[10,8,2],[8,2],[2,10,8,3]]) (Qj a1 3)) (Qbg x4 x16 x17 x18 y2 Qb Qf Qc Qa) none) none
def QhE (x4 x16:List ByteArray)(x17 x18:Int)(y2:Estate)(Qb:List Endpoint)(Qf:List Keep)(Qc:List Item)(Qa:Dice):OX:=
 let a1:=(Qs Qa ([3,3,4]))
 let a2:=(Q0 Qa ([3,3,4]))
 br (ilt x18 x17) (br (cIx x16 x18) (frk (br a2 (frk (br (QC a1 3) (br (cIx ([[10,8,2],[8,2],[2,10,8,3]]) (Qj a1 3)) (frk (br (Q5 (Qe a1 3) 2) (frk (I6 x4 x16 x17 x18 y2 Qb Qf Qc Qa) (I6 x4 x16 x17 x18 y2 Qb Qf Qc Qa)) none) (Qbg x4 x16 x17 x18 y2 Qb Qf Qc Qa)) none) none) (Qbh x4 x16 x17 x18 y2 Qb Qf Qc Qa)) none) (br a2 (Qbh x4 x16 x17 x18 y2 Qb Qf Qc Qa) none)) none) (some (.exit 0,UV x4 y2 Qb Qf Qc Qa))
def Y7 (x4 x16:List ByteArray)(x17 x18:Int)(y2:Estate)(Qb:List Endpoint)(Qf:List Keep)(Qc:List Item)(Qa:Dice):OX:=Qx (Qz Jw UR FZ) (GK x4 x16 x17 x18 y2 Qb Qf Qc Qa)
def Z3 (x4 x16:List ByteArray)(x17 x18:Int)(y2:Estate)(Qb:List Endpoint)(Qf:List Keep)(Qc:List Item)(Qa:Dice):OX:=
 let a5:=lgt .str x16 (Int.toNat x18)
 let a1:=JO a5 Jf (Qi .i64 100 x18) 1 901
 let a2:=(lgt (.sl tI) ([[10,8,2],[8,2],[2,10,8,3]]) (Int.toNat (Qj (Qs Qa ([3,3,4])) 3)))
 let a3:=(Qe (Qs Qa ([3,3,4])) 3)
 let a4:=((done a3 2),([(((a1.1).1,(((a1.1).2).1,())),((a1.2).1,(((a1.2).2).1,())))],([1],([2,3],((done (Qe a3 2) 3),())))))
 let a6:=(dof Qa ([3,3,4]))
 let a7:=WB a5 Jf (Qi .i64 100 x18) 1 901
 br (Q5 (Qe a3 2) 3) (br (ieq a6 4) (br (Qw ([14]) a2 8) (br a7 (br (Qw Qb ([(a5,(1,(a6,((([14])++a2),a4))))]) 144) (Y7 x4 x16 x17 (Qi .i64 x18 1) y2 (Qb++([(a5,(1,(a6,((([14])++a2),a4))))])) Qf Qc (Qe (Qe a3 2) 3)) none) none) none) (br a7 (br (Qw Qb ([(a5,(1,(a6,(a2,a4))))]) 144) (Y7 x4 x16 x17 (Qi .i64 x18 1) y2 (Qb++([(a5,(1,(a6,(a2,a4))))])) Qf Qc (Qe (Qe a3 2) 3)) none) none)) none
def YG (x4 x16:List ByteArray)(x17 x18:Int)(y2:Estate)(Qb:List Endpoint)(Qf:List Keep)(Qc:List Item)(Qa:Dice):OX:=br (Q5 (Qe (Qs Qa ([3,3,4])) 3) 2) (Z3 x4 x16 x17 x18 y2 Qb Qf Qc Qa) none
def YH (x4 x16:List ByteArray)(x17 x18:Int)(y2:Estate)(Qb:List Endpoint)(Qf:List Keep)(Qc:List Item)(Qa:Dice):OX:=
 let a1:=(Qs Qa ([3,3,4]))
 br (QC a1 3) (br (cIx ([[10,8,2],[8,2],[2,10,8,3]]) (Qj a1 3)) (YG x4 x16 x17 x18 y2 Qb Qf Qc Qa) none) none
def Y8 (x4 x16:List ByteArray)(x17 x18:Int)(y2:Estate)(Qb:List Endpoint)(Qf:List Keep)(Qc:List Item)(Qa:Dice):OX:=
 let a1:=(Qs Qa ([3,3,4]))
 let a2:=(Q0 Qa ([3,3,4]))
 br (ilt x18 x17) (br (cIx x16 x18) (frk (br a2 (frk (br (QC a1 3) (br (cIx ([[10,8,2],[8,2],[2,10,8,3]]) (Qj a1 3)) (frk (br (Q5 (Qe a1 3) 2) (frk (Z3 x4 x16 x17 x18 y2 Qb Qf Qc Qa) (Z3 x4 x16 x17 x18 y2 Qb Qf Qc Qa)) none) (YG x4 x16 x17 x18 y2 Qb Qf Qc Qa)) none) none) (YH x4 x16 x17 x18 y2 Qb Qf Qc Qa)) none) (br a2 (YH x4 x16 x17 x18 y2 Qb Qf Qc Qa) none)) none) (some (.exit 0,UV x4 y2 Qb Qf Qc Qa))
def Z4 (x4 x16:List ByteArray)(x17 x18:Int)(y2:Estate)(Qb:List Endpoint)(Qf:List Keep)(Qc:List Item)(Qa:Dice):OX:=
 let a1:=JJ (x16.drop x18.toNat) x18.toNat Qa
 some (.exit 0,UV (x4) (y2) (Qb++a1.1) (Qf) (Qc) (a1.2))
theorem QAX (x4 x16:List ByteArray)(x17 x18:Int)(y2:Estate)(Qb:List Endpoint)(Qf:List Keep)(Qc:List Item)(Qa:Dice):Qz Jw UR FZ (GK x4 x16 x17 x18 y2 Qb Qf Qc Qa)=QhE x4 x16 x17 x18 y2 Qb Qf Qc Qa:=by kernel_rfl
theorem I7 (x4 x16:List ByteArray)(x17 x18:Int)(y2:Estate)(Qb:List Endpoint)(Qf:List Keep)(Qc:List Item)(Qa:Dice):Y7 x4 x16 x17 x18 y2 Qb Qf Qc Qa=Y8 x4 x16 x17 x18 y2 Qb Qf Qc Qa:=(GB _ _).trans (by
 rw [QAX]
 first
 |(simp only [QhE,I6,Qbg,Qbh,ZT,Y8,Z3,YG,YH,ZT,Xq,XW,XX,XY,XZ]
   rfl)
 |(simp only [QhE,I6,Qbg,Qbh,ZT,Y8,Z3,YG,YH,ZT]
   try generalize (Qw Qb ([((lgt .str x16 (Int.toNat x18)),(1,((dof Qa ([3,3,4])),((([14])++(lgt (.sl tI) ([[10,8,2],[8,2],[2,10,8,3]]) (Int.toNat (Qj (Qs Qa ([3,3,4])) 3)))),((done (Qe (Qs Qa ([3,3,4])) 3) 2),([((((JO (lgt .str x16 (Int.toNat x18)) Jf (Qi .i64 100 x18) 1 901).1).1,((((JO (lgt .str x16 (Int.toNat x18)) Jf (Qi .i64 100 x18) 1 901).1).2).1,())),(((JO (lgt .str x16 (Int.toNat x18)) Jf (Qi .i64 100 x18) 1 901).2).1,((((JO (lgt .str x16 (Int.toNat x18)) Jf (Qi .i64 100 x18) 1 901).2).2).1,())))],([1],([2,3],((done (Qe (Qe (Qs Qa ([3,3,4])) 3) 2) 3),())))))))))]) 144)=cq0
   try generalize ((WB (lgt .str x16 (Int.toNat x18)) Jf (Qi .i64 100 x18) 1 901))=cq1
   try generalize (Qw ([14]) (lgt (.sl tI) ([[10,8,2],[8,2],[2,10,8,3]]) (Int.toNat (Qj (Qs Qa ([3,3,4])) 3))) 8)=cq2
   try generalize (Qw Qb ([((lgt .str x16 (Int.toNat x18)),(1,((dof Qa ([3,3,4])),((lgt (.sl tI) ([[10,8,2],[8,2],[2,10,8,3]]) (Int.toNat (Qj (Qs Qa ([3,3,4])) 3))),((done (Qe (Qs Qa ([3,3,4])) 3) 2),([((((JO (lgt .str x16 (Int.toNat x18)) Jf (Qi .i64 100 x18) 1 901).1).1,((((JO (lgt .str x16 (Int.toNat x18)) Jf (Qi .i64 100 x18) 1 901).1).2).1,())),(((JO (lgt .str x16 (Int.toNat x18)) Jf (Qi .i64 100 x18) 1 901).2).1,((((JO (lgt .str x16 (Int.toNat x18)) Jf (Qi .i64 100 x18) 1 901).2).2).1,())))],([1],([2,3],((done (Qe (Qe (Qs Qa ([3,3,4])) 3) 2) 3),())))))))))]) 144)=cq3
   try generalize ((Q5 (Qe (Qe (Qs Qa ([3,3,4])) 3) 2) 3))=cq4
   try generalize ((Q5 (Qe (Qs Qa ([3,3,4])) 3) 2))=cq5
   try generalize (cIx ([[10,8,2],[8,2],[2,10,8,3]]) (Qj (Qs Qa ([3,3,4])) 3))=cq6
   try generalize ((QC (Qs Qa ([3,3,4])) 3))=cq7
   try generalize ((Q0 Qa ([3,3,4])))=cq8
   try generalize (cIx x16 x18)=cq9
   simp only [brN,ZT,Bool.and_assoc,Bool.and_comm,Bool.and_left_comm,B5,Bool.and_self_left,Xq,XW,XX,XY,XZ]
   try rfl))
def Qp8 (x4:List ByteArray)(x8 x65 x66 x70 x71:Int)(y2:Estate)(Qb:List Endpoint)(Qf:List Keep)(Qc:List Item)(Qa:Dice):OX:=
 let a1:=Qi .i64 x71 1
 let a2:=Qe Qa 3
 br (ilt x71 x70) (br (ine x8 x71) (br (QC Qa 3) (br (igt (Qj Qa 3) 0) (br (ilt (Qd Qf) 3) (br (Qw Qf ([(x8,(x71,()))]) 16) (some (.normal,W8 x4 x8 x65 x66 x70 a1 y2 Qb (Qf++([(x8,(x71,()))])) Qc a2)) none) (some (.normal,W8 x4 x8 x65 x66 x70 a1 y2 Qb Qf Qc a2))) (some (.normal,W8 x4 x8 x65 x66 x70 a1 y2 Qb Qf Qc a2))) none) (some (.normal,W8 x4 x8 x65 x66 x70 a1 y2 Qb Qf Qc Qa))) (some (.exit 4,YF x4 x65 x66 y2 Qb Qf Qc Qa))
def Y9 (x4:List ByteArray)(x8 x65 x66 x70 x71:Int)(y2:Estate)(Qb:List Endpoint)(Qf:List Keep)(Qc:List Item)(Qa:Dice):OX:=Qx (Qz Jw US F0) (W8 x4 x8 x65 x66 x70 x71 y2 Qb Qf Qc Qa)
def X8 (x4:List ByteArray)(x8 x65 x66 x70 x71:Int)(y2:Estate)(Qb:List Endpoint)(Qf:List Keep)(Qc:List Item)(Qa:Dice):OX:=
 let a1:=Qi .i64 x71 1
 let a2:=Qe Qa 3
 br (ilt x71 x70) (br (ine x8 x71) (br (QC Qa 3) (br (igt (Qj Qa 3) 0) (br (ilt (Qd Qf) 3) (br (Qw Qf ([(x8,(x71,()))]) 16) (Y9 x4 x8 x65 x66 x70 a1 y2 Qb (Qf++([(x8,(x71,()))])) Qc a2) none) (Y9 x4 x8 x65 x66 x70 a1 y2 Qb Qf Qc a2)) (Y9 x4 x8 x65 x66 x70 a1 y2 Qb Qf Qc a2)) none) (Y9 x4 x8 x65 x66 x70 a1 y2 Qb Qf Qc Qa)) (some (.exit 4,YF x4 x65 x66 y2 Qb Qf Qc Qa))
def Z5 (x4:List ByteArray)(x8 x65 x66 x70 x71:Int)(y2:Estate)(Qb:List Endpoint)(Qf:List Keep)(Qc:List Item)(Qa:Dice):OX:=
 let a1:=edZ (x70-x71).toNat x8 x71 Qf Qa
 some (.exit 4,YF (x4) (x65) (x66) (y2) (Qb) (a1.1) (Qc) (a1.2))
theorem QAY (x4:List ByteArray)(x8 x65 x66 x70 x71:Int)(y2:Estate)(Qb:List Endpoint)(Qf:List Keep)(Qc:List Item)(Qa:Dice):Qz Jw US F0 (W8 x4 x8 x65 x66 x70 x71 y2 Qb Qf Qc Qa)=Qp8 x4 x8 x65 x66 x70 x71 y2 Qb Qf Qc Qa:=by kernel_rfl
theorem I8 (x4:List ByteArray)(x8 x65 x66 x70 x71:Int)(y2:Estate)(Qb:List Endpoint)(Qf:List Keep)(Qc:List Item)(Qa:Dice):Y9 x4 x8 x65 x66 x70 x71 y2 Qb Qf Qc Qa=X8 x4 x8 x65 x66 x70 x71 y2 Qb Qf Qc Qa:=(GB _ _).trans (by
 rw [QAY]
 simp only [Qp8,X8,Xq,XW,XX,XY,XZ]
 rfl)
def Qp9 (x4:List ByteArray)(x65 x66:Int)(y2:Estate)(Qb:List Endpoint)(Qf:List Keep)(Qc:List Item)(Qa:Dice):OX:=
 let a1:=(edZ ((Qd x4)-(0:Int)).toNat x66 (0:Int) Qf Qa)
 br (ilt x66 x65) (br (dOk Qa&&decide (0<=(0:Int)/\(0:Int)<=(Qd x4)/\(Qd x4)<=3/\Qf.length<=3)) (some (.normal,YF (x4) (x65) (Qi .i64 (x66) 1) (y2) (Qb) (a1.1) (Qc) (a1.2))) none) (some (.exit 2,UW y2 Qb Qf Qc Qa))
def W9 (x4:List ByteArray)(x65 x66:Int)(y2:Estate)(Qb:List Endpoint)(Qf:List Keep)(Qc:List Item)(Qa:Dice):OX:=Qx (Qz Jw UT F1) (YF x4 x65 x66 y2 Qb Qf Qc Qa)
def X9 (x4:List ByteArray)(x65 x66:Int)(y2:Estate)(Qb:List Endpoint)(Qf:List Keep)(Qc:List Item)(Qa:Dice):OX:=
 let a1:=(edZ ((Qd x4)-(0:Int)).toNat x66 (0:Int) Qf Qa)
 br (ilt x66 x65) (br (dOk Qa&&decide (0<=(0:Int)/\(0:Int)<=(Qd x4)/\(Qd x4)<=3/\Qf.length<=3)) (W9 (x4) (x65) (Qi .i64 (x66) 1) (y2) (Qb) (a1.1) (Qc) (a1.2)) none) (some (.exit 2,UW y2 Qb Qf Qc Qa))
def Ua (x4:List ByteArray)(x65 x66:Int)(y2:Estate)(Qb:List Endpoint)(Qf:List Keep)(Qc:List Item)(Qa:Dice):OX:=
 let a1:=edY (x65-x66).toNat x4.length x66 Qf Qa
 some (.exit 2,UW (y2) (Qb) (a1.1) (Qc) (a1.2))
theorem QAZ (x4:List ByteArray)(x65 x66:Int)(y2:Estate)(Qb:List Endpoint)(Qf:List Keep)(Qc:List Item)(Qa:Dice):Qz Jw UT F1 (YF x4 x65 x66 y2 Qb Qf Qc Qa)=Qp9 x4 x65 x66 y2 Qb Qf Qc Qa:=by kernel_rfl
theorem I9 (x4:List ByteArray)(x65 x66:Int)(y2:Estate)(Qb:List Endpoint)(Qf:List Keep)(Qc:List Item)(Qa:Dice):W9 x4 x65 x66 y2 Qb Qf Qc Qa=X9 x4 x65 x66 y2 Qb Qf Qc Qa:=(GB _ _).trans (by
 rw [QAZ]
 simp only [Qp9,X9,Xq,XW,XX,XY,XZ]
 rfl)
def Qqa (x10:Int)(y2:Estate)(y3_1:List Keep)(Qb:List Endpoint)(Qc:List Item)(Qa:Dice):OX:=
 let a2:=(ByteArray.mk #[98,97,99,107,117,112])
 let a3:=(ByteArray.mk #[100,101,101,100])
 let a5:=(Yr Qa ([a2,a3]))
 let a6:=(J7 Qa ([a2,a3]))
 let a1:=Xm a5 a6
 let a4:=((a1.2).1,(((a1.2).2).1,((((a1.2).2).2).1,(((((a1.2).2).2).2).1,()))))
 br (igt x10 0) (br (YO Qa ([a2,a3])) (br (WA a5 a6) (br (Qw Qc ([(a1.1,a4)]) 64) (some (.normal,F4 (QD .i64 x10 1) y2 y3_1 Qb (Qc++([(a1.1,a4)])) (XS a5 a6))) none) none) none) (some (.exit 6,UX y2 y3_1 Qb Qc Qa))
def Ub (x10:Int)(y2:Estate)(y3_1:List Keep)(Qb:List Endpoint)(Qc:List Item)(Qa:Dice):OX:=Qx (Qz Jw UU F3) (F4 x10 y2 y3_1 Qb Qc Qa)
def Wd (x10:Int)(y2:Estate)(y3_1:List Keep)(Qb:List Endpoint)(Qc:List Item)(Qa:Dice):OX:=
 let a2:=(ByteArray.mk #[98,97,99,107,117,112])
 let a3:=(ByteArray.mk #[100,101,101,100])
 let a5:=(Yr Qa ([a2,a3]))
 let a6:=(J7 Qa ([a2,a3]))
 let a1:=Xm a5 a6
 let a4:=((a1.2).1,(((a1.2).2).1,((((a1.2).2).2).1,(((((a1.2).2).2).2).1,()))))
 br (igt x10 0) (br (YO Qa ([a2,a3])) (br (WA a5 a6) (br (Qw Qc ([(a1.1,a4)]) 64) (Ub (QD .i64 x10 1) y2 y3_1 Qb (Qc++([(a1.1,a4)])) (XS a5 a6)) none) none) none) (some (.exit 6,UX y2 y3_1 Qb Qc Qa))
def Uc (x10:Int)(y2:Estate)(y3_1:List Keep)(Qb:List Endpoint)(Qc:List Item)(Qa:Dice):OX:=some (.exit 6,UX (y2) (y3_1) (Qb) (Qc++(itZ x10.toNat Qa).1) ((itZ x10.toNat Qa).2))
theorem QA0 (x10:Int)(y2:Estate)(y3_1:List Keep)(Qb:List Endpoint)(Qc:List Item)(Qa:Dice):Qz Jw UU F3 (F4 x10 y2 y3_1 Qb Qc Qa)=Qqa x10 y2 y3_1 Qb Qc Qa:=by kernel_rfl
theorem Oa (x10:Int)(y2:Estate)(y3_1:List Keep)(Qb:List Endpoint)(Qc:List Item)(Qa:Dice):Ub x10 y2 y3_1 Qb Qc Qa=Wd x10 y2 y3_1 Qb Qc Qa:=(GB _ _).trans (by
 rw [QA0]
 simp only [Qqa,Wd,Xq,XW,XX,XY,XZ]
 rfl)
def GL (d0:Dice):OV:=
 let a6:=(ByteArray.mk #[97,112,112])
 let a8:=(ByteArray.mk #[100,98])
 let a7:=(ByteArray.mk #[119,101,98])
 let a2:=(lsl ([a6,a8,a7]) 0 (Qi .i64 2 (Qj d0 2)))
 let a5:=(JJ (a2.drop (0:Int).toNat) (0:Int).toNat (Qe d0 2))
 let a1:=(edY ((Qd a2)-(0:Int)).toNat a2.length (0:Int) ([]:List Keep) (a5.2))
 let a3:=(dOk (Qe (a1.2) 3)&&decide (0<=(Qj (a1.2) 3)/\(Qj (a1.2) 3)<=3/\([]:List Item).length+(Qj (a1.2) 3).toNat<=100))
 let a4:=itZ (Qj (a1.2) 3).toNat (Qe (a1.2) 3)
 br (QC d0 2) (br (cSl ([a6,a8,a7]) 0 (Qi .i64 2 (Qj d0 2)) ((List.length ([a6,a8,a7]):Nat):Int)) (br (Qy a2 (Qd a2) (0:Int)&&(dOk (Qe d0 2)&&(decide (([]:List Endpoint).length<=(0:Int))&&a2.all nm1))) (br (dOk (a5.2)&&decide (0<=(0:Int)/\(0:Int)<=(Qd a2)/\(Qd a2)<=3/\a2.length<=3/\([]:List Keep).length<=3)) (br (ieq (Qd (a1.1)) 0) (br (QC (a1.2) 3) (br a3 (some (.t Qo ((([]:List Endpoint)++a5.1),(([(0,(1,()))]),((([]:List Item)++a4.1),()))),[.box (.t QB (a4.2))])) none) none) (br (QC (a1.2) 3) (br a3 (some (.t Qo ((([]:List Endpoint)++a5.1),((a1.1),((([]:List Item)++a4.1),()))),[.box (.t QB (a4.2))])) none) none)) none) none) none) none
theorem QhF (d0:Dice):QK Jw ZB GJ false [.ptr 50000 0] [.box (.t QB d0)]=GL d0:=by kernel_rfl
theorem ok_f47:Option.map (trC Tryz.prog) Tryz.f47.body=some ZB.er:=by kernel_rfl
theorem QA1:Xo Tryz.prog Tryz.f47.results.toList=some (GJ.map Prod.fst):=by kernel_rfl
theorem Qqb:QV Tryz.prog 47:= .inr ⟨by decide,_,Tryz.func47,by kernel_rfl,by kernel_rfl⟩
theorem QhG:GOk Tryz.prog Jw:=Jg _ (gA (gD Gj (gD QkT (gD Qff (gD Qjr (gD Ve (gD QmL (gD QmK gN))))))))
theorem QhH (x4 x16:List ByteArray)(x17 x18:Int)(y2:Estate)(Qb:List Endpoint)(Qf:List Keep)(Qc:List Item)(Qa:Dice)(h:(Qy x16 x17 x18&&(dOk Qa&&(decide (Qb.length<=x18)&&x16.all nm1)))=true):Y7 x4 x16 x17 x18 y2 Qb Qf Qc Qa=Z4 x4 x16 x17 x18 y2 Qb Qf Qc Qa:=by
 simp only [Bc,Ba] at h
 obtain ⟨h0,hd,hl,ha⟩:=h
 obtain ⟨rfl,h3,k,rfl,hk⟩:=JE h0
 clear h0
 revert Qb Qa
 refine QX x16 (fun k=> ∀ (Qb:List Endpoint) (Qa:Dice),dOk Qa=true->(Qb.length:Int)<=(k:Int)->Y7 x4 x16 (x16.length:Int) (k:Int) y2 Qb Qf Qc Qa=Z4 x4 x16 (x16.length:Int) (k:Int) y2 Qb Qf Qc Qa) ?_ ?_ k hk
 ·intro Qb Qa _ _
  rw [I7]
  simp only [Y8,Z3,YG,YH,ZT,Z4,QA,BS,BV,Ql,Bd,B6,JJ,BP]
 ·intro k hk ih Qb Qa hd hl
  rw [I7]
  have c1:Q0 Qa [3,3,4]=true:=Qd1 hd (by decide) (by decide)
  have d1:=Y4 (l:=[3,3,4]) hd
  have c2:QC (Qs Qa [3,3,4]) 3=true:=ZX d1 (by omega)
  have d2:=QS (n:=3) d1
  have c3:Q5 (Qe (Qs Qa [3,3,4]) 3) 2=true:=Qd2 d2 (by omega) (by omega)
  have c4:Q5 (Qe (Qe (Qs Qa [3,3,4]) 3) 2) 3=true:=Qd2 (QS d2) (by omega) (by omega)
  have b3:=Jm (d:=Qs Qa [3,3,4]) (n:=3) (by omega)
  have c5:cIx ([[10,8,2],[8,2],[2,10,8,3]]:List (List Int)) (Qj (Qs Qa [3,3,4]) 3)=true:=Be ⟨b3.1,b3.2⟩
  have c6:WB x16[k] Jf (Qi .i64 100 (k:Int)) 1 901=true:=Bg.1 ha _ (Bu hk)
  have c7: ∀ v,Qw Qb [v] 144=true:=fun v=>Jr (by omega) (by simp only [Bl];omega)
  have b4: ∀ q,(lgt (.sl tI) [[10,8,2],[8,2],[2,10,8,3]] q).length<=4:=fun q=>Qro (by simp) q
  have c8:Qw ([14]:List Int) (lgt (.sl tI) [[10,8,2],[8,2],[2,10,8,3]] (Qj (Qs Qa [3,3,4]) 3).toNat) 8=true:=Jr (by decide) (by have:=b4 (Qj (Qs Qa [3,3,4]) 3).toNat;simp only [Bl];omega)
  simp only [Y8,Z3,YG,YH,ZT,QA,QM,hk,Bx,Qg,Bd,QW (show k<4611686018427387904 by omega),QP (y:= .str) hk,c1,c2,c3,c4,c6,c7,ZT]
  have hi: ∀ v,Y7 x4 x16 (x16.length:Int) ((k+1:Nat):Int) y2 (Qb++[v]) Qf Qc (Y6 Qa)=Z4 x4 x16 (x16.length:Int) ((k+1:Nat):Int) y2 (Qb++[v]) Qf Qc (Y6 Qa):=fun v=>ih _ _ (Qhv hd) (by simp only [Bm,Bl];omega)
  have goal2:Z4 x4 x16 (x16.length:Int) ((k+1:Nat):Int) y2 (Qb++[YE Qa k x16[k]]) Qf Qc (Y6 Qa)=Z4 x4 x16 (x16.length:Int) (k:Int) y2 Qb Qf Qc Qa:=by
   simp only [Z4,Bd,Bj hk,JJ,BN,BM]
  refine Eq.trans ?_ ((hi _).trans goal2)
  unfold YE UQ
  refine brY c5 ?_
  cases ieq (dof Qa [3,3,4]) 4 with
  |false=>rfl
  |true=>exact brY rfl (brY c8 rfl)
theorem QhI (x4:List ByteArray)(x8 x65 x66 x70 x71:Int)(y2:Estate)(Qb:List Endpoint)(Qf:List Keep)(Qc:List Item)(Qa:Dice)(h:(dOk Qa&&decide (0<=x71/\x71<=x70/\x70<=3/\Qf.length<=3))=true):Y9 x4 x8 x65 x66 x70 x71 y2 Qb Qf Qc Qa=Z5 x4 x8 x65 x66 x70 x71 y2 Qb Qf Qc Qa:=by
 simp only [Bc,Ba] at h
 obtain ⟨hd,h0,h1,h2,hl⟩:=h
 have key: ∀ (m:Nat) (x71:Int) (Qf:List Keep) (Qa:Dice),x71+m=x70->0<=x71->dOk Qa=true->Qf.length<=3->Y9 x4 x8 x65 x66 x70 x71 y2 Qb Qf Qc Qa=Z5 x4 x8 x65 x66 x70 x71 y2 Qb Qf Qc Qa:=by
  intro m
  induction m with
  |zero=>
   intro x71 Qf Qa e _ _ _
   rw [I8]
   have:x70=x71:=by omega
   subst this
   simp only [X8,Z5,show ilt x70 x70=false from Bt (by omega),Ql,Int.sub_self,BE,edZ]
  |succ m ih=>
   intro x71 Qf Qa e h0 hd hl
   rw [I8]
   have c1:QC Qa 3=true:=ZX hd (by omega)
   have c2:Qw Qf [(x8,(x71,()))] 16=true:=Jr (by omega) (by simp only [Bl];omega)
   have e1:Qi .i64 x71 1=x71+1:=JL (by omega)
   have e2:(x70-x71).toNat=m+1:=by omega
   have e3:(x70-(x71+1)).toNat=m:=by omega
   simp only [X8,show ilt x71 x70=true from Be (by omega),Qg,c1,c2,e1]
   have i0:=ih (x71+1) Qf Qa (by omega) (by omega) hd hl
   have i1:=ih (x71+1) Qf (Qe Qa 3) (by omega) (by omega) (QS hd) hl
   rw [i0,i1]
   cases hn:ine x8 x71 with
   |false=>simp only [Ql,Z5,e2,e3,edZ,hn,B3]
   |true=>
    cases hg:igt (Qj Qa 3) 0 with
    |false=>simp only [Qg,Ql,Z5,e2,e3,edZ,hn,hg,Db,Bool.false_and,B3]
    |true=>
     cases hq:ilt (Qd Qf) 3 with
     |false=>simp only [Qg,Ql,Z5,e2,e3,edZ,hn,hg,hq,Db,Bool.and_false,B3]
     |true=>
      have hl3:Qf.length<3:=by have:=BC hq;simp only [Qd] at this;omega
      have i2:=ih (x71+1) (Qf++[(x8,(x71,()))]) (Qe Qa 3) (by omega) (by omega) (QS hd) (by simp only [Bm,Bl];omega)
      rw [i2]
      simp only [Qg,Z5,e2,e3,edZ,hn,hg,hq,Db,B5]
 exact key (x70-x71).toNat x71 Qf Qa (by omega) h0 hd hl
theorem QhJ (x4:List ByteArray)(x65 x66:Int)(y2:Estate)(Qb:List Endpoint)(Qf:List Keep)(Qc:List Item)(Qa:Dice)(h:(dOk Qa&&decide (0<=x66/\x66<=x65/\x65<=3/\x4.length<=3/\Qf.length<=3))=true):W9 x4 x65 x66 y2 Qb Qf Qc Qa=Ua x4 x65 x66 y2 Qb Qf Qc Qa:=by
 simp only [Bc,Ba] at h
 obtain ⟨hd,h0,h1,h2,h3,hl⟩:=h
 have key: ∀ (m:Nat) (x66:Int) (Qf:List Keep) (Qa:Dice),x66+m=x65->0<=x66->dOk Qa=true->Qf.length<=3->W9 x4 x65 x66 y2 Qb Qf Qc Qa=Ua x4 x65 x66 y2 Qb Qf Qc Qa:=by
  intro m
  induction m with
  |zero=>
   intro x66 Qf Qa e _ _ _
   rw [I9]
   have:x65=x66:=by omega
   subst this
   simp only [X9,Ua,show ilt x65 x65=false from Bt (by omega),Ql,Int.sub_self,BE,edY]
  |succ m ih=>
   intro x66 Qf Qa e h0 hd hl
   rw [I9]
   have e1:Qi .i64 x66 1=x66+1:=JL (by omega)
   have e2:(x65-x66).toNat=m+1:=by omega
   have e3:(x65-(x66+1)).toNat=m:=by omega
   have e4:(Qd x4-0).toNat=x4.length:=by simp only [Qd];omega
   have hz:=GH x4.length x66 0 Qf Qa hd hl
   simp only [X9,show ilt x66 x65=true from Be (by omega),Qg,e1,e4,hd,By]
   refine brY (Be (by simp only [Qd];omega)) ?_
   rw [ih (x66+1) _ _ (by omega) (by omega) hz.1 hz.2]
   simp only [Ua,e2,e3,edY]
 exact key (x65-x66).toNat x66 Qf Qa (by omega) h0 hd hl
theorem QhK (x10:Int)(y2:Estate)(y3_1:List Keep)(Qb:List Endpoint)(Qc:List Item)(Qa:Dice)(h:(dOk Qa&&decide (0<=x10/\x10<=3/\Qc.length+x10.toNat<=100))=true):Ub x10 y2 y3_1 Qb Qc Qa=Uc x10 y2 y3_1 Qb Qc Qa:=by
 simp only [Bc,Ba] at h
 obtain ⟨hd,h0,h1,hl⟩:=h
 obtain ⟨n,rfl⟩:=Br h0
 rw [Bd] at hl
 have key: ∀ (n:Nat) (Qc:List Item) (Qa:Dice),dOk Qa=true->Qc.length+n<=100->Ub (n:Int) y2 y3_1 Qb Qc Qa=Uc (n:Int) y2 y3_1 Qb Qc Qa:=by
  intro n
  induction n with
  |zero=>
   intro Qc Qa _ _
   rw [Oa]
   simp only [Wd,Uc,show igt ((0:Nat):Int) 0=false from rfl,Ql,Bd,itZ,BP]
  |succ n ih=>
   intro Qc Qa hd hl
   rw [Oa]
   have e2:QD .i64 ((n+1:Nat):Int) 1=(n:Int):=(Ze (by omega)).trans (by omega)
   have c1:YO Qa sIt=true:=by simp [YO,hd]
   have c2:WA (Yr Qa sIt) (J7 Qa sIt)=true:=GI hd
   have c3: ∀ v,Qw Qc [v] 64=true:=fun v=>Jr (by omega) (by simp only [Bl];omega)
   simp only [Wd,show igt ((n+1:Nat):Int) 0=true from Be (by omega),Qg,e2,c1,c2,c3]
   refine Eq.trans (ih _ _ (VM (s:=J7 Qa sIt) (GI hd)) (by simp only [Bm,Bl];omega)) ?_
   simp only [Uc,Bd,itZ,BN,BM]
 exact key n Qc Qa hd (by omega)
theorem QhL:LO Jw UR FZ 0:=QI (s:=WX) fun x y h _ q=>by simp only [QG,QH] at q;exact (QhH x.2.2.2.1 x.2.2.2.2.1 x.2.2.2.2.2.1 x.2.2.2.2.2.2.1 y.1 y.2.2.2.2.2.2.1 y.2.2.2.2.2.2.2.1 y.2.2.2.2.2.2.2.2.1 y.2.2.2.2.2.2.2.2.2.1 h).trans q
theorem QhM:LO Jw US F0 1:=QI (s:=WY) fun x y h _ q=>by simp only [QG,QH] at q;exact (QhI x.2.2.2.1 x.2.2.2.2.1 x.2.2.2.2.2.1 x.2.2.2.2.2.2.1 x.2.2.2.2.2.2.2.1 x.2.2.2.2.2.2.2.2.1 y.1 y.2.2.2.2.2.2.1 y.2.2.2.2.2.2.2.1 y.2.2.2.2.2.2.2.2.1 y.2.2.2.2.2.2.2.2.2.1 h).trans q
theorem QhN:LO Jw UT F1 2:=QI (s:=WZ) fun x y h _ q=>by simp only [QG,QH] at q;exact (QhJ x.2.2.2.1 x.2.2.2.2.1 x.2.2.2.2.2.1 y.1 y.2.2.2.2.2.2.1 y.2.2.2.2.2.2.2.1 y.2.2.2.2.2.2.2.2.1 y.2.2.2.2.2.2.2.2.2.1 h).trans q
theorem QhO:LO Jw UU F3 3:=QI (s:=W0) fun x y h _ q=>by simp only [QG,QH] at q;exact (QhK x.2.2.2.1 y.1 y.2.1.2.1 y.2.2.2.2.2.2.1 y.2.2.2.2.2.2.2.2.1 y.2.2.2.2.2.2.2.2.2.1 h).trans q
theorem QhP:ZB.lok Jw:=by
 repeat (first|exact trivial|exact QhL|exact QhM|exact QhN|exact QhO|refine ⟨?_, ?_⟩)
set_option maxRecDepth 100000 in
theorem QhQ (d:Dice)(h:dOk d=true):GL d=some (.t Qo (Jh d),[.box (.t QB (Zj d))]):=by
 have hv:=Jm (d:=d) (n:=2) (by omega)
 have e:Qi .i64 2 (Qj d 2)=2+Qj d 2:=JL (by omega)
 have c1:QC d 2=true:=ZX h (by omega)
 have hn:=I5 d
 have hd:=QS (n:=2) h
 have hz:=Qbe (Q7 d) 0 (Qe d 2) hd
 have hy:=Qbf (Q7 d).length (Q7 d).length 0 [] _ hz (BZ _)
 have hy1:dOk (Jj d).2=true:=hy.1
 have hv3:=Jm (d:=(Jj d).2) (n:=3) (by omega)
 simp only [GL,show lsl Xx 0 (Qi .i64 2 (Qj d 2))=Q7 d from rfl,BT,BE,BL,Int.sub_zero,show (Qd (Q7 d)).toNat=(Q7 d).length by simp only [Qd];omega]
 simp only [show edY (Q7 d).length (Q7 d).length 0 [] (JJ (Q7 d) 0 (Qe d 2)).2=Jj d from rfl]
 refine brY c1 (brY (Be (by rw [e];refine ⟨by omega,by omega, ?_, ?_⟩<;>simp<;>omega)) (brY ?_ (brY ?_ ?_)))
 ·rw [JF (by omega),hd,hn.2.2]
  rfl
 ·rw [hz]
  exact Be (by simp only [Qd,BD];omega)
 ·have c2:QC (Jj d).2 3=true:=ZX hy1 (by omega)
  have c3:(dOk (Qe (Jj d).2 3)&&decide (0<=Qj (Jj d).2 3/\Qj (Jj d).2 3<=3/\([]:List Item).length+(Qj (Jj d).2 3).toNat<=100))=true:=by
   rw [QS hy1,Be (by simp only [BD];omega)]
   rfl
  cases hq:ieq (Qd (Jj d).1) 0 with
  |true=>
   rw [Qg]
   refine brY c2 (brY c3 ?_)
   unfold Jh WW
   rw [hq]
   rfl
  |false=>
   rw [Ql]
   refine brY c2 (brY c3 ?_)
   unfold Jh WW
   rw [hq]
   rfl
def Qbi:Ent:=UH QB .nil (fun d x=>(dOk d)) (fun d x=>(.t Qo (Jh d))) (fun d x=>(Zj d))
theorem Qqc:Qp Tryz.prog 47 (Qr Qbi):=FN (R:=QK Jw ZB GJ false) (mG Tryz.func47 (by kernel_rfl) Tryz.ntmps47 (by kernel_rfl) QhG QhP) rfl fun d x hok=>(QhF d).trans (QhQ d hok)
end
end Go.Proofs.YthlcobdnemhcdaaGreat.K
noncomputable section
namespace Go.Proofs.YthlcobdnemhcdaaGreat.K.SO
open Go.RowKit
noncomputable section
def QAV:List DO:=dT Tryz.f47 6
def QAW:List DO:=dT Tryz.f47 26
abbrev WX:Sh:=⟨[(0,.ptr 50000 0),(2,.ptr 2 0),(3,.ptr 3 0),(4,.ty (.sl .str)),(16,.ty (.sl .str)),(17,.ty tI),(18,.ty tI)],[(2,.box Qo),(3,.bag [.ms 20300,.ms 20301,.ms 20302]),(61,.no),(94,.no),(103,.no),(119,.no),(20300,.arr 111 QE),(20301,.arr 113 Qk),(20302,.arr 62 Qq),(50000,.box QB)]⟩
abbrev Qhx:Sh:=⟨[(0,.ptr 50000 0),(2,.ptr 2 0),(3,.ptr 3 0),(4,.ty (.sl .str))],[(2,.box Qo),(3,.bag [.ms 20300,.ms 20301,.ms 20302]),(61,.no),(94,.no),(103,.no),(119,.no),(20300,.arr 111 QE),(20301,.arr 113 Qk),(20302,.arr 62 Qq),(50000,.box QB)]⟩
abbrev WY:Sh:=⟨[(0,.ptr 50000 0),(2,.ptr 2 0),(3,.ptr 3 0),(4,.ty (.sl .str)),(8,.ty tI),(65,.ty tI),(66,.ty tI),(70,.ty tI),(71,.ty tI)],[(2,.box Qo),(3,.bag [.ms 20300,.ms 20301,.ms 20302]),(61,.no),(94,.no),(103,.no),(119,.no),(20300,.arr 111 QE),(20301,.arr 113 Qk),(20302,.arr 62 Qq),(50000,.box QB)]⟩
abbrev WZ:Sh:=⟨[(0,.ptr 50000 0),(2,.ptr 2 0),(3,.ptr 3 0),(4,.ty (.sl .str)),(65,.ty tI),(66,.ty tI)],[(2,.box Qo),(3,.bag [.ms 20300,.ms 20301,.ms 20302]),(61,.no),(94,.no),(103,.no),(119,.no),(20300,.arr 111 QE),(20301,.arr 113 Qk),(20302,.arr 62 Qq),(50000,.box QB)]⟩
abbrev Qhy:Sh:=⟨[(0,.ptr 50000 0),(2,.ptr 2 0),(3,.ptr 3 0)],[(2,.box Qo),(3,.bag [.ms 20300,.ms 20301,.ms 20302]),(61,.no),(94,.no),(103,.no),(119,.no),(20300,.arr 111 QE),(20301,.arr 113 Qk),(20302,.arr 62 Qq),(50000,.box QB)]⟩
abbrev W0:Sh:=⟨[(0,.ptr 50000 0),(2,.ptr 2 0),(3,.ptr 3 0),(10,.ty tI)],[(2,.box Qo),(3,.bag [.ms 20300,.ty (.sl Qk),.ms 20302]),(61,.no),(94,.no),(103,.no),(119,.no),(20300,.arr 111 QE),(20301,.no),(20302,.arr 62 Qq),(50000,.box QB)]⟩
abbrev Qhz:Sh:=⟨[(2,.ptr 2 0),(3,.ptr 3 0)],[(2,.box Qo),(3,.bag [.ms 20300,.ty (.sl Qk),.ms 20302]),(61,.no),(94,.no),(103,.no),(119,.no),(20300,.arr 111 QE),(20301,.no),(20302,.arr 62 Qq),(50000,.box QB)]⟩
def UR:Fg:=WX.f
def US:Fg:=WY.f
def UT:Fg:=WZ.f
def UU:Fg:=W0.f
def ZB:TC:=aF Tryz.f47 [(122,.nf 3 2 62 20302),(122,.nf 3 1 113 20301),(122,.nf 3 0 111 20300),(122,.nf 7 3 3 20703),(122,pL 0 UR),(1957,.fg ⟨[(0,none),(2,none),(3,none),(4,some (.sl .str))],[(2,some Qo),(3,some Qo),(61,none),(94,none),(103,none),(119,none),(20300,none),(20301,none),(20302,none),(50000,some QB)]⟩),(15666,pD [(0,[]),(1,[50000]),(2,[]),(3,[26,5026,10026,15026,50000]),(4,[]),(5,[]),(6,[]),(7,[]),(8,[50000]),(9,[32,5032,10032,15032,50000]),(10,[]),(11,[]),(12,[50000]),(13,[36,5036,10036,15036,50000]),(14,[]),(15,[]),(16,[50000]),(17,[40,5040,10040,15040,50000]),(18,[]),(19,[7,5007,10007,15007]),(20,[7,45,48,20703])] (.one 0 (.one 1 (.one 2 (.one 4 (.one 5 (.one 6 (.one 7 (.one 8 (.one 12 (.one 14 (.one 15 (.one 16 (.alt 3 (.alt 9 (.one 10 (.one 11 (.alt 13 (.alt 17 (.of [18,19,20]) (.of [19,17,18,20])) (.of [19,13,17,18,20])))) (.of [19,9,10,11,13,17,18,20])) (.of [19,3,9,10,11,13,17,18,20]))))))))))))))),(250,.nf 3 2 62 20302),(250,.nf 3 0 111 20300),(250,.nf 3 1 113 20301),(250,pL 2 UT),(4005,.fg ⟨[(0,none),(2,none),(3,none)],[(2,some Qo),(3,some Qo),(61,none),(94,none),(103,none),(119,none),(20300,none),(20301,none),(20302,none),(50000,some QB)]⟩),(64102,.nf 3 2 62 20302),(64102,.nf 3 0 111 20300),(64102,.nf 3 1 113 20301),(64102,pL 1 US),(1025637,.fg ⟨[(0,none),(2,none),(3,none),(4,some (.sl .str)),(65,some tI),(66,some tI)],[(2,some Qo),(3,some Qo),(61,none),(94,none),(103,none),(119,none),(20300,none),(20301,none),(20302,none),(50000,some QB)]⟩),(1018,.fz [20301,103]),(1018,.nf 3 1 113 20301),(1018,.nf 3 0 111 20300),(1018,.nf 3 2 62 20302),(1018,pL 3 UU),(16291,.fg ⟨[(2,none),(3,none)],[(2,some Qo),(3,some Qo),(61,none),(94,none),(103,none),(119,none),(20300,none),(20301,none),(20302,none),(50000,some QB)]⟩),(16292,pD [(0,[3,61,94,103,119,20300,20301,20302]),(1,[3,61,94,103,119,20300,20301,20302]),(2,[50000]),(3,[50000]),(4,[]),(5,[116,5116,10116,15116,50000]),(6,[117,5117,10117,15117,50000]),(7,[]),(8,[2,3,61,94,103,119,5119,10119,15119,20300,20301,20302]),(9,[3,61,94,103,119,20300,20301,20302]),(10,[2,3,61,94,103,119,20300,20301,20302])] (.of [0,1,2,3,4,5,6,7,8,9,10]))]
def FZ:TC:=lb 0 ZB
def F0:TC:=lb 1 ZB
def F1:TC:=lb 2 ZB
def F3:TC:=lb 3 ZB
def GJ:List (RV×Option Ty):=[((.c 2 true 3),none)]
def GK (x4 x16:List ByteArray)(x17 x18:Int)(y2:Estate)(Qb:List Endpoint)(Qf:List Keep)(Qc:List Item)(Qa:Dice):VS:=WX.st ((),(),(),x4,x16,x17,x18,()) (y2,((),(),(),()),(),(),(),(),Qb,Qf,Qc,Qa,())
def UV (x4:List ByteArray)(y2:Estate)(Qb:List Endpoint)(Qf:List Keep)(Qc:List Item)(Qa:Dice):VS:=Qhx.st ((),(),(),x4,()) (y2,((),(),(),()),(),(),(),(),Qb,Qf,Qc,Qa,())
def W8 (x4:List ByteArray)(x8 x65 x66 x70 x71:Int)(y2:Estate)(Qb:List Endpoint)(Qf:List Keep)(Qc:List Item)(Qa:Dice):VS:=WY.st ((),(),(),x4,x8,x65,x66,x70,x71,()) (y2,((),(),(),()),(),(),(),(),Qb,Qf,Qc,Qa,())
def YF (x4:List ByteArray)(x65 x66:Int)(y2:Estate)(Qb:List Endpoint)(Qf:List Keep)(Qc:List Item)(Qa:Dice):VS:=WZ.st ((),(),(),x4,x65,x66,()) (y2,((),(),(),()),(),(),(),(),Qb,Qf,Qc,Qa,())
def UW (y2:Estate)(Qb:List Endpoint)(Qf:List Keep)(Qc:List Item)(Qa:Dice):VS:=Qhy.st ((),(),(),()) (y2,((),(),(),()),(),(),(),(),Qb,Qf,Qc,Qa,())
def F4 (x10:Int)(y2:Estate)(y3_1:List Keep)(Qb:List Endpoint)(Qc:List Item)(Qa:Dice):VS:=W0.st ((),(),(),x10,()) (y2,((),y3_1,(),()),(),(),(),(),Qb,(),Qc,Qa,())
def UX (y2:Estate)(y3_1:List Keep)(Qb:List Endpoint)(Qc:List Item)(Qa:Dice):VS:=Qhz.st ((),(),()) (y2,((),y3_1,(),()),(),(),(),(),Qb,(),Qc,Qa,())
def QhA:VS->Option (Bool×List (Bool×Exit×VS)):=mkL WX (fun x y=>(Qy x.2.2.2.2.1 x.2.2.2.2.2.1 x.2.2.2.2.2.2.1&&(dOk y.2.2.2.2.2.2.2.2.2.1&&(decide (y.2.2.2.2.2.2.1.length<=x.2.2.2.2.2.2.1)&&x.2.2.2.2.1.all nm1)))) (fun x y=>[(true,.exit 0,UV (x.2.2.2.1) (y.1) (y.2.2.2.2.2.2.1++(JJ (x.2.2.2.2.1.drop x.2.2.2.2.2.2.1.toNat) x.2.2.2.2.2.2.1.toNat y.2.2.2.2.2.2.2.2.2.1).1) (y.2.2.2.2.2.2.2.1) (y.2.2.2.2.2.2.2.2.1) ((JJ (x.2.2.2.2.1.drop x.2.2.2.2.2.2.1.toNat) x.2.2.2.2.2.2.1.toNat y.2.2.2.2.2.2.2.2.2.1).2))])
def QhB:VS->Option (Bool×List (Bool×Exit×VS)):=mkL WY (fun x y=>(dOk y.2.2.2.2.2.2.2.2.2.1&&decide (0<=x.2.2.2.2.2.2.2.2.1/\x.2.2.2.2.2.2.2.2.1<=x.2.2.2.2.2.2.2.1/\x.2.2.2.2.2.2.2.1<=3/\y.2.2.2.2.2.2.2.1.length<=3))) (fun x y=>[(true,.exit 4,YF (x.2.2.2.1) (x.2.2.2.2.2.1) (x.2.2.2.2.2.2.1) (y.1) (y.2.2.2.2.2.2.1) ((edZ (x.2.2.2.2.2.2.2.1-x.2.2.2.2.2.2.2.2.1).toNat x.2.2.2.2.1 x.2.2.2.2.2.2.2.2.1 y.2.2.2.2.2.2.2.1 y.2.2.2.2.2.2.2.2.2.1).1) (y.2.2.2.2.2.2.2.2.1) ((edZ (x.2.2.2.2.2.2.2.1-x.2.2.2.2.2.2.2.2.1).toNat x.2.2.2.2.1 x.2.2.2.2.2.2.2.2.1 y.2.2.2.2.2.2.2.1 y.2.2.2.2.2.2.2.2.2.1).2))])
def QhC:VS->Option (Bool×List (Bool×Exit×VS)):=mkL WZ (fun x y=>(dOk y.2.2.2.2.2.2.2.2.2.1&&decide (0<=x.2.2.2.2.2.1/\x.2.2.2.2.2.1<=x.2.2.2.2.1/\x.2.2.2.2.1<=3/\x.2.2.2.1.length<=3/\y.2.2.2.2.2.2.2.1.length<=3))) (fun x y=>[(true,.exit 2,UW (y.1) (y.2.2.2.2.2.2.1) ((edY (x.2.2.2.2.1-x.2.2.2.2.2.1).toNat x.2.2.2.1.length x.2.2.2.2.2.1 y.2.2.2.2.2.2.2.1 y.2.2.2.2.2.2.2.2.2.1).1) (y.2.2.2.2.2.2.2.2.1) ((edY (x.2.2.2.2.1-x.2.2.2.2.2.1).toNat x.2.2.2.1.length x.2.2.2.2.2.1 y.2.2.2.2.2.2.2.1 y.2.2.2.2.2.2.2.2.2.1).2))])
def QhD:VS->Option (Bool×List (Bool×Exit×VS)):=mkL W0 (fun x y=>(dOk y.2.2.2.2.2.2.2.2.2.1&&decide (0<=x.2.2.2.1/\x.2.2.2.1<=3/\y.2.2.2.2.2.2.2.2.1.length+x.2.2.2.1.toNat<=100))) (fun x y=>[(true,.exit 6,UX (y.1) (y.2.1.2.1) (y.2.2.2.2.2.2.1) (y.2.2.2.2.2.2.2.2.1++(itZ x.2.2.2.1.toNat y.2.2.2.2.2.2.2.2.2.1).1) ((itZ x.2.2.2.1.toNat y.2.2.2.2.2.2.2.2.2.1).2))])
def Jw:G:=⟨TYs,[45,103],122,EL [(32,Ut),(35,Qd4),(48,VP),(49,Qc0),(50,ET),(87,Qfh),(88,Qfg)],keeps,(Ls [QhA,QhB,QhC,QhD]),IL [],RL []⟩
def Y7 (x4 x16:List ByteArray)(x17 x18:Int)(y2:Estate)(Qb:List Endpoint)(Qf:List Keep)(Qc:List Item)(Qa:Dice):OX:=Qx (Qz Jw UR FZ) (GK x4 x16 x17 x18 y2 Qb Qf Qc Qa)
def Z3 (kk:List ByteArray->List ByteArray->Int->Int->Estate->List Endpoint->List Keep->List Item->Dice->OX)(x4 x16:List ByteArray)(x17 x18:Int)(y2:Estate)(Qb:List Endpoint)(Qf:List Keep)(Qc:List Item)(Qa:Dice):OX:=
 let a5:=lgt .str x16 (Int.toNat x18)
 let a1:=JO a5 Jf (Qi .i64 100 x18) 1 901
 let a2:=(lgt (.sl tI) ([[10,8,2],[8,2],[2,10,8,3]]) (Int.toNat (Qj (Qs Qa ([3,3,4])) 3)))
 let a3:=(Qe (Qs Qa ([3,3,4])) 3)
 let a4:=((done a3 2),([(((a1.1).1,(((a1.1).2).1,())),((a1.2).1,(((a1.2).2).1,())))],([1],([2,3],((done (Qe a3 2) 3),())))))
 let a6:=(dof Qa ([3,3,4]))
 let a7:=WB a5 Jf (Qi .i64 100 x18) 1 901
 br (Q5 (Qe a3 2) 3) (br (ieq a6 4) (br (Qw ([14]) a2 8) (br a7 (br (Qw Qb ([(a5,(1,(a6,((([14])++a2),a4))))]) 144) (kk x4 x16 x17 (Qi .i64 x18 1) y2 (Qb++([(a5,(1,(a6,((([14])++a2),a4))))])) Qf Qc (Qe (Qe a3 2) 3)) none) none) none) (br a7 (br (Qw Qb ([(a5,(1,(a6,(a2,a4))))]) 144) (kk x4 x16 x17 (Qi .i64 x18 1) y2 (Qb++([(a5,(1,(a6,(a2,a4))))])) Qf Qc (Qe (Qe a3 2) 3)) none) none)) none
def YG (kk:List ByteArray->List ByteArray->Int->Int->Estate->List Endpoint->List Keep->List Item->Dice->OX)(x4 x16:List ByteArray)(x17 x18:Int)(y2:Estate)(Qb:List Endpoint)(Qf:List Keep)(Qc:List Item)(Qa:Dice):OX:=br (Q5 (Qe (Qs Qa ([3,3,4])) 3) 2) (Z3 kk x4 x16 x17 x18 y2 Qb Qf Qc Qa) none
def YH (kk:List ByteArray->List ByteArray->Int->Int->Estate->List Endpoint->List Keep->List Item->Dice->OX)(x4 x16:List ByteArray)(x17 x18:Int)(y2:Estate)(Qb:List Endpoint)(Qf:List Keep)(Qc:List Item)(Qa:Dice):OX:=
 let a1:=(Qs Qa ([3,3,4]))
 br (QC a1 3) (br (cIx ([[10,8,2],[8,2],[2,10,8,3]]) (Qj a1 3)) (YG kk x4 x16 x17 x18 y2 Qb Qf Qc Qa) none) none
def Y8 (kk:List ByteArray->List ByteArray->Int->Int->Estate->List Endpoint->List Keep->List Item->Dice->OX)(x4 x16:List ByteArray)(x17 x18:Int)(y2:Estate)(Qb:List Endpoint)(Qf:List Keep)(Qc:List Item)(Qa:Dice):OX:=
 let a1:=(Qs Qa ([3,3,4]))
 let a2:=(Q0 Qa ([3,3,4]))
 br (ilt x18 x17) (br (cIx x16 x18) (frk (br a2 (frk (br (QC a1 3) (br (cIx ([[10,8,2],[8,2],[2,10,8,3]]) (Qj a1 3)) (frk (br (Q5 (Qe a1 3) 2) (frk (Z3 kk x4 x16 x17 x18 y2 Qb Qf Qc Qa) (Z3 kk x4 x16 x17 x18 y2 Qb Qf Qc Qa)) none) (YG kk x4 x16 x17 x18 y2 Qb Qf Qc Qa)) none) none) (YH kk x4 x16 x17 x18 y2 Qb Qf Qc Qa)) none) (br a2 (YH kk x4 x16 x17 x18 y2 Qb Qf Qc Qa) none)) none) (some (.exit 0,UV x4 y2 Qb Qf Qc Qa))
def Z4 (x4 x16:List ByteArray)(x17 x18:Int)(y2:Estate)(Qb:List Endpoint)(Qf:List Keep)(Qc:List Item)(Qa:Dice):OX:=
 let a1:=JJ (x16.drop x18.toNat) x18.toNat Qa
 some (.exit 0,UV (x4) (y2) (Qb++a1.1) (Qf) (Qc) (a1.2))
theorem I7 (x4 x16:List ByteArray)(x17 x18:Int)(y2:Estate)(Qb:List Endpoint)(Qf:List Keep)(Qc:List Item)(Qa:Dice):Y7 x4 x16 x17 x18 y2 Qb Qf Qc Qa=Y8 Y7 x4 x16 x17 x18 y2 Qb Qf Qc Qa:=lnT (x:=Y8 (fun x4 x16 x17 x18 y2 Qb Qf Qc Qa=>some (.normal,GK x4 x16 x17 x18 y2 Qb Qf Qc Qa)) x4 x16 x17 x18 y2 Qb Qf Qc Qa) (by
 first
 |(simp only [ZT,Y8,Z3,YG,YH,ZT,Xq,XW,XX,XY,XZ]
   rfl)
 |(simp only [ZT,Y8,Z3,YG,YH,ZT]
   try generalize (Qw Qb ([((lgt .str x16 (Int.toNat x18)),(1,((dof Qa ([3,3,4])),((([14])++(lgt (.sl tI) ([[10,8,2],[8,2],[2,10,8,3]]) (Int.toNat (Qj (Qs Qa ([3,3,4])) 3)))),((done (Qe (Qs Qa ([3,3,4])) 3) 2),([((((JO (lgt .str x16 (Int.toNat x18)) Jf (Qi .i64 100 x18) 1 901).1).1,((((JO (lgt .str x16 (Int.toNat x18)) Jf (Qi .i64 100 x18) 1 901).1).2).1,())),(((JO (lgt .str x16 (Int.toNat x18)) Jf (Qi .i64 100 x18) 1 901).2).1,((((JO (lgt .str x16 (Int.toNat x18)) Jf (Qi .i64 100 x18) 1 901).2).2).1,())))],([1],([2,3],((done (Qe (Qe (Qs Qa ([3,3,4])) 3) 2) 3),())))))))))]) 144)=cq0
   try generalize ((WB (lgt .str x16 (Int.toNat x18)) Jf (Qi .i64 100 x18) 1 901))=cq1
   try generalize (Qw ([14]) (lgt (.sl tI) ([[10,8,2],[8,2],[2,10,8,3]]) (Int.toNat (Qj (Qs Qa ([3,3,4])) 3))) 8)=cq2
   try generalize (Qw Qb ([((lgt .str x16 (Int.toNat x18)),(1,((dof Qa ([3,3,4])),((lgt (.sl tI) ([[10,8,2],[8,2],[2,10,8,3]]) (Int.toNat (Qj (Qs Qa ([3,3,4])) 3))),((done (Qe (Qs Qa ([3,3,4])) 3) 2),([((((JO (lgt .str x16 (Int.toNat x18)) Jf (Qi .i64 100 x18) 1 901).1).1,((((JO (lgt .str x16 (Int.toNat x18)) Jf (Qi .i64 100 x18) 1 901).1).2).1,())),(((JO (lgt .str x16 (Int.toNat x18)) Jf (Qi .i64 100 x18) 1 901).2).1,((((JO (lgt .str x16 (Int.toNat x18)) Jf (Qi .i64 100 x18) 1 901).2).2).1,())))],([1],([2,3],((done (Qe (Qe (Qs Qa ([3,3,4])) 3) 2) 3),())))))))))]) 144)=cq3
   try generalize ((Q5 (Qe (Qe (Qs Qa ([3,3,4])) 3) 2) 3))=cq4
   try generalize ((Q5 (Qe (Qs Qa ([3,3,4])) 3) 2))=cq5
   try generalize (cIx ([[10,8,2],[8,2],[2,10,8,3]]) (Qj (Qs Qa ([3,3,4])) 3))=cq6
   try generalize ((QC (Qs Qa ([3,3,4])) 3))=cq7
   try generalize ((Q0 Qa ([3,3,4])))=cq8
   try generalize (cIx x16 x18)=cq9
   simp only [brN,ZT,Bool.and_assoc,Bool.and_comm,Bool.and_left_comm,B5,Bool.and_self_left,Xq,XW,XX,XY,XZ]
   try rfl))
def Y9 (x4:List ByteArray)(x8 x65 x66 x70 x71:Int)(y2:Estate)(Qb:List Endpoint)(Qf:List Keep)(Qc:List Item)(Qa:Dice):OX:=Qx (Qz Jw US F0) (W8 x4 x8 x65 x66 x70 x71 y2 Qb Qf Qc Qa)
def X8 (kk:List ByteArray->Int->Int->Int->Int->Int->Estate->List Endpoint->List Keep->List Item->Dice->OX)(x4:List ByteArray)(x8 x65 x66 x70 x71:Int)(y2:Estate)(Qb:List Endpoint)(Qf:List Keep)(Qc:List Item)(Qa:Dice):OX:=
 let a1:=Qi .i64 x71 1
 let a2:=Qe Qa 3
 br (ilt x71 x70) (br (ine x8 x71) (br (QC Qa 3) (br (igt (Qj Qa 3) 0) (br (ilt (Qd Qf) 3) (br (Qw Qf ([(x8,(x71,()))]) 16) (kk x4 x8 x65 x66 x70 a1 y2 Qb (Qf++([(x8,(x71,()))])) Qc a2) none) (kk x4 x8 x65 x66 x70 a1 y2 Qb Qf Qc a2)) (kk x4 x8 x65 x66 x70 a1 y2 Qb Qf Qc a2)) none) (kk x4 x8 x65 x66 x70 a1 y2 Qb Qf Qc Qa)) (some (.exit 4,YF x4 x65 x66 y2 Qb Qf Qc Qa))
def Z5 (x4:List ByteArray)(x8 x65 x66 x70 x71:Int)(y2:Estate)(Qb:List Endpoint)(Qf:List Keep)(Qc:List Item)(Qa:Dice):OX:=
 let a1:=edZ (x70-x71).toNat x8 x71 Qf Qa
 some (.exit 4,YF (x4) (x65) (x66) (y2) (Qb) (a1.1) (Qc) (a1.2))
theorem I8 (x4:List ByteArray)(x8 x65 x66 x70 x71:Int)(y2:Estate)(Qb:List Endpoint)(Qf:List Keep)(Qc:List Item)(Qa:Dice):Y9 x4 x8 x65 x66 x70 x71 y2 Qb Qf Qc Qa=X8 Y9 x4 x8 x65 x66 x70 x71 y2 Qb Qf Qc Qa:=lnT (x:=X8 (fun x4 x8 x65 x66 x70 x71 y2 Qb Qf Qc Qa=>some (.normal,W8 x4 x8 x65 x66 x70 x71 y2 Qb Qf Qc Qa)) x4 x8 x65 x66 x70 x71 y2 Qb Qf Qc Qa) (by simp only [X8,nxA];rfl)
def W9 (x4:List ByteArray)(x65 x66:Int)(y2:Estate)(Qb:List Endpoint)(Qf:List Keep)(Qc:List Item)(Qa:Dice):OX:=Qx (Qz Jw UT F1) (YF x4 x65 x66 y2 Qb Qf Qc Qa)
def X9 (kk:List ByteArray->Int->Int->Estate->List Endpoint->List Keep->List Item->Dice->OX)(x4:List ByteArray)(x65 x66:Int)(y2:Estate)(Qb:List Endpoint)(Qf:List Keep)(Qc:List Item)(Qa:Dice):OX:=
 let a1:=(edZ ((Qd x4)-(0:Int)).toNat x66 (0:Int) Qf Qa)
 br (ilt x66 x65) (br (dOk Qa&&decide (0<=(0:Int)/\(0:Int)<=(Qd x4)/\(Qd x4)<=3/\Qf.length<=3)) (kk (x4) (x65) (Qi .i64 (x66) 1) (y2) (Qb) (a1.1) (Qc) (a1.2)) none) (some (.exit 2,UW y2 Qb Qf Qc Qa))
def Ua (x4:List ByteArray)(x65 x66:Int)(y2:Estate)(Qb:List Endpoint)(Qf:List Keep)(Qc:List Item)(Qa:Dice):OX:=
 let a1:=edY (x65-x66).toNat x4.length x66 Qf Qa
 some (.exit 2,UW (y2) (Qb) (a1.1) (Qc) (a1.2))
theorem I9 (x4:List ByteArray)(x65 x66:Int)(y2:Estate)(Qb:List Endpoint)(Qf:List Keep)(Qc:List Item)(Qa:Dice):W9 x4 x65 x66 y2 Qb Qf Qc Qa=X9 W9 x4 x65 x66 y2 Qb Qf Qc Qa:=lnT (x:=X9 (fun x4 x65 x66 y2 Qb Qf Qc Qa=>some (.normal,YF x4 x65 x66 y2 Qb Qf Qc Qa)) x4 x65 x66 y2 Qb Qf Qc Qa) (by simp only [X9,nxA];rfl)
def Ub (x10:Int)(y2:Estate)(y3_1:List Keep)(Qb:List Endpoint)(Qc:List Item)(Qa:Dice):OX:=Qx (Qz Jw UU F3) (F4 x10 y2 y3_1 Qb Qc Qa)
def Wd (kk:Int->Estate->List Keep->List Endpoint->List Item->Dice->OX)(x10:Int)(y2:Estate)(y3_1:List Keep)(Qb:List Endpoint)(Qc:List Item)(Qa:Dice):OX:=
 let a2:=(ByteArray.mk #[98,97,99,107,117,112])
 let a3:=(ByteArray.mk #[100,101,101,100])
 let a5:=(Yr Qa ([a2,a3]))
 let a6:=(J7 Qa ([a2,a3]))
 let a1:=Xm a5 a6
 let a4:=((a1.2).1,(((a1.2).2).1,((((a1.2).2).2).1,(((((a1.2).2).2).2).1,()))))
 br (igt x10 0) (br (YO Qa ([a2,a3])) (br (WA a5 a6) (br (Qw Qc ([(a1.1,a4)]) 64) (kk (QD .i64 x10 1) y2 y3_1 Qb (Qc++([(a1.1,a4)])) (XS a5 a6)) none) none) none) (some (.exit 6,UX y2 y3_1 Qb Qc Qa))
def Uc (x10:Int)(y2:Estate)(y3_1:List Keep)(Qb:List Endpoint)(Qc:List Item)(Qa:Dice):OX:=some (.exit 6,UX (y2) (y3_1) (Qb) (Qc++(itZ x10.toNat Qa).1) ((itZ x10.toNat Qa).2))
theorem Oa (x10:Int)(y2:Estate)(y3_1:List Keep)(Qb:List Endpoint)(Qc:List Item)(Qa:Dice):Ub x10 y2 y3_1 Qb Qc Qa=Wd Ub x10 y2 y3_1 Qb Qc Qa:=lnT (x:=Wd (fun x10 y2 y3_1 Qb Qc Qa=>some (.normal,F4 x10 y2 y3_1 Qb Qc Qa)) x10 y2 y3_1 Qb Qc Qa) (by simp only [Wd,nxA];rfl)
def GL (d0:Dice):OV:=
 let a6:=(ByteArray.mk #[97,112,112])
 let a8:=(ByteArray.mk #[100,98])
 let a7:=(ByteArray.mk #[119,101,98])
 let a2:=(lsl ([a6,a8,a7]) 0 (Qi .i64 2 (Qj d0 2)))
 let a5:=(JJ (a2.drop (0:Int).toNat) (0:Int).toNat (Qe d0 2))
 let a1:=(edY ((Qd a2)-(0:Int)).toNat a2.length (0:Int) ([]:List Keep) (a5.2))
 let a3:=(dOk (Qe (a1.2) 3)&&decide (0<=(Qj (a1.2) 3)/\(Qj (a1.2) 3)<=3/\([]:List Item).length+(Qj (a1.2) 3).toNat<=100))
 let a4:=itZ (Qj (a1.2) 3).toNat (Qe (a1.2) 3)
 br (QC d0 2) (br (cSl ([a6,a8,a7]) 0 (Qi .i64 2 (Qj d0 2)) ((List.length ([a6,a8,a7]):Nat):Int)) (br (Qy a2 (Qd a2) (0:Int)&&(dOk (Qe d0 2)&&(decide (([]:List Endpoint).length<=(0:Int))&&a2.all nm1))) (br (dOk (a5.2)&&decide (0<=(0:Int)/\(0:Int)<=(Qd a2)/\(Qd a2)<=3/\a2.length<=3/\([]:List Keep).length<=3)) (br (ieq (Qd (a1.1)) 0) (br (QC (a1.2) 3) (br a3 (some (.ag [(.ms 50001),(.t (.sl Qk) ([(0,(1,()))])),(.ms 50002)],[.box (.t QB (a4.2)),.arr 111 QE (([]:List Endpoint)++a5.1),.arr 62 Qq (([]:List Item)++a4.1)])) none) none) (br (QC (a1.2) 3) (br a3 (some (.ag [(.ms 50001),(.t (.sl Qk) (a1.1)),(.ms 50002)],[.box (.t QB (a4.2)),.arr 111 QE (([]:List Endpoint)++a5.1),.arr 62 Qq (([]:List Item)++a4.1)])) none) none)) none) none) none) none
theorem QhF (d0:Dice):QK Jw ZB GJ true [.ptr 50000 0] [.box (.t QB d0)]=GL d0:=by kernel_rfl
theorem ok_f47:Option.map (trC Tryz.prog) Tryz.f47.body=some ZB.er:=by kernel_rfl
theorem QA1:Xo Tryz.prog Tryz.f47.results.toList=some (GJ.map Prod.fst):=by kernel_rfl
theorem Qqb:QV Tryz.prog 47:= .inr ⟨by decide,_,Tryz.func47,by kernel_rfl,by kernel_rfl⟩
theorem QhG:GOk Tryz.prog Jw:=Jg _ (gA (gD Gj (gD QkT (gD Qff (gD Qjr (gD Ve (gD QmL (gD QmK gN))))))))
theorem QhH (x4 x16:List ByteArray)(x17 x18:Int)(y2:Estate)(Qb:List Endpoint)(Qf:List Keep)(Qc:List Item)(Qa:Dice)(h:(Qy x16 x17 x18&&(dOk Qa&&(decide (Qb.length<=x18)&&x16.all nm1)))=true):Y7 x4 x16 x17 x18 y2 Qb Qf Qc Qa=Z4 x4 x16 x17 x18 y2 Qb Qf Qc Qa:=by
 simp only [Bc,Ba] at h
 obtain ⟨h0,hd,hl,ha⟩:=h
 obtain ⟨rfl,h3,k,rfl,hk⟩:=JE h0
 clear h0
 revert Qb Qa
 refine QX x16 (fun k=> ∀ (Qb:List Endpoint) (Qa:Dice),dOk Qa=true->(Qb.length:Int)<=(k:Int)->Y7 x4 x16 (x16.length:Int) (k:Int) y2 Qb Qf Qc Qa=Z4 x4 x16 (x16.length:Int) (k:Int) y2 Qb Qf Qc Qa) ?_ ?_ k hk
 ·intro Qb Qa _ _
  rw [I7]
  simp only [Y8,Z3,YG,YH,ZT,Z4,QA,BS,BV,Ql,Bd,B6,JJ,BP]
 ·intro k hk ih Qb Qa hd hl
  rw [I7]
  have c1:Q0 Qa [3,3,4]=true:=Qd1 hd (by decide) (by decide)
  have d1:=Y4 (l:=[3,3,4]) hd
  have c2:QC (Qs Qa [3,3,4]) 3=true:=ZX d1 (by omega)
  have d2:=QS (n:=3) d1
  have c3:Q5 (Qe (Qs Qa [3,3,4]) 3) 2=true:=Qd2 d2 (by omega) (by omega)
  have c4:Q5 (Qe (Qe (Qs Qa [3,3,4]) 3) 2) 3=true:=Qd2 (QS d2) (by omega) (by omega)
  have b3:=Jm (d:=Qs Qa [3,3,4]) (n:=3) (by omega)
  have c5:cIx ([[10,8,2],[8,2],[2,10,8,3]]:List (List Int)) (Qj (Qs Qa [3,3,4]) 3)=true:=Be ⟨b3.1,b3.2⟩
  have c6:WB x16[k] Jf (Qi .i64 100 (k:Int)) 1 901=true:=Bg.1 ha _ (Bu hk)
  have c7: ∀ v,Qw Qb [v] 144=true:=fun v=>Jr (by omega) (by simp only [Bl];omega)
  have b4: ∀ q,(lgt (.sl tI) [[10,8,2],[8,2],[2,10,8,3]] q).length<=4:=fun q=>Qro (by simp) q
  have c8:Qw ([14]:List Int) (lgt (.sl tI) [[10,8,2],[8,2],[2,10,8,3]] (Qj (Qs Qa [3,3,4]) 3).toNat) 8=true:=Jr (by decide) (by have:=b4 (Qj (Qs Qa [3,3,4]) 3).toNat;simp only [Bl];omega)
  simp only [Y8,Z3,YG,YH,ZT,QA,QM,hk,Bx,Qg,Bd,QW (show k<4611686018427387904 by omega),QP (y:= .str) hk,c1,c2,c3,c4,c6,c7,ZT]
  have hi: ∀ v,Y7 x4 x16 (x16.length:Int) ((k+1:Nat):Int) y2 (Qb++[v]) Qf Qc (Y6 Qa)=Z4 x4 x16 (x16.length:Int) ((k+1:Nat):Int) y2 (Qb++[v]) Qf Qc (Y6 Qa):=fun v=>ih _ _ (Qhv hd) (by simp only [Bm,Bl];omega)
  have goal2:Z4 x4 x16 (x16.length:Int) ((k+1:Nat):Int) y2 (Qb++[YE Qa k x16[k]]) Qf Qc (Y6 Qa)=Z4 x4 x16 (x16.length:Int) (k:Int) y2 Qb Qf Qc Qa:=by
   simp only [Z4,Bd,Bj hk,JJ,BN,BM]
  refine Eq.trans ?_ ((hi _).trans goal2)
  unfold YE UQ
  refine brY c5 ?_
  cases ieq (dof Qa [3,3,4]) 4 with
  |false=>rfl
  |true=>exact brY rfl (brY c8 rfl)
theorem QhI (x4:List ByteArray)(x8 x65 x66 x70 x71:Int)(y2:Estate)(Qb:List Endpoint)(Qf:List Keep)(Qc:List Item)(Qa:Dice)(h:(dOk Qa&&decide (0<=x71/\x71<=x70/\x70<=3/\Qf.length<=3))=true):Y9 x4 x8 x65 x66 x70 x71 y2 Qb Qf Qc Qa=Z5 x4 x8 x65 x66 x70 x71 y2 Qb Qf Qc Qa:=by
 simp only [Bc,Ba] at h
 obtain ⟨hd,h0,h1,h2,hl⟩:=h
 have key: ∀ (m:Nat) (x71:Int) (Qf:List Keep) (Qa:Dice),x71+m=x70->0<=x71->dOk Qa=true->Qf.length<=3->Y9 x4 x8 x65 x66 x70 x71 y2 Qb Qf Qc Qa=Z5 x4 x8 x65 x66 x70 x71 y2 Qb Qf Qc Qa:=by
  intro m
  induction m with
  |zero=>
   intro x71 Qf Qa e _ _ _
   rw [I8]
   have:x70=x71:=by omega
   subst this
   simp only [X8,Z5,show ilt x70 x70=false from Bt (by omega),Ql,Int.sub_self,BE,edZ]
  |succ m ih=>
   intro x71 Qf Qa e h0 hd hl
   rw [I8]
   have c1:QC Qa 3=true:=ZX hd (by omega)
   have c2:Qw Qf [(x8,(x71,()))] 16=true:=Jr (by omega) (by simp only [Bl];omega)
   have e1:Qi .i64 x71 1=x71+1:=JL (by omega)
   have e2:(x70-x71).toNat=m+1:=by omega
   have e3:(x70-(x71+1)).toNat=m:=by omega
   simp only [X8,show ilt x71 x70=true from Be (by omega),Qg,c1,c2,e1]
   have i0:=ih (x71+1) Qf Qa (by omega) (by omega) hd hl
   have i1:=ih (x71+1) Qf (Qe Qa 3) (by omega) (by omega) (QS hd) hl
   rw [i0,i1]
   cases hn:ine x8 x71 with
   |false=>simp only [Ql,Z5,e2,e3,edZ,hn,B3]
   |true=>
    cases hg:igt (Qj Qa 3) 0 with
    |false=>simp only [Qg,Ql,Z5,e2,e3,edZ,hn,hg,Db,Bool.false_and,B3]
    |true=>
     cases hq:ilt (Qd Qf) 3 with
     |false=>simp only [Qg,Ql,Z5,e2,e3,edZ,hn,hg,hq,Db,Bool.and_false,B3]
     |true=>
      have hl3:Qf.length<3:=by have:=BC hq;simp only [Qd] at this;omega
      have i2:=ih (x71+1) (Qf++[(x8,(x71,()))]) (Qe Qa 3) (by omega) (by omega) (QS hd) (by simp only [Bm,Bl];omega)
      rw [i2]
      simp only [Qg,Z5,e2,e3,edZ,hn,hg,hq,Db,B5]
 exact key (x70-x71).toNat x71 Qf Qa (by omega) h0 hd hl
theorem QhJ (x4:List ByteArray)(x65 x66:Int)(y2:Estate)(Qb:List Endpoint)(Qf:List Keep)(Qc:List Item)(Qa:Dice)(h:(dOk Qa&&decide (0<=x66/\x66<=x65/\x65<=3/\x4.length<=3/\Qf.length<=3))=true):W9 x4 x65 x66 y2 Qb Qf Qc Qa=Ua x4 x65 x66 y2 Qb Qf Qc Qa:=by
 simp only [Bc,Ba] at h
 obtain ⟨hd,h0,h1,h2,h3,hl⟩:=h
 have key: ∀ (m:Nat) (x66:Int) (Qf:List Keep) (Qa:Dice),x66+m=x65->0<=x66->dOk Qa=true->Qf.length<=3->W9 x4 x65 x66 y2 Qb Qf Qc Qa=Ua x4 x65 x66 y2 Qb Qf Qc Qa:=by
  intro m
  induction m with
  |zero=>
   intro x66 Qf Qa e _ _ _
   rw [I9]
   have:x65=x66:=by omega
   subst this
   simp only [X9,Ua,show ilt x65 x65=false from Bt (by omega),Ql,Int.sub_self,BE,edY]
  |succ m ih=>
   intro x66 Qf Qa e h0 hd hl
   rw [I9]
   have e1:Qi .i64 x66 1=x66+1:=JL (by omega)
   have e2:(x65-x66).toNat=m+1:=by omega
   have e3:(x65-(x66+1)).toNat=m:=by omega
   have e4:(Qd x4-0).toNat=x4.length:=by simp only [Qd];omega
   have hz:=GH x4.length x66 0 Qf Qa hd hl
   simp only [X9,show ilt x66 x65=true from Be (by omega),Qg,e1,e4,hd,By]
   refine brY (Be (by simp only [Qd];omega)) ?_
   rw [ih (x66+1) _ _ (by omega) (by omega) hz.1 hz.2]
   simp only [Ua,e2,e3,edY]
 exact key (x65-x66).toNat x66 Qf Qa (by omega) h0 hd hl
theorem QhK (x10:Int)(y2:Estate)(y3_1:List Keep)(Qb:List Endpoint)(Qc:List Item)(Qa:Dice)(h:(dOk Qa&&decide (0<=x10/\x10<=3/\Qc.length+x10.toNat<=100))=true):Ub x10 y2 y3_1 Qb Qc Qa=Uc x10 y2 y3_1 Qb Qc Qa:=by
 simp only [Bc,Ba] at h
 obtain ⟨hd,h0,h1,hl⟩:=h
 obtain ⟨n,rfl⟩:=Br h0
 rw [Bd] at hl
 have key: ∀ (n:Nat) (Qc:List Item) (Qa:Dice),dOk Qa=true->Qc.length+n<=100->Ub (n:Int) y2 y3_1 Qb Qc Qa=Uc (n:Int) y2 y3_1 Qb Qc Qa:=by
  intro n
  induction n with
  |zero=>
   intro Qc Qa _ _
   rw [Oa]
   simp only [Wd,Uc,show igt ((0:Nat):Int) 0=false from rfl,Ql,Bd,itZ,BP]
  |succ n ih=>
   intro Qc Qa hd hl
   rw [Oa]
   have e2:QD .i64 ((n+1:Nat):Int) 1=(n:Int):=(Ze (by omega)).trans (by omega)
   have c1:YO Qa sIt=true:=by simp [YO,hd]
   have c2:WA (Yr Qa sIt) (J7 Qa sIt)=true:=GI hd
   have c3: ∀ v,Qw Qc [v] 64=true:=fun v=>Jr (by omega) (by simp only [Bl];omega)
   simp only [Wd,show igt ((n+1:Nat):Int) 0=true from Be (by omega),Qg,e2,c1,c2,c3]
   refine Eq.trans (ih _ _ (VM (s:=J7 Qa sIt) (GI hd)) (by simp only [Bm,Bl];omega)) ?_
   simp only [Uc,Bd,itZ,BN,BM]
 exact key n Qc Qa hd (by omega)
theorem QhL:LO Jw UR FZ 0:=QI (s:=WX) fun x y h _ q=>by simp only [QG,QH] at q;exact (QhH x.2.2.2.1 x.2.2.2.2.1 x.2.2.2.2.2.1 x.2.2.2.2.2.2.1 y.1 y.2.2.2.2.2.2.1 y.2.2.2.2.2.2.2.1 y.2.2.2.2.2.2.2.2.1 y.2.2.2.2.2.2.2.2.2.1 h).trans q
theorem QhM:LO Jw US F0 1:=QI (s:=WY) fun x y h _ q=>by simp only [QG,QH] at q;exact (QhI x.2.2.2.1 x.2.2.2.2.1 x.2.2.2.2.2.1 x.2.2.2.2.2.2.1 x.2.2.2.2.2.2.2.1 x.2.2.2.2.2.2.2.2.1 y.1 y.2.2.2.2.2.2.1 y.2.2.2.2.2.2.2.1 y.2.2.2.2.2.2.2.2.1 y.2.2.2.2.2.2.2.2.2.1 h).trans q
theorem QhN:LO Jw UT F1 2:=QI (s:=WZ) fun x y h _ q=>by simp only [QG,QH] at q;exact (QhJ x.2.2.2.1 x.2.2.2.2.1 x.2.2.2.2.2.1 y.1 y.2.2.2.2.2.2.1 y.2.2.2.2.2.2.2.1 y.2.2.2.2.2.2.2.2.1 y.2.2.2.2.2.2.2.2.2.1 h).trans q
theorem QhO:LO Jw UU F3 3:=QI (s:=W0) fun x y h _ q=>by simp only [QG,QH] at q;exact (QhK x.2.2.2.1 y.1 y.2.1.2.1 y.2.2.2.2.2.2.1 y.2.2.2.2.2.2.2.2.1 y.2.2.2.2.2.2.2.2.2.1 h).trans q
theorem QhP:ZB.lok Jw:=by
 repeat (first|exact trivial|exact QhL|exact QhM|exact QhN|exact QhO|refine ⟨?_, ?_⟩)
set_option maxRecDepth 100000 in
theorem QhQ (d:Dice)(h:dOk d=true):GL d=some (.ag [.ms 50001,.t (.sl Qk) (Jh d).2.1,.ms 50002],[.box (.t QB (Zj d)),.arr 111 QE (Jh d).1,.arr 62 Qq (Jh d).2.2.1]):=by
 have hv:=Jm (d:=d) (n:=2) (by omega)
 have e:Qi .i64 2 (Qj d 2)=2+Qj d 2:=JL (by omega)
 have c1:QC d 2=true:=ZX h (by omega)
 have hn:=I5 d
 have hd:=QS (n:=2) h
 have hz:=Qbe (Q7 d) 0 (Qe d 2) hd
 have hy:=Qbf (Q7 d).length (Q7 d).length 0 [] _ hz (BZ _)
 have hy1:dOk (Jj d).2=true:=hy.1
 have hv3:=Jm (d:=(Jj d).2) (n:=3) (by omega)
 simp only [GL,show lsl Xx 0 (Qi .i64 2 (Qj d 2))=Q7 d from rfl,BT,BE,BL,Int.sub_zero,show (Qd (Q7 d)).toNat=(Q7 d).length by simp only [Qd];omega]
 simp only [show edY (Q7 d).length (Q7 d).length 0 [] (JJ (Q7 d) 0 (Qe d 2)).2=Jj d from rfl]
 refine brY c1 (brY (Be (by rw [e];refine ⟨by omega,by omega, ?_, ?_⟩<;>simp<;>omega)) (brY ?_ (brY ?_ ?_)))
 ·rw [JF (by omega),hd,hn.2.2]
  rfl
 ·rw [hz]
  exact Be (by simp only [Qd,BD];omega)
 ·have c2:QC (Jj d).2 3=true:=ZX hy1 (by omega)
  have c3:(dOk (Qe (Jj d).2 3)&&decide (0<=Qj (Jj d).2 3/\Qj (Jj d).2 3<=3/\([]:List Item).length+(Qj (Jj d).2 3).toNat<=100))=true:=by
   rw [QS hy1,Be (by simp only [BD];omega)]
   rfl
  cases hq:ieq (Qd (Jj d).1) 0 with
  |true=>
   rw [Qg]
   refine brY c2 (brY c3 ?_)
   unfold Jh WW
   rw [hq]
   rfl
  |false=>
   rw [Ql]
   refine brY c2 (brY c3 ?_)
   unfold Jh WW
   rw [hq]
   rfl
def Qbi:Ent:=YY [.ptr 50000 0] [.box QB] (fun x y=>(dOk y.1)) (fun x y=>(.ag [(.ms 50001),(.t (.sl Qk) (((Jh y.1).2).1)),(.ms 50002)])) (fun x y=>[.box (.t QB (Zj y.1)),.arr 111 QE ((Jh y.1).1),.arr 62 Qq ((((Jh y.1).2).2).1)])
theorem Qqc:Qp Tryz.prog 47 (Qr Qbi):=Xs (R:=QK Jw ZB GJ true) (mG Tryz.func47 (by kernel_rfl) Tryz.ntmps47 (by kernel_rfl) QhG QhP) fun x y hok=>(QhF y.1).trans (QhQ y.1 hok)
end
end Go.Proofs.YthlcobdnemhcdaaGreat.K.SO
noncomputable section
namespace Go.Proofs.YthlcobdnemhcdaaGreat.K
open Go.RowKit
def Gn (r:Rule)(u:Keep)(p:Int):Bool:=(r.Alg==0||r.Alg==u.1)&&(r.Purpose==0||r.Purpose==p)&&(r.Below==0||(decide (u.2.1 > 0)&&decide (u.2.1<r.Below)))
def Qnd (r:Rule)(day:Int):Bool:=decide (r.From<=day)&&decide (day<r.To)
def Il (r:Rule)(u:Keep)(p day:Int):Bool:=Gn r u p&&Qnd r day
def Qyk:TC:=aF Tryz.f152 []
def g_f152:G:=gG 43 [] (fun _ _=>none)
def QfD (p0:Rule)(p1:Keep)(p2:Int):OV:=br (ieq p0.2.2.1 0) (some (.t .bool true,[])) (br (igt p1.2.1 0) (some (.t .bool (ilt p1.2.1 p0.2.2.1),[])) (some (.t .bool false,[])))
def QfE (p0:Rule)(p1:Keep)(p2:Int):OV:=br (ine p0.2.2.2.1 0) (br (ine p0.2.2.2.1 p2) (some (.t .bool false,[])) (QfD p0 p1 p2)) (QfD p0 p1 p2)
def Qne (p0:Rule)(p1:Keep)(p2:Int):OV:=br (ine p0.2.1 0) (br (ine p0.2.1 p1.1) (some (.t .bool false,[])) (QfE p0 p1 p2)) (QfE p0 p1 p2)
theorem s_f152 (p0:Rule)(p1:Keep)(p2:Int):Qne p0 p1 p2=some (.t .bool (Gn p0 p1 p2),[]):=by
 simp only [Qne,QfE,QfD]
 repeat' (refine Q8 ?_ ?_<;>intro _)
 all_goals (simp_all [Gn,Estate.Endpoints,Estate.Edges,Estate.Items,Policy.Rules,Policy.Keeps,Keep.Alg,Keep.Bits,Link.Use,Link.Day,Job.Item,Job.Link,Item.Name,Item.Kind,Item.Purpose,Item.Links,Item.Until,Rule.Allow,Rule.Alg,Rule.Below,Rule.Purpose,Rule.From,Rule.To,Exception.Use,Exception.Purpose,Exception.Endpoint,Exception.Days,Exception.Seals,Dice.L,Dice.At,Endpoint.Name,Endpoint.Least,Endpoint.Most,Endpoint.Suites,Endpoint.OwnOrder,Endpoint.Identities,Endpoint.Anchors,Endpoint.Hashes,Endpoint.Fallback,Identity.Key,Identity.KeyId,Identity.Chain,Change.Endpoint,Change.Kind,Change.Number,Change.At,Change.Identity,Rules.p,Rules.l,Rules.o,Rules.day,Method.outcome,Method.uses,Certificate.Serial,Certificate.Issuer,Certificate.Subject,Certificate.Key,Certificate.KeyId,Certificate.Hash,Certificate.From,Certificate.To,Certificate.Authority,Certificate.Path,Certificate.Names,Certificate.Seal,LinkX.day,LinkX.fall,LinkX.falls,Suite.Code,Suite.Name,Suite.Exchange,Suite.Sign,Suite.Cipher,Suite.Mac,Suite.Least,Suite.Most,Row.name,Row.kind,Row.way,Row.sizes,Row.strengths,Talk.server,Talk.version,Talk.suites,Symbol.name,Symbol.kind]<;>omega)
def Qnf:Ent:=Qn (.pr QY (.pr Qk (.pr tI .nil))) (fun x=>true) (fun x=>(.t .bool (Gn x.1 x.2.1 x.2.2.1)))
theorem Qyl:EM 152 Qnf:=mS g_f152 Qyk [((.t 6),some .bool)] false (gB gN) fun m=>Qt m fun x _=>kT (s_f152 x.1 x.2.1 x.2.2.1)
def same (a b:List Keep):Bool:=a==b
end Go.Proofs.YthlcobdnemhcdaaGreat.K
noncomputable section
namespace Go.Proofs.YthlcobdnemhcdaaGreat.K
open Go.RowKit
def XC (r:Rule):Bool:=decide (0<=r.Alg/\r.Alg<=22/\0<=r.Below/\r.Below<=16384/\0<=r.Purpose/\r.Purpose<=4/\0<=r.From/\r.From<r.To/\r.To<=40001)
def XD (k:Keep):Bool:=decide (1<=k.1/\k.1<=4/\0<=k.2.1/\k.2.1<=40000)
def Yo (r:Rule):Bool:= !XC r
def Yp (k:Keep):Bool:= !XD k
def QCM:TC:=aF Tryz.f145 []
def g_f145:G:=gG 48 [] (fun _ _=>none)
def QrW (p0:Rule):OV:=br (ige p0.2.1 0) (br (ile p0.2.1 22) (br (ige p0.2.2.1 0) (br (ile p0.2.2.1 16384) (br (ige p0.2.2.2.1 0) (br (ile p0.2.2.2.1 4) (br (ige p0.2.2.2.2.1 0) (br (ilt p0.2.2.2.2.1 p0.2.2.2.2.2.1) (some (.t .bool (ile p0.2.2.2.2.2.1 40001),[])) (some (.t .bool false,[]))) (some (.t .bool false,[]))) (some (.t .bool false,[]))) (some (.t .bool false,[]))) (some (.t .bool false,[]))) (some (.t .bool false,[]))) (some (.t .bool false,[]))) (some (.t .bool false,[]))
theorem s_f145 (r:Rule):QrW r=some (.t .bool (XC r),[]):=by
 simp only [QrW]
 repeat' (refine Q8 ?_ ?_<;>intro _)
 all_goals simp only [ige,ile,ilt,Ba,Bo,Estate.Endpoints,Estate.Edges,Estate.Items,Policy.Rules,Policy.Keeps,Keep.Alg,Keep.Bits,Link.Use,Link.Day,Job.Item,Job.Link,Item.Name,Item.Kind,Item.Purpose,Item.Links,Item.Until,Rule.Allow,Rule.Alg,Rule.Below,Rule.Purpose,Rule.From,Rule.To,Exception.Use,Exception.Purpose,Exception.Endpoint,Exception.Days,Exception.Seals,Dice.L,Dice.At,Endpoint.Name,Endpoint.Least,Endpoint.Most,Endpoint.Suites,Endpoint.OwnOrder,Endpoint.Identities,Endpoint.Anchors,Endpoint.Hashes,Endpoint.Fallback,Identity.Key,Identity.KeyId,Identity.Chain,Change.Endpoint,Change.Kind,Change.Number,Change.At,Change.Identity,Rules.p,Rules.l,Rules.o,Rules.day,Method.outcome,Method.uses,Certificate.Serial,Certificate.Issuer,Certificate.Subject,Certificate.Key,Certificate.KeyId,Certificate.Hash,Certificate.From,Certificate.To,Certificate.Authority,Certificate.Path,Certificate.Names,Certificate.Seal,LinkX.day,LinkX.fall,LinkX.falls,Suite.Code,Suite.Name,Suite.Exchange,Suite.Sign,Suite.Cipher,Suite.Mac,Suite.Least,Suite.Most,Row.name,Row.kind,Row.way,Row.sizes,Row.strengths,Talk.server,Talk.version,Talk.suites,Symbol.name,Symbol.kind] at*
 all_goals (apply ES;unfold XC;rw [DI];simp only [ige,ile,ilt,Ba,Estate.Endpoints,Estate.Edges,Estate.Items,Policy.Rules,Policy.Keeps,Keep.Alg,Keep.Bits,Link.Use,Link.Day,Job.Item,Job.Link,Item.Name,Item.Kind,Item.Purpose,Item.Links,Item.Until,Rule.Allow,Rule.Alg,Rule.Below,Rule.Purpose,Rule.From,Rule.To,Exception.Use,Exception.Purpose,Exception.Endpoint,Exception.Days,Exception.Seals,Dice.L,Dice.At,Endpoint.Name,Endpoint.Least,Endpoint.Most,Endpoint.Suites,Endpoint.OwnOrder,Endpoint.Identities,Endpoint.Anchors,Endpoint.Hashes,Endpoint.Fallback,Identity.Key,Identity.KeyId,Identity.Chain,Change.Endpoint,Change.Kind,Change.Number,Change.At,Change.Identity,Rules.p,Rules.l,Rules.o,Rules.day,Method.outcome,Method.uses,Certificate.Serial,Certificate.Issuer,Certificate.Subject,Certificate.Key,Certificate.KeyId,Certificate.Hash,Certificate.From,Certificate.To,Certificate.Authority,Certificate.Path,Certificate.Names,Certificate.Seal,LinkX.day,LinkX.fall,LinkX.falls,Suite.Code,Suite.Name,Suite.Exchange,Suite.Sign,Suite.Cipher,Suite.Mac,Suite.Least,Suite.Most,Row.name,Row.kind,Row.way,Row.sizes,Row.strengths,Talk.server,Talk.version,Talk.suites,Symbol.name,Symbol.kind,BG,false_iff];omega)
def QrX:Ent:=Qn (.pr QY .nil) (fun x=>true) (fun x=>(.t .bool (XC x.1)))
theorem QCN:EM 145 QrX:=mS g_f145 QCM [((.t 2),some .bool)] false (gB gN) fun m=>Qt m fun x _=>kT (s_f145 x.1)
def QCO:TC:=aF Tryz.f148 []
def g_f148:G:=gG 21 [] (fun _ _=>none)
def QrY (p0:Keep):OV:=br (ige p0.1 1) (br (ile p0.1 4) (br (ige p0.2.1 0) (some (.t .bool (ile p0.2.1 40000),[])) (some (.t .bool false,[]))) (some (.t .bool false,[]))) (some (.t .bool false,[]))
theorem s_f148 (r:Keep):QrY r=some (.t .bool (XD r),[]):=by
 simp only [QrY]
 repeat' (refine Q8 ?_ ?_<;>intro _)
 all_goals simp only [ige,ile,ilt,Ba,Bo,Estate.Endpoints,Estate.Edges,Estate.Items,Policy.Rules,Policy.Keeps,Keep.Alg,Keep.Bits,Link.Use,Link.Day,Job.Item,Job.Link,Item.Name,Item.Kind,Item.Purpose,Item.Links,Item.Until,Rule.Allow,Rule.Alg,Rule.Below,Rule.Purpose,Rule.From,Rule.To,Exception.Use,Exception.Purpose,Exception.Endpoint,Exception.Days,Exception.Seals,Dice.L,Dice.At,Endpoint.Name,Endpoint.Least,Endpoint.Most,Endpoint.Suites,Endpoint.OwnOrder,Endpoint.Identities,Endpoint.Anchors,Endpoint.Hashes,Endpoint.Fallback,Identity.Key,Identity.KeyId,Identity.Chain,Change.Endpoint,Change.Kind,Change.Number,Change.At,Change.Identity,Rules.p,Rules.l,Rules.o,Rules.day,Method.outcome,Method.uses,Certificate.Serial,Certificate.Issuer,Certificate.Subject,Certificate.Key,Certificate.KeyId,Certificate.Hash,Certificate.From,Certificate.To,Certificate.Authority,Certificate.Path,Certificate.Names,Certificate.Seal,LinkX.day,LinkX.fall,LinkX.falls,Suite.Code,Suite.Name,Suite.Exchange,Suite.Sign,Suite.Cipher,Suite.Mac,Suite.Least,Suite.Most,Row.name,Row.kind,Row.way,Row.sizes,Row.strengths,Talk.server,Talk.version,Talk.suites,Symbol.name,Symbol.kind] at*
 all_goals (apply ES;unfold XD;rw [DI];simp only [ige,ile,ilt,Ba,Estate.Endpoints,Estate.Edges,Estate.Items,Policy.Rules,Policy.Keeps,Keep.Alg,Keep.Bits,Link.Use,Link.Day,Job.Item,Job.Link,Item.Name,Item.Kind,Item.Purpose,Item.Links,Item.Until,Rule.Allow,Rule.Alg,Rule.Below,Rule.Purpose,Rule.From,Rule.To,Exception.Use,Exception.Purpose,Exception.Endpoint,Exception.Days,Exception.Seals,Dice.L,Dice.At,Endpoint.Name,Endpoint.Least,Endpoint.Most,Endpoint.Suites,Endpoint.OwnOrder,Endpoint.Identities,Endpoint.Anchors,Endpoint.Hashes,Endpoint.Fallback,Identity.Key,Identity.KeyId,Identity.Chain,Change.Endpoint,Change.Kind,Change.Number,Change.At,Change.Identity,Rules.p,Rules.l,Rules.o,Rules.day,Method.outcome,Method.uses,Certificate.Serial,Certificate.Issuer,Certificate.Subject,Certificate.Key,Certificate.KeyId,Certificate.Hash,Certificate.From,Certificate.To,Certificate.Authority,Certificate.Path,Certificate.Names,Certificate.Seal,LinkX.day,LinkX.fall,LinkX.falls,Suite.Code,Suite.Name,Suite.Exchange,Suite.Sign,Suite.Cipher,Suite.Mac,Suite.Least,Suite.Most,Row.name,Row.kind,Row.way,Row.sizes,Row.strengths,Talk.server,Talk.version,Talk.suites,Symbol.name,Symbol.kind,BG,false_iff];omega)
def QrZ:Ent:=Qn (.pr Qk .nil) (fun x=>true) (fun x=>(.t .bool (XD x.1)))
theorem QCP:EM 148 QrZ:=mS g_f148 QCO [((.t 2),some .bool)] false (gB gN) fun m=>Qt m fun x _=>kT (s_f148 x.1)
def QCQ:TC:=aF Tryz.f144 []
def g_f144:G:=gG 6 [(145,QrX)] (fun _ _=>none)
def r_f144 (p0:Rule):OV:=some (.t .bool (!(XC p0)),[])
theorem s_f144 (r:Rule):r_f144 r=some (.t .bool (Yo r),[]):=rfl
def Qr0:Ent:=Qn (.pr QY .nil) (fun x=>true) (fun x=>(.t .bool (Yo x.1)))
theorem QCR:EM 144 Qr0:=mS g_f144 QCQ [((.t 2),some .bool)] false (gB (gD QCN gN)) fun m=>Qt m fun x _=>kT (s_f144 x.1)
def QCS:TC:=aF Tryz.f147 []
def g_f147:G:=gG 6 [(148,QrZ)] (fun _ _=>none)
def r_f147 (p0:Keep):OV:=some (.t .bool (!(XD p0)),[])
theorem s_f147 (r:Keep):r_f147 r=some (.t .bool (Yp r),[]):=rfl
def Qr1:Ent:=Qn (.pr Qk .nil) (fun x=>true) (fun x=>(.t .bool (Yp x.1)))
theorem QCT:EM 147 Qr1:=mS g_f147 QCS [((.t 2),some .bool)] false (gB (gD QCP gN)) fun m=>Qt m fun x _=>kT (s_f147 x.1)
def JN {α:Type}(m:α->Bool):List α->Option Nat
 | []=>none
 |a::l=>if m a then some 0 else (JN m l).map (· + 1)
theorem Qcb {α:Type}{m:α->Bool}: ∀ {l:List α},JN m l=none↔l.any m=false
 | []=>by simp [JN]
 |a::l=>by
  have ih:=Qcb (m:=m) (l:=l)
  unfold JN
  cases h:m a with
  |true=>simp [h]
  |false=>simpa [h] using ih
theorem Qr2 {α:Type}{m:α->Bool}{l:List α}{k:Nat}(h:JN m l=some k):l.any m=true:=by
 cases hq:l.any m with
 |true=>rfl
 |false=>rw [Qcb.2 hq] at h;cases h
def Q2 {α:Type}(l:List α):Bool:=decide (l.length<=100000)
def Ot (l:List Rule):Int:=match JN Yo l with|some k=>(k:Int)|none=> -1
def Ou (l:List Keep):Int:=match JN Yp l with|some k=>(k:Int)|none=> -1
abbrev Qcc:Sh:=⟨[(0,.ty (.sl QY)),(1,.cf 144),(7,.ty tI),(8,.ty tI)],[]⟩
abbrev Qiv:Sh:=⟨[(4,.ty tI)],[]⟩
abbrev Qcd:Sh:=⟨[],[]⟩
def Qiw:Fg:=Qcc.f
def Qr3:TC:=aF Tryz.f196 [(26,pL 0 Qiw),(421,.fg Qcd.f),(13517,.fg Qiv.f)]
def Qr4:TC:=lb 0 Qr3
def Qr5 (x0:List Rule)(x7 x8:Int):VS:=Qcc.st (x0,(),x7,x8,()) ()
def Ed (x4:Int):VS:=Qiv.st (x4,()) ()
def Qix  : VS:=Qcd.st () ()
def QCU:VS->Option (Bool×List (Bool×Exit×VS)):=mkL Qcc (fun x y=>(Qy x.1 x.2.2.1 x.2.2.2.1)) (fun x y=>[(((JN Yo (x.1.drop x.2.2.2.1.toNat)).isSome),.ret,Ed (x.2.2.2.1+((JN Yo (x.1.drop x.2.2.2.1.toNat)).getD 0:Nat))),(true,.exit 0,Qix)])
def Qiy:G:=gG 19 [(144,Qr0)] (Ls [QCU])
def Qce (x0:List Rule)(x7 x8:Int):OX:=Qx (Qz Qiy Qiw Qr4) (Qr5 x0 x7 x8)
def Ov (kk:List Rule->Int->Int->OX)(x0:List Rule)(x7 x8:Int):OX:=br (ilt x8 x7) (br (cIx x0 x8) (br (Yo (lgt QY x0 (Int.toNat x8))) (some (.ret,Ed x8)) (kk x0 x7 (Qi .i64 x8 1))) none) (some (.exit 0,Qix))
def Qcf (x0:List Rule)(x7 x8:Int):OX:=
 let a1:=JN Yo (x0.drop x8.toNat)
 br (a1.isSome) (some (.ret,Ed (x8+(a1.getD 0:Nat))))<|some (.exit 0,Qix)
theorem Qr6 (x0:List Rule)(x7 x8:Int):Qce x0 x7 x8=Ov Qce x0 x7 x8:=lnT (x:=Ov (fun x0 x7 x8=>some (.normal,Qr5 x0 x7 x8)) x0 x7 x8) (by simp only [Ov,nxA];rfl)
def Qr7 (p0:List Rule):OV:=
 let a1:=(JN Yo (p0.drop (0:Int).toNat))
 br (Qy p0 (Qd p0) (0:Int)) (br (a1.isSome) (some (.t tI ((0:Int)+(a1.getD 0:Nat)),[])) (some (.t tI (-1),[]))) none
theorem QCV (x0:List Rule)(x7 x8:Int)(h:(Qy x0 x7 x8)=true):Qce x0 x7 x8=Qcf x0 x7 x8:=by
 obtain ⟨rfl,h3,k,rfl,hk⟩:=JE h
 clear h
 refine QX x0 (fun k=>Qce x0 (x0.length:Int) (k:Int)=Qcf x0 (x0.length:Int) (k:Int)) ?_ ?_ k hk
 ·rw [Qr6]
  simp [Ov,Qcf,QA,Ql,JN]
 ·intro k hk ih
  rw [Qr6]
  simp only [Ov,QA,QM,hk,Bx,Qg,Bd,QW (show k<4611686018427387904 by omega),ih,QP (y:=QY) hk]
  simp only [Qcf,Bd,Bj hk,JN]
  cases h:Yo x0[k] with
  |true=>simp [Qg]
  |false=>
   simp only [Ql,BG,Df]
   cases hq:JN Yo (x0.drop (k+1)) with
   |none=>rfl
   |some j=>
    simp only [B0,Dn,BU,Qg]
    congr 3
    omega
theorem QCW:LO Qiy Qiw Qr4 0:=QI (s:=Qcc) fun x y h _ q=>by simp only [QG,QH] at q;exact (QCV x.1 x.2.2.1 x.2.2.2.1 h).trans q
theorem QCX (l:List Rule)(h:Q2 l=true):Qr7 l=some (.t tI (Ot l),[]):=by
 simp only [Q2,Ba] at h
 simp only [Qr7,JF h,Qg,BE,BL,Ot]
 cases JN Yo l<;>simp [Qg,Ql]
def Qr8:Ent:=X6 [.ty (.sl QY),.cf 144] [] (fun x d=>(Q2 x.1)) (fun x d=>(.t tI (Ot x.1)))
theorem QCY:EM 196 Qr8:=mS (lk:=lkL (lkc QCW lkn)) Qiy Qr3 [((.t 4),some tI)] false (gB (gD QCR gN)) fun m=>UI m fun x d hok=>kT (QCX x.1 hok)
def Ee (l:List Rule):Bool:=l.any Yo
def QCZ:TC:=aF Tryz.f143 []
def QC0:G:=gG 9 [(196,Qr8)] (fun _ _=>none)
def Qr9 (p0:List Rule):OV:=br (Q2 p0) (some (.t .bool (ige (Ot p0) 0),[])) none
theorem QC1 (l:List Rule)(h:Q2 l=true):Qr9 l=some (.t .bool (Ee l),[]):=by
 simp only [Qr9,h,Qg]
 congr 3
 unfold Ot Ee
 cases hq:JN Yo l with
 |none=>rw [Qcb.1 hq];rfl
 |some k=>rw [Qr2 hq];simp only [ige,Ba];omega
def Qsa:Ent:=X6 [.ty (.sl QY),.cf 144] [] (fun x d=>(Q2 x.1)) (fun x d=>(.t .bool (Ee x.1)))
theorem QC2:EM 143 Qsa:=mS QC0 QCZ [((.t 4),some .bool)] false (gB (gD QCY gN)) fun m=>UI m fun x d hok=>kT (QC1 x.1 hok)
abbrev Qcg:Sh:=⟨[(0,.ty (.sl Qk)),(1,.cf 147),(7,.ty tI),(8,.ty tI)],[]⟩
def Qiz:Fg:=Qcg.f
def Qsb:TC:=aF Tryz.f197 [(26,pL 0 Qiz),(421,.fg Qcd.f),(13517,.fg Qiv.f)]
def Qsc:TC:=lb 0 Qsb
def Qsd (x0:List Keep)(x7 x8:Int):VS:=Qcg.st (x0,(),x7,x8,()) ()
def QiA  : VS:=Qcd.st () ()
def QC3:VS->Option (Bool×List (Bool×Exit×VS)):=mkL Qcg (fun x y=>(Qy x.1 x.2.2.1 x.2.2.2.1)) (fun x y=>[(((JN Yp (x.1.drop x.2.2.2.1.toNat)).isSome),.ret,Ed (x.2.2.2.1+((JN Yp (x.1.drop x.2.2.2.1.toNat)).getD 0:Nat))),(true,.exit 0,QiA)])
def QiB:G:=gG 19 [(147,Qr1)] (Ls [QC3])
def Qch (x0:List Keep)(x7 x8:Int):OX:=Qx (Qz QiB Qiz Qsc) (Qsd x0 x7 x8)
def Ow (kk:List Keep->Int->Int->OX)(x0:List Keep)(x7 x8:Int):OX:=br (ilt x8 x7) (br (cIx x0 x8) (br (Yp (lgt Qk x0 (Int.toNat x8))) (some (.ret,Ed x8)) (kk x0 x7 (Qi .i64 x8 1))) none) (some (.exit 0,QiA))
def Qci (x0:List Keep)(x7 x8:Int):OX:=
 let a1:=JN Yp (x0.drop x8.toNat)
 br (a1.isSome) (some (.ret,Ed (x8+(a1.getD 0:Nat))))<|some (.exit 0,QiA)
theorem Qse (x0:List Keep)(x7 x8:Int):Qch x0 x7 x8=Ow Qch x0 x7 x8:=lnT (x:=Ow (fun x0 x7 x8=>some (.normal,Qsd x0 x7 x8)) x0 x7 x8) (by simp only [Ow,nxA];rfl)
def Qsf (p0:List Keep):OV:=
 let a1:=(JN Yp (p0.drop (0:Int).toNat))
 br (Qy p0 (Qd p0) (0:Int)) (br (a1.isSome) (some (.t tI ((0:Int)+(a1.getD 0:Nat)),[])) (some (.t tI (-1),[]))) none
theorem QC4 (x0:List Keep)(x7 x8:Int)(h:(Qy x0 x7 x8)=true):Qch x0 x7 x8=Qci x0 x7 x8:=by
 obtain ⟨rfl,h3,k,rfl,hk⟩:=JE h
 clear h
 refine QX x0 (fun k=>Qch x0 (x0.length:Int) (k:Int)=Qci x0 (x0.length:Int) (k:Int)) ?_ ?_ k hk
 ·rw [Qse]
  simp [Ow,Qci,QA,Ql,JN]
 ·intro k hk ih
  rw [Qse]
  simp only [Ow,QA,QM,hk,Bx,Qg,Bd,QW (show k<4611686018427387904 by omega),ih,QP (y:=Qk) hk]
  simp only [Qci,Bd,Bj hk,JN]
  cases h:Yp x0[k] with
  |true=>simp [Qg]
  |false=>
   simp only [Ql,BG,Df]
   cases hq:JN Yp (x0.drop (k+1)) with
   |none=>rfl
   |some j=>
    simp only [B0,Dn,BU,Qg]
    congr 3
    omega
theorem QC5:LO QiB Qiz Qsc 0:=QI (s:=Qcg) fun x y h _ q=>by simp only [QG,QH] at q;exact (QC4 x.1 x.2.2.1 x.2.2.2.1 h).trans q
theorem QC6 (l:List Keep)(h:Q2 l=true):Qsf l=some (.t tI (Ou l),[]):=by
 simp only [Q2,Ba] at h
 simp only [Qsf,JF h,Qg,BE,BL,Ou]
 cases JN Yp l<;>simp [Qg,Ql]
def Qsg:Ent:=X6 [.ty (.sl Qk),.cf 147] [] (fun x d=>(Q2 x.1)) (fun x d=>(.t tI (Ou x.1)))
theorem QC7:EM 197 Qsg:=mS (lk:=lkL (lkc QC5 lkn)) QiB Qsb [((.t 4),some tI)] false (gB (gD QCT gN)) fun m=>UI m fun x d hok=>kT (QC6 x.1 hok)
def Ef (l:List Keep):Bool:=l.any Yp
def QC8:TC:=aF Tryz.f146 []
def QC9:G:=gG 9 [(197,Qsg)] (fun _ _=>none)
def Qsh (p0:List Keep):OV:=br (Q2 p0) (some (.t .bool (ige (Ou p0) 0),[])) none
theorem QDa (l:List Keep)(h:Q2 l=true):Qsh l=some (.t .bool (Ef l),[]):=by
 simp only [Qsh,h,Qg]
 congr 3
 unfold Ou Ef
 cases hq:JN Yp l with
 |none=>rw [Qcb.1 hq];rfl
 |some k=>rw [Qr2 hq];simp only [ige,Ba];omega
def Qsi:Ent:=X6 [.ty (.sl Qk),.cf 147] [] (fun x d=>(Q2 x.1)) (fun x d=>(.t .bool (Ef x.1)))
theorem QDb:EM 146 Qsi:=mS QC9 QC8 [((.t 4),some .bool)] false (gB (gD QC7 gN)) fun m=>UI m fun x d hok=>kT (QDa x.1 hok)
theorem igt60 {α:Type}{l:List α}:igt (Qd l) 60= !decide (l.length<=60):=by
 have:igt (Qd l) 60=decide (60<l.length):=QHq
 rw [this]
 by_cases h:l.length<=60
 ·rw [Be h,BI,Bo];omega
 ·rw [Bt h,DM,Ba];omega
def Yq (y:Policy):Bool:=y.1.all XC&&y.2.1.all XD&&decide (y.1.length<=60/\y.2.1.length<=60)
def Z7 (y:Policy):Int:=if Yq y then 0 else 25
def JG (y:Policy):Bool:=Q2 y.1&&Q2 y.2.1
def tc_f90:TC:=aF Tryz.f90 []
def g_f90:G:=gG 25 [(143,Qsa),(146,Qsi)] (fun _ _=>none)
def r_f90 (p0:Policy):OV:=br (Q2 p0.1) (br (Ee p0.1) (some (.t tI 25,[])) (br (Q2 p0.2.1) (br (Ef p0.2.1) (some (.t tI 25,[])) (br (igt (Qd p0.1) 60) (some (.t tI 25,[])) (br (igt (Qd p0.2.1) 60) (some (.t tI 25,[])) (some (.t tI 0,[]))))) none)) none
theorem s_f90 (y:Policy)(h:JG y=true):r_f90 y=some (.t tI (Z7 y),[]):=by
 simp only [JG,Bc] at h
 simp only [r_f90,h.1,h.2,Qg]
 have e1:Ee y.1= !y.1.all XC:=by simp [Ee,List.any_eq_not_all_not,Yo]
 have e2:Ef y.2.1= !y.2.1.all XD:=by simp [Ef,List.any_eq_not_all_not,Yp]
 rw [e1,e2]
 unfold Z7 Yq
 rw [igt60,igt60]
 by_cases h1:y.1.length<=60<;>by_cases h2:y.2.1.length<=60<;>cases y.1.all XC<;>cases y.2.1.all XD<;>simp [Qg,Ql,h1,h2]
def Qcj:Ent:=Qn (.pr QF .nil) (fun x=>(JG x.1)) (fun x=>(.t tI (Z7 x.1)))
theorem QiC:EM 90 Qcj:=mS g_f90 tc_f90 [((.t 2),some tI)] false (gB (gD QC2 (gD QDb gN))) fun m=>Qt m fun x hok=>kT (s_f90 x.1 hok)
end Go.Proofs.YthlcobdnemhcdaaGreat.K
