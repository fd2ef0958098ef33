import Derived.Test.YtmjnnemhoeolgaaGreatQ7
import Derived.Test.YtmjnnemhoeolgaaGreatQ3
import Derived.Maps.OwnIn
import Derived.ChangeKeysEq
set_option linter.unusedSimpArgs false
set_option linter.unusedVariables false
noncomputable section
namespace Go.Proofs.YtmjnnemhoeolgaaGreat.K
open Go.RowKit
def QCj:TC:=aF Tryz.f175 []
def g_f175:G:=gG 25 [(176,Qho)] (fun _ _=>none)
def QqU (p0:Policy)(p1:Keep)(p2 p3:Int):OV:=
 let a1:=Z4 p0 p1 p2 p3
 br (ilt a1 0) (some (.t .bool true,[])) (br (cIx p0.1 a1) (some (.t .bool ((lgt Jt p0.1 (Int.toNat a1)).1),[])) none)
theorem QqV (y:Policy)(u:Keep)(p d:Int):GC y u p d=(ilt (Z4 y u p d) 0||(y.1.getD (Z4 y u p d).toNat Jt.zero).1):=by
 unfold GC allL
 have h:=Qs9 (y:=y) (u:=u) (p:=p) (d:=d)
 cases hq:OD y.1 u p d with
 |none=>
  rw [hq] at h
  simp only at h
  rw [h]
  rfl
 |some k=>
  rw [hq] at h
  simp only at h
  rw [h]
  obtain ⟨h1,_⟩:=QiE.1 hq
  have e1:ilt (k:Int) 0=false:=by simp only [ilt,Bq];omega
  simp only [e1,Dm,Bd,Bh h1,B1,BS,Bk]
theorem QCk {y:Policy}{u:Keep}{p d:Int}(h:ilt (Z4 y u p d) 0=false):cIx y.1 (Z4 y u p d)=true:=by
 have h2:=QEA (y:=y) (u:=u) (p:=p) (d:=d)
 simp only [ilt,Bq] at h
 simp only [cIx,Ba]
 omega
theorem s_f175 (y:Policy)(u:Keep)(p d:Int):QqU y u p d=some (.t .bool (GC y u p d),[]):=by
 simp only [QqU,QqV]
 cases h:ilt (Z4 y u p d) 0 with
 |true=>simp [Qd]
 |false=>
  rw [QCk h,Qh,Qd,Dm,lgt]
def QqW:Ent:=Ql (.pr Zr (.pr Qe (.pr tI (.pr tI .nil)))) (fun x=>true) (fun x=>(.t .bool (GC x.1 x.2.1 x.2.2.1 x.2.2.2.1)))
theorem QCl:EM 175 QqW:=mS g_f175 QCj [((.t 8),some .bool)] false (gB (gD Qq4 gN)) fun m=>Qr m fun x _=>kT (s_f175 x.1 x.2.1 x.2.2.1 x.2.2.2.1)
def UD (y:Policy)(u:Keep)(p d:Int):Int:=if Fn y=false then 25 else if JG u=false then 7 else if p<1∨4<p∨d<0∨40000<d then 2 else 0
def Ef (y:Policy)(_u:Keep)(_p _d:Int):Bool:=YK y
def QCm:TC:=aF Tryz.f174 []
def g_f174:G:=gG 34 [(51,Qfb),(87,EE)] (fun _ _=>none)
def QqX (p0:Policy)(p1:Keep)(p2 p3:Int):OV:=br (YK p0) (br (ine (YJ p0) 0) (some (.t tI (YJ p0),[])) (br (!(JG p1)) (some (.t tI 7,[])) (br (ilt p2 1) (some (.t tI 2,[])) (br (igt p2 4) (some (.t tI 2,[])) (br (ilt p3 0) (some (.t tI 2,[])) (br (igt p3 40000) (some (.t tI 2,[])) (some (.t tI 0,[])))))))) none
theorem s_f174 (y:Policy)(u:Keep)(p d:Int)(h:Ef y u p d=true):QqX y u p d=some (.t tI (UD y u p d),[]):=by
 have h:YK y=true:=h
 simp only [QqX,h,Qd,YJ,UD]
 cases Fn y with
 |false=>rfl
 |true=>
  simp only [if_true,show ine 0 0=false from rfl,Qh,Bool.true_eq_false,Dr]
  cases JG u with
  |false=>rfl
  |true=>
   simp only [BM,Qh,Bool.true_eq_false,Dr]
   repeat' (refine Q4 ?_ ?_<;>intro _)
   all_goals simp only [igt,ilt,Ba,Bq] at*
   all_goals first
    |rw [if_pos (by omega)]
    |rw [if_neg (by omega)]
def QqY:Ent:=Ql (.pr Zr (.pr Qe (.pr tI (.pr tI .nil)))) (fun x=>(Ef x.1 x.2.1 x.2.2.1 x.2.2.2.1)) (fun x=>(.t tI (UD x.1 x.2.1 x.2.2.1 x.2.2.2.1)))
theorem QCn:EM 174 QqY:=mS g_f174 QCm [((.t 8),some tI)] false (gB (gD QmR (gD O1 gN))) fun m=>Qr m fun x hok=>kT (s_f174 x.1 x.2.1 x.2.2.1 x.2.2.2.1 hok)
def JH (y:Policy)(u:Keep)(p d:Int):Bool×Int×Int:=if UD y u p d=0 then (GC y u p d,Z4 y u p d,0) else (false,0,UD y u p d)
def QCo:TC:=aF Tryz.f137 [(14,pD [(0,[4]),(1,[5]),(2,[]),(3,[]),(4,[]),(5,[4]),(6,[5]),(7,[]),(8,[]),(9,[]),(10,[]),(11,[]),(12,[])] (.of [0,1,2,3,4,5,6,7,8,9,10,11,12]))]
def g_f137:G:=gG 30 [(174,QqY),(175,QqW),(176,Qho)] (fun _ _=>none)
def QqZ (p0:Policy)(p1:Keep)(p2 p3:Int):OV:=br (Ef p0 p1 p2 p3) (br (ine (UD p0 p1 p2 p3) 0) (some (.tu [(.t .bool false),(.t tI 0),(.t tI (UD p0 p1 p2 p3))],[])) (some (.tu [(.t .bool (GC p0 p1 p2 p3)),(.t tI (Z4 p0 p1 p2 p3)),(.t tI 0)],[]))) none
theorem s_f137 (y:Policy)(u:Keep)(p d:Int)(h:Ef y u p d=true):QqZ y u p d=some (.tu [.t .bool (JH y u p d).1,.t tI (JH y u p d).2.1,.t tI (JH y u p d).2.2],[]):=by
 simp only [QqZ,h,Qd,JH,QvL]
 by_cases h0:UD y u p d=0<;>simp [h0,Qd,Qh]
def Qq0:Ent:=Ql (.pr Zr (.pr Qe (.pr tI (.pr tI .nil)))) (fun x=>(Ef x.1 x.2.1 x.2.2.1 x.2.2.2.1)) (fun x=>(.tu [(.t .bool ((JH x.1 x.2.1 x.2.2.1 x.2.2.2.1).1)),(.t tI (((JH x.1 x.2.1 x.2.2.1 x.2.2.2.1).2).1)),(.t tI (((JH x.1 x.2.1 x.2.2.1 x.2.2.2.1).2).2))]))
theorem QCp:EM 137 Qq0:=mS g_f137 QCo [((.t 8),some .bool),((.t 9),some tI),((.t 10),some tI)] false (gB (gD QCn (gD QCl (gD Qq4 gN)))) fun m=>Qr m fun x hok=>kT (s_f137 x.1 x.2.1 x.2.2.1 x.2.2.2.1 hok)
end Go.Proofs.YtmjnnemhoeolgaaGreat.K
noncomputable section
namespace Go.Proofs.YtmjnnemhoeolgaaGreat.K
open Go.RowKit
noncomputable section
def YR (_:Exception):Bool:=false
def exZ (_:Exception):Int:=0
def F4 (_:Exception):Bool:=false
abbrev Qbw:Sh:=⟨[(1,.ptr 1 0),(51,.ty (.sl Qe)),(52,.ty tI),(53,.ty tI)],[(1,.box JP)]⟩
abbrev Qbx:Sh:=⟨[],[]⟩
def QgP:Fg:=Qbw.f
def QpQ:TC:=aF Tryz.f54 [(122,pL 0 QgP),(1957,.fg Qbx.f),(15666,pD [(0,[4]),(1,[4]),(2,[]),(3,[]),(4,[]),(5,[4]),(6,[4]),(7,[]),(8,[]),(9,[]),(10,[4]),(11,[4]),(12,[]),(13,[]),(14,[]),(15,[]),(16,[]),(17,[]),(18,[1]),(19,[1]),(20,[]),(21,[]),(22,[]),(23,[]),(24,[]),(25,[4]),(26,[4]),(27,[]),(28,[]),(29,[])] (.of [0,1,2,3,4,5,6,7,8,9,10,11,12,13,14,15,16,17,18,19,20,21,22,23,24,25,26,27,28,29])),(62669,.fg ⟨[(2,some tI)],[]⟩)]
def QpR:TC:=lb 0 QpQ
def QAT (x51:List Keep)(x52 x53:Int)(y1:Exception):VS:=Qbw.st ((),x51,x52,x53,()) (y1,())
def QpS  : VS:=Qbx.st () ()
def QAU:VS->Option (Bool×List (Bool×Exit×VS)):=mkL Qbw (fun x y=>(YR y.1)) (fun x y=>[(true,.exit 0,QpS)])
def QgQ:G:=gG 89 [(83,OE),(86,II),(87,EE)] (Ls [QAU])
def QAV (x51:List Keep)(x52 x53:Int)(y1:Exception):OX:=Qx (Qz QgQ QgP QpR) (QAT x51 x52 x53 y1)
def QAW (x51:List Keep)(x52 x53:Int)(y1:Exception):OX:=some (.exit 0,QpS)
def r_f54 (p0:Exception):OV:=br (!(JG p0.1)) (some (.t tI 26,[])) (br (ilt p0.2.1 1) (some (.t tI 26,[])) (br (igt p0.2.1 4) (some (.t tI 26,[])) (br (Jk p0.2.2.1) (br (!(Q6 p0.2.2.1)) (some (.t tI 26,[])) (br (ilt p0.2.2.2.1.1 0) (some (.t tI 26,[])) (br (ige p0.2.2.2.1.1 p0.2.2.2.1.2.1) (some (.t tI 26,[])) (br (igt p0.2.2.2.1.2.1 40001) (some (.t tI 26,[])) (br (igt (Qc p0.2.2.2.2.1) 8) (some (.t tI 26,[])) (br (YR p0) (some (.t tI 0,[])) none)))))) none)))
theorem QAX (x51:List Keep)(x52 x53:Int)(y1:Exception)(h:(YR y1)=true):QAV x51 x52 x53 y1=QAW x51 x52 x53 y1:=by
 cases h
theorem QAY:LO QgQ QgP QpR 0:=QI (s:=Qbw) fun x y h _ q=>by simp only [QF,QG] at q;exact (QAX x.2.1 x.2.2.1 x.2.2.2.1 y.1 h).trans q
theorem s_f54 (x:Exception)(h:YR x=true):r_f54 x=some (.t tI (exZ x),[]):=by cases h
def QgR:Ent:=Ql (.pr JP .nil) (fun x=>(YR x.1)) (fun x=>(.t tI (exZ x.1)))
theorem QpT:EM 54 QgR:=mS (lk:=lkL (lkc QAY lkn)) QgQ QpQ [((.t 2),some tI)] false (gB (gD QcT (gD Qa8 (gD O1 gN)))) fun m=>Qr m fun x hok=>kT (s_f54 x.1 hok)
def JB (l:List Exception):Bool:=l.isEmpty
def F5 (_:List Exception):Int:= -1
def F6 (_:List Exception):Bool:=false
theorem UA {l:List Exception}(h:JB l=true):l=[]:=DH.1 h
def QAZ:TC:=aF Tryz.f138 []
def g_f138:G:=gG 6 [(54,QgR)] (fun _ _=>none)
def r_f138 (p0:Exception):OV:=br (YR p0) (some (.t .bool (ine (exZ p0) 0),[])) none
theorem s_f138 (x:Exception)(h:YR x=true):r_f138 x=some (.t .bool (F4 x),[]):=by cases h
def QpU:Ent:=Zw [.ty JP] [] (fun x d=>(YR x.1)) (fun x d=>(.t .bool (F4 x.1)))
theorem QA0:EM 138 QpU:=mS g_f138 QAZ [((.t 2),some .bool)] false (gB (gD QpT gN)) fun m=>Zo m fun x d hok=>kT (s_f138 x.1 hok)
abbrev Qby:Sh:=⟨[(0,.ty (.sl JP)),(1,.cf 138),(7,.ty tI),(8,.ty tI)],[]⟩
abbrev QpV:Sh:=⟨[(4,.ty tI)],[]⟩
def QgS:Fg:=Qby.f
def QpW:TC:=aF Tryz.f94 [(26,pL 0 QgS),(421,.fg Qbx.f),(13517,.fg QpV.f)]
def QpX:TC:=lb 0 QpW
def QpY (x0:List Exception)(x7 x8:Int):VS:=Qby.st (x0,(),x7,x8,()) ()
def QA1 (x4:Int):VS:=QpV.st (x4,()) ()
def QgT  : VS:=Qbx.st () ()
def QA2:VS->Option (Bool×List (Bool×Exit×VS)):=mkL Qby (fun x y=>(JB x.1&&(ieq x.2.2.1 0&&ieq x.2.2.2.1 0))) (fun x y=>[(true,.exit 0,QgT)])
def QgU:G:=gG 19 [(138,QpU)] (Ls [QA2])
def QgV (x0:List Exception)(x7 x8:Int):OX:=Qx (Qz QgU QgS QpX) (QpY x0 x7 x8)
def QgW (kk:List Exception->Int->Int->OX)(x0:List Exception)(x7 x8:Int):OX:=
 let a1:=lgt JP x0 (Int.toNat x8)
 br (ilt x8 x7) (br (cIx x0 x8) (br (YR a1) (br (F4 a1) (some (.ret,QA1 x8)) (kk x0 x7 (Qj .i64 x8 1))) none) none) (some (.exit 0,QgT))
def QA3 (x0:List Exception)(x7 x8:Int):OX:=some (.exit 0,QgT)
theorem QA4 (x0:List Exception)(x7 x8:Int):QgV x0 x7 x8=QgW QgV x0 x7 x8:=lnT (x:=QgW (fun x0 x7 x8=>some (.normal,QpY x0 x7 x8)) x0 x7 x8) (by simp only [QgW,nxA];rfl)
def QA5 (p0:List Exception):OV:=br (JB p0&&(ieq (Qc p0) 0&&ieq (0:Int) 0)) (some (.t tI (-1),[])) none
theorem QA6 (x0:List Exception)(x7 x8:Int)(h:(JB x0&&(ieq x7 0&&ieq x8 0))=true):QgV x0 x7 x8=QA3 x0 x7 x8:=by
 simp only [Bc] at h
 obtain ⟨h1,h2,h3⟩:=h
 obtain rfl:=UA h1
 have h2:x7=0:=by simpa [ieq] using h2
 have h3:x8=0:=by simpa [ieq] using h3
 subst h2 h3
 rw [QA4]
 try rfl
theorem QA7:LO QgU QgS QpX 0:=QI (s:=Qby) fun x y h _ q=>by simp only [QF,QG] at q;exact (QA6 x.1 x.2.2.1 x.2.2.2.1 h).trans q
theorem QA8 (l:List Exception)(h:JB l=true):QA5 l=some (.t tI (F5 l),[]):=by
 obtain rfl:=UA h
 rfl
def QpZ:Ent:=Zw [.ty (.sl JP),.cf 138] [] (fun x d=>(JB x.1)) (fun x d=>(.t tI (F5 x.1)))
theorem QA9:EM 94 QpZ:=mS (lk:=lkL (lkc QA7 lkn)) QgU QpW [((.t 4),some tI)] false (gB (gD QA0 gN)) fun m=>Zo m fun x d hok=>kT (QA8 x.1 hok)
def QBa:TC:=aF Tryz.f52 []
def QBb:G:=gG 9 [(94,QpZ)] (fun _ _=>none)
def QBc (p0:List Exception):OV:=br (JB p0) (some (.t .bool (ige (F5 p0) 0),[])) none
theorem QBd (l:List Exception)(h:JB l=true):QBc l=some (.t .bool (F6 l),[]):=by
 obtain rfl:=UA h
 rfl
def Qp0:Ent:=Zw [.ty (.sl JP),.cf 138] [] (fun x d=>(JB x.1)) (fun x d=>(.t .bool (F6 x.1)))
theorem QBe:EM 52 Qp0:=mS QBb QBa [((.t 4),some .bool)] false (gB (gD QA9 gN)) fun m=>Zo m fun x d hok=>kT (QBd x.1 hok)
def IW (_:List Exception)(_:Dice)(_:Keep)(_:Int)(_:ByteArray)(_:Int):Int×Bool:=(0,false)
def QgX (l:List Exception)(_:Dice)(_:Keep)(_:Int)(_:ByteArray)(_:Int):Bool:=JB l
abbrev Qbz:Sh:=⟨[(3,.ty tI),(4,.ty .str),(5,.ty tI),(7,.ptr 7 0),(8,.ptr 8 0),(14,.ty tI),(15,.ty .bool),(18,.ty (.sl JP)),(19,.ty tI),(20,.ty tI)],[(7,.box Qs),(8,.box Qe)]⟩
abbrev Qp1:Sh:=⟨[(14,.ty tI),(15,.ty .bool)],[]⟩
def QgY:Fg:=Qbz.f
def Qp2:TC:=aF Tryz.f139 [(58,pL 0 QgY),(933,.fg Qp1.f)]
def Qp3:TC:=lb 0 Qp2
def Qp4 (x3:Int)(x4:ByteArray)(x5 x14:Int)(x15:Bool)(x18:List Exception)(x19 x20:Int)(y7:Dice)(y8:Keep):VS:=Qbz.st (x3,x4,x5,(),(),x14,x15,x18,x19,x20,()) (y7,y8,())
def QgZ (x14:Int)(x15:Bool):VS:=Qp1.st (x14,x15,()) ()
def QBf:VS->Option (Bool×List (Bool×Exit×VS)):=mkL Qbz (fun x y=>(JB x.2.2.2.2.2.2.2.1&&(ieq x.2.2.2.2.2.2.2.2.1 0&&ieq x.2.2.2.2.2.2.2.2.2.1 0))) (fun x y=>[(true,.exit 0,QgZ (x.2.2.2.2.2.1) (x.2.2.2.2.2.2.1))])
def Qg0:G:=gG 43 [] (Ls [QBf])
def Qg1 (x3:Int)(x4:ByteArray)(x5 x14:Int)(x15:Bool)(x18:List Exception)(x19 x20:Int)(y7:Dice)(y8:Keep):OX:=Qx (Qz Qg0 QgY Qp3) (Qp4 x3 x4 x5 x14 x15 x18 x19 x20 y7 y8)
def Qg2 (kk:Int->ByteArray->Int->Int->Bool->List Exception->Int->Int->Dice->Keep->OX)(x3:Int)(x4:ByteArray)(x5 x14:Int)(x15:Bool)(x18:List Exception)(x19 x20:Int)(y7:Dice)(y8:Keep):OX:=br (ilt x20 x19) (br (cIx x18 x20) none none) (some (.exit 0,QgZ x14 x15))
def QBg (x3:Int)(x4:ByteArray)(x5 x14:Int)(x15:Bool)(x18:List Exception)(x19 x20:Int)(y7:Dice)(y8:Keep):OX:=some (.exit 0,QgZ (x14) (x15))
theorem QBh (x3:Int)(x4:ByteArray)(x5 x14:Int)(x15:Bool)(x18:List Exception)(x19 x20:Int)(y7:Dice)(y8:Keep):Qg1 x3 x4 x5 x14 x15 x18 x19 x20 y7 y8=Qg2 Qg1 x3 x4 x5 x14 x15 x18 x19 x20 y7 y8:=lnT (x:=Qg2 (fun x3 x4 x5 x14 x15 x18 x19 x20 y7 y8=>some (.normal,Qp4 x3 x4 x5 x14 x15 x18 x19 x20 y7 y8)) x3 x4 x5 x14 x15 x18 x19 x20 y7 y8) (by
 simp only [Qg2,Gb,Fc,Fd,Fe,Ff])
def r_f139 (p0:List Exception)(p1:Dice)(p2:Keep)(p3:Int)(p4:ByteArray)(p5:Int):OV:=br (JB p0&&(ieq (Qc p0) 0&&ieq (0:Int) 0)) (some (.tu [(.t tI (0:Int)),(.t .bool (false))],[])) none
theorem QBi (x3:Int)(x4:ByteArray)(x5 x14:Int)(x15:Bool)(x18:List Exception)(x19 x20:Int)(y7:Dice)(y8:Keep)(h:(JB x18&&(ieq x19 0&&ieq x20 0))=true):Qg1 x3 x4 x5 x14 x15 x18 x19 x20 y7 y8=QBg x3 x4 x5 x14 x15 x18 x19 x20 y7 y8:=by
 simp only [Bc] at h
 obtain ⟨h1,h2,h3⟩:=h
 obtain rfl:=UA h1
 have h2:x19=0:=by simpa [ieq] using h2
 have h3:x20=0:=by simpa [ieq] using h3
 subst h2 h3
 rw [QBh]
 try rfl
theorem QBj:LO Qg0 QgY Qp3 0:=QI (s:=Qbz) fun x y h _ q=>by simp only [QF,QG] at q;exact (QBi x.1 x.2.1 x.2.2.1 x.2.2.2.2.2.1 x.2.2.2.2.2.2.1 x.2.2.2.2.2.2.2.1 x.2.2.2.2.2.2.2.2.1 x.2.2.2.2.2.2.2.2.2.1 y.1 y.2.1 h).trans q
theorem s_f139 (l:List Exception)(o:Dice)(u:Keep)(p:Int)(e:ByteArray)(d:Int)(h:QgX l o u p e d=true):r_f139 l o u p e d=some (.tu [.t tI (IW l o u p e d).1,.t .bool (IW l o u p e d).2],[]):=by
 obtain rfl:=UA h
 rfl
def Qp5:Ent:=Ql (.pr (.sl JP) (.pr Qs (.pr Qe (.pr tI (.pr .str (.pr tI .nil)))))) (fun x=>(QgX x.1 x.2.1 x.2.2.1 x.2.2.2.1 x.2.2.2.2.1 x.2.2.2.2.2.1)) (fun x=>(.tu [(.t tI ((IW x.1 x.2.1 x.2.2.1 x.2.2.2.1 x.2.2.2.2.1 x.2.2.2.2.2.1).1)),(.t .bool ((IW x.1 x.2.1 x.2.2.1 x.2.2.2.1 x.2.2.2.2.1 x.2.2.2.2.2.1).2))]))
theorem QBk:EM 139 Qp5:=mS (lk:=lkL (lkc QBj lkn)) Qg0 Qp2 [((.t 12),some tI),((.t 13),some .bool)] false (gB gN) fun m=>Qr m fun x hok=>kT (s_f139 x.1 x.2.1 x.2.2.1 x.2.2.2.1 x.2.2.2.2.1 x.2.2.2.2.2.1 hok)
def Gp (y:Policy)(_:List Exception)(_:Dice)(u:Keep)(p:Int)(_:ByteArray)(d:Int):Bool×Int:=((JH y u p d).1,(JH y u p d).2.2)
def QbA (y:Policy)(l:List Exception)(_:Dice)(_:Keep)(_:Int)(_:ByteArray)(_:Int):Bool:=YK y&&JB l
theorem QBl {y:Policy}{u:Keep}{p d:Int}(h:ine (JH y u p d).2.2 0=true):(JH y u p d).1=false:=by
 unfold JH at h ⊢
 split at h
 ·exact absurd (show false=true from h) (by decide)
 ·rename_i hn
  rw [if_neg hn]
theorem QBm {y:Policy}{u:Keep}{p d:Int}(h:ine (JH y u p d).2.2 0=false):(JH y u p d).2.2=0:=by
 simpa [ine] using h
def tc_f97:TC:=aF Tryz.f97 []
def g_f97:G:=gG 51 [(52,Qp0),(137,Qq0),(139,Qp5)] (fun _ _=>none)
def r_f97 (p0:Policy)(p1:List Exception)(p2:Dice)(p3:Keep)(p4:Int)(p5:ByteArray)(p6:Int):OV:=
 let a1:=JH p0 p3 p4 p6
 br (Ef p0 p3 p4 p6) (br (ine ((a1.2).2) 0) (some (.tu [(.t .bool false),(.t tI ((a1.2).2))],[])) (br (JB p1) (br (F6 p1) (some (.tu [(.t .bool false),(.t tI 26)],[])) (br (QgX p1 p2 p3 p4 p5 p6) (br (a1.1) (some (.tu [(.t .bool true),(.t tI 0)],[])) (some (.tu [(.t .bool ((IW p1 p2 p3 p4 p5 p6).2)),(.t tI 0)],[]))) none)) none)) none
theorem s_f97 (y:Policy)(l:List Exception)(o:Dice)(u:Keep)(p:Int)(e:ByteArray)(d:Int)(h:QbA y l o u p e d=true):r_f97 y l o u p e d=some (.tu [.t .bool (Gp y l o u p e d).1,.t tI (Gp y l o u p e d).2],[]):=by
 obtain ⟨h1,h2⟩:=Bg.1 h
 unfold r_f97 Gp
 refine brY h1 (Q4 (fun k=>by rw [QBl k]) fun k=> ?_)
 refine brY h2 ?_
 show br false _ _=_
 rw [Qh]
 refine brY h2 ?_
 rw [QBm k]
 cases (JH y u p d).1<;>rfl
def Qp6:Ent:=Ql (.pr Zr (.pr (.sl JP) (.pr Qs (.pr Qe (.pr tI (.pr .str (.pr tI .nil))))))) (fun x=>(QbA x.1 x.2.1 x.2.2.1 x.2.2.2.1 x.2.2.2.2.1 x.2.2.2.2.2.1 x.2.2.2.2.2.2.1)) (fun x=>(.tu [(.t .bool ((Gp x.1 x.2.1 x.2.2.1 x.2.2.2.1 x.2.2.2.2.1 x.2.2.2.2.2.1 x.2.2.2.2.2.2.1).1)),(.t tI ((Gp x.1 x.2.1 x.2.2.1 x.2.2.2.1 x.2.2.2.2.1 x.2.2.2.2.2.1 x.2.2.2.2.2.2.1).2))]))
theorem ms_f97:EM 97 Qp6:=mS g_f97 tc_f97 [((.t 14),some .bool),((.t 15),some tI)] false (gB (gD QBe (gD QCp (gD QBk gN)))) fun m=>Qr m fun x hok=>kT (s_f97 x.1 x.2.1 x.2.2.1 x.2.2.2.1 x.2.2.2.2.1 x.2.2.2.2.2.1 x.2.2.2.2.2.2.1 hok)
def IX (y:Policy)(d:Int)(u:Keep):Bool:= !(JH y u 1 d).1
def ZU (y:Policy)(d:Int):List Keep->Bool->Bool×Int
 | [],b=>(b,0)
 |u::r,b=>bif ine (JH y u 1 d).2.2 0 then (false,(JH y u 1 d).2.2) else ZU y d r (b||IX y d u)
def WT (y:Policy)(_:List Exception)(_:Dice)(s:Endpoint)(o:Keep)(d:Int):Bool×Int:=
 bif ine (Jb s o).2 0 then (false,(Jb s o).2) else ZU y d (Jb s o).1 false
def IY (y:Policy)(l:List Exception)(_:Dice)(s:Endpoint)(_:Keep)(_:Int):Bool:=YK y&&(JB l&&Jo s)
theorem QBn (s:Endpoint)(o:Keep):(Jb s o).1.length<=4:=by
 unfold Jb
 cases QW s with
 |false=>exact B7 _
 |true=>
  cases ine (QL o.2.1).2 0 with
  |true=>exact B7 _
  |false=>
   cases (Zg s o.2.1).2 with
   |false=>exact B7 _
   |true=>exact BB 4
theorem Qp7 {y:Policy}{d:Int}: ∀ {l:List Keep} {b:Bool},ine (ZU y d l b).2 0=true->(ZU y d l b).1=false
 | [],b,h=>by cases h
 |u::r,b,h=>by
  unfold ZU at h ⊢
  cases hq:ine (JH y u 1 d).2.2 0 with
  |true=>rfl
  |false=>
   rw [hq] at h
   exact Qp7 (l:=r) h
theorem ine_z {x:Int}(h:ine x 0=false):x=0:=by simpa [ine] using h
abbrev QbB:Sh:=⟨[(1,.ty (.sl JP)),(5,.ty tI),(6,.ptr 6 0),(8,.ptr 8 0),(9,.ptr 9 0),(16,.ty .bool),(30,.ty (.sl Qe)),(31,.ty tI),(32,.ty tI)],[(6,.box Zr),(8,.box Qs),(9,.box QD)]⟩
abbrev Qp8:Sh:=⟨[(12,.ty .bool),(13,.ty tI)],[]⟩
abbrev Qp9:Sh:=⟨[(16,.ty .bool)],[]⟩
def Qg3:Fg:=QbB.f
def Qqa:TC:=aF Tryz.f56 [(250,pL 0 Qg3),(4005,.fg Qp9.f),(512821,.fg Qp8.f)]
def Qqb:TC:=lb 0 Qqa
def Qqc (x1:List Exception)(x5:Int)(x16:Bool)(x30:List Keep)(x31 x32:Int)(y6:Policy)(y8:Dice)(y9:Endpoint):VS:=QbB.st (x1,x5,(),(),(),x16,x30,x31,x32,()) (y6,y8,y9,())
def Qg4 (x12:Bool)(x13:Int):VS:=Qp8.st (x12,x13,()) ()
def Qg5 (x16:Bool):VS:=Qp9.st (x16,()) ()
def QBo:VS->Option (Bool×List (Bool×Exit×VS)):=mkL QbB (fun x y=>(QB x.2.2.2.2.2.2.1 x.2.2.2.2.2.2.2.1 x.2.2.2.2.2.2.2.2.1&&(YK y.1&&JB x.1))) (fun x y=>[((ine (ZU y.1 x.2.1 (x.2.2.2.2.2.2.1.drop x.2.2.2.2.2.2.2.2.1.toNat) x.2.2.2.2.2.1).2 0),.ret,Qg4 (false) ((ZU y.1 x.2.1 (x.2.2.2.2.2.2.1.drop x.2.2.2.2.2.2.2.2.1.toNat) x.2.2.2.2.2.1).2)),(true,.exit 0,Qg5 ((ZU y.1 x.2.1 (x.2.2.2.2.2.2.1.drop x.2.2.2.2.2.2.2.2.1.toNat) x.2.2.2.2.2.1).1))])
def Qg6:G:=gG 57 [(96,QaB),(97,Qp6)] (Ls [QBo])
def QbC (x1:List Exception)(x5:Int)(x16:Bool)(x30:List Keep)(x31 x32:Int)(y6:Policy)(y8:Dice)(y9:Endpoint):OX:=Qx (Qz Qg6 Qg3 Qqb) (Qqc x1 x5 x16 x30 x31 x32 y6 y8 y9)
def IZ (kk:List Exception->Int->Bool->List Keep->Int->Int->Policy->Dice->Endpoint->OX)(x1:List Exception)(x5:Int)(x16:Bool)(x30:List Keep)(x31 x32:Int)(y6:Policy)(y8:Dice)(y9:Endpoint):OX:=
 let a1:=Gp y6 x1 y8 (lgt Qe x30 (Int.toNat x32)) 1 y9.1 x5
 br (ilt x32 x31) (br (cIx x30 x32) (br (QbA y6 x1 y8 (lgt Qe x30 (Int.toNat x32)) 1 y9.1 x5) (br (ine (a1.2) 0) (some (.ret,Qg4 false (a1.2))) (br (x16) (kk x1 x5 true x30 x31 (Qj .i64 x32 1) y6 y8 y9) (kk x1 x5 (!(a1.1)) x30 x31 (Qj .i64 x32 1) y6 y8 y9))) none) none) (some (.exit 0,Qg5 x16))
def F7 (x1:List Exception)(x5:Int)(x16:Bool)(x30:List Keep)(x31 x32:Int)(y6:Policy)(y8:Dice)(y9:Endpoint):OX:=
 let a1:=ZU y6 x5 (x30.drop x32.toNat) x16
 br (ine a1.2 0) (some (.ret,Qg4 (false) (a1.2)))<|some (.exit 0,Qg5 (a1.1))
theorem Qqd (x1:List Exception)(x5:Int)(x16:Bool)(x30:List Keep)(x31 x32:Int)(y6:Policy)(y8:Dice)(y9:Endpoint):QbC x1 x5 x16 x30 x31 x32 y6 y8 y9=IZ QbC x1 x5 x16 x30 x31 x32 y6 y8 y9:=lnT (x:=IZ (fun x1 x5 x16 x30 x31 x32 y6 y8 y9=>some (.normal,Qqc x1 x5 x16 x30 x31 x32 y6 y8 y9)) x1 x5 x16 x30 x31 x32 y6 y8 y9) (by simp only [IZ,nxA];rfl)
def r_f56 (p0:Policy)(p1:List Exception)(p2:Dice)(p3:Endpoint)(p4:Keep)(p5:Int):OV:=
 let a1:=(ZU p0 p5 (((Jb p3 p4).1).drop (0:Int).toNat) false)
 br (QfD p3 p4) (br (ine ((Jb p3 p4).2) 0) (some (.tu [(.t .bool false),(.t tI ((Jb p3 p4).2))],[])) (br (QB ((Jb p3 p4).1) (Qc ((Jb p3 p4).1)) (0:Int)&&(YK p0&&JB p1)) (br (ine a1.2 0) (some (.tu [(.t .bool (false)),(.t tI (a1.2))],[])) (some (.tu [(.t .bool (a1.1)),(.t tI 0)],[]))) none)) none
theorem QBp (x1:List Exception)(x5:Int)(x16:Bool)(x30:List Keep)(x31 x32:Int)(y6:Policy)(y8:Dice)(y9:Endpoint)(h:(QB x30 x31 x32&&(YK y6&&JB x1))=true):QbC x1 x5 x16 x30 x31 x32 y6 y8 y9=F7 x1 x5 x16 x30 x31 x32 y6 y8 y9:=by
 simp only [Bc] at h
 obtain ⟨h,g1,g2⟩:=h
 obtain ⟨rfl,h3,k,rfl,hk⟩:=J5 h
 clear h
 revert x16
 refine Q7 x30 (fun k=> ∀ x16:Bool,QbC x1 x5 x16 x30 (x30.length:Int) (k:Int) y6 y8 y9=F7 x1 x5 x16 x30 (x30.length:Int) (k:Int) y6 y8 y9) ?_ ?_ k hk
 ·intro x16
  rw [Qqd]
  simp only [IZ,F7,QH,Dg,Dp,Qh,Bd,Dd,ZU]
  rfl
 ·intro k hk ih x16
  rw [Qqd]
  have e1: ∀ u p e,QbA y6 x1 y8 u p e x5=true:=fun _ _ _=>Bg.2 ⟨g1,g2⟩
  have hd:ZU y6 x5 (x30.drop k) x16=bif ine (JH y6 x30[k] 1 x5).2.2 0 then (false,(JH y6 x30[k] 1 x5).2.2) else ZU y6 x5 (x30.drop (k+1)) (x16||IX y6 x5 x30[k]):=by
   rw [Bl hk]
   rfl
  simp only [IZ,QH,QS,hk,BK,Qd,Bd,Q3 (show k<4611686018427387904 by omega),e1,Q2 (y:=Qe) hk,Gp]
  simp only [F7,Bd,hd]
  cases hq:ine (JH y6 x30[k] 1 x5).2.2 0 with
  |true=>simp only [Qd,Dn,hq]
  |false=>
   simp only [Qh,Dj]
   cases x16 with
   |true=>
    rw [Qd,ih true]
    simp only [F7,Bd,Bool.true_or]
   |false=>
    rw [Qh,ih]
    simp only [F7,Bd,Dm,IX]
theorem QBq:LO Qg6 Qg3 Qqb 0:=QI (s:=QbB) fun x y h _ q=>by simp only [QF,QG] at q;exact (QBp x.1 x.2.1 x.2.2.2.2.2.1 x.2.2.2.2.2.2.1 x.2.2.2.2.2.2.2.1 x.2.2.2.2.2.2.2.2.1 y.1 y.2.1 y.2.2.1 h).trans q
theorem s_f56 (y:Policy)(l:List Exception)(w:Dice)(s:Endpoint)(o:Keep)(d:Int)(h:IY y l w s o d=true):r_f56 y l w s o d=some (.tu [.t .bool (WT y l w s o d).1,.t tI (WT y l w s o d).2],[]):=by
 simp only [IY,Bc] at h
 obtain ⟨h1,h2,h3⟩:=h
 unfold r_f56 WT
 refine brY h3 (Q4 (fun k=>by rw [k];rfl) fun k=> ?_)
 have hl:=QBn s o
 rw [k,Dj]
 refine brY ?_ ?_
 ·rw [J6 (by omega),h1,h2]
  rfl
 ·rw [BA,BG]
  cases hz:ine (ZU y d (Jb s o).1 false).2 0 with
  |true=>rw [Qd,Qp7 hz]
  |false=>rw [Qh,ine_z hz]
def Qqe:Ent:=Ql (.pr Zr (.pr (.sl JP) (.pr Qs (.pr QD (.pr Qe (.pr tI .nil)))))) (fun x=>(IY x.1 x.2.1 x.2.2.1 x.2.2.2.1 x.2.2.2.2.1 x.2.2.2.2.2.1)) (fun x=>(.tu [(.t .bool ((WT x.1 x.2.1 x.2.2.1 x.2.2.2.1 x.2.2.2.2.1 x.2.2.2.2.2.1).1)),(.t tI ((WT x.1 x.2.1 x.2.2.1 x.2.2.2.1 x.2.2.2.2.1 x.2.2.2.2.2.1).2))]))
theorem ms_f56:EM 56 Qqe:=mS (lk:=lkL (lkc QBq lkn)) Qg6 Qqa [((.t 12),some .bool),((.t 13),some tI)] false (gB (gD QnA (gD ms_f97 gN))) fun m=>Qr m fun x hok=>kT (s_f56 x.1 x.2.1 x.2.2.1 x.2.2.2.1 x.2.2.2.2.1 x.2.2.2.2.2.1 hok)
end
end Go.Proofs.YtmjnnemhoeolgaaGreat.K
noncomputable section
namespace Go.Proofs.YtmjnnemhoeolgaaGreat.K
open Go.RowKit
noncomputable section
def WZ (a b:List Keep):Bool:=a==b
def Qcl (a b:List Keep):Bool:=decide (a.length<=100000/\b.length<=100000)
abbrev Qcm:Sh:=⟨[(0,.ty (.sl Qe)),(1,.ty (.sl Qe)),(12,.ty tI),(13,.ty tI)],[]⟩
abbrev QrN:Sh:=⟨[(4,.ty .bool)],[]⟩
abbrev Qcn:Sh:=⟨[],[]⟩
def QhW:Fg:=Qcm.f
def QrO:TC:=aF Tryz.f57 [(58,pL 0 QhW),(933,.fg Qcn.f),(7474,pD [(0,[]),(1,[]),(2,[]),(3,[]),(4,[]),(5,[]),(6,[]),(7,[]),(8,[])] (.of [0,1,2,3,4,5,6,7,8])),(29901,.fg QrN.f)]
def QrP:TC:=lb 0 QrO
def QrQ (x0 x1:List Keep)(x12 x13:Int):VS:=Qcm.st (x0,x1,x12,x13,()) ()
def QhX (x4:Bool):VS:=QrN.st (x4,()) ()
def QhY  : VS:=Qcn.st () ()
def QDq:VS->Option (Bool×List (Bool×Exit×VS)):=mkL Qcm (fun x y=>(decide (0<=x.2.2.2.1/\x.2.2.2.1<=x.1.length/\x.1.length=x.2.1.length/\x.2.2.1=x.1.length/\x.1.length<=100000))) (fun x y=>[((!(x.1.drop x.2.2.2.1.toNat==x.2.1.drop x.2.2.2.1.toNat)),.ret,QhX (false)),(true,.exit 0,QhY)])
def QhZ:G:=gG 26 [] (Ls [QDq])
def Qco (x0 x1:List Keep)(x12 x13:Int):OX:=Qx (Qz QhZ QhW QrP) (QrQ x0 x1 x12 x13)
def Oi (kk:List Keep->List Keep->Int->Int->OX)(x0 x1:List Keep)(x12 x13:Int):OX:=
 let a1:=Int.toNat x13
 br (ilt x13 x12) (br (cIx x0 x13) (br (cIx x1 x13) (br (!(and (ieq ((lgt Qe x0 a1).1) ((lgt Qe x1 a1).1)) (and (ieq (((lgt Qe x0 a1).2).1) (((lgt Qe x1 a1).2).1)) true))) (some (.ret,QhX false)) (kk x0 x1 x12 (Qj .i64 x13 1))) none) none) (some (.exit 0,QhY))
def Qcp (x0 x1:List Keep)(x12 x13:Int):OX:=br (!(x0.drop x13.toNat==x1.drop x13.toNat)) (some (.ret,QhX (false)))<|some (.exit 0,QhY)
theorem QrR (x0 x1:List Keep)(x12 x13:Int):Qco x0 x1 x12 x13=Oi Qco x0 x1 x12 x13:=lnT (x:=Oi (fun x0 x1 x12 x13=>some (.normal,QrQ x0 x1 x12 x13)) x0 x1 x12 x13) (by simp only [Oi,nxA];rfl)
def r_f57 (p0 p1:List Keep):OV:=br (ine (Qc p0) (Qc p1)) (some (.t .bool false,[])) (br (decide (0<=(0:Int)/\(0:Int)<=p0.length/\p0.length=p1.length/\(Qc p0)=p0.length/\p0.length<=100000)) (br (!(p0.drop (0:Int).toNat==p1.drop (0:Int).toNat)) (some (.t .bool (false),[])) (some (.t .bool true,[]))) none)
theorem QDr (x0 x1:List Keep)(x12 x13:Int)(h:(decide (0<=x13/\x13<=x0.length/\x0.length=x1.length/\x12=x0.length/\x0.length<=100000))=true):Qco x0 x1 x12 x13=Qcp x0 x1 x12 x13:=by
 simp only [Ba] at h
 obtain ⟨h0,h1,h2,rfl,h3⟩:=h
 obtain ⟨k,rfl⟩:=Bt h0
 refine Q7 x0 (fun k=>Qco x0 x1 (x0.length:Int) (k:Int)=Qcp x0 x1 (x0.length:Int) (k:Int)) ?_ ?_ k (by omega)
 ·rw [QrR]
  simp only [Oi,Qcp,QH,Dg,Dp,Qh,Bd,Dd]
  rw [h2,Dd]
  rfl
 ·intro k hk ih
  rw [QrR]
  have hk2:k<x1.length:=by omega
  have hq:(and (ieq x0[k].1 x1[k].1) (and (ieq x0[k].2.1 x1[k].2.1) true))=(x0[k]==x1[k]):=rfl
  simp only [Oi,QH,QS,hk,hk2,BK,Qd,Bd,Q3 (show k<4611686018427387904 by omega),Q2 (y:=Qe) hk,Q2 (y:=Qe) hk2,ih]
  rw [hq]
  simp only [Qcp,Bd,Bl hk,Bl hk2,List.cons_beq_cons]
  cases x0[k]==x1[k]<;>rfl
theorem QDs:LO QhZ QhW QrP 0:=QI (s:=Qcm) fun x y h _ q=>by simp only [QF,QG] at q;exact (QDr x.1 x.2.1 x.2.2.1 x.2.2.2.1 h).trans q
theorem s_f57 (a b:List Keep)(h:Qcl a b=true):r_f57 a b=some (.t .bool (WZ a b),[]):=by
 have h:=BI h
 unfold r_f57 WZ
 cases hl:ine (Qc a) (Qc b) with
 |true=>
  have hn:a.length≠b.length:=by
   simp only [ine,Qc,bne_iff_ne,ne_eq] at hl
   omega
  rw [Qd]
  have:(a==b)=false:=by
   rw [beq_eq_false_iff_ne]
   intro e
   exact hn (by rw [e])
  rw [this]
 |false=>
  have hn:a.length=b.length:=by
   simp only [ine,Qc,bne_eq_false_iff_eq] at hl
   omega
  rw [Qh]
  refine brY (Be ⟨Dq 0,by omega,hn,rfl,h.1⟩) ?_
  rw [BA,BG,BG]
  cases a==b<;>rfl
def QrS:Ent:=Ql (.pr (.sl Qe) (.pr (.sl Qe) .nil)) (fun x=>(Qcl x.1 x.2.1)) (fun x=>(.t .bool (WZ x.1 x.2.1)))
theorem ms_f57:EM 57 QrS:=mS (lk:=lkL (lkc QDs lkn)) QhZ QrO [((.t 4),some .bool)] false (gB gN) fun m=>Qr m fun x hok=>kT (s_f57 x.1 x.2.1 hok)
theorem QrT {a b:List Keep}:WZ a b=true↔a=b:=by unfold WZ;exact Db
def QX (e:Estate)(i:Int):List Keep×Endpoint:=(GA (Uf e i).1 (Uf e i).2,(Uf e i).2)
def Ys (e:Estate)(i:Int):Bool:=GS e i&&WV (Uf e i).1 (Uf e i).2
theorem UF {e:Estate}{i:Int}(h:Jw e=true)(hl:J3 e=true)(h0:0<=i)(h1:i<e.2.1.length):Ys e i=true:=
 Bg.2 ⟨QjW h h0 h1,Qu9 hl (QjW h h0 h1)⟩
def tc_f55:TC:=aF Tryz.f55 [(30,pD [(0,[2]),(1,[2]),(2,[6]),(3,[6]),(4,[]),(5,[]),(6,[7]),(7,[]),(8,[7]),(9,[]),(10,[5])] (.of [0,1,2,3,4,5,6,7,8,9,10]))]
def g_f55:G:=gG 28 [(95,Qss)] (fun _ _=>none)
def r_f55 (p0:Estate)(p1:Int):OV:=
 let a1:=lgt Qe p0.2.1 (Int.toNat p1)
 let a2:=lgt QD p0.1 (Int.toNat ((a1.2).1))
 let a3:=lgt QD p0.1 (Int.toNat (a1.1))
 br (cIx p0.2.1 p1) (br (cIx p0.1 ((a1.2).1)) (br (cIx p0.1 (a1.1)) (br (WV a3 a2) (some (.tu [(.t (.sl Qe) (GA a3 a2)),(.t QD a2)],[])) none) none) none) none
theorem s_f55 (e:Estate)(i:Int)(h:Ys e i=true):r_f55 e i=some (.tu [.t (.sl Qe) (QX e i).1,.t QD (QX e i).2],[]):=by
 simp only [Ys,GS,Bc] at h
 obtain ⟨⟨h1,h2,h3⟩,h4⟩:=h
 exact brY h1 (brY h3 (brY h2 (brY h4 rfl)))
def Eo:Ent:=Ql (.pr QJ (.pr tI .nil)) (fun x=>(Ys x.1 x.2.1)) (fun x=>(.tu [(.t (.sl Qe) ((QX x.1 x.2.1).1)),(.t QD ((QX x.1 x.2.1).2))]))
theorem Qh0:EM 55 Eo:=mS g_f55 tc_f55 [((.t 4),some (.sl Qe)),((.c 5 true 9),some QD)] false (gB (gD ms_f95 gN)) fun m=>Qr m fun x hok=>kT (s_f55 x.1 x.2.1 hok)
def tc_f53:TC:=aF Tryz.f53 []
def g_f53:G:=gG 6 [(54,QgR)] (fun _ _=>none)
def r_f53 (p0:Exception):OV:=br (YR p0) (some (.t .bool (ine (exZ p0) 0),[])) none
theorem s_f53 (x:Exception)(h:YR x=true):r_f53 x=some (.t .bool (F4 x),[]):=by cases h
def QrU:Ent:=Zw [.ty JP] [] (fun x d=>(YR x.1)) (fun x d=>(.t .bool (F4 x.1)))
theorem ms_f53:EM 53 QrU:=mS g_f53 tc_f53 [((.t 2),some .bool)] false (gB (gD QpT gN)) fun m=>Zo m fun x d hok=>kT (s_f53 x.1 hok)
abbrev Qcq:Sh:=⟨[(0,.ty (.sl JP)),(1,.cf 53),(7,.ty tI),(8,.ty tI)],[]⟩
abbrev QrV:Sh:=⟨[(4,.ty tI)],[]⟩
def Qh1:Fg:=Qcq.f
def QrW:TC:=aF Tryz.f94 [(26,pL 0 Qh1),(421,.fg Qcn.f),(13517,.fg QrV.f)]
def QrX:TC:=lb 0 QrW
def QrY (x0:List Exception)(x7 x8:Int):VS:=Qcq.st (x0,(),x7,x8,()) ()
def QDt (x4:Int):VS:=QrV.st (x4,()) ()
def Qh2  : VS:=Qcn.st () ()
def QDu:VS->Option (Bool×List (Bool×Exit×VS)):=mkL Qcq (fun x y=>(JB x.1&&(ieq x.2.2.1 0&&ieq x.2.2.2.1 0))) (fun x y=>[(true,.exit 0,Qh2)])
def Qh3:G:=gG 19 [(53,QrU)] (Ls [QDu])
def Qh4 (x0:List Exception)(x7 x8:Int):OX:=Qx (Qz Qh3 Qh1 QrX) (QrY x0 x7 x8)
def Qh5 (kk:List Exception->Int->Int->OX)(x0:List Exception)(x7 x8:Int):OX:=
 let a1:=lgt JP x0 (Int.toNat x8)
 br (ilt x8 x7) (br (cIx x0 x8) (br (YR a1) (br (F4 a1) (some (.ret,QDt x8)) (kk x0 x7 (Qj .i64 x8 1))) none) none) (some (.exit 0,Qh2))
def QDv (x0:List Exception)(x7 x8:Int):OX:=some (.exit 0,Qh2)
theorem QDw (x0:List Exception)(x7 x8:Int):Qh4 x0 x7 x8=Qh5 Qh4 x0 x7 x8:=lnT (x:=Qh5 (fun x0 x7 x8=>some (.normal,QrY x0 x7 x8)) x0 x7 x8) (by simp only [Qh5,nxA];rfl)
def QDx (p0:List Exception):OV:=br (JB p0&&(ieq (Qc p0) 0&&ieq (0:Int) 0)) (some (.t tI (-1),[])) none
theorem QDy (x0:List Exception)(x7 x8:Int)(h:(JB x0&&(ieq x7 0&&ieq x8 0))=true):Qh4 x0 x7 x8=QDv x0 x7 x8:=by
 simp only [Bc] at h
 obtain ⟨h1,h2,h3⟩:=h
 obtain rfl:=UA h1
 have h2:x7=0:=by simpa [ieq] using h2
 have h3:x8=0:=by simpa [ieq] using h3
 subst h2 h3
 rw [QDw]
 try rfl
theorem QDz:LO Qh3 Qh1 QrX 0:=QI (s:=Qcq) fun x y h _ q=>by simp only [QF,QG] at q;exact (QDy x.1 x.2.2.1 x.2.2.2.1 h).trans q
theorem QDA (l:List Exception)(h:JB l=true):QDx l=some (.t tI (F5 l),[]):=by
 obtain rfl:=UA h
 rfl
def QrZ:Ent:=Zw [.ty (.sl JP),.cf 53] [] (fun x d=>(JB x.1)) (fun x d=>(.t tI (F5 x.1)))
theorem QDB:EM 94 QrZ:=mS (lk:=lkL (lkc QDz lkn)) Qh3 QrW [((.t 4),some tI)] false (gB (gD ms_f53 gN)) fun m=>Zo m fun x d hok=>kT (QDA x.1 hok)
def QDC:TC:=aF Tryz.f52 []
def QDD:G:=gG 9 [(94,QrZ)] (fun _ _=>none)
def QDE (p0:List Exception):OV:=br (JB p0) (some (.t .bool (ige (F5 p0) 0),[])) none
theorem QDF (l:List Exception)(h:JB l=true):QDE l=some (.t .bool (F6 l),[]):=by
 obtain rfl:=UA h
 rfl
def Qr0:Ent:=Zw [.ty (.sl JP),.cf 53] [] (fun x d=>(JB x.1)) (fun x d=>(.t .bool (F6 x.1)))
theorem QDG:EM 52 Qr0:=mS QDD QDC [((.t 4),some .bool)] false (gB (gD QDB gN)) fun m=>Zo m fun x d hok=>kT (QDF x.1 hok)
def rl (y:Policy)(l:List Exception)(o:Dice)(d:Int):Rules:=(y,(l,(o,(d,()))))
def ZB (r:Rules):Bool:=YK r.1&&JB r.2.1
def Jg (r:Rules):Int:=bif ine (YJ r.1) 0 then 25 else bif ilt r.2.2.2.1 0||igt r.2.2.2.1 40000 then 2 else 0
def tc_f28:TC:=aF Tryz.f28 []
def g_f28:G:=gG 21 [(51,Qfb),(52,Qr0)] (fun _ _=>none)
def r_f28 (p0:Rules):OV:=br (YK p0.1) (br (ine (YJ p0.1) 0) (some (.t tI 25,[])) (br (JB p0.2.1) (br (F6 p0.2.1) (some (.t tI 26,[])) (br (ilt p0.2.2.2.1 0) (some (.t tI 2,[])) (br (igt p0.2.2.2.1 40000) (some (.t tI 2,[])) (some (.t tI 0,[]))))) none)) none
theorem s_f28 (r:Rules)(h:ZB r=true):r_f28 r=some (.t tI (Jg r),[]):=by
 obtain ⟨h1,h2⟩:=Bg.1 h
 unfold r_f28 Jg
 refine brY h1 ?_
 cases ine (YJ r.1) 0 with
 |true=>rfl
 |false=>
  rw [Qh]
  refine brY h2 ?_
  show br false _ _=_
  rw [Qh]
  cases ilt r.2.2.2.1 0 with
  |true=>rfl
  |false=>cases igt r.2.2.2.1 40000<;>rfl
def Oj:Ent:=Ql (.pr UH .nil) (fun x=>(ZB x.1)) (fun x=>(.t tI (Jg x.1)))
theorem Qcr:EM 28 Oj:=mS g_f28 tc_f28 [((.t 2),some tI)] false (gB (gD QmR (gD QDG gN))) fun m=>Qr m fun x hok=>kT (s_f28 x.1 hok)
def Gw (r:Rules)(s:Endpoint)(o:Keep):Bool:=(WT r.1 r.2.1 r.2.2.1 s o r.2.2.2.1).1
def Ok (r:Rules)(s:Endpoint)(l m:List Keep)(k:Int):Bool:=ZB r&&(Jo s&&decide (l.length<=1000/\(m.length:Int)<=k))
def Zq (r:Rules)(e:Estate)(i:Int):List Keep:=(QX e i).1.filter (Gw r (QX e i).2)
def Xb (r:Rules)(e:Estate)(i:Int):Bool:=ZB r&&Ys e i
theorem Qh6 (r:Rules)(e:Estate)(i:Int):(Zq r e i).length<=64:=B0 (List.length_filter_le _ _) IA
abbrev Qcs:Sh:=⟨[(3,.ptr 3 0),(7,.ms 7),(9,.ptr 9 0),(20,.ty (.sl Qe)),(21,.ty tI),(22,.ty tI)],[(3,.box UH),(7,.arr 54 Qe),(9,.box QD),(44,.no)]⟩
abbrev Qr1:Sh:=⟨[(7,.ms 7)],[(7,.arr 54 Qe),(44,.no)]⟩
def Qh7:Fg:=Qcs.f
def Qr2:TC:=aF Tryz.f29 [(122,.nw 7 54),(122,pL 0 Qh7),(1957,.fg Qr1.f)]
def Qr3:TC:=lb 0 Qr2
def Qr4 (x20:List Keep)(x21 x22:Int)(y3:Rules)(y7:List Keep)(y9:Endpoint):VS:=Qcs.st ((),(),(),x20,x21,x22,()) (y3,y7,y9,(),())
def Qh8 (y7:List Keep):VS:=Qr1.st ((),()) (y7,(),())
def QDH:VS->Option (Bool×List (Bool×Exit×VS)):=mkL Qcs (fun x y=>(QB x.2.2.2.1 x.2.2.2.2.1 x.2.2.2.2.2.1&&Ok y.1 y.2.2.1 x.2.2.2.1 y.2.1 x.2.2.2.2.2.1)) (fun x y=>[(true,.exit 0,Qh8 (y.2.1++(x.2.2.2.1.drop x.2.2.2.2.2.1.toNat).filter (Gw y.1 y.2.2.1)))])
def Qh9:G:=gG 47 [(55,Eo),(56,Qqe)] (Ls [QDH])
def Qct (x20:List Keep)(x21 x22:Int)(y3:Rules)(y7:List Keep)(y9:Endpoint):OX:=Qx (Qz Qh9 Qh7 Qr3) (Qr4 x20 x21 x22 y3 y7 y9)
def Ol (kk:List Keep->Int->Int->Rules->List Keep->Endpoint->OX)(x20:List Keep)(x21 x22:Int)(y3:Rules)(y7:List Keep)(y9:Endpoint):OX:=
 let a1:=lgt Qe x20 (Int.toNat x22)
 br (ilt x22 x21) (br (cIx x20 x22) (br (IY y3.1 y3.2.1 y3.2.2.1 y9 a1 y3.2.2.2.1) (br ((WT y3.1 y3.2.1 y3.2.2.1 y9 a1 y3.2.2.2.1).1) (br (QC y7 ([(a1.1,((a1.2).1,()))]) 16) (kk x20 x21 (Qj .i64 x22 1) y3 (y7++([(a1.1,((a1.2).1,()))])) y9) none) (kk x20 x21 (Qj .i64 x22 1) y3 y7 y9)) none) none) (some (.exit 0,Qh8 y7))
def Qcu (x20:List Keep)(x21 x22:Int)(y3:Rules)(y7:List Keep)(y9:Endpoint):OX:=some (.exit 0,Qh8 (y7++(x20.drop x22.toNat).filter (Gw y3 y9)))
theorem Qr5 (x20:List Keep)(x21 x22:Int)(y3:Rules)(y7:List Keep)(y9:Endpoint):Qct x20 x21 x22 y3 y7 y9=Ol Qct x20 x21 x22 y3 y7 y9:=lnT (x:=Ol (fun x20 x21 x22 y3 y7 y9=>some (.normal,Qr4 x20 x21 x22 y3 y7 y9)) x20 x21 x22 y3 y7 y9) (by simp only [Ol,nxA];rfl)
def r_f29 (p0:Rules)(p1:Estate)(p2:Int):OV:=
 let a1:=((QX p1 p2).1)
 br (Ys p1 p2) (br (QB a1 (Qc a1) (0:Int)&&Ok p0 ((QX p1 p2).2) a1 ([]:List Keep) (0:Int)) (some (.t (.sl Qe) (([]:List Keep)++(a1.drop (0:Int).toNat).filter (Gw p0 ((QX p1 p2).2))),[])) none) none
theorem QDI (x20:List Keep)(x21 x22:Int)(y3:Rules)(y7:List Keep)(y9:Endpoint)(h:(QB x20 x21 x22&&Ok y3 y9 x20 y7 x22)=true):Qct x20 x21 x22 y3 y7 y9=Qcu x20 x21 x22 y3 y7 y9:=by
 simp only [Ok,Bc,Ba] at h
 obtain ⟨h,g1,g2,g3,g4⟩:=h
 obtain ⟨rfl,h3,k,rfl,hk⟩:=J5 h
 clear h
 obtain ⟨r1,r2⟩:=Bg.1 g1
 revert y7
 refine Q7 x20 (fun k=> ∀ y7:List Keep,(y7.length:Int)<=(k:Int)->Qct x20 (x20.length:Int) (k:Int) y3 y7 y9=Qcu x20 (x20.length:Int) (k:Int) y3 y7 y9) ?_ ?_ k hk
 ·intro y7 _
  rw [Qr5]
  simp only [Ol,Qcu,QH,Dg,Dp,Qh,Bd,Dd,List.filter_nil,BR]
 ·intro k hk ih y7 g4
  rw [Qr5]
  have e1: ∀ o,IY y3.1 y3.2.1 y3.2.2.1 y9 o y3.2.2.2.1=true:=fun _=>Bg.2 ⟨r1,Bg.2 ⟨r2,g2⟩⟩
  have hx:((x20[k].1,(x20[k].2.1,())):Keep)=x20[k]:=rfl
  have e2:QC y7 [x20[k]] 16=true:=JF (by omega) (by simp only [Bp];omega)
  simp only [Ol,QH,QS,hk,BK,Qd,Bd,Q3 (show k<4611686018427387904 by omega),e1,Q2 (y:=Qe) hk,hx,e2]
  rw [ih (y7++[x20[k]]) (by simp only [Bm,Bp];omega),ih y7 (by omega)]
  simp only [Qcu,Bd,Bl hk,List.filter_cons]
  show br (Gw y3 y9 x20[k]) _ _=_
  cases Gw y3 y9 x20[k] with
  |true=>simp only [Qd,if_true,BV,BO]
  |false=>simp only [Qh,BJ,Dr]
theorem QDJ:LO Qh9 Qh7 Qr3 0:=QI (s:=Qcs) fun x y h _ q=>by simp only [QF,QG] at q;exact (QDI x.2.2.2.1 x.2.2.2.2.1 x.2.2.2.2.2.1 y.1 y.2.1 y.2.2.1 h).trans q
theorem s_f29 (r:Rules)(e:Estate)(i:Int)(h:Xb r e i=true):r_f29 r e i=some (.t (.sl Qe) (Zq r e i),[]):=by
 obtain ⟨h1,h2⟩:=Bg.1 h
 obtain ⟨h3,h4⟩:=Bg.1 h2
 have hs:Jo (Uf e i).2=true:=(Bg.1 h4).2
 have hl:(QX e i).1.length<=64:=IA
 unfold r_f29 Zq
 refine brY h2 (brY ?_ ?_)
 ·rw [J6 (by omega),BH]
  unfold Ok
  rw [h1,BH]
  exact Bg.2 ⟨hs,Be ⟨by omega,by simp⟩⟩
 ·rw [BA,BG,BY]
def Om:Ent:=Ql (.pr UH (.pr QJ (.pr tI .nil))) (fun x=>(Xb x.1 x.2.1 x.2.2.1)) (fun x=>(.t (.sl Qe) (Zq x.1 x.2.1 x.2.2.1)))
theorem Qcv:EM 29 Om:=mS (lk:=lkL (lkc QDJ lkn)) Qh9 Qr2 [((.t 6),some (.sl Qe))] false (gB (gD Qh0 (gD ms_f56 gN))) fun m=>Qr m fun x hok=>kT (s_f29 x.1 x.2.1 x.2.2.1 hok)
def W0 (e:Estate)(y:Policy)(l:List Exception)(o:Dice)(i d:Int):List Keep×Int:=
 bif !Jw e then ([],31) else bif ine (Jg (rl y l o d)) 0 then ([],Jg (rl y l o d)) else bif ilt i 0||ige i (Qc e.2.1) then ([],4) else (Zq (rl y l o d) e i,0)
def On (e:Estate)(y:Policy)(l:List Exception)(o:Dice)(_i d:Int):Bool:=J3 e&&ZB (rl y l o d)
def tc_f15:TC:=aF Tryz.f15 []
def g_f15:G:=gG 42 [(27,QdJ),(28,Oj),(29,Om)] (fun _ _=>none)
def r_f15 (p0:Estate)(p1:Policy)(p2:List Exception)(p3:Dice)(p4 p5:Int):OV:=
 let a1:=((p1.1,(p1.2.1,())),(p2,((p3.1,(p3.2.1,())),(p5,()))))
 br (J3 p0) (br (ine (Ue p0) 0) (some (.tu [(.t (.sl Qe) ([]:List Keep)),(.t tI 31)],[])) (br (ZB a1) (br (ine (Jg a1) 0) (some (.tu [(.t (.sl Qe) ([]:List Keep)),(.t tI (Jg a1))],[])) (br (ilt p4 0) (some (.tu [(.t (.sl Qe) ([]:List Keep)),(.t tI 4)],[])) (br (ige p4 (Qc p0.2.1)) (some (.tu [(.t (.sl Qe) ([]:List Keep)),(.t tI 4)],[])) (br (Xb a1 p0 p4) (some (.tu [(.t (.sl Qe) (Zq a1 p0 p4)),(.t tI 0)],[])) none)))) none)) none
theorem s_f15 (e:Estate)(y:Policy)(l:List Exception)(o:Dice)(i d:Int)(h:On e y l o i d=true):r_f15 e y l o i d=some (.tu [.t (.sl Qe) (W0 e y l o i d).1,.t tI (W0 e y l o i d).2],[]):=by
 obtain ⟨h1,h2⟩:=Bg.1 h
 unfold r_f15 W0
 refine brY h1 ?_
 rw [QdE]
 cases ho:Jw e with
 |false=>rfl
 |true=>
  rw [BM,Qh]
  refine brY (show ZB (rl y l o d)=true from h2) ?_
  show br (ine (Jg (rl y l o d)) 0) (some (V.tu [V.t (.sl Qe) ([]:List Keep),V.t tI (Jg (rl y l o d))],[])) _=_
  cases ine (Jg (rl y l o d)) 0 with
  |true=>rfl
  |false=>
   rw [Qh]
   cases h3:ilt i 0 with
   |true=>rfl
   |false=>
    rw [Qh]
    cases h4:ige i (Qc e.2.1) with
    |true=>rfl
    |false=>
     rw [Qh]
     have h3:=Dx h3
     have h4:=Dx h4
     simp only [Qc] at h4
     exact brY (show Xb (rl y l o d) e i=true from Bg.2 ⟨h2,UF ho h1 (by omega) (by omega)⟩) rfl
def Qia:Ent:=Ql (.pr QJ (.pr Zr (.pr (.sl JP) (.pr Qs (.pr tI (.pr tI .nil)))))) (fun x=>(On x.1 x.2.1 x.2.2.1 x.2.2.2.1 x.2.2.2.2.1 x.2.2.2.2.2.1)) (fun x=>(.tu [(.t (.sl Qe) ((W0 x.1 x.2.1 x.2.2.1 x.2.2.2.1 x.2.2.2.2.1 x.2.2.2.2.2.1).1)),(.t tI ((W0 x.1 x.2.1 x.2.2.1 x.2.2.2.1 x.2.2.2.2.1 x.2.2.2.2.2.1).2))]))
theorem Qr6:EM 15 Qia:=mS g_f15 tc_f15 [((.t 12),some (.sl Qe)),((.t 13),some tI)] false (gB (gD QjT (gD Qcr (gD Qcv gN)))) fun m=>Qr m fun x hok=>kT (s_f15 x.1 x.2.1 x.2.2.1 x.2.2.2.1 x.2.2.2.2.1 x.2.2.2.2.2.1 hok)
def Zb (a b:Estate):Int:=bif !Jw a then 31 else bif !Jw b then 31 else bif !WZ a.2.1 b.2.1 then 42 else 0
def Gx (a b:Estate):Bool:=J3 a&&J3 b
theorem Qib {a b:Estate}(h:ine (Zb a b) 0=false):Jw a=true/\Jw b=true/\a.2.1=b.2.1:=by
 unfold Zb at h
 cases h1:Jw a with
 |false=>rw [h1] at h;cases h
 |true=>
  rw [h1] at h
  cases h2:Jw b with
  |false=>rw [h2] at h;cases h
  |true=>
   rw [h2] at h
   cases h3:WZ a.2.1 b.2.1 with
   |false=>rw [h3] at h;cases h
   |true=>exact ⟨rfl,rfl,QrT.1 h3⟩
def tc_f30:TC:=aF Tryz.f30 []
def g_f30:G:=gG 21 [(27,QdJ),(57,QrS)] (fun _ _=>none)
def r_f30 (p0 p1:Estate):OV:=br (J3 p0) (br (ine (Ue p0) 0) (some (.t tI 31,[])) (br (J3 p1) (br (ine (Ue p1) 0) (some (.t tI 31,[])) (br (Qcl p0.2.1 p1.2.1) (br (!(WZ p0.2.1 p1.2.1)) (some (.t tI 42,[])) (some (.t tI 0,[]))) none)) none)) none
theorem s_f30 (a b:Estate)(h:Gx a b=true):r_f30 a b=some (.t tI (Zb a b),[]):=by
 obtain ⟨h1,h2⟩:=Bg.1 h
 unfold r_f30 Zb
 refine brY h1 ?_
 rw [QdE]
 cases g1:Jw a with
 |false=>rfl
 |true=>
  rw [BM,Qh]
  refine brY h2 ?_
  rw [QdE]
  cases g2:Jw b with
  |false=>rfl
  |true=>
   rw [BM,Qh]
   have p1:=UV g1
   have p2:=UV g2
   refine brY (show Qcl a.2.1 b.2.1=true from Be ⟨by have:a.2.1.length<=40:=p1.2.2.2.2.2;omega,by have:b.2.1.length<=40:=p2.2.2.2.2.2;omega⟩) ?_
   cases WZ a.2.1 b.2.1<;>rfl
def Qcw:Ent:=Ql (.pr QJ (.pr QJ .nil)) (fun x=>(Gx x.1 x.2.1)) (fun x=>(.t tI (Zb x.1 x.2.1)))
theorem Qic:EM 30 Qcw:=mS g_f30 tc_f30 [((.t 4),some tI)] false (gB (gD QjT (gD ms_f57 gN))) fun m=>Qr m fun x hok=>kT (s_f30 x.1 x.2.1 hok)
end
end Go.Proofs.YtmjnnemhoeolgaaGreat.K
noncomputable section
namespace Go.Proofs.YtmjnnemhoeolgaaGreat.K
open Go.RowKit
def cU (l:List Keep):List Value:=l.flatMap fun u=>[.int .i64 u.1,.int .i64 u.2.1]
theorem Qdq: ∀ l:List Keep,(cU l).length=l.length*2
 | []=>rfl
 |u::l=>by
  have:=Qdq l
  simp only [cU,BL,Bm,Bo,Bw] at this ⊢
  omega
theorem Qur (l:List Keep): ∀ v∈cU l,v.oneCell'=true:=by
 intro v hv
 simp only [cU,DJ,BD,BQ,De] at hv
 obtain ⟨u,_,rfl|rfl⟩:=hv<;>rfl
theorem Qdr {X:Nat->Nat->Prop}{w:World}{σ:Pl}: ∀ {l:List Keep} {vs:List Value},Cs X w σ (l.flatMap Qe.cells) vs->vs=cU l
 | [],vs,h=>by simpa [Cs,cU] using h
 |x::l,vs,h=>by
  have h:Cs X w σ (D.v (.int .i64 x.1)::D.v (.int .i64 x.2.1)::l.flatMap Qe.cells) vs:=h
  simp only [Cs] at h
  obtain ⟨u0,r0,rfl,c0,u1,r1,rfl,c1,h2⟩:=h
  simp only [C] at c0 c1
  rw [Qdr h2,c0.1,c1.1]
  rfl
abbrev GN (o:Keep):Value:= .agg #[.int .i64 o.1,.int .i64 o.2.1]
theorem keep_c {X:Nat->Nat->Prop}{w:World}{σ:Pl}(o:Keep):C X w σ (V.t Qe o).d (GN o):=by
 simp only [V.d]
 rw [Ty.d_row Qe _ rfl]
 simp only [C]
 exact ⟨[.int .i64 o.1,.int .i64 o.2.1],rfl,_,_,rfl,⟨rfl,rfl⟩,_,_,rfl,⟨rfl,rfl⟩,rfl⟩
theorem Qjt {X:Nat->Nat->Prop}{w:World}{σ:Pl}:Lent X w σ []:=⟨fun j o hj=>by simp at hj,fun i j b _ hi=>by simp at hi⟩
theorem Qju {X X':Nat->Nat->Prop}{w w':World}{σ σ':Pl}{os:List VO}(h:Ends X w σ 0 X' w' σ' os):Below w.heap.size w w':=
 ⟨h.fr.os,h.fr.tape,h.fr.output,h.fr.size,fun b hb=>h.fr.keep b hb (by simp [Yv])⟩
theorem QF1 {X:Nat->Nat->Prop}{w:World}{σ:Pl}{s:Endpoint}{o:Keep}{sv:Value}(hfin: ∀ b q,X b q->b<w.heap.size)(hs:C X w σ (V.t QD s).d sv)(hl:Jo s=true):
  Calls Tryz.prog 96 #[sv,GN o] w fun e w'=> ∃ A c er,e= .returned (.tuple #[.slice A (Jb s o).1.length c,.int .i64 er])/\(Jb s o).1.length<=c∧
   (0<(Jb s o).1.length→ ∃ b off,A=some ⟨b,off,none⟩∧ ∀ j v,(cU (Jb s o).1)[j]? = some v->w'.cell? ⟨b,off+j,none⟩=some v)/\Below w.heap.size w w':=by
 have hF:Qq QaB [.t QD s,.t Qe o] []=some (.tu [.t (.sl Qe) (Jb s o).1,.t tI (Jb s o).2],[]):=by
  unfold QaB
  exact V6 (a:= .pr QD (.pr Qe .nil)) (x:=(s,(o,()))) (by simp [Ty.args,Qc8]) hl
 refine (UJ (by decide) (QnA.2 _ _ _ _ hF X w σ [sv,GN o] hfin Qjt ⟨sv,_,rfl,hs,GN o,_,rfl,keep_c o,rfl⟩)).mono ?_
 rintro e w' ⟨u,X',σ',rfl,h1,h2⟩
 have h1:C X' w' σ' (.tu [.sl (Jb s o).1.length ((Jb s o).1.flatMap Qe.cells),.v (.int .i64 (Jb s o).2)]) u:=h1
 simp only [C,Cs] at h1
 obtain ⟨vs,rfl,u1,us,rfl,⟨A,c,rfl,g1,g2,g3,g4⟩,u2,us2,rfl,⟨rfl,_⟩,rfl⟩:=h1
 refine ⟨A,c,_,rfl,g1,fun hp=> ?_,Qju h2⟩
 obtain ⟨b,off,vs,rfl,k1,k2⟩:=g4 hp
 rw [Qdr k1] at k2
 exact ⟨b,off,rfl,fun j v hv=>k2.at_ j v hv⟩
theorem QF2 {P:Program}{w:World}{T ty elem:TypeId}(hu:P.underlying T=some (.slice elem))(hs:(P.info? elem).map (·.size)=some 2){b o n c:Nat}{A:Option Addr}{cs:List Value}(hn:n<=4)(hl:cs.length=n*2)
  (hp:0<n→ ∃ a,A=some a∧ ∀ j v,cs[j]? = some v->w.cell? (a.add j)=some v) (hc: ∀ j,j<cs.length->(w.cell? ⟨b,o+j,none⟩).isSome=true) (hf: ∀ j,j<cs.length->w.frozen? ⟨b,o+j,none⟩=false) (h1: ∀ v∈cs,v.oneCell'=true):
  (Builtin.copy_ #[T,T] ty #[.slice (some ⟨b,o,none⟩) 4 4,.slice A n c]).run P w= .ok (goInt n) (w.setCells b o cs):=by
 have hst:=run_storeCells_cells (P:=P) b o cs 0 w (by simpa using hc) (by simpa using hf) h1
 have hm:Nat.min n 4=n:=Nat.min_eq_left hn
 cases hq:P.info? elem with
 |none=>simp [hq] at hs
 |some i=>
  have hi:i.size=2:=by simpa [hq] using hs
  rcases DL n with rfl|h0
  ·have hcs:cs=[]:=Bv (by omega)
   subst hcs
   have hl0: ∀ (x:Addr),(loadCells x 0).run P w= .ok #[] w:=fun x=>by simpa using run_loadCells_list (P:=P) w x [] (by simp)
   cases A<;>simp [Builtin.copy_,run_underlying hu,Builtin.lenOf,Builtin.firstCells,sizeOf,typeInfo,hq,hi,hl0,storeCells,World.setCells]
  ·obtain ⟨a,rfl,hsrc⟩:=hp h0
   have hld:=run_loadCells_list (P:=P) w a cs hsrc
   rw [hl] at hld
   simp [Builtin.copy_,run_underlying hu,Builtin.lenOf,Builtin.firstCells,sizeOf,typeInfo,hq,hi,hm,hld,hst]
def GO (l:List Keep):List Keep:=(l++List.replicate 4 zK).take 4
def mV (o:Keep)(us:List Keep):Array Value:=(.int .i64 o.1:: .int .i64 o.2.1::cU (GO us)).toArray
set_option maxRecDepth 50000 in
set_option maxHeartbeats 1000000 in
theorem of_any {v0 v1 v2 v3 v4 v5 v6 v7 v8:Value}{o:Keep}{us:List Keep}{w:World}
  (o0:v0.oneCell'=true) (o1:v1.oneCell'=true) (o2:v2.oneCell'=true) (o3:v3.oneCell'=true) (o4:v4.oneCell'=true) (o5:v5.oneCell'=true) (o6:v6.oneCell'=true) (o7:v7.oneCell'=true) (o8:v8.oneCell'=true)
  (hU: ∀ W,Below w.heap.size w W->Calls Tryz.prog 96 #[.agg #[v0,v1,v2,v3,v4,v5,v6,v7,v8],GN o] W fun e w'=> ∃ A c er,e= .returned (.tuple #[.slice A us.length c,.int .i64 er])/\us.length<=c∧
   (0<us.length→ ∃ b off,A=some ⟨b,off,none⟩∧ ∀ j v,(cU us)[j]? = some v->w'.cell? ⟨b,off+j,none⟩=some v)/\Below W.heap.size W w')
  (hn:us=[]∨ ∃ a b c d,us=[a,b,c,d]):
  Calls Tryz.prog 59 #[.agg #[v0,v1,v2,v3,v4,v5,v6,v7,v8],GN o] w fun e w'=>e= .returned (.agg (mV o us))/\Below w.heap.size w w':=by
 go_enter Tryz.func59,Tryz.ntmps59
 go_wp2_with fail
 obtain ⟨Wa,ha⟩: ∃ Wa,Wa=w.alloc (.cells #[v0,v1,v2,v3,v4,v5,v6,v7,v8] 61):=⟨_,rfl⟩
 obtain ⟨Wb,hb⟩: ∃ Wb,Wb=Wa.alloc (.cells #[.int .i64 o.1,.int .i64 o.2.1] 54):=⟨_,rfl⟩
 obtain ⟨Wc,hc⟩: ∃ Wc,Wc=Wb.alloc (.cells #[.int .i64 0,.int .i64 0,.int .i64 0,.int .i64 0,.int .i64 0,.int .i64 0,.int .i64 0,.int .i64 0,.int .i64 0,.int .i64 0] 132):=⟨_,rfl⟩
 obtain ⟨Wd,hd⟩: ∃ Wd,Wd=Wc.alloc (.cells #[.int .i64 o.1,.int .i64 o.2.1,.int .i64 0,.int .i64 0,.int .i64 0,.int .i64 0,.int .i64 0,.int .i64 0,.int .i64 0,.int .i64 0] 132):=⟨_,rfl⟩
 obtain ⟨S,hS⟩: ∃ S,S=w.heap.size:=⟨_,rfl⟩
 rw [←ha, ← hb, ← hc, ← hd, ← hS]
 have sa:Wa.heap.size=S+1:=by rw [ha,World.size_alloc,hS]
 have sb:Wb.heap.size=S+1+1:=by rw [hb,World.size_alloc,sa]
 have sc:Wc.heap.size=S+1+1+1:=by rw [hc,World.size_alloc,sb]
 have sd:Wd.heap.size=S+1+1+1+1:=by rw [hd,World.size_alloc,sc]
 have b4:Below w.heap.size w Wd:=by
  rw [hd,hc,hb,ha]
  have e1:=(Below.refl w.heap.size w).alloc (BB _) (.cells #[v0,v1,v2,v3,v4,v5,v6,v7,v8] 61)
  have e2:=e1.alloc e1.size (.cells #[.int .i64 o.1,.int .i64 o.2.1] 54)
  have e3:=e2.alloc e2.size (.cells #[.int .i64 0,.int .i64 0,.int .i64 0,.int .i64 0,.int .i64 0,.int .i64 0,.int .i64 0,.int .i64 0,.int .i64 0,.int .i64 0] 132)
  exact e3.alloc e3.size _
 have k2:Go.Proofs.YtmjnnemhoeolgaaGreat.Blk Wd (S+1+1) 132 #[.int .i64 0,.int .i64 0,.int .i64 0,.int .i64 0,.int .i64 0,.int .i64 0,.int .i64 0,.int .i64 0,.int .i64 0,.int .i64 0]:=by
  rw [hd];refine Go.Proofs.YtmjnnemhoeolgaaGreat.Blk.alloc ?_ _;rw [hc, ← sb];exact Go.Proofs.YtmjnnemhoeolgaaGreat.Blk.new _ _ _
 have k3:Go.Proofs.YtmjnnemhoeolgaaGreat.Blk Wd (S+1+1+1) 132 #[.int .i64 o.1,.int .i64 o.2.1,.int .i64 0,.int .i64 0,.int .i64 0,.int .i64 0,.int .i64 0,.int .i64 0,.int .i64 0,.int .i64 0]:=by
  rw [hd, ← sc];exact Go.Proofs.YtmjnnemhoeolgaaGreat.Blk.new _ _ _
 clear ha hb hc hd sa sb sc
 refine (hU _ b4).mono ?_
 rintro e w1 ⟨A,c,er,rfl,hc,hp,hb1⟩
 have hsz:=hb1.size
 have k2:=k2.ext hb1
 have k3:=k3.ext hb1
 have b5:Below S w w1:=hS▸WC b4 hb1 (by omega)
 have HP:=Lib.hid hp
 have HB:=Lib.hid b5
 clear hp hb1 hU b4 b5
 have hM: ∃ m0 m1 m2 m3 m4 m5 m6 m7:Int,QN [.int .i64 o.1,.int .i64 o.2.1,.int .i64 0,.int .i64 0,.int .i64 0,.int .i64 0,.int .i64 0,.int .i64 0,.int .i64 0,.int .i64 0] 2 (cU us)=[.int .i64 o.1,.int .i64 o.2.1,.int .i64 m0,.int .i64 m1,.int .i64 m2,.int .i64 m3,.int .i64 m4,.int .i64 m5,.int .i64 m6,.int .i64 m7]/\mV o us= #[.int .i64 o.1,.int .i64 o.2.1,.int .i64 m0,.int .i64 m1,.int .i64 m2,.int .i64 m3,.int .i64 m4,.int .i64 m5,.int .i64 m6,.int .i64 m7]:=by
  rcases hn with rfl|⟨a,b,c,d,rfl⟩<;>exact ⟨_,_,_,_,_,_,_,_,rfl,rfl⟩
 have hn4:us.length<=4:=by rcases hn with rfl|⟨a,b,c,d,rfl⟩<;>simp
 obtain ⟨m0,m1,m2,m3,m4,m5,m6,m7,hm1,hm2⟩:=hM
 have HM:=Lib.hid hm2
 have f3:=k3.frozen
 have hl8:=Qdq us
 have hrun:=QF2 (P:=Tryz.prog) (w:=w1) (T:=109) (ty:=3) (elem:=64) (by kernel_rfl) (by kernel_rfl) (b:=S+1+1+1) (o:=2) (n:=us.length) (c:=c) (A:=A) (cs:=cU us) hn4 hl8
  (fun h0=>by
   obtain ⟨b,off,rfl,h⟩:=HP.out h0
   exact ⟨_,rfl,fun j v hv=>by
    have:=h j v hv
    have ha:(Addr.mk b off none).add j=⟨b,off+j,none⟩:=by by_cases h0:j=0<;>simp [Addr.add,h0]
    rw [ha]
    exact this⟩)
  (fun j hj=>by
   rw [k3.cell,Array.getElem?_eq_getElem (by simp;omega)]
   rfl)
  (fun j _=>f3 _) (Qur us)
 have k3':=Gh (S+1+1+1) 132 (0,0) (cU us) 2 w1 _ k3
 rw [hm1] at k3'
 have k2':Go.Proofs.YtmjnnemhoeolgaaGreat.Blk (w1.setCells (S+1+1+1) 2 (cU us)) (S+1+1) 132 #[.int .i64 0,.int .i64 0,.int .i64 0,.int .i64 0,.int .i64 0,.int .i64 0,.int .i64 0,.int .i64 0,.int .i64 0,.int .i64 0]:=(WG (S+1+1+1) (cU us) 2 w1 (S+1+1) (by omega)).trans k2
 have b6:Below S w (w1.setCells (S+1+1+1) 2 (cU us)):=by
  have fr:=WH (S+1+1+1) (cU us) 2 w1
  exact HB.out.trans ⟨fr.os,fr.tape,fr.output,fr.size,fun k hk=>WG (S+1+1+1) (cU us) 2 w1 k (by omega)⟩
 generalize w1.setCells (S+1+1+1) 2 (cU us)=w2 at*
 replace k3':Go.Proofs.YtmjnnemhoeolgaaGreat.Blk w2 (S+1+1+1) 132 #[.int .i64 o.1,.int .i64 o.2.1,.int .i64 m0,.int .i64 m1,.int .i64 m2,.int .i64 m3,.int .i64 m4,.int .i64 m5,.int .i64 m6,.int .i64 m7]:=k3'
 have HB2:=Lib.hid b6
 have K2:=Lib.hid k2'
 clear k2 k3 HB HP hn hn4 hm1 hm2 hl8 b6 sd hsz Wa Wb Wc hc
 have HS:=Lib.hid hS
 clear hS
 have q0:=k3'.cell 0
 have q1:=k3'.cell 1
 have q2:=k3'.cell 2
 have q3:=k3'.cell 3
 have q4:=k3'.cell 4
 have q5:=k3'.cell 5
 have q6:=k3'.cell 6
 have q7:=k3'.cell 7
 have q8:=k3'.cell 8
 have q9:=k3'.cell 9
 have p0:=k2'.cell 0
 have p1:=k2'.cell 1
 have p2:=k2'.cell 2
 have p3:=k2'.cell 3
 have p4:=k2'.cell 4
 have p5:=k2'.cell 5
 have p6:=k2'.cell 6
 have p7:=k2'.cell 7
 have p8:=k2'.cell 8
 have p9:=k2'.cell 9
 simp only [Dt,BW,BU] at q0 q1 q2 q3 q4 q5 q6 q7 q8 q9 p0 p1 p2 p3 p4 p5 p6 p7 p8 p9
 have f2:=k2'.frozen
 clear k3' k2' f3
 generalize us.length=n at*
 go_wp2_with fail
 have fr:=WH (S+1+1) [.int .i64 o.1,.int .i64 o.2.1,.int .i64 m0,.int .i64 m1,.int .i64 m2,.int .i64 m3,.int .i64 m4,.int .i64 m5,.int .i64 m6,.int .i64 m7] 0 w2
 have kF:=Gh (S+1+1) 132 (0,0) [.int .i64 o.1,.int .i64 o.2.1,.int .i64 m0,.int .i64 m1,.int .i64 m2,.int .i64 m3,.int .i64 m4,.int .i64 m5,.int .i64 m6,.int .i64 m7] 0 w2 _ K2.out
 change bodyPost _ _ _ _ _ (w2.setCells (S+1+1) 0 [.int .i64 o.1,.int .i64 o.2.1,.int .i64 m0,.int .i64 m1,.int .i64 m2,.int .i64 m3,.int .i64 m4,.int .i64 m5,.int .i64 m6,.int .i64 m7])
 have b7:Below S w (w2.setCells (S+1+1) 0 [.int .i64 o.1,.int .i64 o.2.1,.int .i64 m0,.int .i64 m1,.int .i64 m2,.int .i64 m3,.int .i64 m4,.int .i64 m5,.int .i64 m6,.int .i64 m7]):=HB2.out.trans ⟨fr.os,fr.tape,fr.output,fr.size,fun k hk=>WG (S+1+1) _ 0 w2 k (by omega)⟩
 clear fr q0 q1 q2 q3 q4 q5 q6 q7 q8 q9 p0 p1 p2 p3 p4 p5 p6 p7 p8 p9 f2 hrun
 generalize w2.setCells (S+1+1) 0 [.int .i64 o.1,.int .i64 o.2.1,.int .i64 m0,.int .i64 m1,.int .i64 m2,.int .i64 m3,.int .i64 m4,.int .i64 m5,.int .i64 m6,.int .i64 m7]=w3 at*
 replace kF:Go.Proofs.YtmjnnemhoeolgaaGreat.Blk w3 (S+1+1) 132 #[.int .i64 o.1,.int .i64 o.2.1,.int .i64 m0,.int .i64 m1,.int .i64 m2,.int .i64 m3,.int .i64 m4,.int .i64 m5,.int .i64 m6,.int .i64 m7]:=kF
 have r0:=kF.cell 0
 have r1:=kF.cell 1
 have r2:=kF.cell 2
 have r3:=kF.cell 3
 have r4:=kF.cell 4
 have r5:=kF.cell 5
 have r6:=kF.cell 6
 have r7:=kF.cell 7
 have r8:=kF.cell 8
 have r9:=kF.cell 9
 simp only [Dt,BW,BU] at r0 r1 r2 r3 r4 r5 r6 r7 r8 r9
 refine bodyPost_ret (by simp [results,Tryz.results59,go_sem,r0,r1,r2,r3,r4,r5,r6,r7,r8,r9];rfl) rfl ?_
 rw [HM.out]
 have hS:=HS.out
 subst hS
 exact ⟨rfl,b7⟩
end Go.Proofs.YtmjnnemhoeolgaaGreat.K
noncomputable section
namespace Go.Proofs.YtmjnnemhoeolgaaGreat.K
open Go.RowKit
theorem QBE:(Tryz.prog.fieldsOf 132).toList=[⟨"outcome", 54,0,false, "", "cipherplan/policy", 0⟩,⟨"uses", 130,2,false, "", "cipherplan/policy", 16⟩]:=by kernel_rfl
theorem flat54:YL Tryz.prog 3 54=some [0,0]:=by kernel_rfl
theorem flat64:YL Tryz.prog 3 64=some [0,0]:=by kernel_rfl
theorem und130:Tryz.prog.underlying 130=some (.array 4 64):=by kernel_rfl
theorem QBF:Tryz.prog.cellsOf 64=2:=by kernel_rfl
theorem eq2 (t:TypeId)(ht:t=54∨t=64)(w:World)(d:Nat)(hd:3<=d)(a b x y:Int):(Op.equalIn d t (.agg #[.int .i64 a,.int .i64 b]) (.agg #[.int .i64 x,.int .i64 y])).run Tryz.prog w= .ok ((a==x)&&((b==y)&&true)) w:=by
 rcases ht with rfl|rfl
 ·exact Qfj (P:=Tryz.prog) (w:=w) 3 d 54 _ [0,0] [.int .i64 a,.int .i64 b] [.int .i64 x,.int .i64 y] ((a==x)&&((b==y)&&true)) flat54 hd Tryz.underlying54 (by simp [JR,eqV])
 ·exact Qfj (P:=Tryz.prog) (w:=w) 3 d 64 _ [0,0] [.int .i64 a,.int .i64 b] [.int .i64 x,.int .i64 y] ((a==x)&&((b==y)&&true)) flat64 hd Tryz.underlying64 (by simp [JR,eqV])
theorem info64: ∃ i,Tryz.prog.info? 64=some i:=by
 have:=Tryz.underlying64
 unfold Program.underlying at this
 cases h:Tryz.prog.info? 64 with
 |none=>simp [h] at this
 |some i=>exact ⟨i,rfl⟩
theorem arr4 (w:World)(a0 a1 a2 a3 a4 a5 a6 a7 b0 b1 b2 b3 b4 b5 b6 b7:Int):
  (Op.equalIn 9999 130 (.agg #[.int .i64 a0,.int .i64 a1,.int .i64 a2,.int .i64 a3,.int .i64 a4,.int .i64 a5,.int .i64 a6,.int .i64 a7]) (.agg #[.int .i64 b0,.int .i64 b1,.int .i64 b2,.int .i64 b3,.int .i64 b4,.int .i64 b5,.int .i64 b6,.int .i64 b7])).run Tryz.prog w= .ok ([a0,a1,a2,a3,a4,a5,a6,a7]==[b0,b1,b2,b3,b4,b5,b6,b7]) w:=by
 obtain ⟨i,hi⟩:=info64
 rw [run_equalIn_array w 9998 _ _ und130 hi,QBF,show List.range 4=[0,1,2,3] from rfl]
 have e2: ∀ (w:World) (a b x y:Int),(Op.equalIn 9998 64 (.agg #[.int .i64 a,.int .i64 b]) (.agg #[.int .i64 x,.int .i64 y])).run Tryz.prog w= .ok ((a==x)&&((b==y)&&true)) w:=fun w a b x y=>eq2 64 (.inr rfl) w 9998 (by decide) a b x y
 simp [Op.eqItems,part,Tryz.isAgg64,Tryz.sizeOf64,e2]
 by_cases h0:a0=b0
 ·
  by_cases h1:a1=b1
  ·
   by_cases h2:a2=b2
   ·
    by_cases h3:a3=b3
    ·
     by_cases h4:a4=b4
     ·
      by_cases h5:a5=b5
      ·
       by_cases h6:a6=b6
       ·
        by_cases h7:a7=b7
        ·
         simp [h0,h1,h2,h3,h4,h5,h6,h7]
        ·simp [h0,h1,h2,h3,h4,h5,h6,h7]
       ·simp [h0,h1,h2,h3,h4,h5,h6]
      ·simp [h0,h1,h2,h3,h4,h5]
     ·simp [h0,h1,h2,h3,h4]
    ·simp [h0,h1,h2,h3]
   ·simp [h0,h1,h2]
  ·simp [h0,h1]
 ·simp [h0]
theorem meq (w:World)(a0 a1 a2 a3 a4 a5 a6 a7 a8 a9 b0 b1 b2 b3 b4 b5 b6 b7 b8 b9:Int):
  (Op.equal 132 (.agg #[.int .i64 a0,.int .i64 a1,.int .i64 a2,.int .i64 a3,.int .i64 a4,.int .i64 a5,.int .i64 a6,.int .i64 a7,.int .i64 a8,.int .i64 a9]) (.agg #[.int .i64 b0,.int .i64 b1,.int .i64 b2,.int .i64 b3,.int .i64 b4,.int .i64 b5,.int .i64 b6,.int .i64 b7,.int .i64 b8,.int .i64 b9])).run Tryz.prog w= .ok ([a0,a1,a2,a3,a4,a5,a6,a7,a8,a9]==[b0,b1,b2,b3,b4,b5,b6,b7,b8,b9]) w:=by
 show (Op.equalIn (9999+1) 132 _ _).run Tryz.prog w=_
 rw [run_equalIn_struct w 9999 132 _ _ (by kernel_rfl) (by kernel_rfl),QBE]
 have e2: ∀ (w:World) (a b x y:Int),(Op.equalIn 9999 54 (.agg #[.int .i64 a,.int .i64 b]) (.agg #[.int .i64 x,.int .i64 y])).run Tryz.prog w= .ok ((a==x)&&((b==y)&&true)) w:=fun w a b x y=>eq2 54 (.inl rfl) w 9999 (by decide) a b x y
 have e4:=fun w=>arr4 w a2 a3 a4 a5 a6 a7 a8 a9 b2 b3 b4 b5 b6 b7 b8 b9
 simp [Op.eqFields,part,Tryz.isAgg54,Tryz.sizeOf54,Tryz.isAgg130,Tryz.sizeOf130,e2,e4]
 by_cases h0:a0=b0
 ·by_cases h1:a1=b1
  ·simp [h0,h1]
   generalize (a2==b2&&(a3==b3&&(a4==b4&&(a5==b5&&(a6==b6&&(a7==b7&&(a8==b8&&a9==b9)))))))=q
   cases q<;>rfl
  ·simp [h0,h1]
 ·simp [h0]
def kV (z:List Int):Value:= .agg (z.map (Value.int .i64)).toArray
theorem ten {z:List Int}(h:z.length=10): ∃ a0 a1 a2 a3 a4 a5 a6 a7 a8 a9,z=[a0,a1,a2,a3,a4,a5,a6,a7,a8,a9]:=by
 match z,h with
 | [a0,a1,a2,a3,a4,a5,a6,a7,a8,a9],_=>exact ⟨_,_,_,_,_,_,_,_,_,_,rfl⟩
theorem keq (w:World){x y:List Int}(hx:x.length=10)(hy:y.length=10):(Op.equal 132 (kV x) (kV y)).run Tryz.prog w= .ok (x==y) w:=by
 obtain ⟨a0,a1,a2,a3,a4,a5,a6,a7,a8,a9,rfl⟩:=ten hx
 obtain ⟨b0,b1,b2,b3,b4,b5,b6,b7,b8,b9,rfl⟩:=ten hy
 exact meq w a0 a1 a2 a3 a4 a5 a6 a7 a8 a9 b0 b1 b2 b3 b4 b5 b6 b7 b8 b9
theorem Qhd {x y:List Int}(h:kV x=kV y):x=y:=by
 have h:(x.map (Value.int .i64)).toArray=(y.map (Value.int .i64)).toArray:=by injection h
 have h:=congrArg Array.toList h
 simp only at h
 exact (List.map_inj_right (fun a b e=>by injection e)).1 h
def QbH (es:List MapEntry)(ks:List (List Int)):Prop:=(∀ e∈es,e.val= .bool true∧ ∃ z∈ks,z.length=10/\e.key=kV z)∧ ∀ z∈ks, ∃ e∈es,e.key=kV z
theorem Qqv (w:World){z:List Int}(hz:z.length=10): ∀ (es:List MapEntry) (i:Nat),(∀ e∈es, ∃ y:List Int,y.length=10/\e.key=kV y)→
  ((Instr.findAsking 132 (kV z) es i).run Tryz.prog w= .ok none w∧ ∀ e∈es,e.key≠kV z)∨ ∃ j e,(Instr.findAsking 132 (kV z) es i).run Tryz.prog w= .ok (some (i+j,e.val)) w/\es[j]? = some e/\e.key=kV z
 | [],i,_=> .inl ⟨by simp [Instr.findAsking],by simp⟩
 |e::es,i,h=>by
  obtain ⟨y,hy,hk⟩:=h e BT
  have he:=keq w hz hy
  by_cases hq:z=y
  ·subst hq
   refine .inr ⟨0,e, ?_,rfl,hk⟩
   simp [Instr.findAsking,hk,he]
  ·rcases Qqv w hz es (i+1) (fun e he=>h e (BF _ he)) with ⟨h1,h2⟩|⟨j,e',h1,h2,h3⟩
   ·refine .inl ⟨by simp [Instr.findAsking,hk,he,hq,h1],fun e' he'=> ?_⟩
    rcases BD.1 he' with rfl|he'
    ·rw [hk]
     exact fun e=>hq (Qhd e).symm
    ·exact h2 e' he'
   ·refine .inr ⟨j+1,e', ?_,by simpa using h2,h3⟩
    simp [Instr.findAsking,hk,he,hq,h1]
    omega
set_option maxRecDepth 100000 in
theorem Qqw (w:World)(em:Bool){z:List Int}(hz:z.length=10):(Instr.checkKey em 10000 132 (kV z)).run Tryz.prog w= .ok () w:=by
 obtain ⟨a0,a1,a2,a3,a4,a5,a6,a7,a8,a9,rfl⟩:=ten hz
 kernel_rfl
theorem Qqx (w:World){z:List Int}(hz:z.length=10)(es:List MapEntry)(h: ∀ e∈es, ∃ y:List Int,y.length=10/\e.key=kV y):
  ((Instr.findKey 132 (kV z) es).run Tryz.prog w= .ok none w∧ ∀ e∈es,e.key≠kV z)∨ ∃ j e,(Instr.findKey 132 (kV z) es).run Tryz.prog w= .ok (some (j,e.val)) w/\es[j]? = some e/\e.key=kV z:=by
 cases es with
 |nil=>
  refine .inl ⟨?_,by simp⟩
  simp [Instr.findKey,run_underlying Tryz.underlying132,Instr.findNow]
 |cons e es=>
  have:=Qqv w hz (e::es) 0 h
  simp only [DN] at this
  have hn: ∀ k:Value,Instr.findNow (.struct (Tryz.prog.fieldsOf 132)) k (e::es) 0=none:=fun k=>by simp [Instr.findNow,Instr.sameNow]
  have e1:(Instr.findKey 132 (kV z) (e::es)).run Tryz.prog w=(Instr.findAsking 132 (kV z) (e::es) 0).run Tryz.prog w:=by
   simp [Instr.findKey,run_underlying Tryz.underlying132,Instr.findNow,Instr.sameNow]
  rw [e1]
  exact this
theorem QBG (w:World){bm clk:Nat}{es:Array MapEntry}{ks:List (List Int)}{z:List Int}(hz:z.length=10)(hb:w.heap[bm]? = some (.map es clk))(hE:QbH es.toList ks):
  (Instr.lookup 129 (.map (some bm)) (kV z) false).run Tryz.prog w= .ok (.bool (decide (z∈ks))) w:=by
 have hc:=Qqw w es.isEmpty hz
 have hz0:(zeroValue 4).run Tryz.prog w= .ok (.bool false) w:=by kernel_rfl
 rcases Qqx w hz es.toList (fun e he=>by obtain ⟨_,y,_,h1,h2⟩:=hE.1 e he;exact ⟨y,h1,h2⟩) with ⟨h1,h2⟩|⟨j,e,h1,h2,h3⟩
 ·have hn: ¬ z∈ks:=fun hm=>by obtain ⟨e,he,hk⟩:=hE.2 z hm;exact h2 e he hk
  have hg:(getObj bm).run Tryz.prog w= .ok (.map es clk) w:=by simp [getObj,Sem.run,hb]
  simp [Instr.lookup,run_underlying Tryz.underlying129,hg,hc,h1,hz0,hn]
 ·have he:=Dk h2
  obtain ⟨hv,y,hy,hyl,hyk⟩:=hE.1 e he
  have hm:z∈ks:=by rw [Qhd (h3.symm.trans hyk)];exact hy
  have hg:(getObj bm).run Tryz.prog w= .ok (.map es clk) w:=by simp [getObj,Sem.run,hb]
  simp [Instr.lookup,run_underlying Tryz.underlying129,hg,hc,h1,hv,hm]
theorem QBH (w:World){bm clk:Nat}{es:Array MapEntry}{ks:List (List Int)}{z:List Int}(hz:z.length=10)(hb:w.heap[bm]? = some (.map es clk))(hE:QbH es.toList ks):
  ∃ w',(Instr.mapUpdate 129 (.map (some bm)) (kV z) (.bool true)).run Tryz.prog w= .ok () w'/\(∃ es' clk',w'.heap[bm]? = some (.map es' clk')/\QbH es'.toList (ks++[z]))/\w.grownBy w' (some bm):=by
 have hc:=Qqw w false hz
 have hg:(getObj bm).run Tryz.prog w= .ok (.map es clk) w:=by simp [getObj,Sem.run,hb]
 have hs: ∀ o,(setObj bm o).run Tryz.prog w= .ok () {w with heap:=w.heap.setIfInBounds bm o}:=fun o=>by simp [setObj,Sem.run,hb]
 have hlt:bm<w.heap.size:=(BX.1 hb).1
 have hgr: ∀ o,w.grownBy {w with heap:=w.heap.setIfInBounds bm o} (some bm):=fun o=>⟨rfl,rfl,rfl,by simp,fun i _ hi=>by
  have:bm≠i:=fun e=>hi (by rw [e])
  simp [Array.getElem?_setIfInBounds_ne this]⟩
 rcases Qqx w hz es.toList (fun e he=>by obtain ⟨_,y,_,h1,h2⟩:=hE.1 e he;exact ⟨y,h1,h2⟩) with ⟨h1,h2⟩|⟨j,e,h1,h2,h3⟩
 ·refine ⟨{w with heap:=w.heap.setIfInBounds bm (.map (es.push {key:=kV z,val:= .bool true,born:=clk }) (clk+1)) }, ?_,⟨es.push {key:=kV z,val:= .bool true,born:=clk },clk+1,by simp [hlt], ?_⟩,hgr _⟩
  ·simp [Instr.mapUpdate,run_underlying Tryz.underlying129,hg,hc,h1,hs]
  ·rw [Array.toList_push]
   refine ⟨fun e he=> ?_,fun y hy=> ?_⟩
   ·rcases Bu.1 he with he|he
    ·obtain ⟨a,y,b,c,d⟩:=hE.1 e he
     exact ⟨a,y,List.mem_append_left _ b,c,d⟩
    ·rw [B3.1 he]
     exact ⟨rfl,z,Dw _ BT,hz,rfl⟩
   ·rcases Bu.1 hy with hy|hy
    ·obtain ⟨e,he,hk⟩:=hE.2 y hy
     exact ⟨e,List.mem_append_left _ he,hk⟩
    ·rw [B3.1 hy]
     exact ⟨_,Dw _ BT,rfl⟩
 ·have he:=Dk h2
  obtain ⟨hv,y,hy,hyl,hyk⟩:=hE.1 e he
  have hm:z∈ks:=by rw [Qhd (h3.symm.trans hyk)];exact hy
  have hj:es[j]? = some e:=by rw [←Array.getElem?_toList];exact h2
  have hst:(Instr.keyThatStays (kV z) (kV z)).run Tryz.prog w= .ok (kV z) w:=by
   obtain ⟨a0,a1,a2,a3,a4,a5,a6,a7,a8,a9,rfl⟩:=ten hz
   simp [Instr.keyThatStays,Instr.sameBits,kV]
  have hmod:(es.modify j fun e=>{e with key:=kV z,val:= .bool true })=es:=by
   apply Array.ext
   ·simp
   ·intro i hi1 hi2
    rw [Array.getElem_modify]
    split
    ·rename_i hji
     subst hji
     have:es[j]=e:=by
      have:=BX.1 hj
      exact this.2
     rw [this]
     cases e
     simp only at h3 hv
     subst h3 hv
     rfl
    ·rfl
  refine ⟨{w with heap:=w.heap.setIfInBounds bm (.map (es.modify j fun e=>{e with key:=kV z,val:= .bool true }) clk) }, ?_,⟨es,clk,by rw [hmod];simp [hlt],fun e he=> ?_,fun y hy=> ?_⟩,hgr _⟩
  ·simp [Instr.mapUpdate,run_underlying Tryz.underlying129,hg,hc,h1,hs,hj,h3,hst]
  ·obtain ⟨a,y,b,c,d⟩:=hE.1 e he
   exact ⟨a,y,List.mem_append_left _ b,c,d⟩
  ·rcases Bu.1 hy with hy|hy
   ·exact hE.2 y hy
   ·rw [B3.1 hy]
    exact hE.2 z hm
end Go.Proofs.YtmjnnemhoeolgaaGreat.K
noncomputable section
namespace Go.Proofs.YtmjnnemhoeolgaaGreat.K
open Go.RowKit
noncomputable section
def JZ (s:Endpoint)(o:Keep):List Int:=o.1::o.2.1::(GO (Jb s o).1).flatMap fun u=>[u.1,u.2.1]
def Qfc (b a:Estate)(i:Int)(o:Keep):Bool:=(QX b i).1.any fun x=>JZ (QX b i).2 x==JZ (QX a i).2 o
def Yj (b a:Estate)(i:Int):List Keep:=(QX a i).1.filter fun o=> !Qfc b a i o
def Qag (b a:Estate)(i:Int):Bool:=Ys b i&&Ys a i
theorem QxM (b a:Estate)(i:Int):(Yj b a i).length<=64:=B0 (List.length_filter_le _ _) IA
theorem QmS (e:Estate)(i:Int):Yj e e i=[]:=by
 unfold Yj
 rw [List.filter_eq_nil_iff]
 intro o ho
 have:Qfc e e i o=true:=List.any_eq_true.2 ⟨o,ho,beq_self_eq_true _⟩
 simp [this]
end
end Go.Proofs.YtmjnnemhoeolgaaGreat.K
noncomputable section
namespace Go.Proofs.YtmjnnemhoeolgaaGreat.K
open Go.RowKit
theorem QvN {X:Nat->Nat->Prop}{w w':World}(h:Below w.heap.size w w'):Ext0 X w X w':=⟨h.size,fun b o hb hx=>⟨hx,h.cell (p:=⟨b,o,none⟩) hb⟩⟩
theorem QvO (s:Endpoint)(o:Keep):(Jb s o).1=[]∨ ∃ a b c d,(Jb s o).1=[a,b,c,d]:=by
 unfold Jb
 cases QW s with
 |false=>exact .inl rfl
 |true=>
  cases ine (QL o.2.1).2 0 with
  |true=>exact .inl rfl
  |false=>
   cases (Zg s o.2.1).2 with
   |false=>exact .inl rfl
   |true=>exact .inr ⟨_,_,_,_,rfl⟩
theorem mV_mth (s:Endpoint)(o:Keep):Value.agg (mV o (Jb s o).1)=kV (JZ s o):=by
 unfold mV kV JZ cU
 rw [Bx,Bx,List.map_flatMap]
 rfl
theorem QkR (s:Endpoint)(o:Keep):(JZ s o).length=10:=by
 have h:(GO (Jb s o).1).length=4:=by simp [GO]
 have h2:=Qdq (GO (Jb s o).1)
 have h3:((GO (Jb s o).1).flatMap fun u=>[u.1,u.2.1]).length=(cU (GO (Jb s o).1)).length:=by
  unfold cU
  rw [List.length_flatMap,List.length_flatMap]
  rfl
 unfold JZ
 rw [Bo,Bo,h3,h2,h]
def EpV (w:World)(s:Endpoint)(v0 v1 v2 v3 v4 v5 v6 v7 v8:Value):Prop:=
 (∃ (X:Nat->Nat->Prop) (σ:Pl),(∀ b q,X b q->b<w.heap.size)/\C X w σ (V.t QD s).d (.agg #[v0,v1,v2,v3,v4,v5,v6,v7,v8]))∧
 (v0.oneCell'=true/\v1.oneCell'=true/\v2.oneCell'=true/\v3.oneCell'=true/\v4.oneCell'=true/\v5.oneCell'=true/\v6.oneCell'=true/\v7.oneCell'=true/\v8.oneCell'=true)
def Stand (w w':World):Prop:=w.heap.size<=w'.heap.size∧ ∀ b o,b<w.heap.size->w'.cell? ⟨b,o,none⟩=w.cell? ⟨b,o,none⟩
theorem Stand.below {w w':World}(h:Below w.heap.size w w'):Stand w w':=⟨h.size,fun b o hb=>h.cell (p:=⟨b,o,none⟩) hb⟩
theorem Stand.trans {a b c:World}(h:Stand a b)(k:Stand b c):Stand a c:=⟨B0 h.1 k.1,fun x o hx=>(k.2 x o (BP hx h.1)).trans (h.2 x o hx)⟩
theorem EpV.stand {w w':World}{s:Endpoint}{v0 v1 v2 v3 v4 v5 v6 v7 v8:Value}(h:EpV w s v0 v1 v2 v3 v4 v5 v6 v7 v8)(k:Stand w w'):EpV w' s v0 v1 v2 v3 v4 v5 v6 v7 v8:=by
 obtain ⟨⟨X,σ,hf,hc⟩,h1⟩:=h
 exact ⟨⟨X,σ,fun b q hq=>BP (hf b q hq) k.1,C.ext0 ⟨k.1,fun b o hb hx=>⟨hx,k.2 b o hb⟩⟩ _ _ (fun _ _=>rfl) hc⟩,h1⟩
theorem QkS {w:World}{s:Endpoint}{o:Keep}{v0 v1 v2 v3 v4 v5 v6 v7 v8:Value}(hs:EpV w s v0 v1 v2 v3 v4 v5 v6 v7 v8)(hl:Jo s=true):
  Calls Tryz.prog 59 #[.agg #[v0,v1,v2,v3,v4,v5,v6,v7,v8],GN o] w fun e w'=>e= .returned (kV (JZ s o))/\Below w.heap.size w w':=by
 obtain ⟨o0,o1,o2,o3,o4,o5,o6,o7,o8⟩:=hs.2
 rw [←mV_mth]
 exact of_any o0 o1 o2 o3 o4 o5 o6 o7 o8 (fun W hW=>by
  obtain ⟨⟨X,σ,hf,hc⟩,_⟩:=hs.stand (Stand.below hW)
  exact QF1 hf hc hl) (QvO s o)
theorem QkT {X:Nat->Nat->Prop}{w:World}{σ:Pl}{s:Endpoint}{u:Value}(h:C X w σ (V.t QD s).d u): ∃ v0 v1 v2 v3 v4 v5 v6 v7 v8,u= .agg #[v0,v1,v2,v3,v4,v5,v6,v7,v8]∧
  (v0.oneCell'=true/\v1.oneCell'=true/\v2.oneCell'=true/\v3.oneCell'=true/\v4.oneCell'=true/\v5.oneCell'=true/\v6.oneCell'=true/\v7.oneCell'=true/\v8.oneCell'=true):=by
 simp only [V.d] at h
 rw [Ty.d_row QD _ rfl] at h
 simp only [C] at h
 obtain ⟨us,rfl,h⟩:=h
 have hl:us.length=9:=h.len.trans (by rw [QD.cells_len];rfl)
 have one: ∀ v∈us,v.oneCell'=true:=Cs.cell1 h (show (QD.cells s).all D.cell1=true from rfl)
 match us,hl with
 | [v0,v1,v2,v3,v4,v5,v6,v7,v8],_=>exact ⟨v0,v1,v2,v3,v4,v5,v6,v7,v8,rfl,one _ (by simp),one _ (by simp),one _ (by simp),one _ (by simp),one _ (by simp),one _ (by simp),one _ (by simp),one _ (by simp),one _ (by simp)⟩
theorem QvP {X:Nat->Nat->Prop}{w:World}{σ:Pl}{e:Estate}{i:Int}{bv:Value}(hfin: ∀ b q,X b q->b<w.heap.size)(hs:C X w σ (V.t QJ e).d bv)(hok:Ys e i=true):
  Calls Tryz.prog 55 #[bv,.int .i64 i] w fun en w'=> ∃ A c v0 v1 v2 v3 v4 v5 v6 v7 v8,en= .returned (.tuple #[.slice A (QX e i).1.length c,.agg #[v0,v1,v2,v3,v4,v5,v6,v7,v8]])/\(QX e i).1.length<=c/\c<=maxLen∧
   (0<(QX e i).1.length→ ∃ b off,A=some ⟨b,off,none⟩/\b<w'.heap.size∧ ∀ j v,(cU (QX e i).1)[j]? = some v->w'.cell? ⟨b,off+j,none⟩=some v)/\EpV w' (QX e i).2 v0 v1 v2 v3 v4 v5 v6 v7 v8/\Below w.heap.size w w':=by
 have hF:Qq Eo [.t QJ e,.t tI i] []=some (.tu [.t (.sl Qe) (QX e i).1,.t QD (QX e i).2],[]):=by
  unfold Eo
  exact V6 (a:= .pr QJ (.pr tI .nil)) (x:=(e,(i,()))) (by simp [Ty.args,Qc8]) hok
 refine (UJ (by decide) (Qh0.2 _ _ _ _ hF X w σ [bv,.int .i64 i] hfin Qjt ⟨bv,_,rfl,hs,.int .i64 i,_,rfl,⟨rfl,rfl⟩,rfl⟩)).mono ?_
 rintro en w' ⟨u,X',σ',rfl,h1,h2⟩
 have h1:C X' w' σ' (.tu [.sl (QX e i).1.length ((QX e i).1.flatMap Qe.cells),(V.t QD (QX e i).2).d]) u:=h1
 simp only [C,Cs] at h1
 obtain ⟨vs,rfl,u1,us,rfl,⟨A,c,rfl,g1,g2,g3,g4⟩,u2,us2,rfl,hep,rfl⟩:=h1
 obtain ⟨v0,v1,v2,v3,v4,v5,v6,v7,v8,rfl,hone⟩:=QkT hep
 refine ⟨A,c,v0,v1,v2,v3,v4,v5,v6,v7,v8,rfl,g1,g2,fun hp=> ?_,⟨⟨X',σ',h2.fin,hep⟩,hone⟩,Qju h2⟩
 obtain ⟨b,off,vs,rfl,k1,k2⟩:=g4 hp
 rw [Qdr k1] at k2
 exact ⟨b,off,rfl,k2.lt,fun j v hv=>k2.at_ j v hv⟩
theorem QvQ {X:Nat->Nat->Prop}{w:World}{σ:Pl}{e:Estate}{i:Int}{bv:Value}(hfin: ∀ b q,X b q->b<w.heap.size)(hs:C X w σ (V.t QJ e).d bv)(hok:Ys e i=true):
  Calls Tryz.prog 55 #[bv,.int .i64 i] w fun en w'=> ∃ A c X' σ' v0 v1 v2 v3 v4 v5 v6 v7 v8,en= .returned (.tuple #[.slice A (QX e i).1.length c,.agg #[v0,v1,v2,v3,v4,v5,v6,v7,v8]])/\(QX e i).1.length<=c/\c<=maxLen∧
   (∀ b q,X' b q->b<w'.heap.size)/\(∀ b q,b<w.heap.size->X b q->X' b q)/\(0<(QX e i).1.length→ ∃ b off,A=some ⟨b,off,none⟩/\b<w'.heap.size∧ ¬ X' b off∧ ∀ j v,(cU (QX e i).1)[j]? = some v->w'.cell? ⟨b,off+j,none⟩=some v)/\C X' w' σ' (V.t QD (QX e i).2).d (.agg #[v0,v1,v2,v3,v4,v5,v6,v7,v8])/\(v0.oneCell'=true/\v1.oneCell'=true/\v2.oneCell'=true/\v3.oneCell'=true/\v4.oneCell'=true/\v5.oneCell'=true/\v6.oneCell'=true/\v7.oneCell'=true/\v8.oneCell'=true)/\Below w.heap.size w w':=by
 have hF:Qq Eo [.t QJ e,.t tI i] []=some (.tu [.t (.sl Qe) (QX e i).1,.t QD (QX e i).2],[]):=by
  unfold Eo
  exact V6 (a:= .pr QJ (.pr tI .nil)) (x:=(e,(i,()))) (by simp [Ty.args,Qc8]) hok
 refine (UJ (by decide) (Qh0.2 _ _ _ _ hF X w σ [bv,.int .i64 i] hfin Qjt ⟨bv,_,rfl,hs,.int .i64 i,_,rfl,⟨rfl,rfl⟩,rfl⟩)).mono ?_
 rintro en w' ⟨u,X',σ',rfl,h1,h2⟩
 have h1:C X' w' σ' (.tu [.sl (QX e i).1.length ((QX e i).1.flatMap Qe.cells),(V.t QD (QX e i).2).d]) u:=h1
 simp only [C,Cs] at h1
 obtain ⟨vs,rfl,u1,us,rfl,⟨A,c,rfl,g1,g2,g3,g4⟩,u2,us2,rfl,hep,rfl⟩:=h1
 obtain ⟨v0,v1,v2,v3,v4,v5,v6,v7,v8,rfl,hone⟩:=QkT hep
 refine ⟨A,c,X',σ',v0,v1,v2,v3,v4,v5,v6,v7,v8,rfl,g1,g2,h2.fin,fun b q hb hq=>h2.old b q hb (fun i hi=>absurd hi (by simp)) hq,fun hp=> ?_,hep,hone,Qju h2⟩
 obtain ⟨b,off,vs,rfl,k1,k2⟩:=g4 hp
 rw [Qdr k1] at k2
 have nx:=k2.nx 0 (by rw [Qdq];omega)
 exact ⟨b,off,rfl,k2.lt,nx,fun j v hv=>k2.at_ j v hv⟩
theorem Qd8: ∀ (l:List Keep) (k:Nat) (hk:k<l.length),(cU l)[k*2]? = some (.int .i64 l[k].1)/\(cU l)[k*2+1]? = some (.int .i64 l[k].2.1)
 | [],_,h=>by simp at h
 |x::l,0,_=>⟨rfl,rfl⟩
 |x::l,k+1,h=>by
  have:=Qd8 l k (by simpa using h)
  have e:cU (x::l)= .int .i64 x.1:: .int .i64 x.2.1::cU l:=rfl
  rw [e,show (k+1)*2=k*2+1+1 by omega,BU,BU,BU,BU]
  exact this
theorem QkU {w w':World}(h:Below w.heap.size w w'):w.grownBy w' none:=⟨h.os,h.tape,h.output,h.size,fun j hj _=>h.block j hj⟩
theorem QkV {X:Nat->Nat->Prop}{w:World}{σ:Pl}{s:Estate}{u:Value}(h:C X w σ (V.t QJ s).d u): ∃ v0 v1 v2,u= .agg #[v0,v1,v2]/\(v0.oneCell'=true/\v1.oneCell'=true/\v2.oneCell'=true):=by
 simp only [V.d] at h
 rw [Ty.d_row QJ _ rfl] at h
 simp only [C] at h
 obtain ⟨us,rfl,h⟩:=h
 have hl:us.length=3:=h.len.trans (by rw [QJ.cells_len];rfl)
 have one: ∀ v∈us,v.oneCell'=true:=fun v hv=>Cs.cell1 h (show (QJ.cells s).all D.cell1=true from rfl) v hv
 match us,hl with
 | [v0,v1,v2],_=>exact ⟨v0,v1,v2,rfl,one _ (by simp),one _ (by simp),one _ (by simp)⟩
theorem QvR:ElemOk Tryz.prog 48 54 2 16:=ElemOk.of (.agg #[.int .i64 0,.int .i64 0]) (by kernel_rfl) (by kernel_rfl) (by kernel_rfl) (by decide)
theorem QvS {X:Nat->Nat->Prop}{w w':World}{σ:Pl}{d:D}{u:Value}(h:C X w σ d u)(k:Stand w w'):C X w' σ d u:=C.ext0 ⟨k.1,fun b o hb hx=>⟨hx,k.2 b o hb⟩⟩ _ _ (fun _ _=>rfl) h
def MapAt (w:World)(bm:Nat)(ks:List (List Int)):Prop:= ∃ es clk,w.heap[bm]? = some (.map es clk)/\QbH es.toList ks
theorem MapAt.below {w w':World}{bm:Nat}{ks:List (List Int)}(h:MapAt w bm ks)(hb:Below w.heap.size w w'):MapAt w' bm ks:=by
 obtain ⟨es,clk,h1,h2⟩:=h
 exact ⟨es,clk,(hb.block bm (BX.1 h1).1).trans h1,h2⟩
set_option maxRecDepth 50000 in
set_option maxHeartbeats 4000000 in
theorem QvT {X:Nat->Nat->Prop}{w:World}{σ:Pl}{b a:Estate}{i:Int}{u0 u1 u2 t0 t1 t2:Value}(hfin: ∀ b q,X b q->b<w.heap.size)
  (hb:C X w σ (V.t QJ b).d (.agg #[u0,u1,u2])) (ha:C X w σ (V.t QJ a).d (.agg #[t0,t1,t2])) (ou0:u0.oneCell'=true) (ou1:u1.oneCell'=true) (ou2:u2.oneCell'=true) (ot0:t0.oneCell'=true) (ot1:t1.oneCell'=true) (ot2:t2.oneCell'=true)
  (h1:Ys b i=true) (h2:Ys a i=true):
  Calls Tryz.prog 32 #[.agg #[u0,u1,u2],.agg #[t0,t1,t2],.int .i64 i] w fun en w'=> ∃ sv B,en= .returned sv/\w.heap.size<=B/\w'.ownsRow B 54 2 sv (Yj b a i).length (cU (Yj b a i))/\Below w.heap.size w w':=by
 have HB:=Lib.hid hb
 have HA:=Lib.hid ha
 have HF:=Lib.hid hfin
 have H1:=Lib.hid h1
 have H2:=Lib.hid h2
 clear hb ha hfin h1 h2
 have hmm:= @run_makeMap Tryz.prog
 go_enter Tryz.func32,Tryz.ntmps32
 go_wp2_with fail
 obtain ⟨Wa,ha⟩: ∃ Wa,Wa=w.alloc (.cells #[u0,u1,u2] 31):=⟨_,rfl⟩
 obtain ⟨Wb,hb⟩: ∃ Wb,Wb=Wa.alloc (.cells #[t0,t1,t2] 31):=⟨_,rfl⟩
 obtain ⟨Wc,hc⟩: ∃ Wc,Wc=Wb.alloc (.map #[] 0):=⟨_,rfl⟩
 obtain ⟨S,hS⟩: ∃ S,S=w.heap.size:=⟨_,rfl⟩
 rw [←ha, ← hb, ← hc, ← hS]
 have sa:Wa.heap.size=S+1:=by rw [ha,World.size_alloc,hS]
 have sb:Wb.heap.size=S+1+1:=by rw [hb,World.size_alloc,sa]
 have sc:Wc.heap.size=S+1+1+1:=by rw [hc,World.size_alloc,sb]
 have bW:Below w.heap.size w Wc:=by
  rw [hc,hb,ha]
  have e1:=(Below.refl w.heap.size w).alloc (BB _) (.cells #[u0,u1,u2] 31)
  have e2:=e1.alloc e1.size (.cells #[t0,t1,t2] 31)
  exact e2.alloc e2.size _
 have kB:Go.Proofs.YtmjnnemhoeolgaaGreat.Blk Wc (S+1) 31 #[t0,t1,t2]:=by
  rw [hc];refine Go.Proofs.YtmjnnemhoeolgaaGreat.Blk.alloc ?_ _;rw [hb, ← sa];exact Go.Proofs.YtmjnnemhoeolgaaGreat.Blk.new _ _ _
 have mp:MapAt Wc (S+1+1) []:=⟨#[],0,by rw [hc, ← sb];exact heap_alloc_new Wb _,fun e he=>by simp at he,fun z hz=>by simp at hz⟩
 have fX: ∀ b q,X b q->b<Wc.heap.size:=fun b q hq=>BP (HF.out b q hq) bW.size
 clear ha hb hc sa sb
 refine (QvP (X:=X) (σ:=σ) (i:=i) fX (QvS HB.out (Stand.below bW)) H1.out).mono ?_
 rintro en w1 ⟨A,c,v0,v1,v2,v3,v4,v5,v6,v7,v8,rfl,hc1,hc2,hcell,hep,hb1⟩
 have hsz:=hb1.size
 have kB:=kB.ext hb1
 have mp:=mp.below hb1
 have b1:Below S w w1:=hS▸WC bW hb1 (by omega)
 have hln:(QX b i).1.length<=64:=IA
 have hel:Jo (QX b i).2=true:=(Bg.1 (Bg.1 H1.out).2).2
 obtain ⟨l,hl⟩: ∃ l,l=(QX b i).1:=⟨_,rfl⟩
 obtain ⟨s,hs⟩: ∃ s,s=(QX b i).2:=⟨_,rfl⟩
 rw [←hl] at hc1 hcell hln ⊢
 rw [←hs] at hep hel
 have HW:=Lib.hid (show Stand w w1/\S+1+1+1<=w1.heap.size from ⟨(Stand.below bW).trans (Stand.below hb1),by omega⟩)
 obtain ⟨p0,p1,p2,p3,p4,p5,p6,p7,p8⟩:=hep.2
 have HE:=Lib.hid hep
 have HM:=Lib.hid mp
 have HC:=Lib.hid hcell
 have HL:=Lib.hid hl
 have HS:=Lib.hid hs
 have HB1:=Lib.hid b1
 have HSS:=Lib.hid hS
 have HEL:=Lib.hid hel
 have HKB:=Lib.hid kB
 clear bW kB mp fX hb1 hsz b1 hl hs hep hcell hS sc HB hel Wa Wb
 have sv0:=fun a m W=>run_store Tryz.prog W a v0 m p0
 have sv1:=fun a m W=>run_store Tryz.prog W a v1 m p1
 have sv2:=fun a m W=>run_store Tryz.prog W a v2 m p2
 have sv3:=fun a m W=>run_store Tryz.prog W a v3 m p3
 have sv4:=fun a m W=>run_store Tryz.prog W a v4 m p4
 have sv5:=fun a m W=>run_store Tryz.prog W a v5 m p5
 have sv6:=fun a m W=>run_store Tryz.prog W a v6 m p6
 have sv7:=fun a m W=>run_store Tryz.prog W a v7 m p7
 have sv8:=fun a m W=>run_store Tryz.prog W a v8 m p8
 generalize hn:l.length=n at*
 have HN:=Lib.hid hn
 clear hn
 go_wp2_with fail
 clear sv0 sv1 sv2 sv3 sv4 sv5 sv6 sv7 sv8
 obtain ⟨Q,hQ⟩: ∃ Q,Q=w1.heap.size:=⟨_,rfl⟩
 obtain ⟨W2,hW2⟩: ∃ W2,W2=w1.alloc (.cells #[v0,v1,v2,v3,v4,v5,v6,v7,v8] 61):=⟨_,rfl⟩
 rw [←hQ, ← hW2]
 have b2:Below w1.heap.size w1 W2:=hW2▸(Below.refl _ _).alloc (BB _) _
 have kQ:Go.Proofs.YtmjnnemhoeolgaaGreat.Blk W2 Q 61 #[v0,v1,v2,v3,v4,v5,v6,v7,v8]:=by rw [hW2,hQ];exact Go.Proofs.YtmjnnemhoeolgaaGreat.Blk.new _ _ _
 have bS:Below S w W2:=WC HB1.out b2 (by have:=HW.out.2;omega)
 have mp:MapAt W2 (S+1+1) []:=HM.out.below b2
 have HE:=Lib.hid (HE.out.stand (Stand.below b2))
 have HB0:=Lib.hid bS
 have HKQ:=Lib.hid kQ
 have HKB:=Lib.hid (HKB.out.ext b2)
 have HW:=Lib.hid (show Stand w W2/\S+1+1+1<=Q/\Q<W2.heap.size from ⟨HW.out.1.trans (Stand.below b2),by have:=HW.out.2;omega,kQ.lt⟩)
 have HC2:=Lib.hid (show 0<n→ ∃ b off,A=some ⟨b,off,none⟩∧ ∀ j v,(cU l)[j]? = some v->W2.cell? ⟨b,off+j,none⟩=some v from fun h=>by
  obtain ⟨b,off,h1,h2,h3⟩:=HC.out h
  exact ⟨b,off,h1,fun j v hv=>(b2.cell (p:=⟨b,off+j,none⟩) h2).trans (h3 j v hv)⟩)
 have HM2:=Lib.hid mp
 clear hW2 b2 kQ bS mp HM HC HB1 hQ
 go_loopw [24] (fun iv wr=> ∃ k:Nat,k<=n/\iv= .int .i64 k/\Stand W2 wr/\Below S w wr/\MapAt wr (S+1+1) ((l.take k).map (JZ s))/\Go.Proofs.YtmjnnemhoeolgaaGreat.Blk wr Q 61 #[v0,v1,v2,v3,v4,v5,v6,v7,v8]) (fun iv _=>n-(intOf iv).toNat)
 case atStart=>exact ⟨0,B7 _,rfl,⟨BB _,fun _ _ _=>rfl⟩,HB0.out,by rw [List.take_zero];exact HM2.out,HKQ.out⟩
 case round=>
  obtain ⟨k,hk,rfl,hst,hbl,hmp,hkq⟩:=hrel
  have HKR:=Lib.hid hkq
  clear hkq
  have HST:=Lib.hid hst
  have HBL:=Lib.hid hbl
  have HMP:=Lib.hid hmp
  clear hst hbl hmp
  by_cases hlt:k<n
  ·have hkl:k<l.length:=by rw [HN.out];exact hlt
   obtain ⟨bb,off,rfl,hcs⟩:=HC2.out (by omega)
   obtain ⟨g0,g1⟩:=Qd8 l k hkl
   obtain ⟨o,ho⟩: ∃ o,o=l[k]:=⟨_,rfl⟩
   rw [←ho] at g0 g1
   have dz: ∀ j v,W2.cell? ⟨bb,off+j,none⟩=some v->wr.cell? ⟨bb,off+j,none⟩=some v:=fun j v h=>by
    have hb:bb<W2.heap.size:=by
     rcases B5 bb W2.heap.size with h1|h1
     ·exact h1
     ·simp [World.cell?, Array.getElem?_eq_none h1] at h
    exact (HST.out.2 bb _ hb).trans h
   have d0:=dz _ _ (hcs _ _ g0)
   have d1:=dz _ _ (hcs _ _ g1)
   rw [←Dy] at d1
   have yz: ∀ j,wr.cell? ⟨Q,j,none⟩=(#[v0,v1,v2,v3,v4,v5,v6,v7,v8]:Array Value)[j]? :=fun j=>(HST.out.2 Q j HW.out.2.2).trans (HKQ.out.cell j)
   have y0:=yz 0
   have y1:=yz 1
   have y2:=yz 2
   have y3:=yz 3
   have y4:=yz 4
   have y5:=yz 5
   have y6:=yz 6
   have y7:=yz 7
   have y8:=yz 8
   simp only [Dt,BW,BU] at y0 y1 y2 y3 y4 y5 y6 y7 y8
   replace y0:=fun ob=>Lib.cell?_alloc_some ob y0
   replace y1:=fun ob=>Lib.cell?_alloc_some ob y1
   replace y2:=fun ob=>Lib.cell?_alloc_some ob y2
   replace y3:=fun ob=>Lib.cell?_alloc_some ob y3
   replace y4:=fun ob=>Lib.cell?_alloc_some ob y4
   replace y5:=fun ob=>Lib.cell?_alloc_some ob y5
   replace y6:=fun ob=>Lib.cell?_alloc_some ob y6
   replace y7:=fun ob=>Lib.cell?_alloc_some ob y7
   replace y8:=fun ob=>Lib.cell?_alloc_some ob y8
   have HO:=Lib.hid (show l[k]? = some o by rw [ho];exact Bh hkl)
   clear dz yz hcs g0 g1 ho hkl
   go_wp2_with fail
   obtain ⟨W3,hW3⟩: ∃ W3,W3=wr.alloc (.cells #[.int .i64 o.1,.int .i64 o.2.1] 54):=⟨_,rfl⟩
   rw [←hW3]
   have b3:Below wr.heap.size wr W3:=hW3▸(Below.refl _ _).alloc (BB _) _
   have hep:=HE.out.stand (HST.out.trans (Stand.below b3))
   refine (QkS (o:=o) hep HEL.out).mono ?_
   rintro e w5 ⟨rfl,hb5⟩
   have mp5:=(HMP.out.below b3).below hb5
   obtain ⟨es,clk,m1,m2⟩:=mp5
   obtain ⟨w6,hrun,mp6,hg6⟩:=QBH w5 (QkR s o) m1 m2
   have st5:Stand W2 w5:=(HST.out.trans (Stand.below b3)).trans (Stand.below hb5)
   have bl5:Below S w w5:=WC (WC HBL.out b3 (by have:=HW.out;have:=HST.out.1;omega)) hb5 (by have:=HW.out;have:=HST.out.1;have:=b3.size;omega)
   have st6:Stand W2 w6:=st5.trans ⟨hg6.size,fun b' o' hb'=>by
    by_cases hbm:b'=S+1+1
    ·subst hbm
     obtain ⟨es',clk',m3,_⟩:=mp6
     simp [World.cell?, m1,m3]
    ·have:=hg6.block b' hb' (fun e=>hbm (by injection e))
     simp [World.cell?, this]⟩
   have bl6:Below S w w6:=Qm4 bl5 hg6 (by omega) (by have:=HW.out;have:=st5.1;omega)
   have HK6:=Lib.hid (((HKR.out.ext b3).ext hb5).grown hg6 (fun e=>by have:=HW.out;injection e;omega))
   have HS6:=Lib.hid st6
   have HB6:=Lib.hid bl6
   have HM6:=Lib.hid mp6
   clear hW3 b3 hep hb5 m1 m2 mp6 hg6 st5 bl5 st6 bl6 d0 d1 y0 y1 y2 y3 y4 y5 y6 y7 y8
   obtain ⟨kv,hkv⟩: ∃ kv,kv=kV (JZ s o):=⟨_,rfl⟩
   rw [←hkv] at hrun ⊢
   have HKV:=Lib.hid hkv
   clear hkv
   go_wp2_with fail
   refine ⟨⟨k+1,hlt,by simp,HS6.out,HB6.out, ?_,HK6.out⟩,by simp [intOf];omega⟩
   have e:l.take (k+1)=l.take k++[o]:=by
    rw [List.take_add_one,HO.out]
    rfl
   rw [e,List.map_append]
   exact HM6.out
  ·obtain rfl:k=n:=by omega
   have hlk:l.take k=l:=DP (by rw [HN.out];exact BB _)
   rw [hlk] at HMP
   have xz: ∀ j,wr.cell? ⟨S+1,j,none⟩=(#[t0,t1,t2]:Array Value)[j]? :=fun j=>(HST.out.2 (S+1) j (by have:=HW.out;omega)).trans (HKB.out.cell j)
   have x0:=xz 0
   have x1:=xz 1
   have x2:=xz 2
   simp only [Dt,BW,BU] at x0 x1 x2
   clear xz hlk
   go_wp2_with fail
   have hwS:w.heap.size<=S:=by rw [HSS.out];exact BB _
   have fX2: ∀ b' q,(X b' q∨b'=Q)->b'<wr.heap.size:=fun b' q hq=>by
    have g1:=HW.out
    have g2:=HST.out.1
    rcases hq with hq|rfl
    ·have:=HF.out b' q hq
     omega
    ·omega
   have eX:Ext0 X w (fun b' q=>X b' q∨b'=Q) wr:=⟨B0 HW.out.1.1 HST.out.1,fun b' o hb' hx=>⟨fun h=>by
    rcases h with h|h
    ·exact hx h
    ·have:=HW.out
     omega,(HW.out.1.trans HST.out).2 b' o hb'⟩⟩
   refine (QvQ (X:=fun b' q=>X b' q∨b'=Q) (σ:=σ) (i:=i) fX2 (C.ext0 eX _ _ (fun _ _=>rfl) HA.out) H2.out).mono ?_
   rintro en w7 ⟨A2,c2,X2,σ2,z0,z1,z2,z3,z4,z5,z6,z7,z8,rfl,hd1,hd2,hfin2,hold2,hcell2,hep2,hone2,hb7⟩
   have mp7:=HMP.out.below hb7
   have kq7:=HKR.out.ext hb7
   have bl7:Below S w w7:=WC HBL.out hb7 (by have:=HW.out;have:=HST.out.1;omega)
   have xQ: ∀ q,X2 Q q:=fun q=>hold2 Q q (by have:=HW.out;have:=HST.out.1;omega) (.inr rfl)
   have hln2:(QX a i).1.length<=64:=IA
   have hel2:Jo (QX a i).2=true:=(Bg.1 (Bg.1 H2.out).2).2
   obtain ⟨l2,hl2⟩: ∃ l2,l2=(QX a i).1:=⟨_,rfl⟩
   obtain ⟨s2,hs2⟩: ∃ s2,s2=(QX a i).2:=⟨_,rfl⟩
   rw [←hl2] at hd1 hcell2 hln2 ⊢
   rw [←hs2] at hep2 hel2
   obtain ⟨r0,r1,r2,r3,r4,r5,r6,r7,r8⟩:=hone2
   have hQ7:S+1+1+1<=Q/\Q<w7.heap.size:=⟨HW.out.2.1,kq7.lt⟩
   have q0:=kq7.cell 0
   have q1:=kq7.cell 1
   have q2:=kq7.cell 2
   have q3:=kq7.cell 3
   have q4:=kq7.cell 4
   have q5:=kq7.cell 5
   have q6:=kq7.cell 6
   have q7:=kq7.cell 7
   have q8:=kq7.cell 8
   simp only [Dt,BW,BU] at q0 q1 q2 q3 q4 q5 q6 q7 q8
   have qf:=kq7.frozen
   have KQ7:=Lib.hid kq7
   have HX2:=Lib.hid (And.intro hfin2 xQ)
   have HC2':=Lib.hid hcell2
   have HE2:=Lib.hid hep2
   have HO2:=Lib.hid (And.intro r0<|And.intro r1<|And.intro r2<|And.intro r3<|And.intro r4<|And.intro r5<|And.intro r6<|And.intro r7 r8)
   have HM7:=Lib.hid mp7
   have HB7:=Lib.hid bl7
   have HL2:=Lib.hid hl2
   have HS2:=Lib.hid hs2
   have HEL2:=Lib.hid hel2
   have HQ7:=Lib.hid hQ7
   have sv0:=fun a m W=>run_store Tryz.prog W a z0 m r0
   have sv1:=fun a m W=>run_store Tryz.prog W a z1 m r1
   have sv2:=fun a m W=>run_store Tryz.prog W a z2 m r2
   have sv3:=fun a m W=>run_store Tryz.prog W a z3 m r3
   have sv4:=fun a m W=>run_store Tryz.prog W a z4 m r4
   have sv5:=fun a m W=>run_store Tryz.prog W a z5 m r5
   have sv6:=fun a m W=>run_store Tryz.prog W a z6 m r6
   have sv7:=fun a m W=>run_store Tryz.prog W a z7 m r7
   have sv8:=fun a m W=>run_store Tryz.prog W a z8 m r8
   clear x0 x1 x2 fX2 eX hfin2 hold2 hcell2 hep2 hb7 mp7 kq7 bl7 xQ hel2 hl2 hs2 hQ7 hwS hk hlt
   generalize hn2:l2.length=n2 at*
   have HN2:=Lib.hid hn2
   clear hn2
   go_wp2_with fail
   obtain ⟨W8,hW8⟩: ∃ W8,W8=w7.setCells Q 0 [z0,z1,z2,z3,z4,z5,z6,z7,z8]:=⟨_,rfl⟩
   have e8:(((((((((w7.setCell ⟨Q,0,none⟩ z0).setCell ⟨Q,1,none⟩ z1).setCell ⟨Q,2,none⟩ z2).setCell ⟨Q,3,none⟩ z3).setCell ⟨Q,4,none⟩ z4).setCell ⟨Q,5,none⟩ z5).setCell ⟨Q,6,none⟩ z6).setCell ⟨Q,7,none⟩ z7).setCell ⟨Q,8,none⟩ z8)=W8:=by rw [hW8];rfl
   rw [e8]
   have fr8:=WH Q [z0,z1,z2,z3,z4,z5,z6,z7,z8] 0 w7
   rw [←hW8] at fr8
   have kQ8:Go.Proofs.YtmjnnemhoeolgaaGreat.Blk W8 Q 61 #[z0,z1,z2,z3,z4,z5,z6,z7,z8]:=by rw [hW8];exact Gh Q 61 (0,0) [z0,z1,z2,z3,z4,z5,z6,z7,z8] 0 w7 _ KQ7.out
   have hp8: ∀ b',b'≠Q->W8.heap[b']? = w7.heap[b']? :=fun b' h=>by rw [hW8];exact WG Q _ 0 w7 b' h
   have mp8:MapAt W8 (S+1+1) (l.map (JZ s)):=by
    obtain ⟨es,clk,m1,m2⟩:=HM7.out
    exact ⟨es,clk,(hp8 _ (by have:=HQ7.out;omega)).trans m1,m2⟩
   have bl8:Below S w W8:=HB7.out.trans ⟨fr8.os,fr8.tape,fr8.output,fr8.size,fun b' hb'=>hp8 b' (by have:=HQ7.out;omega)⟩
   have eX8:Ext0 X2 w7 X2 W8:=⟨fr8.size,fun b' o _ hx=>⟨hx,by
    have hne:b'≠Q:=fun e=>hx (e▸HX2.out.2 o)
    simp [World.cell?, hp8 b' hne]⟩⟩
   have HE8:=Lib.hid (And.intro (fun b' q hq=>BP (HX2.out.1 b' q hq) fr8.size: ∀ b' q,X2 b' q->b'<W8.heap.size) (C.ext0 eX8 _ _ (fun _ _=>rfl) HE2.out))
   have HC8:=Lib.hid (show 0<n2→ ∃ b off,A2=some ⟨b,off,none⟩/\b<W8.heap.size∧ ∀ j v,(cU l2)[j]? = some v->W8.cell? ⟨b,off+j,none⟩=some v from fun h=>by
    obtain ⟨b',off',h1,h2,h3,h4⟩:=HC2'.out h
    have hne:b'≠Q:=fun e=>h3 (e▸HX2.out.2 off')
    exact ⟨b',off',h1,BP h2 fr8.size,fun j v hv=>by
     rw [←h4 j v hv]
     simp [World.cell?, hp8 b' hne]⟩)
   have HM8:=Lib.hid mp8
   have HB8:=Lib.hid bl8
   have HK8:=Lib.hid kQ8
   have HSZ:=Lib.hid (show S+1+1+1<=W8.heap.size by have:=HQ7.out;have:=fr8.size;omega)
   clear e8 hW8 fr8 hp8 mp8 bl8 eX8 sv0 sv1 sv2 sv3 sv4 sv5 sv6 sv7 sv8 q0 q1 q2 q3 q4 q5 q6 q7 q8 qf r0 r1 r2 r3 r4 r5 r6 r7 r8 kQ8
   obtain ⟨F,hF⟩: ∃ F:Nat->List Keep,F=fun k=>(l2.take k).filter fun o=> !decide (JZ s2 o∈l.map (JZ s)):=⟨_,rfl⟩
   have HFF:=Lib.hid hF
   clear hF
   go_loopw [12,41] (fun sv iv wr=> ∃ k:Nat,k<=n2/\iv= .int .i64 k/\Below W8.heap.size W8 wr/\wr.ownsRow W8.heap.size 54 2 sv (F k).length (cU (F k))) (fun _ iv _=>n2-(intOf iv).toNat)
   case atStart=>exact ⟨0,B7 _,rfl,Below.refl _ _,by rw [HFF.out];exact World.ownsRow_nil _ _ _ _⟩
   case round=>
    obtain ⟨j,hj,rfl,hbl2,hown⟩:=hrel
    obtain ⟨A3,c3,rfl⟩:=QxY hown
    have HBR:=Lib.hid hbl2
    have HOW:=Lib.hid hown
    clear hbl2 hown
    by_cases hlt2:j<n2
    ·have hjl:j<l2.length:=by rw [HN2.out];exact hlt2
     obtain ⟨bb,off,rfl,hbb,hcs⟩:=HC8.out (by omega)
     obtain ⟨g0,g1⟩:=Qd8 l2 j hjl
     obtain ⟨o,ho⟩: ∃ o,o=l2[j]:=⟨_,rfl⟩
     rw [←ho] at g0 g1
     have dz: ∀ q v,W8.cell? ⟨bb,off+q,none⟩=some v->wr.cell? ⟨bb,off+q,none⟩=some v:=fun q v h=>(HBR.out.cell (p:=⟨bb,off+q,none⟩) hbb).trans h
     have d0:=dz _ _ (hcs _ _ g0)
     have d1:=dz _ _ (hcs _ _ g1)
     rw [←Dy] at d1
     have kqr:=HK8.out.ext HBR.out
     have y0:=kqr.cell 0
     have y1:=kqr.cell 1
     have y2:=kqr.cell 2
     have y3:=kqr.cell 3
     have y4:=kqr.cell 4
     have y5:=kqr.cell 5
     have y6:=kqr.cell 6
     have y7:=kqr.cell 7
     have y8:=kqr.cell 8
     simp only [Dt,BW,BU] at y0 y1 y2 y3 y4 y5 y6 y7 y8
     replace y0:=fun ob=>Lib.cell?_alloc_some ob y0
     replace y1:=fun ob=>Lib.cell?_alloc_some ob y1
     replace y2:=fun ob=>Lib.cell?_alloc_some ob y2
     replace y3:=fun ob=>Lib.cell?_alloc_some ob y3
     replace y4:=fun ob=>Lib.cell?_alloc_some ob y4
     replace y5:=fun ob=>Lib.cell?_alloc_some ob y5
     replace y6:=fun ob=>Lib.cell?_alloc_some ob y6
     replace y7:=fun ob=>Lib.cell?_alloc_some ob y7
     replace y8:=fun ob=>Lib.cell?_alloc_some ob y8
     have HO:=Lib.hid (show l2[j]? = some o by rw [ho];exact Bh hjl)
     have hm64:(F j).length<=64:=by
      rw [HFF.out]
      have h1:=List.length_filter_le (fun o=> !decide (JZ s2 o∈l.map (JZ s))) (l2.take j)
      rw [B2] at h1
      have h2:=HN2.out
      show ((l2.take j).filter fun o=> !decide (JZ s2 o∈l.map (JZ s))).length<=64
      omega
     clear dz hcs g0 g1 ho hjl kqr
     have HM64:=Lib.hid hm64
     obtain ⟨m,hm⟩: ∃ m,m=(F j).length:=⟨_,rfl⟩
     rw [←hm] at HOW HM64 ⊢
     have HMM:=Lib.hid hm
     clear hm hm64
     go_wp2_with fail
     obtain ⟨R,hR⟩: ∃ R,R=wr.heap.size:=⟨_,rfl⟩
     obtain ⟨W3,hW3⟩: ∃ W3,W3=wr.alloc (.cells #[.int .i64 o.1,.int .i64 o.2.1] 54):=⟨_,rfl⟩
     rw [←hW3, ← hR]
     have b3:Below wr.heap.size wr W3:=hW3▸(Below.refl _ _).alloc (BB _) _
     have kR:Go.Proofs.YtmjnnemhoeolgaaGreat.Blk W3 R 54 #[.int .i64 o.1,.int .i64 o.2.1]:=by rw [hW3,hR];exact Go.Proofs.YtmjnnemhoeolgaaGreat.Blk.new _ _ _
     have b83:Below W8.heap.size W8 W3:=WC HBR.out b3 HBR.out.size
     obtain ⟨q0,q1,q2,q3,q4,q5,q6,q7,q8⟩:=HO2.out
     have hep:EpV W3 s2 z0 z1 z2 z3 z4 z5 z6 z7 z8:=⟨⟨X2,σ2,fun b' q hq=>BP (HE8.out.1 b' q hq) b83.size,C.ext0 (QvN b83) _ _ (fun _ _=>rfl) HE8.out.2⟩,q0,q1,q2,q3,q4,q5,q6,q7,q8⟩
     refine (QkS (o:=o) hep HEL2.out).mono ?_
     rintro e w9 ⟨rfl,hb9⟩
     have b89:Below W8.heap.size W8 w9:=WC b83 hb9 b83.size
     have kR9:=kR.ext hb9
     obtain ⟨es,clk,m1,m2⟩:=HM8.out.below b89
     have hrun:=QBG w9 (QkR s2 o) m1 m2
     have HOW9:=Lib.hid (Qfg (Qfg HOW.out (QkU b3) (fun _ _ e=>by cases e)) (QkU hb9) (fun _ _ e=>by cases e))
     have HR9:=Lib.hid (show R<w9.heap.size from kR9.lt)
     have HB9:=Lib.hid b89
     have c0:=kR9.cell 0
     have c1:=kR9.cell 1
     simp only [Dt,BW,BU] at c0 c1
     clear hW3 b3 kR b83 hep hb9 b89 kR9 m1 m2 d0 d1 y0 y1 y2 y3 y4 y5 y6 y7 y8 q0 q1 q2 q3 q4 q5 q6 q7 q8 hR
     obtain ⟨kv,hkv⟩: ∃ kv,kv=kV (JZ s2 o):=⟨_,rfl⟩
     rw [←hkv] at hrun ⊢
     clear hkv
     have hstep:F (j+1)=F j++(if decide (JZ s2 o∈l.map (JZ s))=true then [] else [o]):=by
      rw [HFF.out]
      show (l2.take (j+1)).filter _=_
      rw [List.take_add_one,HO.out,List.filter_append]
      congr 1
      cases h:decide (JZ s2 o∈l.map (JZ s)) with
      |true=>simp [h]
      |false=>simp [h]
     have HST2:=Lib.hid hstep
     clear hstep
     cases hq:decide (JZ s2 o∈l.map (JZ s)) with
     |true=>
      rw [hq] at hrun HST2
      go_wp2_with fail
      have hst:=HST2.out
      simp only [if_true,BR] at hst
      refine ⟨⟨j+1,hlt2,by simp,HB9.out, ?_⟩,by simp [intOf];omega⟩
      rw [hst, ← HMM.out]
      exact HOW9.out
     |false=>
      rw [hq] at hrun HST2
      have hsrc:=Sl.made w9 54 1 2 #[.int .i64 o.1,.int .i64 o.2.1] rfl (by simp [maxLen])
      go_wp2_with (at_builtin;refine Qm5 QvR rfl _ _ rfl W8.heap.size (.slice A3 m c3) m (cU (F j)) rfl (Qfg HOW9.out (QxS (World.grownBy.refl _ none) _) (fun _ _ e=>by cases e)) _ _ _ _ rfl hsrc (by simp [Value.oneCell']) (by have:=HM64.out;omega) (by omega) (by have:=HB9.out.size;simp;omega) ?_;intro v' w4 hown4 hg4 hat4)
      have hst:=HST2.out
      simp only [BJ,Dr] at hst
      have bA:=HB9.out.alloc HB9.out.size (.cells #[.int .i64 o.1,.int .i64 o.2.1] 54)
      refine ⟨⟨j+1,hlt2,by simp,bA.trans ⟨hg4.os,hg4.tape,hg4.output,hg4.size,fun q hq=>hg4.block q (BP hq bA.size) (fun e=>by have:=(HOW9.out.lt _ e.symm).1;omega)⟩, ?_⟩,by simp [intOf];omega⟩
      rw [hst,Bm, ← HMM.out]
      have e2:cU (F j++[o])=cU (F j)++[.int .i64 o.1,.int .i64 o.2.1]:=by
       unfold cU
       rw [DB]
       rfl
      rw [e2]
      exact hown4
    ·obtain rfl:j=n2:=by omega
     have hFe:F j=Yj b a i:=by
      rw [HFF.out]
      show (l2.take j).filter _=_
      rw [DP (by rw [HN2.out];exact BB _)]
      unfold Yj
      rw [←HL2.out]
      refine List.filter_congr fun o _=> ?_
      congr 1
      unfold Qfc
      rw [←HL.out, ← HS.out, ← HS2.out,DA]
      simp only [Ba,B6,List.any_eq_true,Db]
     have HFE:=Lib.hid hFe
     clear hFe
     go_wp2_with fail
     go_ret
     have hz:=HSZ.out
     have hss:=HSS.out
     refine ⟨_,W8.heap.size,rfl,by omega, ?_, ?_⟩
     ·rw [←HFE.out]
      exact HOW.out
     ·rw [←hss]
      exact WC HB8.out HBR.out (by omega)
end Go.Proofs.YtmjnnemhoeolgaaGreat.K
noncomputable section
namespace Go.Proofs.YtmjnnemhoeolgaaGreat.K
open Go.RowKit
noncomputable section
def Qaj:Ent:=Ql (.pr QJ (.pr QJ (.pr tI .nil))) (fun x=>(Qag x.1 x.2.1 x.2.2.1)) (fun x=>(.t (.sl Qe) (Yj x.1 x.2.1 x.2.2.1)))
theorem Qm1:JE Tryz.prog 32:= .inr ⟨by decide,_,Tryz.func32,by kernel_rfl,by kernel_rfl⟩
theorem Qm2 {X:Nat->Nat->Prop}{w:World}{σ:Pl}: ∀ l:List Keep,Cs X w σ (l.flatMap Qe.cells) (cU l)
 | []=>rfl
 |x::l=>by
  show Cs X w σ (D.v (.int .i64 x.1)::D.v (.int .i64 x.2.1)::l.flatMap Qe.cells) (.int .i64 x.1:: .int .i64 x.2.1::cU l)
  simp only [Cs]
  exact ⟨_,_,rfl,⟨rfl,rfl⟩,_,_,rfl,⟨rfl,rfl⟩,Qm2 l⟩
theorem own_c {X:Nat->Nat->Prop}{w:World}{σ:Pl}{B:Nat}{l:List Keep}{sv:Value}(h:w.ownsRow B 54 2 sv l.length (cU l))(hX: ∀ b q,X b q->b<B):C X w σ (V.t (.sl Qe) l).d sv:=by
 obtain ⟨h1,A,c,rfl,h2,h3,h4⟩:=Sl.of_own h
 have hlt:=h.lt
 show C X w σ (.sl l.length (l.flatMap Qe.cells)) _
 simp only [C]
 refine ⟨A,c,rfl,h2,h3,fun h0=> ?_,fun h0=> ?_⟩
 ·have:l=[]:=Bv h0
  rw [this]
  rfl
 ·obtain ⟨b,off,rfl,g1,g2⟩:=h4 h0
  refine ⟨b,off,cU l,rfl,Qm2 l,g1,fun q _ hq=> ?_,fun j u hu=>g2 j u hu,Qur l⟩
  have:=hX b _ hq
  have:=(hlt b rfl).1
  omega
theorem Qm3:Qu Tryz.prog 32 (Qq Qaj):=by
 unfold Qaj
 refine Qmh (fun x hok X w σ vs hfin hc=> ?_)
 obtain ⟨b,a,i,u⟩:=x
 obtain ⟨h1,h2⟩:=Bg.1 hok
 have hc:Cs X w σ [(V.t QJ b).d,(V.t QJ a).d,.v (.int .i64 i)] vs:=hc
 simp only [Cs] at hc
 obtain ⟨bv,r0,rfl,c0,av,r1,rfl,c1,iv,r2,rfl,c2,rfl⟩:=hc
 simp only [C] at c2
 obtain ⟨rfl,_⟩:=c2
 obtain ⟨u0,u1,u2,rfl,ou0,ou1,ou2⟩:=QkV c0
 obtain ⟨t0,t1,t2,rfl,ot0,ot1,ot2⟩:=QkV c1
 refine (QvT (i:=i) hfin c0 c1 ou0 ou1 ou2 ot0 ot1 ot2 h1 h2).mono ?_
 rintro en w' ⟨sv,B,rfl,hB,hown,hb⟩
 exact ⟨sv,rfl,own_c hown (fun b q hq=>BP (hfin b q hq) hB),hb⟩
end
end Go.Proofs.YtmjnnemhoeolgaaGreat.K
