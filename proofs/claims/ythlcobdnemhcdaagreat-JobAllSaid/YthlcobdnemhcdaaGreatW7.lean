import Derived.Test.YthlcobdnemhcdaaGreatW6
import Derived.Test.YthlcobdnemhcdaaGreatW3
import Derived.RangeFuncCalls
import Derived.RangeFuncBound
import Derived.Shelf.RegionOpen
import Derived.OwnWalkIn
import Derived.TacticsInMore
import Derived.LoopNIn
import Derived.LoopIn
import Derived.Lib.SliceRun
set_option linter.unusedSimpArgs false
set_option linter.unusedVariables false
noncomputable section
namespace Go.Proofs.YthlcobdnemhcdaaGreat.K
open Go.RowKit
noncomputable section
abbrev Qca (l:List Keep)(k:Nat):Keep:=l.getD k zK
def egLt (a b:Keep):Bool:= !igt a.1 b.1&& !(ieq a.1 b.1&&ige a.2.1 b.2.1)
def Qcb (n:Int)(x:Keep):Bool:= !ilt x.1 0&&(!ige x.1 n&&(!ilt x.2.1 0&&(!ige x.2.1 n&& !ieq x.1 x.2.1)))
def Qcc (n:Int)(l:List Keep)(k:Nat):Bool:=Qcb n (Qca l k)&&(decide (k=0)||egLt (Qca l (k-1)) (Qca l k))
def ZK (n:Int)(l:List Keep)(k:Nat):Bool:=(List.range' k (l.length-k)).all (Qcc n l)
theorem QFs (n:Int)(l:List Keep):ZK n l l.length=true:=by
 unfold ZK
 rw [Nat.sub_self]
 rfl
theorem QFt {n:Int}{l:List Keep}{k:Nat}(hk:k<l.length):ZK n l k=(Qcc n l k&&ZK n l (k+1)):=by
 have:l.length-k=(l.length-(k+1))+1:=by omega
 unfold ZK
 rw [this,List.range'_succ,B0]
theorem QFu {β:Type}(c1 c2 c3 c4 c5 u:Bool)(R E:Option β):br c1 R (br c2 R (br c3 R (br c4 R (br c5 R (br (!u) R E)))))=br (!(((!c1&&(!c2&&(!c3&&(!c4&& !c5))))&&true)&&u)) R E:=by
 cases c1<;>cases c2<;>cases c3<;>cases c4<;>cases c5<;>rfl
theorem QFv {β:Type}(c1 c2 c3 c4 c5 a b c u:Bool)(R E:Option β):br c1 R (br c2 R (br c3 R (br c4 R (br c5 R (br a R (br b (br c R (br (!u) R E)) (br (!u) R E)))))))=br (!(((!c1&&(!c2&&(!c3&&(!c4&& !c5))))&&(!a&& !(b&&c)))&&u)) R E:=by
 cases c1<;>cases c2<;>cases c3<;>cases c4<;>cases c5<;>cases a<;>cases b<;>cases c<;>rfl
theorem Qik {k:Nat}(hk:k<100000)(h0:k≠0):Qw .i64 (k:Int) 1=((k-1:Nat):Int):=by
 rw [JO (by omega)]
 omega
def Qcd (l:List Keep)(n:Int):Bool:=ZK n l 0&&ile (Qc l) 40
def Qil (l:List Keep)(_n:Int):Bool:=decide (l.length<=99999)
abbrev Qim:Sh:=⟨[(0,.ty (.sl Qk)),(1,.ty tI),(7,.ty (.sl Qk)),(8,.ty tI),(9,.ty tI)],[]⟩
abbrev Qrp:Sh:=⟨[(4,.ty .bool)],[]⟩
abbrev QFw:Sh:=⟨[(0,.ty (.sl Qk))],[]⟩
def Qrq:Fg:=Qim.f
def QFx:TC:=aF Tryz.f123 [(26,pL 0 Qrq),(421,.fg QFw.f),(27029,.fg Qrp.f),(6758,pD [(0,[]),(1,[]),(2,[]),(3,[]),(4,[]),(5,[]),(6,[]),(7,[]),(8,[]),(9,[6]),(10,[6]),(11,[]),(12,[]),(13,[]),(14,[]),(15,[]),(16,[]),(17,[]),(18,[]),(19,[6]),(20,[6]),(21,[]),(22,[]),(23,[]),(24,[]),(25,[]),(26,[]),(27,[]),(28,[]),(29,[6]),(30,[6]),(31,[]),(32,[]),(33,[]),(34,[])] (.of [0,1,2,3,4,5,6,7,8,9,10,11,12,13,14,15,16,17,18,19,20,21,22,23,24,25,26,27,28,29,30,31,32,33,34])),(27037,.fg Qrp.f)]
def QFy:TC:=lb 0 QFx
def QFz (x0:List Keep)(x1:Int)(x7:List Keep)(x8 x9:Int):VS:=Qim.st (x0,x1,x7,x8,x9,()) ()
def G8 (x4:Bool):VS:=Qrp.st (x4,()) ()
def Qrr (x0:List Keep):VS:=QFw.st (x0,()) ()
def QTX:VS->Option (Bool×List (Bool×Exit×VS)):=mkL Qim (fun x y=>(x.2.2.1==x.1&&(QD x.2.2.1 x.2.2.2.1 x.2.2.2.2.1&&decide (x.2.2.1.length<=99999)))) (fun x y=>[((!ZK x.2.1 x.2.2.1 x.2.2.2.2.1.toNat),.ret,G8 (false)),(true,.exit 0,Qrr (x.1))])
def Qrs:G:=gG 80 [] (Ls [QTX])
def Qin (x0:List Keep)(x1:Int)(x7:List Keep)(x8 x9:Int):OX:=Qx (QA Qrs Qrq QFy) (QFz x0 x1 x7 x8 x9)
def Qce (kk:List Keep->Int->List Keep->Int->Int->OX)(x0:List Keep)(x1:Int)(x7:List Keep)(x8 x9:Int):OX:=
 let a1:=lgt Qk x7 (Int.toNat x9)
 let a2:=lgt Qk x0 (Int.toNat (Qw .i64 x9 1))
 let a3:=cIx x0 (Qw .i64 x9 1)
 let a4:=Qj .i64 x9 1
 br (ilt x9 x8) (br (cIx x7 x9) (br (ilt (a1.1) 0) (some (.ret,G8 false)) (br (ige (a1.1) x1) (some (.ret,G8 false)) (br (ilt ((a1.2).1) 0) (some (.ret,G8 false)) (br (ige ((a1.2).1) x1) (some (.ret,G8 false)) (br (ieq (a1.1) ((a1.2).1)) (some (.ret,G8 false)) (br (igt x9 0) (br a3 (br (igt (a2.1) (a1.1)) (some (.ret,G8 false)) (br a3 (br (ieq (a2.1) (a1.1)) (br a3 (br (ige ((a2.2).1) ((a1.2).1)) (some (.ret,G8 false)) (kk x0 x1 x7 x8 a4)) none) (kk x0 x1 x7 x8 a4)) none)) none) (kk x0 x1 x7 x8 a4))))))) none) (some (.exit 0,Qrr x0))
def Qio (x0:List Keep)(x1:Int)(x7:List Keep)(x8 x9:Int):OX:=br (!ZK x1 x7 x9.toNat) (some (.ret,G8 (false)))<|some (.exit 0,Qrr (x0))
theorem QFA (x0:List Keep)(x1:Int)(x7:List Keep)(x8 x9:Int):Qin x0 x1 x7 x8 x9=Qce Qin x0 x1 x7 x8 x9:=lnT (x:=Qce (fun x0 x1 x7 x8 x9=>some (.normal,QFz x0 x1 x7 x8 x9)) x0 x1 x7 x8 x9) (by simp only [Qce,nxA];rfl)
def QFB (p0:List Keep)(p1:Int):OV:=br (p0==p0&&(QD p0 (Qc p0) (0:Int)&&decide (p0.length<=99999))) (br (!ZK p1 p0 (0:Int).toNat) (some (.t .bool (false),[])) (some (.t .bool (ile (Qc (p0)) 40),[]))) none
theorem QTY (x0:List Keep)(x1:Int)(x7:List Keep)(x8 x9:Int)(h:(x7==x0&&(QD x7 x8 x9&&decide (x7.length<=99999)))=true):Qin x0 x1 x7 x8 x9=Qio x0 x1 x7 x8 x9:=by
 simp only [Bc,Do,Ba] at h
 obtain ⟨rfl,h0,hl⟩:=h
 obtain ⟨rfl,h3,k,rfl,hk⟩:=JG h0
 clear h0
 refine QQ x7 (fun k=>Qin x7 x1 x7 (x7.length:Int) (k:Int)=Qio x7 x1 x7 (x7.length:Int) (k:Int)) ?_ ?_ k hk
 ·rw [QFA]
  simp only [Qce,Qio,Qy,BN,BM,Qi,Bb,QFs,BF]
 ·intro k hk ih
  rw [QFA]
  simp only [Qce,Qy,QK,hk,Bo,Qf,Bb,QO (show k<4611686018427387904 by omega),ih]
  simp only [Qio,Bb,QFt hk]
  by_cases hk0:k=0
  ·subst hk0
   rw [show igt ((0:Nat):Int) 0=false from rfl]
   simp only [Qi]
   exact QFu ..
  ·rw [show igt (k:Int) 0=true from Be (by omega),Qik (by omega) hk0]
   simp only [Qf,QK,show k-1<x7.length by omega,Bo,Bb]
   unfold Qcc
   rw [show decide (k=0)=false from Bq hk0,Dh]
   exact QFv ..
theorem QTZ:LO Qrs Qrq QFy 0:=QI (s:=Qim) fun x y h _ q=>by simp only [QG,QH] at q;exact (QTY x.1 x.2.1 x.2.2.1 x.2.2.2.1 x.2.2.2.2.1 h).trans q
theorem s_f123 (l:List Keep)(n:Int)(h:Qil l n=true):QFB l n=some (.t .bool (Qcd l n),[]):=by
 have hl:l.length<=99999:=BD h
 simp only [QFB,beq_self_eq_true,Bu,JH (show l.length<=100000 by omega),Be hl,Qf,By]
 unfold Qcd
 cases ZK n l 0<;>rfl
def QFC:Ent:=Qo (.pr (.sl Qk) (.pr tI .nil)) (fun x=>(Qil x.1 x.2.1)) (fun x=>(.t .bool (Qcd x.1 x.2.1)))
theorem QT0:EM 123 QFC:=mS (lk:=lkL (lkc QTZ lkn)) Qrs QFx [((.t 4),some .bool)] false (gB gN) fun m=>Qs m fun x hok=>kT (s_f123 x.1 x.2.1 hok)
def Xj (i:Item):Bool:=ine (ZG i) 0
theorem QFD (i:Item):Xj i= !J7 i:=by
 unfold Xj ZG
 cases J7 i<;>rfl
def QT1:TC:=aF Tryz.f121 []
def g_f121:G:=gG 6 [(122,QmC)] (fun _ _=>none)
def QFE (p0:Item):OV:=br (Zx p0) (some (.t .bool (ine (ZG p0) 0),[])) none
theorem s_f121 (i:Item)(h:Zx i=true):QFE i=some (.t .bool (Xj i),[]):=by
 simp only [QFE,h,Qf]
 rfl
def QFF:Ent:=Qo (.pr Qp .nil) (fun x=>(Zx x.1)) (fun x=>(.t .bool (Xj x.1)))
theorem QT2:EM 121 QFF:=mS g_f121 QT1 [((.t 2),some .bool)] false (gB (gD Qxn gN)) fun m=>Qs m fun x hok=>kT (s_f121 x.1 hok)
def Ya (l:List Item):Bool:=decide (l.length<=100000)&&l.all Zx
theorem Qip {l:List Item}(h:Ya l=true){k:Nat}(hk:k<l.length):Zx l[k]=true:=by
 simp only [Ya,Bc,Bi] at h
 exact h.2 _ (Bw hk)
theorem F1 {l:List Item}(h:Ya l=true):l.length<=100000:=by
 simp only [Ya,Bc,Ba] at h
 exact h.1
def O1 (l:List Item):Int:=match Jy Xj l with|some k=>(k:Int)|none=> -1
abbrev Qiq:Sh:=⟨[(0,.ty (.sl Qp)),(1,.cf 121),(7,.ty tI),(8,.ty tI)],[]⟩
abbrev QFG:Sh:=⟨[(4,.ty tI)],[]⟩
abbrev Qir:Sh:=⟨[],[]⟩
def Qrt:Fg:=Qiq.f
def QFH:TC:=aF Tryz.f177 [(26,pL 0 Qrt),(421,.fg Qir.f),(13517,.fg QFG.f)]
def QFI:TC:=lb 0 QFH
def QFJ (x0:List Item)(x7 x8:Int):VS:=Qiq.st (x0,(),x7,x8,()) ()
def Qru (x4:Int):VS:=QFG.st (x4,()) ()
def Qrv  : VS:=Qir.st () ()
def QT3:VS->Option (Bool×List (Bool×Exit×VS)):=mkL Qiq (fun x y=>(QD x.1 x.2.2.1 x.2.2.2.1&&Ya x.1)) (fun x y=>[(((Jy Xj (x.1.drop x.2.2.2.1.toNat)).isSome),.ret,Qru (x.2.2.2.1+((Jy Xj (x.1.drop x.2.2.2.1.toNat)).getD 0:Nat))),(true,.exit 0,Qrv)])
def Qrw:G:=gG 19 [(121,QFF)] (Ls [QT3])
def Qis (x0:List Item)(x7 x8:Int):OX:=Qx (QA Qrw Qrt QFI) (QFJ x0 x7 x8)
def Qcf (kk:List Item->Int->Int->OX)(x0:List Item)(x7 x8:Int):OX:=
 let a1:=lgt Qp x0 (Int.toNat x8)
 br (ilt x8 x7) (br (cIx x0 x8) (br (Zx a1) (br (Xj a1) (some (.ret,Qru x8)) (kk x0 x7 (Qj .i64 x8 1))) none) none) (some (.exit 0,Qrv))
def Qit (x0:List Item)(x7 x8:Int):OX:=
 let a1:=Jy Xj (x0.drop x8.toNat)
 br (a1.isSome) (some (.ret,Qru (x8+(a1.getD 0:Nat))))<|some (.exit 0,Qrv)
theorem QFK (x0:List Item)(x7 x8:Int):Qis x0 x7 x8=Qcf Qis x0 x7 x8:=lnT (x:=Qcf (fun x0 x7 x8=>some (.normal,QFJ x0 x7 x8)) x0 x7 x8) (by simp only [Qcf,nxA];rfl)
def QFL (p0:List Item):OV:=
 let a1:=(Jy Xj (p0.drop (0:Int).toNat))
 br (QD p0 (Qc p0) (0:Int)&&Ya p0) (br (a1.isSome) (some (.t tI ((0:Int)+(a1.getD 0:Nat)),[])) (some (.t tI (-1),[]))) none
theorem QT4 (x0:List Item)(x7 x8:Int)(h:(QD x0 x7 x8&&Ya x0)=true):Qis x0 x7 x8=Qit x0 x7 x8:=by
 simp only [Bc] at h
 obtain ⟨h0,hc⟩:=h
 obtain ⟨rfl,h3,k,rfl,hk⟩:=JG h0
 clear h0
 refine QQ x0 (fun k=>Qis x0 (x0.length:Int) (k:Int)=Qit x0 (x0.length:Int) (k:Int)) ?_ ?_ k hk
 ·rw [QFK]
  simp [Qcf,Qit,Qy,Qi,Jy]
 ·intro k hk ih
  rw [QFK]
  have hx:=Qip hc hk
  simp only [Qcf,Qy,QK,hk,Bo,Qf,Bb,QO (show k<4611686018427387904 by omega),ih,QL (y:=Qp) hk,hx]
  simp only [Qit,Bb,Bg hk,Jy]
  cases h:(Xj x0[k]) with
  |true=>simp [Qf]
  |false=>
   simp only [Qi,BK,Dc]
   cases hq:Jy Xj (x0.drop (k+1)) with
   |none=>rfl
   |some j=>
    simp only [De,Dw,B3,Qf]
    congr 3
    omega
theorem QT5:LO Qrw Qrt QFI 0:=QI (s:=Qiq) fun x y h _ q=>by simp only [QG,QH] at q;exact (QT4 x.1 x.2.2.1 x.2.2.2.1 h).trans q
theorem QT6 (l:List Item)(h:Ya l=true):QFL l=some (.t tI (O1 l),[]):=by
 have hl:=F1 h
 simp only [QFL,JH hl,h,B6,Qf,By,BG,O1]
 cases Jy Xj l<;>simp [Qf,Qi]
def QFM:Ent:=UL [.ty (.sl Qp),.cf 121] [] (fun x d=>(Ya x.1)) (fun x d=>(.t tI (O1 x.1)))
theorem QT7:EM 177 QFM:=mS (lk:=lkL (lkc QT5 lkn)) Qrw QFH [((.t 4),some tI)] false (gB (gD QT2 gN)) fun m=>Fx m fun x d hok=>kT (QT6 x.1 hok)
def E0 (l:List Item):Bool:=l.any Xj
def QT8:TC:=aF Tryz.f120 []
def QT9:G:=gG 9 [(177,QFM)] (fun _ _=>none)
def QFN (p0:List Item):OV:=br (Ya p0) (some (.t .bool (ige (O1 p0) 0),[])) none
theorem QUa (l:List Item)(h:Ya l=true):QFN l=some (.t .bool (E0 l),[]):=by
 simp only [QFN,h,Qf]
 have e:ige (O1 l) 0=E0 l:=by
  unfold O1 E0
  cases hq:Jy Xj l with
  |none=>rw [QbQ.1 hq];rfl
  |some k=>
   rw [←Qqr,hq]
   simp only [ige,Dw,Ba]
   omega
 rw [e]
def QFO:Ent:=UL [.ty (.sl Qp),.cf 121] [] (fun x d=>(Ya x.1)) (fun x d=>(.t .bool (E0 x.1)))
theorem QUb:EM 120 QFO:=mS QT9 QT8 [((.t 4),some .bool)] false (gB (gD QT7 gN)) fun m=>Fx m fun x d hok=>kT (QUa x.1 hok)
abbrev zEp:Endpoint:=Ty.zero QC
abbrev Qrx (l:List Endpoint)(k:Nat):Endpoint:=l.getD k zEp
def Qiu (l m:List Endpoint)(k:Nat):Bool:=Q6 (Qrx l k)&&(decide (k=0)||slt (Qrx m (k-1)).1 (Qrx l k).1)
def YW (l m:List Endpoint)(k:Nat):Bool:=(List.range' k (l.length-k)).all (Qiu l m)
abbrev F3 (l:List Endpoint)(k:Nat):Bool:=YW l l k
theorem QFP (l m:List Endpoint):YW l m l.length=true:=by
 unfold YW
 rw [Nat.sub_self]
 rfl
theorem QFQ {l m:List Endpoint}{k:Nat}(hk:k<l.length):YW l m k=(Qiu l m k&&YW l m (k+1)):=by
 have:l.length-k=(l.length-(k+1))+1:=by omega
 unfold YW
 rw [this,List.range'_succ,B0]
abbrev JN (e:Estate):List Endpoint:=e.1
abbrev ZR (e:Estate):List Keep:=e.2.1
abbrev Je (e:Estate):List Item:=e.2.2.1
def YX (e:Estate):Bool:=F3 (JN e) 0&&((Je e).all J7&&(ile (Qc (JN e)) 16&&(ile (Qc (Je e)) 30&&(ZK (Qc (JN e)) (ZR e) 0&&ile (Qc (ZR e)) 40))))
def U9 (e:Estate):Int:=bif YX e then 0 else 31
theorem QFR (e:Estate):ine (U9 e) 0= !YX e:=by
 unfold U9
 cases YX e<;>rfl
def ZC (e:Estate):Bool:=decide ((JN e).length<=99999/\(ZR e).length<=99999)&&((JN e).all Jd&&Ya (Je e))
theorem QUc (l:List Item):E0 l= !l.all J7:=by
 unfold E0
 rw [List.not_all_eq_any_not]
 congr 1
 funext x
 exact QFD x
theorem Qcg (a b:Int):ile a b= !igt a b:=by
 simp only [ile,igt, ← decide_not,Int.not_lt]
theorem QFS {β:Type}(v s u:Bool)(R E:Option β):br (!v) R (br (!s) R (br (!u) R E))=br (!((v&&s)&&u)) R E:=by
 cases v<;>cases s<;>rfl
theorem QFT {β:Type}(v u:Bool)(R E:Option β):br (!v) R (br (!u) R E)=br (!((v&&true)&&u)) R E:=by
 cases v<;>rfl
abbrev Qiv:Sh:=⟨[(1,.ptr 1 0),(7,.ty (.sl QC)),(8,.ty tI),(9,.ty tI)],[(1,.box Qm)]⟩
abbrev O2:Sh:=⟨[(2,.ty tI)],[]⟩
abbrev Qiw:Sh:=⟨[(1,.ptr 1 0)],[(1,.box Qm)]⟩
def Qry:Fg:=Qiv.f
def QFU:TC:=aF Tryz.f72 [(26,pL 0 Qry),(421,.fg Qiw.f),(3378,pD [(0,[4]),(1,[]),(2,[]),(3,[]),(4,[]),(5,[]),(6,[]),(7,[1]),(8,[1]),(9,[]),(10,[]),(11,[]),(12,[]),(13,[]),(14,[4]),(15,[4]),(16,[]),(17,[]),(18,[])] (.of [0,1,2,3,4,5,6,7,8,9,10,11,12,13,14,15,16,17,18])),(13517,.fg O2.f)]
def QFV:TC:=lb 0 QFU
def QFW (x7:List Endpoint)(x8 x9:Int)(y1:Estate):VS:=Qiv.st ((),x7,x8,x9,()) (y1,())
def Yb (x2:Int):VS:=O2.st (x2,()) ()
def G9 (y1:Estate):VS:=Qiw.st ((),()) (y1,())
def QUd:VS->Option (Bool×List (Bool×Exit×VS)):=mkL Qiv (fun x y=>(decide (x.2.1.length=y.1.1.length/\x.2.1.length<=99999)&&(QD x.2.1 x.2.2.1 x.2.2.2.1&&x.2.1.all Jd))) (fun x y=>[((!YW x.2.1 y.1.1 x.2.2.2.1.toNat),.ret,Yb (31)),(true,.exit 0,G9 (y.1))])
def Qrz:G:=gG 59 [(119,QCZ),(120,QFO),(123,QFC)] (Ls [QUd])
def Qix (x7:List Endpoint)(x8 x9:Int)(y1:Estate):OX:=Qx (QA Qrz Qry QFV) (QFW x7 x8 x9 y1)
def Qch (kk:List Endpoint->Int->Int->Estate->OX)(x7:List Endpoint)(x8 x9:Int)(y1:Estate):OX:=
 let a1:=lgt QC x7 (Int.toNat x9)
 br (ilt x9 x8) (br (cIx x7 x9) (br (Jd a1) (br (ine (UU a1) 0) (some (.ret,Yb 31)) (br (igt x9 0) (br (cIx y1.1 (Qw .i64 x9 1)) (br (!slt ((lgt QC y1.1 (Int.toNat (Qw .i64 x9 1))).1) (a1.1)) (some (.ret,Yb 31)) (kk x7 x8 (Qj .i64 x9 1) y1)) none) (kk x7 x8 (Qj .i64 x9 1) y1))) none) none) (some (.exit 0,G9 y1))
def Qiy (x7:List Endpoint)(x8 x9:Int)(y1:Estate):OX:=br (!YW x7 y1.1 x9.toNat) (some (.ret,Yb (31)))<|some (.exit 0,G9 (y1))
theorem QFX (x7:List Endpoint)(x8 x9:Int)(y1:Estate):Qix x7 x8 x9 y1=Qch Qix x7 x8 x9 y1:=lnT (x:=Qch (fun x7 x8 x9 y1=>some (.normal,QFW x7 x8 x9 y1)) x7 x8 x9 y1) (by simp only [Qch,nxA];rfl)
def r_f72 (p0:Estate):OV:=
 let a1:=((((p0).2).2).1)
 let a2:=Qc ((p0).1)
 br (decide (p0.1.length=p0.1.length/\p0.1.length<=99999)&&(QD p0.1 (Qc p0.1) (0:Int)&&p0.1.all Jd)) (br (!YW p0.1 p0.1 (0:Int).toNat) (some (.t tI (31),[])) (br (Ya a1) (br (E0 a1) (some (.t tI 31,[])) (br (igt a2 16) (some (.t tI 31,[])) (br (igt (Qc a1) 30) (some (.t tI 31,[])) (br (Qil (((p0).2).1) a2) (br (!(Qcd (((p0).2).1) a2)) (some (.t tI 31,[])) (some (.t tI 0,[]))) none)))) none)) none
theorem QUe (x7:List Endpoint)(x8 x9:Int)(y1:Estate)(h:(decide (x7.length=y1.1.length/\x7.length<=99999)&&(QD x7 x8 x9&&x7.all Jd))=true):Qix x7 x8 x9 y1=Qiy x7 x8 x9 y1:=by
 simp only [Bc,Ba,Bi] at h
 obtain ⟨⟨hx,hl⟩,h0,ha⟩:=h
 obtain ⟨rfl,h3,k,rfl,hk⟩:=JG h0
 clear h0
 refine QQ x7 (fun k=>Qix x7 (x7.length:Int) (k:Int) y1=Qiy x7 (x7.length:Int) (k:Int) y1) ?_ ?_ k hk
 ·rw [QFX]
  simp only [Qch,Qiy,Qy,BN,BM,Qi,Bb,QFP,BF]
 ·intro k hk ih
  rw [QFX]
  have he:Jd (lgt QC x7 k)=true:=by rw [QL (y:=QC) hk];exact ha _ (Bw hk)
  simp only [Qch,Qy,QK,hk,Bo,Qf,Bb,QO (show k<4611686018427387904 by omega),ih,he,QCT]
  simp only [Qiy,Bb,QFQ hk]
  by_cases hk0:k=0
  ·subst hk0
   rw [show igt ((0:Nat):Int) 0=false from rfl]
   simp only [Qi]
   exact QFT ..
  ·rw [show igt (k:Int) 0=true from Be (by omega),Qik (by omega) hk0]
   simp only [Qf,QK,show k-1<y1.1.length by omega,Bo,Bb]
   unfold Qiu
   rw [show decide (k=0)=false from Bq hk0,Dh]
   exact QFS ..
theorem QUf:LO Qrz Qry QFV 0:=QI (s:=Qiv) fun x y h _ q=>by simp only [QG,QH] at q;exact (QUe x.2.1 x.2.2.1 x.2.2.2.1 y.1 h).trans q
theorem s_f72 (e:Estate)(h:ZC e=true):r_f72 e=some (.t tI (U9 e),[]):=by
 simp only [ZC,Bc,Ba] at h
 obtain ⟨⟨h1,h2⟩,h3,h4⟩:=h
 have h5:Qil (ZR e) (Qc (JN e))=true:=Be h2
 simp only [JN,ZR,Je] at h1 h2 h3 h4 h5
 simp only [r_f72,JH (show e.1.length<=100000 by omega),Be h1,true_and,Bu,h3,h4,h5,Qf,By,QUc]
 unfold U9 YX Qcd
 simp only [JN,ZR,Je,F3]
 rw [Qcg (Qc e.1),Qcg (Qc e.2.2.1)]
 cases YW e.1 e.1 0<;>cases e.2.2.1.all J7<;>cases igt (Qc e.1) 16<;>cases igt (Qc e.2.2.1) 30<;>cases (ZK (Qc e.1) e.2.1 0&&ile (Qc e.2.1) 40)<;>rfl
def QFY:Ent:=Qo (.pr Qm .nil) (fun x=>(ZC x.1)) (fun x=>(.t tI (U9 x.1)))
theorem ms_f72:EM 72 QFY:=mS (lk:=lkL (lkc QUf lkn)) Qrz QFU [((.t 2),some tI)] false (gB (gD QQ0 (gD QUb (gD QT0 gN)))) fun m=>Qs m fun x hok=>kT (s_f72 x.1 hok)
abbrev Qiz:Sh:=⟨[(1,.ptr 1 0),(3,.ty tI)],[(1,.box Qm)]⟩
abbrev QiA:Sh:=⟨[(1,.ptr 1 0),(4,.ty tI)],[(1,.box Qm)]⟩
abbrev QiB:Sh:=⟨[(1,.ptr 1 0),(6,.ty tI)],[(1,.box Qm)]⟩
def QrA:Fg:=Qiz.f
def QrB:Fg:=QiA.f
def QrC:Fg:=QiB.f
def QiC:TC:=aF Tryz.f75 [(58,pL 0 QrA),(931,.fg Qiw.f),(1864,pD [(0,[1]),(1,[1]),(2,[]),(3,[]),(4,[]),(5,[]),(6,[]),(7,[]),(8,[]),(9,[]),(10,[]),(11,[1]),(12,[1]),(13,[]),(14,[]),(15,[]),(16,[]),(17,[]),(18,[1]),(19,[1]),(20,[]),(21,[]),(22,[]),(23,[]),(24,[]),(25,[]),(26,[])] (.of [0,1,2,3,4,5,6,7,8,9,10,11,12,13,14,15,16,17,18,19,20,21,22,23,24,25,26])),(7461,.fg O2.f),(122,pL 1 QrB),(1955,.fg Qiw.f),(62613,.fg O2.f),(15654,pD [(0,[]),(1,[]),(2,[]),(3,[1]),(4,[1]),(5,[]),(6,[]),(7,[]),(8,[]),(9,[]),(10,[5]),(11,[5]),(12,[]),(13,[]),(14,[1]),(15,[1]),(16,[]),(17,[]),(18,[]),(19,[]),(20,[]),(21,[5]),(22,[5]),(23,[]),(24,[]),(25,[1]),(26,[1]),(27,[]),(28,[]),(29,[]),(30,[]),(31,[]),(32,[5]),(33,[5]),(34,[]),(35,[]),(36,[]),(37,[])] (.of [0,1,2,3,4,5,6,7,8,9,10,11,12,13,14,15,16,17,18,19,20,21,22,23,24,25,26,27,28,29,30,31,32,33,34,35,36,37])),(62621,.fg O2.f),(250,pL 2 QrC),(4003,.fg Qir.f),(32037,.fg O2.f)]
def QFZ:TC:=lb 0 QiC
def QF0:TC:=lb 1 QiC
def QF1:TC:=lb 2 QiC
def QF2 (x3:Int)(y1:Estate):VS:=Qiz.st ((),x3,()) (y1,())
def QF3 (x4:Int)(y1:Estate):VS:=QiA.st ((),x4,()) (y1,())
def QF4 (x6:Int)(y1:Estate):VS:=QiB.st ((),x6,()) (y1,())
def QrD  : VS:=Qir.st () ()
def QUg:VS->Option (Bool×List (Bool×Exit×VS)):=mkL Qiz (fun x y=>(decide (0<=x.2.1/\x.2.1<=y.1.1.length/\y.1.1.length<=16)&&y.1.1.all Jd)) (fun x y=>[((!F3 y.1.1 x.2.1.toNat),.ret,Yb (31)),(true,.exit 0,G9 (y.1))])
def QUh:VS->Option (Bool×List (Bool×Exit×VS)):=mkL QiA (fun x y=>(decide (0<=x.2.1/\x.2.1<=y.1.2.1.length/\y.1.2.1.length<=40))) (fun x y=>[((!ZK (Qc y.1.1) y.1.2.1 x.2.1.toNat),.ret,Yb (31)),(true,.exit 2,G9 (y.1))])
def QUi:VS->Option (Bool×List (Bool×Exit×VS)):=mkL QiB (fun x y=>(decide (0<=x.2.1/\x.2.1<=y.1.2.2.1.length/\y.1.2.2.1.length<=30)&&y.1.2.2.1.all Zx)) (fun x y=>[((!((y.1.2.2.1.drop x.2.1.toNat).all J7)),.ret,Yb (31)),(true,.exit 4,QrD)])
def E1:G:=gG 152 [(129,QDe),(130,QmG)] (Ls [QUg,QUh,QUi])
def QiD (x3:Int)(y1:Estate):OX:=Qx (QA E1 QrA QFZ) (QF2 x3 y1)
def Qci (kk:Int->Estate->OX)(x3:Int)(y1:Estate):OX:=
 let a1:=lgt QC y1.1 (Int.toNat x3)
 br (ilt x3 (Qc y1.1)) (br (cIx y1.1 x3) (br (Jd a1) (br (ine (UU a1) 0) (some (.ret,Yb 31)) (br (igt x3 0) (br (cIx y1.1 (Qw .i64 x3 1)) (br (cIx y1.1 x3) (br (!slt ((lgt QC y1.1 (Int.toNat (Qw .i64 x3 1))).1) (a1.1)) (some (.ret,Yb 31)) (kk (Qj .i64 x3 1) y1)) none) none) (kk (Qj .i64 x3 1) y1))) none) none) (some (.exit 0,G9 y1))
def QiE (x3:Int)(y1:Estate):OX:=br (!F3 y1.1 x3.toNat) (some (.ret,Yb (31)))<|some (.exit 0,G9 (y1))
theorem QF5 (x3:Int)(y1:Estate):QiD x3 y1=Qci QiD x3 y1:=lnT (x:=Qci (fun x3 y1=>some (.normal,QF2 x3 y1)) x3 y1) (by simp only [Qci,nxA];rfl)
def QiF (x4:Int)(y1:Estate):OX:=Qx (QA E1 QrB QF0) (QF3 x4 y1)
def Qcj (kk:Int->Estate->OX)(x4:Int)(y1:Estate):OX:=
 let a1:=lgt Qk y1.2.1 (Int.toNat x4)
 let a2:=lgt Qk y1.2.1 (Int.toNat (Qw .i64 x4 1))
 let a3:=cIx y1.2.1 (Qw .i64 x4 1)
 let a4:=Qj .i64 x4 1
 br (ilt x4 (Qc y1.2.1)) (br (cIx y1.2.1 x4) (br (ilt (a1.1) 0) (some (.ret,Yb 31)) (br (ige (a1.1) (Qc y1.1)) (some (.ret,Yb 31)) (br (ilt ((a1.2).1) 0) (some (.ret,Yb 31)) (br (ige ((a1.2).1) (Qc y1.1)) (some (.ret,Yb 31)) (br (ieq (a1.1) ((a1.2).1)) (some (.ret,Yb 31)) (br (igt x4 0) (br a3 (br (igt (a2.1) (a1.1)) (some (.ret,Yb 31)) (br a3 (br (ieq (a2.1) (a1.1)) (br a3 (br (ige ((a2.2).1) ((a1.2).1)) (some (.ret,Yb 31)) (kk a4 y1)) none) (kk a4 y1)) none)) none) (kk a4 y1))))))) none) (some (.exit 2,G9 y1))
def QiG (x4:Int)(y1:Estate):OX:=br (!ZK (Qc y1.1) y1.2.1 x4.toNat) (some (.ret,Yb (31)))<|some (.exit 2,G9 (y1))
theorem QF6 (x4:Int)(y1:Estate):QiF x4 y1=Qcj QiF x4 y1:=lnT (x:=Qcj (fun x4 y1=>some (.normal,QF3 x4 y1)) x4 y1) (by simp only [Qcj,nxA];rfl)
def QiH (x6:Int)(y1:Estate):OX:=Qx (QA E1 QrC QF1) (QF4 x6 y1)
def Qck (kk:Int->Estate->OX)(x6:Int)(y1:Estate):OX:=
 let a1:=lgt Qp y1.2.2.1 (Int.toNat x6)
 br (ilt x6 (Qc y1.2.2.1)) (br (cIx y1.2.2.1 x6) (br (Zx a1) (br (ine (ZG a1) 0) (some (.ret,Yb 31)) (kk (Qj .i64 x6 1) y1)) none) none) (some (.exit 4,QrD))
def QiI (x6:Int)(y1:Estate):OX:=br (!((y1.2.2.1.drop x6.toNat).all J7)) (some (.ret,Yb (31)))<|some (.exit 4,QrD)
theorem QF7 (x6:Int)(y1:Estate):QiH x6 y1=Qck QiH x6 y1:=lnT (x:=Qck (fun x6 y1=>some (.normal,QF4 x6 y1)) x6 y1) (by simp only [Qck,nxA];rfl)
def r_f75 (p0:Estate):OV:=br (igt (Qc p0.1) 16) (some (.t tI 31,[])) (br (igt (Qc p0.2.1) 40) (some (.t tI 31,[])) (br (igt (Qc p0.2.2.1) 30) (some (.t tI 31,[])) (br (decide (0<=(0:Int)/\(0:Int)<=p0.1.length/\p0.1.length<=16)&&p0.1.all Jd) (br (!F3 p0.1 (0:Int).toNat) (some (.t tI (31),[])) (br (decide (0<=(0:Int)/\(0:Int)<=(p0).2.1.length/\(p0).2.1.length<=40)) (br (!ZK (Qc (p0).1) (p0).2.1 (0:Int).toNat) (some (.t tI (31),[])) (br (decide (0<=(0:Int)/\(0:Int)<=(p0).2.2.1.length/\(p0).2.2.1.length<=30)&&(p0).2.2.1.all Zx) (br (!(((p0).2.2.1.drop (0:Int).toNat).all J7)) (some (.t tI (31),[])) (some (.t tI 0,[]))) none)) none)) none)))
theorem QUj (x3:Int)(y1:Estate)(h:(decide (0<=x3/\x3<=y1.1.length/\y1.1.length<=16)&&y1.1.all Jd)=true):QiD x3 y1=QiE x3 y1:=by
 simp only [Bc,Ba,Bi] at h
 obtain ⟨⟨h0,h1,h2⟩,ha⟩:=h
 obtain ⟨k,rfl⟩:=Bl h0
 refine QQ y1.1 (fun k=>QiD (k:Int) y1=QiE (k:Int) y1) ?_ ?_ k (by omega)
 ·rw [QF5]
  simp only [Qci,QiE,Qc,Qy,BN,BM,Qi,Bb,QFP,BF]
 ·intro k hk ih
  rw [QF5]
  have he:Jd (lgt QC y1.1 k)=true:=by rw [QL (y:=QC) hk];exact ha _ (Bw hk)
  simp only [Qci,Qc,Qy,QK,hk,Bo,Qf,Bb,QO (show k<4611686018427387904 by omega),ih,he,QCT]
  simp only [QiE,Bb,QFQ hk]
  by_cases hk0:k=0
  ·subst hk0
   rw [show igt ((0:Nat):Int) 0=false from rfl]
   simp only [Qi]
   exact QFT ..
  ·rw [show igt (k:Int) 0=true from Be (by omega),Qik (by omega) hk0]
   simp only [Qf,QK,show k-1<y1.1.length by omega,Bo,Bb]
   unfold Qiu
   rw [show decide (k=0)=false from Bq hk0,Dh]
   exact QFS ..
theorem QUk (x4:Int)(y1:Estate)(h:(decide (0<=x4/\x4<=y1.2.1.length/\y1.2.1.length<=40))=true):QiF x4 y1=QiG x4 y1:=by
 obtain ⟨h0,h1,h2⟩:=BD h
 obtain ⟨k,rfl⟩:=Bl h0
 refine QQ y1.2.1 (fun k=>QiF (k:Int) y1=QiG (k:Int) y1) ?_ ?_ k (by omega)
 ·rw [QF6]
  simp only [Qcj,QiG,show Qc y1.2.1=(y1.2.1.length:Int) from rfl,Qy,BN,BM,Qi,Bb,QFs,BF]
 ·intro k hk ih
  rw [QF6]
  simp only [Qcj,show Qc y1.2.1=(y1.2.1.length:Int) from rfl,Qy,QK,hk,Bo,Qf,Bb,QO (show k<4611686018427387904 by omega),ih]
  simp only [QiG,Bb,QFt hk]
  by_cases hk0:k=0
  ·subst hk0
   rw [show igt ((0:Nat):Int) 0=false from rfl]
   simp only [Qi]
   exact QFu ..
  ·rw [show igt (k:Int) 0=true from Be (by omega),Qik (by omega) hk0]
   simp only [Qf,QK,show k-1<y1.2.1.length by omega,Bo,Bb]
   unfold Qcc
   rw [show decide (k=0)=false from Bq hk0,Dh]
   exact QFv ..
theorem QUl (x6:Int)(y1:Estate)(h:(decide (0<=x6/\x6<=y1.2.2.1.length/\y1.2.2.1.length<=30)&&y1.2.2.1.all Zx)=true):QiH x6 y1=QiI x6 y1:=by
 simp only [Bc,Ba,Bi] at h
 obtain ⟨⟨h0,h1,h2⟩,ha⟩:=h
 obtain ⟨k,rfl⟩:=Bl h0
 refine QQ y1.2.2.1 (fun k=>QiH (k:Int) y1=QiI (k:Int) y1) ?_ ?_ k (by omega)
 ·rw [QF7]
  simp only [Qck,QiI,Qc,Qy,BN,BM,Qi,Bb,BS,DH,BF]
 ·intro k hk ih
  rw [QF7]
  have he:Zx y1.2.2.1[k]=true:=ha _ (Bw hk)
  have hb:ine (ZG y1.2.2.1[k]) 0= !J7 y1.2.2.1[k]:=QFD _
  simp only [Qck,Qc,Qy,QK,hk,Bo,Qf,Bb,QO (show k<4611686018427387904 by omega),ih,QL (y:=Qp) hk,he,hb]
  simp only [QiI,Bb,Bg hk,B0]
  cases J7 y1.2.2.1[k]<;>rfl
theorem QUm:LO E1 QrA QFZ 0:=QI (s:=Qiz) fun x y h _ q=>by simp only [QG,QH] at q;exact (QUj x.2.1 y.1 h).trans q
theorem QUn:LO E1 QrB QF0 1:=QI (s:=QiA) fun x y h _ q=>by simp only [QG,QH] at q;exact (QUk x.2.1 y.1 h).trans q
theorem QUo:LO E1 QrC QF1 2:=QI (s:=QiB) fun x y h _ q=>by simp only [QG,QH] at q;exact (QUl x.2.1 y.1 h).trans q
theorem s_f75 (e:Estate)(h:ZC e=true):r_f75 e=some (.t tI (U9 e),[]):=by
 simp only [ZC,Bc,Ba] at h
 obtain ⟨⟨h1,h2⟩,h3,h4⟩:=h
 have h6:(Je e).all Zx=true:=by
  simp only [Ya,Bc] at h4
  exact h4.2
 simp only [JN,ZR,Je] at h1 h2 h3 h6
 simp only [r_f75,h3,h6,B7,By,BG]
 unfold U9 YX
 simp only [JN,ZR,Je,F3]
 rw [Qcg (Qc e.1),Qcg (Qc e.2.2.1),Qcg (Qc e.2.1)]
 cases g1:igt (Qc e.1) 16 with
 |true=>cases YW e.1 e.1 0<;>cases e.2.2.1.all J7<;>rfl
 |false=>
  cases g2:igt (Qc e.2.1) 40 with
  |true=>cases YW e.1 e.1 0<;>cases e.2.2.1.all J7<;>cases igt (Qc e.2.2.1) 30<;>cases ZK (Qc e.1) e.2.1 0<;>rfl
  |false=>
   cases g3:igt (Qc e.2.2.1) 30 with
   |true=>cases YW e.1 e.1 0<;>cases e.2.2.1.all J7<;>rfl
   |false=>
    simp only [igt,Qc,Bn] at g1 g2 g3
    rw [Be (show (0:Int)<=0/\(0:Int)<=e.1.length/\e.1.length<=16 by omega),Be (show (0:Int)<=0/\(0:Int)<=e.2.1.length/\e.2.1.length<=40 by omega),Be (show (0:Int)<=0/\(0:Int)<=e.2.2.1.length/\e.2.2.1.length<=30 by omega)]
    cases YW e.1 e.1 0<;>cases e.2.2.1.all J7<;>cases ZK (Qc e.1) e.2.1 0<;>rfl
def QF8:Ent:=Qo (.pr Qm .nil) (fun x=>(ZC x.1)) (fun x=>(.t tI (U9 x.1)))
theorem ms_f75:EM 75 QF8:=mS (lk:=lkL (lkc QUm (lkc QUn (lkc QUo lkn)))) E1 QiC [((.t 2),some tI)] false (gB (gD QRd (gD Qxu gN))) fun m=>Qs m fun x hok=>kT (s_f75 x.1 hok)
end
end Go.Proofs.YthlcobdnemhcdaaGreat.K
noncomputable section
namespace Go.Proofs.YthlcobdnemhcdaaGreat.K
open Go.RowKit
noncomputable section
theorem brY {β:Type}{c:Bool}{a b r:Option β}(h:c=true)(k:a=r):br c a b=r:=by
 subst h
 exact k
end
end Go.Proofs.YthlcobdnemhcdaaGreat.K
noncomputable section
namespace Go.Proofs.YthlcobdnemhcdaaGreat.K
open Go.RowKit
noncomputable section
end
end Go.Proofs.YthlcobdnemhcdaaGreat.K
noncomputable section
namespace Go.Proofs.YthlcobdnemhcdaaGreat.K
open Go.RowKit Go.Shelf
end Go.Proofs.YthlcobdnemhcdaaGreat.K
noncomputable section
namespace Go.Proofs.YthlcobdnemhcdaaGreat.K
open Go.RowKit
noncomputable section
end
end Go.Proofs.YthlcobdnemhcdaaGreat.K
noncomputable section
namespace Go.Proofs.YthlcobdnemhcdaaGreat.K
open Go.RowKit
noncomputable section
end
end Go.Proofs.YthlcobdnemhcdaaGreat.K
noncomputable section
namespace Go.Proofs.YthlcobdnemhcdaaGreat.K
open Go.RowKit
noncomputable section
def Gl:List Keep:=[(2,(0,())),(1,(0,())),(5,(2048,())),(16,(128,())),(3,(0,())),(15,(168,()))]
def Yd:Nat->Int->Dice->List Link×Dice
 |0,_,d=>([],d)
 |n+1,day,d=>((lgt Qk Gl (Qh d 6).toNat,(day,()))::(Yd n (Qj .i64 (Qj .i64 day 1) (dof (Qe d 6) [5,30,0,100])) (Ql (Qe d 6) [5,30,0,100])).1,(Yd n (Qj .i64 (Qj .i64 day 1) (dof (Qe d 6) [5,30,0,100])) (Ql (Qe d 6) [5,30,0,100])).2)
def Vy (d:Dice):Dice:=Qe (Qe (Qe (Qe d 2) 4) 20) 3
def JZ (d:Dice):List Link×Dice:=Yd (Qj .i64 1 (Qh (Qe (Qe (Qe d 2) 4) 20) 3)).toNat (Qh (Qe (Qe d 2) 4) 20) (Vy d)
def Ww (d:Dice)(s:ByteArray):Item:=(s,(Qj .i64 1 (Qh d 2),(Qj .i64 1 (Qh (Qe d 2) 4),((JZ d).1,(Qj .i64 (lgt Q2 (JZ d).1 0).2.1 (dof (JZ d).2 [50,300,0,3000]),())))))
def Ua (d:Dice)(_s:ByteArray):Dice:=Ql (JZ d).2 [50,300,0,3000]
def Ub (d:Dice)(_s:ByteArray):Bool:=dOk d
theorem QIX {n:Nat}: ∀ {day:Int} {d:Dice},dOk d=true->dOk (Yd n day d).2=true:=by
 induction n with
 |zero=>exact fun h=>h
 |succ n ih=>exact fun h=>ih (Jc (l:=[5,30,0,100]) (QB h))
theorem Quk {d:Dice}(h:dOk d=true):dOk (JZ d).2=true:=QIX (QB (QB (QB (QB h))))
theorem Vz {d:Dice}{s:ByteArray}(h:dOk d=true):dOk (Ua d s)=true:=Jc (Quk h)
theorem Qkt: ∀ (n:Nat) (day:Int) (d:Dice),(Yd n day d).1.length=n
 |0,_,_=>rfl
 |n+1,day,d=>by simp only [Yd,Br,Qkt n]
theorem QIY:Gl.all Jf=true:=by kernel_rfl
theorem Qul {y:Ty}{l:List y.T}{i:Nat}(h:i<l.length):lgt y l i∈l:=by
 rw [QL (y:=y) h]
 exact Bw h
theorem QIZ {e:Dice}:0<=dof e [5,30,0,100]/\dof e [5,30,0,100]<=100:=by
 have h:=Zo (d:=e) (l:=[5,30,0,100]) (by decide)
 simp only [BA,BQ,Dd] at h
 omega
theorem Qum: ∀ (n:Nat) (day:Int) (d:Dice) (pv:Option Int),n<=3->0<=day->day+101*n<=1000->(∀ e,pv=some e->e<day)->Y4 pv (Yd n day d).1=true
 |0,_,_,pv,_,_,_,_=>by cases pv<;>rfl
 |n+1,day,d,pv,h1,h2,h3,h4=>by
  have hv:=Q7 (d:=d) (n:=6) (by omega)
  have hs:=QIZ (e:=Qe d 6)
  have e1:Qj .i64 (Qj .i64 day 1) (dof (Qe d 6) [5,30,0,100])=day+1+dof (Qe d 6) [5,30,0,100]:=by rw [Jz (a:=day) (b:=1) (by omega),Jz (by omega)]
  unfold Yd
  rw [Qeo,e1]
  have hu:Jf (lgt Qk Gl (Qh d 6).toNat)=true:=Bi.1 QIY _ (Qul (y:=Qk) (by have:Gl.length=6:=rfl;omega))
  have hr:=Qum n (day+1+dof (Qe d 6) [5,30,0,100]) (Ql (Qe d 6) [5,30,0,100]) (some day) (by omega) (by omega) (by omega) (fun e he=>by injection he;omega)
  simp only [hu,hr,Be (show 0<=day/\day<=40000 by omega),Bu,B7]
  cases pv with
  |none=>rfl
  |some e=>exact Be (h4 e rfl)
theorem QI0: ∀ (n:Nat) (day:Int) (d:Dice),0<n->((Yd n day d).1.headD ((0,(0,())),(0,()))).2.1=day
 |0,_,_,h=>by omega
 |n+1,day,d,_=>rfl
theorem QI1 (d:Dice):1<=(JZ d).1.length/\(JZ d).1.length<=3:=by
 have b3:=Q7 (d:=Qe (Qe (Qe d 2) 4) 20) (n:=3) (by omega)
 have e3:Qj .i64 1 (Qh (Qe (Qe (Qe d 2) 4) 20) 3)=1+Qh (Qe (Qe (Qe d 2) 4) 20) 3:=Jz (by omega)
 unfold JZ
 rw [Qkt,e3]
 omega
theorem QI2 (d:Dice){s:ByteArray}(hs:Jr s=true):J7 (Ww d s)=true:=by
 have b2:=Q7 (d:=d) (n:=2) (by omega)
 have b4:=Q7 (d:=Qe d 2) (n:=4) (by omega)
 have b20:=Q7 (d:=Qe (Qe d 2) 4) (n:=20) (by omega)
 have b3:=Q7 (d:=Qe (Qe (Qe d 2) 4) 20) (n:=3) (by omega)
 have e2:Qj .i64 1 (Qh d 2)=1+Qh d 2:=Jz (by omega)
 have e4:Qj .i64 1 (Qh (Qe d 2) 4)=1+Qh (Qe d 2) 4:=Jz (by omega)
 have e3:Qj .i64 1 (Qh (Qe (Qe (Qe d 2) 4) 20) 3)=1+Qh (Qe (Qe (Qe d 2) 4) 20) 3:=Jz (by omega)
 have hl:=QI1 d
 have hh:((JZ d).1.headD ((0,(0,())),(0,()))).2.1=Qh (Qe (Qe d 2) 4) 20:=QI0 _ _ _ (by rw [e3];omega)
 have e0:lgt Q2 (JZ d).1 0=(JZ d).1.headD ((0,(0,())),(0,())):=by
  cases hq:(JZ d).1 with
  |nil=>rw [hq] at hl;simp at hl
  |cons a l=>rfl
 have hu:0<=dof (JZ d).2 [50,300,0,3000]/\dof (JZ d).2 [50,300,0,3000]<=3000:=by
  have h:=Zo (d:=(JZ d).2) (l:=[50,300,0,3000]) (by decide)
  simp only [BA,BQ,Dd] at h
  omega
 have eu:Qj .i64 (lgt Q2 (JZ d).1 0).2.1 (dof (JZ d).2 [50,300,0,3000])=(lgt Q2 (JZ d).1 0).2.1+dof (JZ d).2 [50,300,0,3000]:=Jz (by rw [e0,hh];omega)
 refine JK.2 ⟨hs, ?_, ?_, ?_, ?_, ?_⟩
 ·show 1<=Qj .i64 1 (Qh d 2)/\Qj .i64 1 (Qh d 2)<=2
  omega
 ·show 1<=Qj .i64 1 (Qh (Qe d 2) 4)/\Qj .i64 1 (Qh (Qe d 2) 4)<=4
  omega
 ·show 1<=(JZ d).1.length/\(JZ d).1.length<=8
  omega
 ·exact Qum _ _ _ none (by rw [e3];omega) (by omega) (by omega) (fun e he=>by cases he)
 ·show ((JZ d).1.headD ((0,(0,())),(0,()))).2.1<=Qj .i64 (lgt Q2 (JZ d).1 0).2.1 (dof (JZ d).2 [50,300,0,3000])/\Qj .i64 (lgt Q2 (JZ d).1 0).2.1 (dof (JZ d).2 [50,300,0,3000])<=40000
  rw [eu,e0,hh]
  omega
abbrev Qdd:Sh:=⟨[(0,.ptr 50000 0),(4,.ptr 4 0),(5,.ptr 5 0),(6,.ty tI),(7,.ty tI)],[(4,.box Qp),(5,.bag [.ty .str,.ty tI,.ty tI,.ms 20503,.ty tI]),(43,.no),(20503,.arr 45 Q2),(50000,.box Qt)]⟩
abbrev QI3:Sh:=⟨[(0,.ptr 50000 0),(4,.ptr 4 0),(5,.ptr 5 0)],[(4,.box Qp),(5,.bag [.ty .str,.ty tI,.ty tI,.ms 20503,.ty tI]),(43,.no),(20503,.arr 45 Q2),(50000,.box Qt)]⟩
def Qku:Fg:=Qdd.f
def Qun:TC:=aF Tryz.f48 [(122,.nf 5 3 45 20503),(122,pL 0 Qku),(1955,.fg ⟨[(0,none),(4,none),(5,none)],[(4,some Qp),(5,some Qp),(43,none),(20503,none),(50000,some Qt)]⟩),(62,pD [(0,[5,43,20503]),(1,[5,43,20503]),(2,[43,20503]),(3,[43,20503]),(4,[43,20503]),(5,[50000]),(6,[]),(7,[58,5058,10058,15058,50000]),(8,[]),(9,[5,43,20503]),(10,[4,5,43,20503])] (.of [0,1,2,3,4,5,6,7,8,9,10]))]
def Quo:TC:=lb 0 Qun
def Qup (x6 x7:Int)(y4:Item)(y5_0:ByteArray)(y5_1 y5_2 y5_4:Int)(ZD:List Link)(Qa:Dice):VS:=Qdd.st ((),(),(),x6,x7,()) (y4,(y5_0,y5_1,y5_2,(),y5_4,()),(),ZD,Qa,())
def Qkv (y4:Item)(y5_0:ByteArray)(y5_1 y5_2 y5_4:Int)(ZD:List Link)(Qa:Dice):VS:=QI3.st ((),(),(),()) (y4,(y5_0,y5_1,y5_2,(),y5_4,()),(),ZD,Qa,())
def QI4:VS->Option (Bool×List (Bool×Exit×VS)):=mkL Qdd (fun x y=>(dOk y.2.2.2.2.1&&decide (0<=x.2.2.2.2.1/\x.2.2.2.2.1<=100/\y.2.2.2.1.length+x.2.2.2.2.1.toNat<=1000))) (fun x y=>[(true,.exit 0,Qkv (y.1) (y.2.1.1) (y.2.1.2.1) (y.2.1.2.2.1) (y.2.1.2.2.2.2.1) (y.2.2.2.1++(Yd x.2.2.2.2.1.toNat x.2.2.2.1 y.2.2.2.2.1).1) ((Yd x.2.2.2.2.1.toNat x.2.2.2.1 y.2.2.2.2.1).2))])
def Qkw:G:=gG 62 [(32,Xl),(50,WZ)] (Ls [QI4])
def Qkx (x6 x7:Int)(y4:Item)(y5_0:ByteArray)(y5_1 y5_2 y5_4:Int)(ZD:List Link)(Qa:Dice):OX:=Qx (QA Qkw Qku Quo) (Qup x6 x7 y4 y5_0 y5_1 y5_2 y5_4 ZD Qa)
def VA (kk:Int->Int->Item->ByteArray->Int->Int->Int->List Link->Dice->OX)(x6 x7:Int)(y4:Item)(y5_0:ByteArray)(y5_1 y5_2 y5_4:Int)(ZD:List Link)(Qa:Dice):OX:=
 let a1:=(lgt Qk ([(2,(0,())),(1,(0,())),(5,(2048,())),(16,(128,())),(3,(0,())),(15,(168,()))]) (Int.toNat (Qh Qa 6)))
 let a2:=((a1.1,((a1.2).1,())),(x6,()))
 let a3:=Qe Qa 6
 br (igt x7 0) (br (Qz Qa 6) (br (cIx ([(2,(0,())),(1,(0,())),(5,(2048,())),(16,(128,())),(3,(0,())),(15,(168,()))]) (Qh Qa 6)) (br (Qq ZD ([a2]) 24) (br (QM a3 ([5,30,0,100])) (kk (Qj .i64 (Qj .i64 x6 1) (dof a3 ([5,30,0,100]))) (Qw .i64 x7 1) y4 y5_0 y5_1 y5_2 y5_4 (ZD++([a2])) (Ql a3 ([5,30,0,100]))) none) none) none) none) (some (.exit 0,Qkv y4 y5_0 y5_1 y5_2 y5_4 ZD Qa))
def VB (x6 x7:Int)(y4:Item)(y5_0:ByteArray)(y5_1 y5_2 y5_4:Int)(ZD:List Link)(Qa:Dice):OX:=
 let a1:=Yd x7.toNat x6 Qa
 some (.exit 0,Qkv (y4) (y5_0) (y5_1) (y5_2) (y5_4) (ZD++a1.1) (a1.2))
theorem Quq (x6 x7:Int)(y4:Item)(y5_0:ByteArray)(y5_1 y5_2 y5_4:Int)(ZD:List Link)(Qa:Dice):Qkx x6 x7 y4 y5_0 y5_1 y5_2 y5_4 ZD Qa=VA Qkx x6 x7 y4 y5_0 y5_1 y5_2 y5_4 ZD Qa:=lnT (x:=VA (fun x6 x7 y4 y5_0 y5_1 y5_2 y5_4 ZD Qa=>some (.normal,Qup x6 x7 y4 y5_0 y5_1 y5_2 y5_4 ZD Qa)) x6 x7 y4 y5_0 y5_1 y5_2 y5_4 ZD Qa) (by simp only [VA,nxA];rfl)
def r_f48 (d0:Dice)(p1:ByteArray):OV:=
 let a2:=Qe (Qe (Qe d0 2) 4) 20
 let a3:=Qj .i64 1 (Qh a2 3)
 let a1:=Yd a3.toNat (Qh (Qe (Qe d0 2) 4) 20) (Qe a2 3)
 br (Qz d0 2) (br (Qz (Qe d0 2) 4) (br (Qz (Qe (Qe d0 2) 4) 20) (br (Qz a2 3) (br (dOk (Qe a2 3)&&decide (0<=a3/\a3<=100/\([]:List Link).length+a3.toNat<=1000)) (br (cIx (([]:List Link)++a1.1) 0) (br (cLd (([]:List Link)++a1.1) (Int.toNat 0)) (br (QM (a1.2) ([50,300,0,3000])) (some (.t Qp ((p1),((Qj .i64 1 (Qh d0 2)),((Qj .i64 1 (Qh (Qe d0 2) 4)),((([]:List Link)++a1.1),((Qj .i64 (((lgt Q2 (([]:List Link)++a1.1) (Int.toNat 0)).2).1) (dof (a1.2) ([50,300,0,3000]))),()))))),[.box (.t Qt (Ql (a1.2) ([50,300,0,3000])))])) none) none) none) none) none) none) none) none
theorem QI5 (x6 x7:Int)(y4:Item)(y5_0:ByteArray)(y5_1 y5_2 y5_4:Int)(ZD:List Link)(Qa:Dice)(h:(dOk Qa&&decide (0<=x7/\x7<=100/\ZD.length+x7.toNat<=1000))=true):Qkx x6 x7 y4 y5_0 y5_1 y5_2 y5_4 ZD Qa=VB x6 x7 y4 y5_0 y5_1 y5_2 y5_4 ZD Qa:=by
 simp only [Bc,Ba] at h
 obtain ⟨hd,h1,h2q,h3⟩:=h
 obtain ⟨k,rfl⟩:=Bl h1
 rw [Bb] at h3
 have h2:k<=100:=by omega
 clear h1 h2q
 induction k generalizing ZD Qa x6 with
 |zero=>
  rw [Quq]
  have e1:igt ((0:Nat):Int) 0=false:=rfl
  simp only [VA,e1,Qi,VB,Bb,Yd,BL]
 |succ k ih=>
  rw [Quq]
  have e1:igt ((k+1:Nat):Int) 0=true:=by simp only [igt,Ba];omega
  have e2:Qw .i64 ((k+1:Nat):Int) 1=(k:Int):=by rw [JO (by omega)];omega
  have hv:=Q7 (d:=Qa) (n:=6) (by omega)
  have hc:cIx Gl (Qh Qa 6)=true:=by
   have:Gl.length=6:=rfl
   simp only [cIx,Ba]
   omega
  have hla:VB x6 ((k+1:Nat):Int) y4 y5_0 y5_1 y5_2 y5_4 ZD Qa=VB (Qj .i64 (Qj .i64 x6 1) (dof (Qe Qa 6) [5,30,0,100])) (k:Int) y4 y5_0 y5_1 y5_2 y5_4 (ZD++[(lgt Qk Gl (Qh Qa 6).toNat,(x6,()))]) (Ql (Qe Qa 6) [5,30,0,100]):=by
   simp only [VB,Bb,Yd,BI]
   rfl
  rw [hla, ← ih _ _ _ (Jc (QB hd)) (by simp;omega) (by omega)]
  have n6:Qz Qa 6=true:=by simp [Qz,hd]
  have f1:QM (Qe Qa 6) [5,30,0,100]=true:=by simp [QM,QB hd]
  simp only [VA,e1,e2,n6,f1,Qf,show ([(2,(0,())),(1,(0,())),(5,(2048,())),(16,(128,())),(3,(0,())),(15,(168,()))]:List Keep)=Gl from rfl,hc]
  rw [WY (by simp;omega) (by omega),Qf]
  show br (cIx Gl (Qh Qa 6)) _ _=_
  rw [hc,Qf]
theorem QI6:LO Qkw Qku Quo 0:=QI (s:=Qdd) fun x y h _ q=>by simp only [QG,QH] at q;exact (QI5 x.2.2.2.1 x.2.2.2.2.1 y.1 y.2.1.1 y.2.1.2.1 y.2.1.2.2.1 y.2.1.2.2.2.2.1 y.2.2.2.1 y.2.2.2.2.1 h).trans q
theorem s_f48 (d:Dice)(s:ByteArray)(h:Ub d s=true):r_f48 d s=some (.t Qp (Ww d s),[.box (.t Qt (Ua d s))]):=by
 have h:dOk d=true:=h
 have n2:Qz d 2=true:=by simp [Qz,h]
 have n4:Qz (Qe d 2) 4=true:=by simp [Qz,QB h]
 have n20:Qz (Qe (Qe d 2) 4) 20=true:=by simp [Qz,QB (QB h)]
 have n3:Qz (Qe (Qe (Qe d 2) 4) 20) 3=true:=by simp [Qz,QB (QB (QB h))]
 have b3:=Q7 (d:=Qe (Qe (Qe d 2) 4) 20) (n:=3) (by omega)
 have e3:Qj .i64 1 (Qh (Qe (Qe (Qe d 2) 4) 20) 3)=1+Qh (Qe (Qe (Qe d 2) 4) 20) 3:=Jz (by omega)
 have hl:=Qkt (Qj .i64 1 (Qh (Qe (Qe (Qe d 2) 4) 20) 3)).toNat (Qh (Qe (Qe d 2) 4) 20) (Vy d)
 have hd3:dOk (Vy d)=true:=QB (QB (QB (QB h)))
 have hL:dOk (JZ d).2=true:=Quk h
 have f5:QM (JZ d).2 [50,300,0,3000]=true:=by simp [QM,hL]
 have hlen:0<(JZ d).1.length:=by
  show 0<(Yd _ _ _).1.length
  rw [hl]
  omega
 have c1:cIx (JZ d).1 0=true:=by simp only [cIx,Ba];omega
 have c2:cLd (JZ d).1 (Int.toNat 0)=true:=by simp only [cLd,Ba];exact hlen
 simp only [r_f48,n2,n4,n20,n3,Qf,BV,show Qe (Qe (Qe (Qe d 2) 4) 20) 3=Vy d from rfl,hd3,Bu]
 rw [Yv ⟨by omega,by omega,by simp;omega⟩,Qf]
 simp only [show Yd (Qj .i64 1 (Qh (Qe (Qe (Qe d 2) 4) 20) 3)).toNat (Qh (Qe (Qe d 2) 4) 20) (Vy d)=JZ d from rfl,c1,c2,f5,Qf]
 rfl
def VC:Ent:=Xx Qt (.pr .str .nil) (fun d x=>(Ub d x.1)) (fun d x=>(.t Qp (Ww d x.1))) (fun d x=>(Ua d x.1))
theorem Qde:EM 48 VC:=mS (lk:=lkL (lkc QI6 lkn)) Qkw Qun [((.c 4 true 5),some Qp)] false (gB (gD XM (gD UB gN))) fun m=>WA m rfl fun d x hok=>kT (s_f48 d x.1 hok)
def QI7:List DO:=[(.mk (oV 16 0) []),(.mk (oV 17 5) []),(.mk (oP 18 (.ix 2 (.t 16) (.t 17))) [0,1]),(.mk (oM 19 (.ld true 2 (.t 18))) [2]),(.mk (oV 20 1) []),(.mk (oV 21 5) []),(.mk (oP 22 (.ix 2 (.t 20) (.t 21))) [4,5]),(.mk (oM 23 (.ld true 2 (.t 22))) [6]),(.mk (oP 24 (.eqs true [0,0] (.t 19) (.t 23))) [3,7])]
abbrev Qky:Sh:=⟨[(0,.ty (.sl Qk)),(1,.ty (.sl Qk)),(12,.ty tI),(13,.ty tI)],[]⟩
abbrev Qkz:Sh:=⟨[(4,.ty .bool)],[]⟩
abbrev Qdf:Sh:=⟨[],[]⟩
def QI8:Fg:=Qky.f
def QI9:TC:=(.sq (.reg [(oP 14 (.bin false .lss (.t 13) (.t 12)))]) (.sq (.cd (.t 14) .sk (.fg Qdf.f (.ex 0))) (.sq (.bk 1 (.sq (.reg [(oV 15 13),(oV 5 15)]) (.sq (.dr QI7 [(0,[]),(1,[]),(2,[]),(3,[]),(4,[]),(5,[]),(6,[]),(7,[]),(8,[])] (.of [0,1,2,3,4,5,6,7,8])) (.cd (.t 24) (.sq (.reg [(oP 4 (.mv (cB false)))]) (.fg Qkz.f .rt)) .sk)))) (.reg [(oP 25 (.bin false .add (.t 13) (cI 1))),(oV 13 25)]))))
def Qur (x0 x1:List Keep)(x12 x13:Int):VS:=Qky.st (x0,x1,x12,x13,()) ()
def Ig (x4:Bool):VS:=Qkz.st (x4,()) ()
def QkA  : VS:=Qdf.st () ()
def QJa:VS->Option (Bool×List (Bool×Exit×VS)):=mkL Qky (fun x y=>(decide (0<=x.2.2.2.1/\x.2.2.2.1<=x.1.length/\x.1.length=x.2.1.length/\x.2.2.1=x.1.length/\x.1.length<=100000))) (fun x y=>[((!(x.1.drop x.2.2.2.1.toNat==x.2.1.drop x.2.2.2.1.toNat)),.ret,Ig (false)),(true,.exit 0,QkA)])
def g_f38:G:=gG 26 [] (Ls [QJa])
def Qdg (x0 x1:List Keep)(x12 x13:Int):OX:=Qx (QA g_f38 QI8 QI9) (Qur x0 x1 x12 x13)
def VD (kk:List Keep->List Keep->Int->Int->OX)(x0 x1:List Keep)(x12 x13:Int):OX:=
 let a1:=Int.toNat x13
 br (ilt x13 x12) (br (cIx x0 x13) (br (cIx x1 x13) (br (!(and (ieq ((lgt Qk x0 a1).1) ((lgt Qk x1 a1).1)) (and (ieq (((lgt Qk x0 a1).2).1) (((lgt Qk x1 a1).2).1)) true))) (some (.ret,Ig false)) (kk x0 x1 x12 (Qj .i64 x13 1))) none) none) (some (.exit 0,QkA))
def Qdh (x0 x1:List Keep)(x12 x13:Int):OX:=br (!(x0.drop x13.toNat==x1.drop x13.toNat)) (some (.ret,Ig (false)))<|some (.exit 0,QkA)
theorem Qus (x0 x1:List Keep)(x12 x13:Int):Qdg x0 x1 x12 x13=VD Qdg x0 x1 x12 x13:=lnT (x:=VD (fun x0 x1 x12 x13=>some (.normal,Qur x0 x1 x12 x13)) x0 x1 x12 x13) (by simp only [VD,nxA];rfl)
def QkB (p0 p1:List Keep):OV:=br (ine (Qc p0) (Qc p1)) (some (.t .bool false,[])) (br (decide (0<=(0:Int)/\(0:Int)<=p0.length/\p0.length=p1.length/\(Qc p0)=p0.length/\p0.length<=100000)) (br (!(p0.drop (0:Int).toNat==p1.drop (0:Int).toNat)) (some (.t .bool (false),[])) (some (.t .bool true,[]))) none)
theorem l_f38_0 (x0 x1:List Keep)(x12 x13:Int)(h:(decide (0<=x13/\x13<=x0.length/\x0.length=x1.length/\x12=x0.length/\x0.length<=100000))=true):Qdg x0 x1 x12 x13=Qdh x0 x1 x12 x13:=by
 simp only [Ba] at h
 obtain ⟨h0,h1,h2,rfl,h3⟩:=h
 obtain ⟨k,rfl⟩:=Bl h0
 refine QQ x0 (fun k=>Qdg x0 x1 (x0.length:Int) (k:Int)=Qdh x0 x1 (x0.length:Int) (k:Int)) ?_ ?_ k (by omega)
 ·rw [Qus]
  simp only [VD,Qdh,Qy,BN,BM,Qi,Bb,BS]
  rw [h2,BS]
  rfl
 ·intro k hk ih
  rw [Qus]
  have hk2:k<x1.length:=by omega
  have hq:(and (ieq x0[k].1 x1[k].1) (and (ieq x0[k].2.1 x1[k].2.1) true))=(x0[k]==x1[k]):=rfl
  simp only [VD,Qy,QK,hk,hk2,Bo,Qf,Bb,QO (show k<4611686018427387904 by omega),QL (y:=Qk) hk,QL (y:=Qk) hk2,ih]
  rw [hq]
  simp only [Qdh,Bb,Bg hk,Bg hk2,List.cons_beq_cons]
  cases x0[k]==x1[k]<;>rfl
theorem s_f38 (a b:List Keep)(h:QuC a b=true):QkB a b=some (.t .bool (sameO a b),[]):=by
 simp only [QuC,Ba] at h
 unfold sameO
 by_cases hl:a.length=b.length
 ·simp only [QkB,show ine (Qc a) (Qc b)=false by simp only [ine,Qc,hl];simp,Qi,By,BG]
  refine brY (Be ⟨by omega,by omega,hl,trivial,h.1⟩) ?_
  cases a==b<;>rfl
 ·have:(a==b)=false:=DU.2 fun e=>hl (by rw [e])
  simp only [QkB,show ine (Qc a) (Qc b)=true by simp only [ine,Qc,bne_iff_ne];omega,Qf,this]
def Ih (a b:List Int):Bool:=a==b
def Ec (a b:List Int):Bool:=decide (a.length<=100000/\b.length<=100000)
abbrev Qdi:Sh:=⟨[(0,.ty (.sl tI)),(1,.ty (.sl tI)),(12,.ty tI),(13,.ty tI)],[]⟩
def QkC:Fg:=Qdi.f
def Qut:TC:=aF Tryz.f23 [(58,pL 0 QkC),(933,.fg Qdf.f),(7474,pD [(0,[]),(1,[]),(2,[]),(3,[]),(4,[]),(5,[]),(6,[]),(7,[]),(8,[])] (.of [0,1,2,3,4,5,6,7,8])),(29901,.fg Qkz.f)]
def Quu:TC:=lb 0 Qut
def Quv (x0 x1:List Int)(x12 x13:Int):VS:=Qdi.st (x0,x1,x12,x13,()) ()
def QkD  : VS:=Qdf.st () ()
def QJb:VS->Option (Bool×List (Bool×Exit×VS)):=mkL Qdi (fun x y=>(decide (0<=x.2.2.2.1/\x.2.2.2.1<=x.1.length/\x.1.length=x.2.1.length/\x.2.2.1=x.1.length/\x.1.length<=100000))) (fun x y=>[((!(x.1.drop x.2.2.2.1.toNat==x.2.1.drop x.2.2.2.1.toNat)),.ret,Ig (false)),(true,.exit 0,QkD)])
def QkE:G:=gG 26 [] (Ls [QJb])
def Qdj (x0 x1:List Int)(x12 x13:Int):OX:=Qx (QA QkE QkC Quu) (Quv x0 x1 x12 x13)
def VE (kk:List Int->List Int->Int->Int->OX)(x0 x1:List Int)(x12 x13:Int):OX:=br (ilt x13 x12) (br (cIx x0 x13) (br (cIx x1 x13) (br (ine (lgt tI x0 (Int.toNat x13)) (lgt tI x1 (Int.toNat x13))) (some (.ret,Ig false)) (kk x0 x1 x12 (Qj .i64 x13 1))) none) none) (some (.exit 0,QkD))
def Qdk (x0 x1:List Int)(x12 x13:Int):OX:=br (!(x0.drop x13.toNat==x1.drop x13.toNat)) (some (.ret,Ig (false)))<|some (.exit 0,QkD)
theorem Quw (x0 x1:List Int)(x12 x13:Int):Qdj x0 x1 x12 x13=VE Qdj x0 x1 x12 x13:=lnT (x:=VE (fun x0 x1 x12 x13=>some (.normal,Quv x0 x1 x12 x13)) x0 x1 x12 x13) (by simp only [VE,nxA];rfl)
def QkF (p0 p1:List Int):OV:=br (ine (Qc p0) (Qc p1)) (some (.t .bool false,[])) (br (decide (0<=(0:Int)/\(0:Int)<=p0.length/\p0.length=p1.length/\(Qc p0)=p0.length/\p0.length<=100000)) (br (!(p0.drop (0:Int).toNat==p1.drop (0:Int).toNat)) (some (.t .bool (false),[])) (some (.t .bool true,[]))) none)
theorem QJc (x0 x1:List Int)(x12 x13:Int)(h:(decide (0<=x13/\x13<=x0.length/\x0.length=x1.length/\x12=x0.length/\x0.length<=100000))=true):Qdj x0 x1 x12 x13=Qdk x0 x1 x12 x13:=by
 simp only [Ba] at h
 obtain ⟨h0,h1,h2,rfl,h3⟩:=h
 obtain ⟨k,rfl⟩:=Bl h0
 refine QQ x0 (fun k=>Qdj x0 x1 (x0.length:Int) (k:Int)=Qdk x0 x1 (x0.length:Int) (k:Int)) ?_ ?_ k (by omega)
 ·rw [Quw]
  simp only [VE,Qdk,Qy,BN,BM,Qi,Bb,BS]
  rw [h2,BS]
  rfl
 ·intro k hk ih
  rw [Quw]
  have hk2:k<x1.length:=by omega
  have hq:ine x0[k] x1[k]= !(x0[k]==x1[k]):=rfl
  simp only [VE,Qy,QK,hk,hk2,Bo,Qf,Bb,QO (show k<4611686018427387904 by omega),QL (y:=tI) hk,QL (y:=tI) hk2,ih]
  rw [hq]
  simp only [Qdk,Bb,Bg hk,Bg hk2,List.cons_beq_cons]
  cases x0[k]==x1[k]<;>rfl
theorem QJd:LO QkE QkC Quu 0:=QI (s:=Qdi) fun x y h _ q=>by simp only [QG,QH] at q;exact (QJc x.1 x.2.1 x.2.2.1 x.2.2.2.1 h).trans q
theorem s_f23 (a b:List Int)(h:Ec a b=true):QkF a b=some (.t .bool (Ih a b),[]):=by
 simp only [Ec,Ba] at h
 unfold Ih
 by_cases hl:a.length=b.length
 ·simp only [QkF,show ine (Qc a) (Qc b)=false by simp only [ine,Qc,hl];simp,Qi,By,BG]
  refine brY (Be ⟨by omega,by omega,hl,trivial,h.1⟩) ?_
  cases a==b<;>rfl
 ·have:(a==b)=false:=DU.2 fun e=>hl (by rw [e])
  simp only [QkF,show ine (Qc a) (Qc b)=true by simp only [ine,Qc,bne_iff_ne];omega,Qf,this]
def Qux:Ent:=Qo (.pr (.sl tI) (.pr (.sl tI) .nil)) (fun x=>(Ec x.1 x.2.1)) (fun x=>(.t .bool (Ih x.1 x.2.1)))
theorem ms_f23:EM 23 Qux:=mS (lk:=lkL (lkc QJd lkn)) QkE Qut [((.t 4),some .bool)] false (gB gN) fun m=>Qs m fun x hok=>kT (s_f23 x.1 x.2.1 hok)
def JP:Keep:=(5,(2048,()))
def Quy:TC:=aF Tryz.f88 []
def Quz:List (RV×Option Ty):=[((.c 0 true 2),some Qk)]
def g_f88:G:=gG 2 [] (fun _ _=>none)
def r_f88  : OV:=some (.t Qk (5,(2048,())),[])
theorem e_f88  : QS g_f88 Quy Quz false [] []=r_f88  :=by kernel_rfl
theorem s_f88:r_f88=some (.t Qk JP,[]):=rfl
def QkG:Ent:=Qo .nil (fun x=>true) (fun x=>(.t Qk JP))
theorem QuA:EM 88 QkG:=mS g_f88 Quy Quz false (gB gN) fun m=>Qs m fun x _=>(e_f88 ).trans (s_f88)
def leafC (nm:ByteArray)(k:Keep)(id to:Int):Certificate:=(id,(WW,(nm,(k,(id,((3,(0,())),(0,(to,(false,(0,([nm],((0,(0,())),()))))))))))))
def Zw (nm:ByteArray)(k:Keep)(id a to:Int):Identity:=(k,(id,([(YZ (leafC nm k id to) a).1],())))
def Gm (nm:ByteArray)(_k:Keep)(_id _a _to:Int):Bool:=decide (nm.size<=1000)
def tc_f87:TC:=aF Tryz.f87 []
def g_f87:G:=gG 32 [(139,QjG)] (fun _ _=>none)
def r_f87 (p0:ByteArray)(p1:Keep)(p2 p3 p4:Int):OV:=
 let a1:=((YZ (p2,((ByteArray.mk #[114,111,111,116]),(p0,((p1.1,(p1.2.1,())),(p2,((3,(0,())),(0,(p4,(false,(0,([p0],((0,(0,())),())))))))))))) p3).1)
 let a4:=(((a1.2).2).2)
 let a2:=((a4.2).2)
 let a3:=((((a2.2).2).2).2)
 br (Gh (p2,((ByteArray.mk #[114,111,111,116]),(p0,((p1.1,(p1.2.1,())),(p2,((3,(0,())),(0,(p4,(false,(0,([p0],((0,(0,())),())))))))))))) p3) (some (.t QX ((p1.1,(p1.2.1,())),(p2,([(a1.1,((a1.2).1,(((a1.2).2).1,(((a4.1).1,(((a4.1).2).1,())),((a4.2).1,(((a2.1).1,(((a2.1).2).1,())),((a2.2).1,(((a2.2).2).1,((((a2.2).2).2).1,(a3.1,((a3.2).1,(((((a3.2).2).1).1,(((((a3.2).2).1).2).1,())),()))))))))))))],()))),[])) none
theorem s_f87 (nm:ByteArray)(k:Keep)(id a to:Int)(h:Gm nm k id a to=true):r_f87 nm k id a to=some (.t QX (Zw nm k id a to),[]):=by
 have hs:nm.size<=1000:=BD h
 unfold r_f87
 exact brY (Qi1 (by decide) hs (l:=[nm]) (Nat.le_succ 1) (fun t ht=>by rw [BX.1 ht];omega)) rfl
def QkH:Ent:=Qo (.pr .str (.pr Qk (.pr tI (.pr tI (.pr tI .nil))))) (fun x=>(Gm x.1 x.2.1 x.2.2.1 x.2.2.2.1 x.2.2.2.2.1)) (fun x=>(.t QX (Zw x.1 x.2.1 x.2.2.1 x.2.2.2.1 x.2.2.2.2.1)))
theorem QuB:EM 87 QkH:=mS g_f87 tc_f87 [((.c 10 true 4),some QX)] false (gB (gD QsN gN)) fun m=>Qs m fun x hok=>kT (s_f87 x.1 x.2.1 x.2.2.1 x.2.2.2.1 x.2.2.2.2.1 hok)
set_option maxRecDepth 100000 in
end
end Go.Proofs.YthlcobdnemhcdaaGreat.K
noncomputable section
namespace Go.Proofs.YthlcobdnemhcdaaGreat.K
open Go.RowKit
noncomputable section
abbrev Uk:List ByteArray:=[(ByteArray.mk #[97,112,112]),(ByteArray.mk #[100,98]),(ByteArray.mk #[119,101,98])]
abbrev sSu:List (List Int):=[[10,8,2],[8,2],[2,10,8,3]]
abbrev sIt:List ByteArray:=[(ByteArray.mk #[98,97,99,107,117,112]),(ByteArray.mk #[100,101,101,100])]
def nm1 (s:ByteArray):Bool:=decide (s.size<=1000)
def FD (d:Dice):List Int:=bif ieq (dof d [3,3,4]) 4 then [14]++lgt (.sl tI) sSu (Qh (Ql d [3,3,4]) 3).toNat else lgt (.sl tI) sSu (Qh (Ql d [3,3,4]) 3).toNat
def Wd (d:Dice)(k:Nat)(s:ByteArray):Endpoint:=(s,(1,(dof d [3,3,4],(FD d,(done (Qe (Ql d [3,3,4]) 3) 2,([Zw s JP (Qj .i64 100 (k:Int)) 1 901],([1],([2,3],(done (Qe (Qe (Ql d [3,3,4]) 3) 2) 3,())))))))))
def WG (d:Dice):Dice:=Qe (Qe (Qe (Ql d [3,3,4]) 3) 2) 3
def Zq:List ByteArray->Nat->Dice->List Endpoint×Dice
 | [],_,d=>([],d)
 |s::r,k,d=>(Wd d k s::(Zq r (k+1) (WG d)).1,(Zq r (k+1) (WG d)).2)
def edZ:Nat->Int->Int->List Keep->Dice->List Keep×Dice
 |0,_,_,l,d=>(l,d)
 |m+1,i,k,l,d=>bif ine i k then (bif igt (Qh d 3) 0&&ilt (Qc l) 3 then edZ m i (k+1) (l++[(i,(k,()))]) (Qe d 3) else edZ m i (k+1) l (Qe d 3)) else edZ m i (k+1) l d
def edY:Nat->Nat->Int->List Keep->Dice->List Keep×Dice
 |0,_,_,l,d=>(l,d)
 |m+1,n,i,l,d=>edY m n (i+1) (edZ n i 0 l d).1 (edZ n i 0 l d).2
def itZ:Nat->Dice->List Item×Dice
 |0,d=>([],d)
 |n+1,d=>(Ww (YQ d sIt) (ZA d sIt)::(itZ n (Ua (YQ d sIt) (ZA d sIt))).1,(itZ n (Ua (YQ d sIt) (ZA d sIt))).2)
def Jq (d:Dice):List ByteArray:=lsl Uk 0 (Qj .i64 2 (Qh d 2))
def JT (d:Dice):List Keep×Dice:=edY (Jq d).length (Jq d).length 0 [] (Zq (Jq d) 0 (Qe d 2)).2
def GL (d:Dice):List Keep:=bif ieq (Qc (JT d).1) 0 then [(0,(1,()))] else (JT d).1
def sndIt (d:Dice):List Item×Dice:=itZ (Qh (JT d).2 3).toNat (Qe (JT d).2 3)
def JQ (d:Dice):Estate:=((Zq (Jq d) 0 (Qe d 2)).1,(GL d,((sndIt d).1,())))
def Yf (d:Dice):Dice:=(sndIt d).2
theorem Qn7 {d:Dice}(h:dOk d=true):dOk (WG d)=true:=QB (QB (QB (Jc (l:=[3,3,4]) h)))
theorem Qfv: ∀ (l:List ByteArray) (k:Nat) (d:Dice),dOk d=true->dOk (Zq l k d).2=true
 | [],_,_,h=>h
 |_::r,k,d,h=>Qfv r (k+1) (WG d) (Qn7 h)
theorem Ey: ∀ (m:Nat) (i k:Int) (l:List Keep) (d:Dice),dOk d=true->l.length<=3->dOk (edZ m i k l d).2=true/\(edZ m i k l d).1.length<=3
 |0,_,_,_,_,h,hl=>⟨h,hl⟩
 |m+1,i,k,l,d,h,hl=>by
  unfold edZ
  cases ine i k with
  |false=>exact Ey m i (k+1) l d h hl
  |true=>
   cases h1:igt (Qh d 3) 0 with
   |false=>exact Ey m i (k+1) l (Qe d 3) (QB h) hl
   |true=>
    cases h2:ilt (Qc l) 3 with
    |false=>exact Ey m i (k+1) l (Qe d 3) (QB h) hl
    |true=>
     have:l.length<3:=by have:=BD h2;simp only [Qc] at this;omega
     exact Ey m i (k+1) _ (Qe d 3) (QB h) (by simp only [Bm,Bh];omega)
theorem Qfw: ∀ (m n:Nat) (i:Int) (l:List Keep) (d:Dice),dOk d=true->l.length<=3->dOk (edY m n i l d).2=true/\(edY m n i l d).1.length<=3
 |0,_,_,_,_,h,hl=>⟨h,hl⟩
 |m+1,n,i,l,d,h,hl=>by
  have:=Ey n i 0 l d h hl
  exact Qfw m n (i+1) _ _ this.1 this.2
theorem GM {d:Dice}(h:dOk d=true):dOk (YQ d sIt)=true:=QB (n:=2) h
theorem Qn8 (d:Dice):Jq d=Uk.take 2∨Jq d=Uk:=by
 have hv:=Q7 (d:=d) (n:=2) (by omega)
 have e:Qj .i64 2 (Qh d 2)=2+Qh d 2:=Jz (by omega)
 unfold Jq
 rw [e]
 rcases (show Qh d 2=0∨Qh d 2=1 by omega) with h|h<;>rw [h]
 ·exact .inl rfl
 ·exact .inr rfl
theorem QaW (d:Dice):2<=(Jq d).length/\(Jq d).length<=3/\(Jq d).all nm1=true:=by
 rcases Qn8 d with h|h<;>rw [h]<;>exact ⟨by decide,by decide,by decide⟩
def QN7:List DO:=dT Tryz.f47 6
def QN8:List DO:=dT Tryz.f47 26
abbrev GN:Sh:=⟨[(0,.ptr 50000 0),(2,.ptr 2 0),(3,.ptr 3 0),(4,.ty (.sl .str)),(16,.ty (.sl .str)),(17,.ty tI),(18,.ty tI)],[(2,.box Qm),(3,.bag [.ms 20300,.ms 20301,.ms 20302]),(61,.no),(94,.no),(103,.no),(119,.no),(20300,.arr 111 QC),(20301,.arr 113 Qk),(20302,.arr 62 Qp),(50000,.box Qt)]⟩
abbrev Qn9:Sh:=⟨[(0,.ptr 50000 0),(2,.ptr 2 0),(3,.ptr 3 0),(4,.ty (.sl .str))],[(2,.box Qm),(3,.bag [.ms 20300,.ms 20301,.ms 20302]),(61,.no),(94,.no),(103,.no),(119,.no),(20300,.arr 111 QC),(20301,.arr 113 Qk),(20302,.arr 62 Qp),(50000,.box Qt)]⟩
abbrev GO:Sh:=⟨[(0,.ptr 50000 0),(2,.ptr 2 0),(3,.ptr 3 0),(4,.ty (.sl .str)),(8,.ty tI),(65,.ty tI),(66,.ty tI),(70,.ty tI),(71,.ty tI)],[(2,.box Qm),(3,.bag [.ms 20300,.ms 20301,.ms 20302]),(61,.no),(94,.no),(103,.no),(119,.no),(20300,.arr 111 QC),(20301,.arr 113 Qk),(20302,.arr 62 Qp),(50000,.box Qt)]⟩
abbrev GP:Sh:=⟨[(0,.ptr 50000 0),(2,.ptr 2 0),(3,.ptr 3 0),(4,.ty (.sl .str)),(65,.ty tI),(66,.ty tI)],[(2,.box Qm),(3,.bag [.ms 20300,.ms 20301,.ms 20302]),(61,.no),(94,.no),(103,.no),(119,.no),(20300,.arr 111 QC),(20301,.arr 113 Qk),(20302,.arr 62 Qp),(50000,.box Qt)]⟩
abbrev Qoa:Sh:=⟨[(0,.ptr 50000 0),(2,.ptr 2 0),(3,.ptr 3 0)],[(2,.box Qm),(3,.bag [.ms 20300,.ms 20301,.ms 20302]),(61,.no),(94,.no),(103,.no),(119,.no),(20300,.arr 111 QC),(20301,.arr 113 Qk),(20302,.arr 62 Qp),(50000,.box Qt)]⟩
abbrev GQ:Sh:=⟨[(0,.ptr 50000 0),(2,.ptr 2 0),(3,.ptr 3 0),(10,.ty tI)],[(2,.box Qm),(3,.bag [.ms 20300,.ty (.sl Qk),.ms 20302]),(61,.no),(94,.no),(103,.no),(119,.no),(20300,.arr 111 QC),(20301,.no),(20302,.arr 62 Qp),(50000,.box Qt)]⟩
abbrev Qob:Sh:=⟨[(2,.ptr 2 0),(3,.ptr 3 0)],[(2,.box Qm),(3,.bag [.ms 20300,.ty (.sl Qk),.ms 20302]),(61,.no),(94,.no),(103,.no),(119,.no),(20300,.arr 111 QC),(20301,.no),(20302,.arr 62 Qp),(50000,.box Qt)]⟩
def FE:Fg:=GN.f
def FF:Fg:=GO.f
def FG:Fg:=GP.f
def FH:Fg:=GQ.f
def YB:TC:=aF Tryz.f47 [(122,.nf 3 2 62 20302),(122,.nf 3 1 113 20301),(122,.nf 3 0 111 20300),(122,.nf 7 3 3 20703),(122,pL 0 FE),(1957,.fg ⟨[(0,none),(2,none),(3,none),(4,some (.sl .str))],[(2,some Qm),(3,some Qm),(61,none),(94,none),(103,none),(119,none),(20300,none),(20301,none),(20302,none),(50000,some Qt)]⟩),(15666,pD [(0,[]),(1,[50000]),(2,[]),(3,[26,5026,10026,15026,50000]),(4,[]),(5,[]),(6,[]),(7,[]),(8,[50000]),(9,[32,5032,10032,15032,50000]),(10,[]),(11,[]),(12,[50000]),(13,[36,5036,10036,15036,50000]),(14,[]),(15,[]),(16,[50000]),(17,[40,5040,10040,15040,50000]),(18,[]),(19,[7,5007,10007,15007]),(20,[7,45,48,20703])] (.one 0 (.one 1 (.one 2 (.one 4 (.one 5 (.one 6 (.one 7 (.one 8 (.one 12 (.one 14 (.one 15 (.one 16 (.alt 3 (.alt 9 (.one 10 (.one 11 (.alt 13 (.alt 17 (.of [18,19,20]) (.of [19,17,18,20])) (.of [19,13,17,18,20])))) (.of [19,9,10,11,13,17,18,20])) (.of [19,3,9,10,11,13,17,18,20]))))))))))))))),(250,.nf 3 2 62 20302),(250,.nf 3 0 111 20300),(250,.nf 3 1 113 20301),(250,pL 2 FG),(4005,.fg ⟨[(0,none),(2,none),(3,none)],[(2,some Qm),(3,some Qm),(61,none),(94,none),(103,none),(119,none),(20300,none),(20301,none),(20302,none),(50000,some Qt)]⟩),(64102,.nf 3 2 62 20302),(64102,.nf 3 0 111 20300),(64102,.nf 3 1 113 20301),(64102,pL 1 FF),(1025637,.fg ⟨[(0,none),(2,none),(3,none),(4,some (.sl .str)),(65,some tI),(66,some tI)],[(2,some Qm),(3,some Qm),(61,none),(94,none),(103,none),(119,none),(20300,none),(20301,none),(20302,none),(50000,some Qt)]⟩),(1018,.fz [20301,103]),(1018,.nf 3 1 113 20301),(1018,.nf 3 0 111 20300),(1018,.nf 3 2 62 20302),(1018,pL 3 FH),(16291,.fg ⟨[(2,none),(3,none)],[(2,some Qm),(3,some Qm),(61,none),(94,none),(103,none),(119,none),(20300,none),(20301,none),(20302,none),(50000,some Qt)]⟩),(16292,pD [(0,[3,61,94,103,119,20300,20301,20302]),(1,[3,61,94,103,119,20300,20301,20302]),(2,[50000]),(3,[50000]),(4,[]),(5,[116,5116,10116,15116,50000]),(6,[117,5117,10117,15117,50000]),(7,[]),(8,[2,3,61,94,103,119,5119,10119,15119,20300,20301,20302]),(9,[3,61,94,103,119,20300,20301,20302]),(10,[2,3,61,94,103,119,20300,20301,20302])] (.of [0,1,2,3,4,5,6,7,8,9,10]))]
def Oc:TC:=lb 0 YB
def Od:TC:=lb 1 YB
def Oe:TC:=lb 2 YB
def Of:TC:=lb 3 YB
def Ez:List (RV×Option Ty):=[((.c 2 true 3),some Qm)]
def EA (x4 x16:List ByteArray)(x17 x18:Int)(y2:Estate)(Qb:List Endpoint)(Qg:List Keep)(Qd:List Item)(Qa:Dice):VS:=GN.st ((),(),(),x4,x16,x17,x18,()) (y2,((),(),(),()),(),(),(),(),Qb,Qg,Qd,Qa,())
def FI (x4:List ByteArray)(y2:Estate)(Qb:List Endpoint)(Qg:List Keep)(Qd:List Item)(Qa:Dice):VS:=Qn9.st ((),(),(),x4,()) (y2,((),(),(),()),(),(),(),(),Qb,Qg,Qd,Qa,())
def GR (x4:List ByteArray)(x8 x65 x66 x70 x71:Int)(y2:Estate)(Qb:List Endpoint)(Qg:List Keep)(Qd:List Item)(Qa:Dice):VS:=GO.st ((),(),(),x4,x8,x65,x66,x70,x71,()) (y2,((),(),(),()),(),(),(),(),Qb,Qg,Qd,Qa,())
def We (x4:List ByteArray)(x65 x66:Int)(y2:Estate)(Qb:List Endpoint)(Qg:List Keep)(Qd:List Item)(Qa:Dice):VS:=GP.st ((),(),(),x4,x65,x66,()) (y2,((),(),(),()),(),(),(),(),Qb,Qg,Qd,Qa,())
def FJ (y2:Estate)(Qb:List Endpoint)(Qg:List Keep)(Qd:List Item)(Qa:Dice):VS:=Qoa.st ((),(),(),()) (y2,((),(),(),()),(),(),(),(),Qb,Qg,Qd,Qa,())
def Og (x10:Int)(y2:Estate)(y3_1:List Keep)(Qb:List Endpoint)(Qd:List Item)(Qa:Dice):VS:=GQ.st ((),(),(),x10,()) (y2,((),y3_1,(),()),(),(),(),(),Qb,(),Qd,Qa,())
def FK (y2:Estate)(y3_1:List Keep)(Qb:List Endpoint)(Qd:List Item)(Qa:Dice):VS:=Qob.st ((),(),()) (y2,((),y3_1,(),()),(),(),(),(),Qb,(),Qd,Qa,())
def Qoc:VS->Option (Bool×List (Bool×Exit×VS)):=mkL GN (fun x y=>(QD x.2.2.2.2.1 x.2.2.2.2.2.1 x.2.2.2.2.2.2.1&&(dOk y.2.2.2.2.2.2.2.2.2.1&&(decide (y.2.2.2.2.2.2.1.length<=x.2.2.2.2.2.2.1)&&x.2.2.2.2.1.all nm1)))) (fun x y=>[(true,.exit 0,FI (x.2.2.2.1) (y.1) (y.2.2.2.2.2.2.1++(Zq (x.2.2.2.2.1.drop x.2.2.2.2.2.2.1.toNat) x.2.2.2.2.2.2.1.toNat y.2.2.2.2.2.2.2.2.2.1).1) (y.2.2.2.2.2.2.2.1) (y.2.2.2.2.2.2.2.2.1) ((Zq (x.2.2.2.2.1.drop x.2.2.2.2.2.2.1.toNat) x.2.2.2.2.2.2.1.toNat y.2.2.2.2.2.2.2.2.2.1).2))])
def Qod:VS->Option (Bool×List (Bool×Exit×VS)):=mkL GO (fun x y=>(dOk y.2.2.2.2.2.2.2.2.2.1&&decide (0<=x.2.2.2.2.2.2.2.2.1/\x.2.2.2.2.2.2.2.2.1<=x.2.2.2.2.2.2.2.1/\x.2.2.2.2.2.2.2.1<=3/\y.2.2.2.2.2.2.2.1.length<=3))) (fun x y=>[(true,.exit 4,We (x.2.2.2.1) (x.2.2.2.2.2.1) (x.2.2.2.2.2.2.1) (y.1) (y.2.2.2.2.2.2.1) ((edZ (x.2.2.2.2.2.2.2.1-x.2.2.2.2.2.2.2.2.1).toNat x.2.2.2.2.1 x.2.2.2.2.2.2.2.2.1 y.2.2.2.2.2.2.2.1 y.2.2.2.2.2.2.2.2.2.1).1) (y.2.2.2.2.2.2.2.2.1) ((edZ (x.2.2.2.2.2.2.2.1-x.2.2.2.2.2.2.2.2.1).toNat x.2.2.2.2.1 x.2.2.2.2.2.2.2.2.1 y.2.2.2.2.2.2.2.1 y.2.2.2.2.2.2.2.2.2.1).2))])
def Qoe:VS->Option (Bool×List (Bool×Exit×VS)):=mkL GP (fun x y=>(dOk y.2.2.2.2.2.2.2.2.2.1&&decide (0<=x.2.2.2.2.2.1/\x.2.2.2.2.2.1<=x.2.2.2.2.1/\x.2.2.2.2.1<=3/\x.2.2.2.1.length<=3/\y.2.2.2.2.2.2.2.1.length<=3))) (fun x y=>[(true,.exit 2,FJ (y.1) (y.2.2.2.2.2.2.1) ((edY (x.2.2.2.2.1-x.2.2.2.2.2.1).toNat x.2.2.2.1.length x.2.2.2.2.2.1 y.2.2.2.2.2.2.2.1 y.2.2.2.2.2.2.2.2.2.1).1) (y.2.2.2.2.2.2.2.2.1) ((edY (x.2.2.2.2.1-x.2.2.2.2.2.1).toNat x.2.2.2.1.length x.2.2.2.2.2.1 y.2.2.2.2.2.2.2.1 y.2.2.2.2.2.2.2.2.2.1).2))])
def Qof:VS->Option (Bool×List (Bool×Exit×VS)):=mkL GQ (fun x y=>(dOk y.2.2.2.2.2.2.2.2.2.1&&decide (0<=x.2.2.2.1/\x.2.2.2.1<=3/\y.2.2.2.2.2.2.2.2.1.length+x.2.2.2.1.toNat<=100))) (fun x y=>[(true,.exit 6,FK (y.1) (y.2.1.2.1) (y.2.2.2.2.2.2.1) (y.2.2.2.2.2.2.2.2.1++(itZ x.2.2.2.1.toNat y.2.2.2.2.2.2.2.2.2.1).1) ((itZ x.2.2.2.1.toNat y.2.2.2.2.2.2.2.2.2.1).2))])
def Zb:G:=⟨TYs,[45,103],122,EL [(32,Xl),(35,F5),(48,VC),(49,QbT),(50,WZ),(87,QkH),(88,QkG)],keeps,(Ls [Qoc,Qod,Qoe,Qof]),IL [],RL []⟩
def QaX (x4 x16:List ByteArray)(x17 x18:Int)(y2:Estate)(Qb:List Endpoint)(Qg:List Keep)(Qd:List Item)(Qa:Dice):OX:=
 let a5:=lgt .str x16 (Int.toNat x18)
 let a1:=Zw a5 JP (Qj .i64 100 x18) 1 901
 let a2:=(lgt (.sl tI) ([[10,8,2],[8,2],[2,10,8,3]]) (Int.toNat (Qh (Ql Qa ([3,3,4])) 3)))
 let a3:=(Qe (Ql Qa ([3,3,4])) 3)
 let a4:=((done a3 2),([(((a1.1).1,(((a1.1).2).1,())),((a1.2).1,(((a1.2).2).1,())))],([1],([2,3],((done (Qe a3 2) 3),())))))
 let a6:=(dof Qa ([3,3,4]))
 let a7:=Gm a5 JP (Qj .i64 100 x18) 1 901
 br (QT (Qe a3 2) 3) (br (ieq a6 4) (br (Qq ([14]) a2 8) (br a7 (br (Qq Qb ([(a5,(1,(a6,((([14])++a2),a4))))]) 144) (some (.normal,EA x4 x16 x17 (Qj .i64 x18 1) y2 (Qb++([(a5,(1,(a6,((([14])++a2),a4))))])) Qg Qd (Qe (Qe a3 2) 3))) none) none) none) (br a7 (br (Qq Qb ([(a5,(1,(a6,(a2,a4))))]) 144) (some (.normal,EA x4 x16 x17 (Qj .i64 x18 1) y2 (Qb++([(a5,(1,(a6,(a2,a4))))])) Qg Qd (Qe (Qe a3 2) 3))) none) none)) none
def Qfx (x4 x16:List ByteArray)(x17 x18:Int)(y2:Estate)(Qb:List Endpoint)(Qg:List Keep)(Qd:List Item)(Qa:Dice):OX:=br (QT (Qe (Ql Qa ([3,3,4])) 3) 2) (QaX x4 x16 x17 x18 y2 Qb Qg Qd Qa) none
def Qfy (x4 x16:List ByteArray)(x17 x18:Int)(y2:Estate)(Qb:List Endpoint)(Qg:List Keep)(Qd:List Item)(Qa:Dice):OX:=
 let a1:=(Ql Qa ([3,3,4]))
 br (Qz a1 3) (br (cIx ([[10,8,2],[8,2],[2,10,8,3]]) (Qh a1 3)) (Qfx x4 x16 x17 x18 y2 Qb Qg Qd Qa) none) none
def Qog (x4 x16:List ByteArray)(x17 x18:Int)(y2:Estate)(Qb:List Endpoint)(Qg:List Keep)(Qd:List Item)(Qa:Dice):OX:=
 let a1:=(Ql Qa ([3,3,4]))
 let a2:=(QM Qa ([3,3,4]))
 br (ilt x18 x17) (br (cIx x16 x18) (frk (br a2 (frk (br (Qz a1 3) (br (cIx ([[10,8,2],[8,2],[2,10,8,3]]) (Qh a1 3)) (frk (br (QT (Qe a1 3) 2) (frk (QaX x4 x16 x17 x18 y2 Qb Qg Qd Qa) (QaX x4 x16 x17 x18 y2 Qb Qg Qd Qa)) none) (Qfx x4 x16 x17 x18 y2 Qb Qg Qd Qa)) none) none) (Qfy x4 x16 x17 x18 y2 Qb Qg Qd Qa)) none) (br a2 (Qfy x4 x16 x17 x18 y2 Qb Qg Qd Qa) none)) none) (some (.exit 0,FI x4 y2 Qb Qg Qd Qa))
def WH (x4 x16:List ByteArray)(x17 x18:Int)(y2:Estate)(Qb:List Endpoint)(Qg:List Keep)(Qd:List Item)(Qa:Dice):OX:=Qx (QA Zb FE Oc) (EA x4 x16 x17 x18 y2 Qb Qg Qd Qa)
def Y6 (x4 x16:List ByteArray)(x17 x18:Int)(y2:Estate)(Qb:List Endpoint)(Qg:List Keep)(Qd:List Item)(Qa:Dice):OX:=
 let a5:=lgt .str x16 (Int.toNat x18)
 let a1:=Zw a5 JP (Qj .i64 100 x18) 1 901
 let a2:=(lgt (.sl tI) ([[10,8,2],[8,2],[2,10,8,3]]) (Int.toNat (Qh (Ql Qa ([3,3,4])) 3)))
 let a3:=(Qe (Ql Qa ([3,3,4])) 3)
 let a4:=((done a3 2),([(((a1.1).1,(((a1.1).2).1,())),((a1.2).1,(((a1.2).2).1,())))],([1],([2,3],((done (Qe a3 2) 3),())))))
 let a6:=(dof Qa ([3,3,4]))
 let a7:=Gm a5 JP (Qj .i64 100 x18) 1 901
 br (QT (Qe a3 2) 3) (br (ieq a6 4) (br (Qq ([14]) a2 8) (br a7 (br (Qq Qb ([(a5,(1,(a6,((([14])++a2),a4))))]) 144) (WH x4 x16 x17 (Qj .i64 x18 1) y2 (Qb++([(a5,(1,(a6,((([14])++a2),a4))))])) Qg Qd (Qe (Qe a3 2) 3)) none) none) none) (br a7 (br (Qq Qb ([(a5,(1,(a6,(a2,a4))))]) 144) (WH x4 x16 x17 (Qj .i64 x18 1) y2 (Qb++([(a5,(1,(a6,(a2,a4))))])) Qg Qd (Qe (Qe a3 2) 3)) none) none)) none
def Wf (x4 x16:List ByteArray)(x17 x18:Int)(y2:Estate)(Qb:List Endpoint)(Qg:List Keep)(Qd:List Item)(Qa:Dice):OX:=br (QT (Qe (Ql Qa ([3,3,4])) 3) 2) (Y6 x4 x16 x17 x18 y2 Qb Qg Qd Qa) none
def Wg (x4 x16:List ByteArray)(x17 x18:Int)(y2:Estate)(Qb:List Endpoint)(Qg:List Keep)(Qd:List Item)(Qa:Dice):OX:=
 let a1:=(Ql Qa ([3,3,4]))
 br (Qz a1 3) (br (cIx ([[10,8,2],[8,2],[2,10,8,3]]) (Qh a1 3)) (Wf x4 x16 x17 x18 y2 Qb Qg Qd Qa) none) none
def WI (x4 x16:List ByteArray)(x17 x18:Int)(y2:Estate)(Qb:List Endpoint)(Qg:List Keep)(Qd:List Item)(Qa:Dice):OX:=
 let a1:=(Ql Qa ([3,3,4]))
 let a2:=(QM Qa ([3,3,4]))
 br (ilt x18 x17) (br (cIx x16 x18) (frk (br a2 (frk (br (Qz a1 3) (br (cIx ([[10,8,2],[8,2],[2,10,8,3]]) (Qh a1 3)) (frk (br (QT (Qe a1 3) 2) (frk (Y6 x4 x16 x17 x18 y2 Qb Qg Qd Qa) (Y6 x4 x16 x17 x18 y2 Qb Qg Qd Qa)) none) (Wf x4 x16 x17 x18 y2 Qb Qg Qd Qa)) none) none) (Wg x4 x16 x17 x18 y2 Qb Qg Qd Qa)) none) (br a2 (Wg x4 x16 x17 x18 y2 Qb Qg Qd Qa) none)) none) (some (.exit 0,FI x4 y2 Qb Qg Qd Qa))
def Y7 (x4 x16:List ByteArray)(x17 x18:Int)(y2:Estate)(Qb:List Endpoint)(Qg:List Keep)(Qd:List Item)(Qa:Dice):OX:=
 let a1:=Zq (x16.drop x18.toNat) x18.toNat Qa
 some (.exit 0,FI (x4) (y2) (Qb++a1.1) (Qg) (Qd) (a1.2))
theorem QN9 (x4 x16:List ByteArray)(x17 x18:Int)(y2:Estate)(Qb:List Endpoint)(Qg:List Keep)(Qd:List Item)(Qa:Dice):QA Zb FE Oc (EA x4 x16 x17 x18 y2 Qb Qg Qd Qa)=Qog x4 x16 x17 x18 y2 Qb Qg Qd Qa:=by kernel_rfl
theorem QaY (x4 x16:List ByteArray)(x17 x18:Int)(y2:Estate)(Qb:List Endpoint)(Qg:List Keep)(Qd:List Item)(Qa:Dice):WH x4 x16 x17 x18 y2 Qb Qg Qd Qa=WI x4 x16 x17 x18 y2 Qb Qg Qd Qa:=(Ft _ _).trans (by
 rw [QN9]
 first
 |(simp only [Qog,QaX,Qfx,Qfy,J9,WI,Y6,Wf,Wg,J9,Xy,XX,XY,XZ,X5]
   rfl)
 |(simp only [Qog,QaX,Qfx,Qfy,J9,WI,Y6,Wf,Wg,J9]
   try generalize (Qq Qb ([((lgt .str x16 (Int.toNat x18)),(1,((dof Qa ([3,3,4])),((([14])++(lgt (.sl tI) ([[10,8,2],[8,2],[2,10,8,3]]) (Int.toNat (Qh (Ql Qa ([3,3,4])) 3)))),((done (Qe (Ql Qa ([3,3,4])) 3) 2),([((((Zw (lgt .str x16 (Int.toNat x18)) JP (Qj .i64 100 x18) 1 901).1).1,((((Zw (lgt .str x16 (Int.toNat x18)) JP (Qj .i64 100 x18) 1 901).1).2).1,())),(((Zw (lgt .str x16 (Int.toNat x18)) JP (Qj .i64 100 x18) 1 901).2).1,((((Zw (lgt .str x16 (Int.toNat x18)) JP (Qj .i64 100 x18) 1 901).2).2).1,())))],([1],([2,3],((done (Qe (Qe (Ql Qa ([3,3,4])) 3) 2) 3),())))))))))]) 144)=cq0
   try generalize ((Gm (lgt .str x16 (Int.toNat x18)) JP (Qj .i64 100 x18) 1 901))=cq1
   try generalize (Qq ([14]) (lgt (.sl tI) ([[10,8,2],[8,2],[2,10,8,3]]) (Int.toNat (Qh (Ql Qa ([3,3,4])) 3))) 8)=cq2
   try generalize (Qq Qb ([((lgt .str x16 (Int.toNat x18)),(1,((dof Qa ([3,3,4])),((lgt (.sl tI) ([[10,8,2],[8,2],[2,10,8,3]]) (Int.toNat (Qh (Ql Qa ([3,3,4])) 3))),((done (Qe (Ql Qa ([3,3,4])) 3) 2),([((((Zw (lgt .str x16 (Int.toNat x18)) JP (Qj .i64 100 x18) 1 901).1).1,((((Zw (lgt .str x16 (Int.toNat x18)) JP (Qj .i64 100 x18) 1 901).1).2).1,())),(((Zw (lgt .str x16 (Int.toNat x18)) JP (Qj .i64 100 x18) 1 901).2).1,((((Zw (lgt .str x16 (Int.toNat x18)) JP (Qj .i64 100 x18) 1 901).2).2).1,())))],([1],([2,3],((done (Qe (Qe (Ql Qa ([3,3,4])) 3) 2) 3),())))))))))]) 144)=cq3
   try generalize ((QT (Qe (Qe (Ql Qa ([3,3,4])) 3) 2) 3))=cq4
   try generalize ((QT (Qe (Ql Qa ([3,3,4])) 3) 2))=cq5
   try generalize (cIx ([[10,8,2],[8,2],[2,10,8,3]]) (Qh (Ql Qa ([3,3,4])) 3))=cq6
   try generalize ((Qz (Ql Qa ([3,3,4])) 3))=cq7
   try generalize ((QM Qa ([3,3,4])))=cq8
   try generalize (cIx x16 x18)=cq9
   simp only [brN,J9,Bool.and_assoc,Bool.and_comm,Bool.and_left_comm,B6,Bool.and_self_left,Xy,XX,XY,XZ,X5]
   try rfl))
def QzZ (x4:List ByteArray)(x8 x65 x66 x70 x71:Int)(y2:Estate)(Qb:List Endpoint)(Qg:List Keep)(Qd:List Item)(Qa:Dice):OX:=
 let a1:=Qj .i64 x71 1
 let a2:=Qe Qa 3
 br (ilt x71 x70) (br (ine x8 x71) (br (Qz Qa 3) (br (igt (Qh Qa 3) 0) (br (ilt (Qc Qg) 3) (br (Qq Qg ([(x8,(x71,()))]) 16) (some (.normal,GR x4 x8 x65 x66 x70 a1 y2 Qb (Qg++([(x8,(x71,()))])) Qd a2)) none) (some (.normal,GR x4 x8 x65 x66 x70 a1 y2 Qb Qg Qd a2))) (some (.normal,GR x4 x8 x65 x66 x70 a1 y2 Qb Qg Qd a2))) none) (some (.normal,GR x4 x8 x65 x66 x70 a1 y2 Qb Qg Qd Qa))) (some (.exit 4,We x4 x65 x66 y2 Qb Qg Qd Qa))
def WJ (x4:List ByteArray)(x8 x65 x66 x70 x71:Int)(y2:Estate)(Qb:List Endpoint)(Qg:List Keep)(Qd:List Item)(Qa:Dice):OX:=Qx (QA Zb FF Od) (GR x4 x8 x65 x66 x70 x71 y2 Qb Qg Qd Qa)
def UP (x4:List ByteArray)(x8 x65 x66 x70 x71:Int)(y2:Estate)(Qb:List Endpoint)(Qg:List Keep)(Qd:List Item)(Qa:Dice):OX:=
 let a1:=Qj .i64 x71 1
 let a2:=Qe Qa 3
 br (ilt x71 x70) (br (ine x8 x71) (br (Qz Qa 3) (br (igt (Qh Qa 3) 0) (br (ilt (Qc Qg) 3) (br (Qq Qg ([(x8,(x71,()))]) 16) (WJ x4 x8 x65 x66 x70 a1 y2 Qb (Qg++([(x8,(x71,()))])) Qd a2) none) (WJ x4 x8 x65 x66 x70 a1 y2 Qb Qg Qd a2)) (WJ x4 x8 x65 x66 x70 a1 y2 Qb Qg Qd a2)) none) (WJ x4 x8 x65 x66 x70 a1 y2 Qb Qg Qd Qa)) (some (.exit 4,We x4 x65 x66 y2 Qb Qg Qd Qa))
def Y8 (x4:List ByteArray)(x8 x65 x66 x70 x71:Int)(y2:Estate)(Qb:List Endpoint)(Qg:List Keep)(Qd:List Item)(Qa:Dice):OX:=
 let a1:=edZ (x70-x71).toNat x8 x71 Qg Qa
 some (.exit 4,We (x4) (x65) (x66) (y2) (Qb) (a1.1) (Qd) (a1.2))
theorem QOa (x4:List ByteArray)(x8 x65 x66 x70 x71:Int)(y2:Estate)(Qb:List Endpoint)(Qg:List Keep)(Qd:List Item)(Qa:Dice):QA Zb FF Od (GR x4 x8 x65 x66 x70 x71 y2 Qb Qg Qd Qa)=QzZ x4 x8 x65 x66 x70 x71 y2 Qb Qg Qd Qa:=by kernel_rfl
theorem QaZ (x4:List ByteArray)(x8 x65 x66 x70 x71:Int)(y2:Estate)(Qb:List Endpoint)(Qg:List Keep)(Qd:List Item)(Qa:Dice):WJ x4 x8 x65 x66 x70 x71 y2 Qb Qg Qd Qa=UP x4 x8 x65 x66 x70 x71 y2 Qb Qg Qd Qa:=(Ft _ _).trans (by
 rw [QOa]
 simp only [QzZ,UP,Xy,XX,XY,XZ,X5]
 rfl)
def Qz0 (x4:List ByteArray)(x65 x66:Int)(y2:Estate)(Qb:List Endpoint)(Qg:List Keep)(Qd:List Item)(Qa:Dice):OX:=
 let a1:=(edZ ((Qc x4)-(0:Int)).toNat x66 (0:Int) Qg Qa)
 br (ilt x66 x65) (br (dOk Qa&&decide (0<=(0:Int)/\(0:Int)<=(Qc x4)/\(Qc x4)<=3/\Qg.length<=3)) (some (.normal,We (x4) (x65) (Qj .i64 (x66) 1) (y2) (Qb) (a1.1) (Qd) (a1.2))) none) (some (.exit 2,FJ y2 Qb Qg Qd Qa))
def GS (x4:List ByteArray)(x65 x66:Int)(y2:Estate)(Qb:List Endpoint)(Qg:List Keep)(Qd:List Item)(Qa:Dice):OX:=Qx (QA Zb FG Oe) (We x4 x65 x66 y2 Qb Qg Qd Qa)
def UQ (x4:List ByteArray)(x65 x66:Int)(y2:Estate)(Qb:List Endpoint)(Qg:List Keep)(Qd:List Item)(Qa:Dice):OX:=
 let a1:=(edZ ((Qc x4)-(0:Int)).toNat x66 (0:Int) Qg Qa)
 br (ilt x66 x65) (br (dOk Qa&&decide (0<=(0:Int)/\(0:Int)<=(Qc x4)/\(Qc x4)<=3/\Qg.length<=3)) (GS (x4) (x65) (Qj .i64 (x66) 1) (y2) (Qb) (a1.1) (Qd) (a1.2)) none) (some (.exit 2,FJ y2 Qb Qg Qd Qa))
def GT (x4:List ByteArray)(x65 x66:Int)(y2:Estate)(Qb:List Endpoint)(Qg:List Keep)(Qd:List Item)(Qa:Dice):OX:=
 let a1:=edY (x65-x66).toNat x4.length x66 Qg Qa
 some (.exit 2,FJ (y2) (Qb) (a1.1) (Qd) (a1.2))
theorem QOb (x4:List ByteArray)(x65 x66:Int)(y2:Estate)(Qb:List Endpoint)(Qg:List Keep)(Qd:List Item)(Qa:Dice):QA Zb FG Oe (We x4 x65 x66 y2 Qb Qg Qd Qa)=Qz0 x4 x65 x66 y2 Qb Qg Qd Qa:=by kernel_rfl
theorem Qa0 (x4:List ByteArray)(x65 x66:Int)(y2:Estate)(Qb:List Endpoint)(Qg:List Keep)(Qd:List Item)(Qa:Dice):GS x4 x65 x66 y2 Qb Qg Qd Qa=UQ x4 x65 x66 y2 Qb Qg Qd Qa:=(Ft _ _).trans (by
 rw [QOb]
 simp only [Qz0,UQ,Xy,XX,XY,XZ,X5]
 rfl)
def Qz1 (x10:Int)(y2:Estate)(y3_1:List Keep)(Qb:List Endpoint)(Qd:List Item)(Qa:Dice):OX:=
 let a2:=(ByteArray.mk #[98,97,99,107,117,112])
 let a3:=(ByteArray.mk #[100,101,101,100])
 let a5:=(YQ Qa ([a2,a3]))
 let a6:=(ZA Qa ([a2,a3]))
 let a1:=Ww a5 a6
 let a4:=((a1.2).1,(((a1.2).2).1,((((a1.2).2).2).1,(((((a1.2).2).2).2).1,()))))
 br (igt x10 0) (br (YR Qa ([a2,a3])) (br (Ub a5 a6) (br (Qq Qd ([(a1.1,a4)]) 64) (some (.normal,Og (Qw .i64 x10 1) y2 y3_1 Qb (Qd++([(a1.1,a4)])) (Ua a5 a6))) none) none) none) (some (.exit 6,FK y2 y3_1 Qb Qd Qa))
def GU (x10:Int)(y2:Estate)(y3_1:List Keep)(Qb:List Endpoint)(Qd:List Item)(Qa:Dice):OX:=Qx (QA Zb FH Of) (Og x10 y2 y3_1 Qb Qd Qa)
def UR (x10:Int)(y2:Estate)(y3_1:List Keep)(Qb:List Endpoint)(Qd:List Item)(Qa:Dice):OX:=
 let a2:=(ByteArray.mk #[98,97,99,107,117,112])
 let a3:=(ByteArray.mk #[100,101,101,100])
 let a5:=(YQ Qa ([a2,a3]))
 let a6:=(ZA Qa ([a2,a3]))
 let a1:=Ww a5 a6
 let a4:=((a1.2).1,(((a1.2).2).1,((((a1.2).2).2).1,(((((a1.2).2).2).2).1,()))))
 br (igt x10 0) (br (YR Qa ([a2,a3])) (br (Ub a5 a6) (br (Qq Qd ([(a1.1,a4)]) 64) (GU (Qw .i64 x10 1) y2 y3_1 Qb (Qd++([(a1.1,a4)])) (Ua a5 a6)) none) none) none) (some (.exit 6,FK y2 y3_1 Qb Qd Qa))
def GV (x10:Int)(y2:Estate)(y3_1:List Keep)(Qb:List Endpoint)(Qd:List Item)(Qa:Dice):OX:=some (.exit 6,FK (y2) (y3_1) (Qb) (Qd++(itZ x10.toNat Qa).1) ((itZ x10.toNat Qa).2))
theorem QOc (x10:Int)(y2:Estate)(y3_1:List Keep)(Qb:List Endpoint)(Qd:List Item)(Qa:Dice):QA Zb FH Of (Og x10 y2 y3_1 Qb Qd Qa)=Qz1 x10 y2 y3_1 Qb Qd Qa:=by kernel_rfl
theorem Qa1 (x10:Int)(y2:Estate)(y3_1:List Keep)(Qb:List Endpoint)(Qd:List Item)(Qa:Dice):GU x10 y2 y3_1 Qb Qd Qa=UR x10 y2 y3_1 Qb Qd Qa:=(Ft _ _).trans (by
 rw [QOc]
 simp only [Qz1,UR,Xy,XX,XY,XZ,X5]
 rfl)
def EB (d0:Dice):OV:=
 let a6:=(ByteArray.mk #[97,112,112])
 let a8:=(ByteArray.mk #[100,98])
 let a7:=(ByteArray.mk #[119,101,98])
 let a2:=(lsl ([a6,a8,a7]) 0 (Qj .i64 2 (Qh d0 2)))
 let a5:=(Zq (a2.drop (0:Int).toNat) (0:Int).toNat (Qe d0 2))
 let a1:=(edY ((Qc a2)-(0:Int)).toNat a2.length (0:Int) ([]:List Keep) (a5.2))
 let a3:=(dOk (Qe (a1.2) 3)&&decide (0<=(Qh (a1.2) 3)/\(Qh (a1.2) 3)<=3/\([]:List Item).length+(Qh (a1.2) 3).toNat<=100))
 let a4:=itZ (Qh (a1.2) 3).toNat (Qe (a1.2) 3)
 br (Qz d0 2) (br (cSl ([a6,a8,a7]) 0 (Qj .i64 2 (Qh d0 2)) ((List.length ([a6,a8,a7]):Nat):Int)) (br (QD a2 (Qc a2) (0:Int)&&(dOk (Qe d0 2)&&(decide (([]:List Endpoint).length<=(0:Int))&&a2.all nm1))) (br (dOk (a5.2)&&decide (0<=(0:Int)/\(0:Int)<=(Qc a2)/\(Qc a2)<=3/\a2.length<=3/\([]:List Keep).length<=3)) (br (ieq (Qc (a1.1)) 0) (br (Qz (a1.2) 3) (br a3 (some (.t Qm ((([]:List Endpoint)++a5.1),(([(0,(1,()))]),((([]:List Item)++a4.1),()))),[.box (.t Qt (a4.2))])) none) none) (br (Qz (a1.2) 3) (br a3 (some (.t Qm ((([]:List Endpoint)++a5.1),((a1.1),((([]:List Item)++a4.1),()))),[.box (.t Qt (a4.2))])) none) none)) none) none) none) none
theorem Qoh (d0:Dice):QS Zb YB Ez false [.ptr 50000 0] [.box (.t Qt d0)]=EB d0:=by kernel_rfl
theorem ok_f47:Option.map (trC Tryz.prog) Tryz.f47.body=some YB.er:=by kernel_rfl
theorem QOd:XV Tryz.prog Tryz.f47.results.toList=some (Ez.map Prod.fst):=by kernel_rfl
theorem Qz2:Ja Tryz.prog 47:= .inr ⟨by decide,_,Tryz.func47,by kernel_rfl,by kernel_rfl⟩
theorem Qoi:GOk Tryz.prog Zb:=Jp _ (gA (gD XM (gD E5 (gD Qde (gD QhM (gD UB (gD QuB (gD QuA gN))))))))
theorem Qoj (x4 x16:List ByteArray)(x17 x18:Int)(y2:Estate)(Qb:List Endpoint)(Qg:List Keep)(Qd:List Item)(Qa:Dice)(h:(QD x16 x17 x18&&(dOk Qa&&(decide (Qb.length<=x18)&&x16.all nm1)))=true):WH x4 x16 x17 x18 y2 Qb Qg Qd Qa=Y7 x4 x16 x17 x18 y2 Qb Qg Qd Qa:=by
 simp only [Bc,Ba] at h
 obtain ⟨h0,hd,hl,ha⟩:=h
 obtain ⟨rfl,h3,k,rfl,hk⟩:=JG h0
 clear h0
 revert Qb Qa
 refine QQ x16 (fun k=> ∀ (Qb:List Endpoint) (Qa:Dice),dOk Qa=true->(Qb.length:Int)<=(k:Int)->WH x4 x16 (x16.length:Int) (k:Int) y2 Qb Qg Qd Qa=Y7 x4 x16 (x16.length:Int) (k:Int) y2 Qb Qg Qd Qa) ?_ ?_ k hk
 ·intro Qb Qa _ _
  rw [QaY]
  simp only [WI,Y6,Wf,Wg,J9,Y7,Qy,BN,BM,Qi,Bb,BS,Zq,BL]
 ·intro k hk ih Qb Qa hd hl
  rw [QaY]
  have c1:QM Qa [3,3,4]=true:=Yu hd (by decide) (by decide)
  have d1:=Jc (l:=[3,3,4]) hd
  have c2:Qz (Ql Qa [3,3,4]) 3=true:=JD d1 (by omega)
  have d2:=QB (n:=3) d1
  have c3:QT (Qe (Ql Qa [3,3,4]) 3) 2=true:=Xk d2 (by omega) (by omega)
  have c4:QT (Qe (Qe (Ql Qa [3,3,4]) 3) 2) 3=true:=Xk (QB d2) (by omega) (by omega)
  have b3:=Q7 (d:=Ql Qa [3,3,4]) (n:=3) (by omega)
  have c5:cIx ([[10,8,2],[8,2],[2,10,8,3]]:List (List Int)) (Qh (Ql Qa [3,3,4]) 3)=true:=Be ⟨b3.1,b3.2⟩
  have c6:Gm x16[k] JP (Qj .i64 100 (k:Int)) 1 901=true:=Bi.1 ha _ (Bw hk)
  have c7: ∀ v,Qq Qb [v] 144=true:=fun v=>Q1 (by omega) (by simp only [Bh];omega)
  have b4: ∀ q,(lgt (.sl tI) [[10,8,2],[8,2],[2,10,8,3]] q).length<=4:=fun q=>Qf5 (by simp) q
  have c8:Qq ([14]:List Int) (lgt (.sl tI) [[10,8,2],[8,2],[2,10,8,3]] (Qh (Ql Qa [3,3,4]) 3).toNat) 8=true:=Q1 (by decide) (by have:=b4 (Qh (Ql Qa [3,3,4]) 3).toNat;simp only [Bh];omega)
  simp only [WI,Y6,Wf,Wg,J9,Qy,QK,hk,Bo,Qf,Bb,QO (show k<4611686018427387904 by omega),QL (y:= .str) hk,c1,c2,c3,c4,c6,c7,J9]
  have hi: ∀ v,WH x4 x16 (x16.length:Int) ((k+1:Nat):Int) y2 (Qb++[v]) Qg Qd (WG Qa)=Y7 x4 x16 (x16.length:Int) ((k+1:Nat):Int) y2 (Qb++[v]) Qg Qd (WG Qa):=fun v=>ih _ _ (Qn7 hd) (by simp only [Bm,Bh];omega)
  have goal2:Y7 x4 x16 (x16.length:Int) ((k+1:Nat):Int) y2 (Qb++[Wd Qa k x16[k]]) Qg Qd (WG Qa)=Y7 x4 x16 (x16.length:Int) (k:Int) y2 Qb Qg Qd Qa:=by
   simp only [Y7,Bb,Bg hk,Zq,BI,BH]
  refine Eq.trans ?_ ((hi _).trans goal2)
  unfold Wd FD
  refine brY c5 ?_
  cases ieq (dof Qa [3,3,4]) 4 with
  |false=>rfl
  |true=>exact brY rfl (brY c8 rfl)
theorem Qok (x4:List ByteArray)(x8 x65 x66 x70 x71:Int)(y2:Estate)(Qb:List Endpoint)(Qg:List Keep)(Qd:List Item)(Qa:Dice)(h:(dOk Qa&&decide (0<=x71/\x71<=x70/\x70<=3/\Qg.length<=3))=true):WJ x4 x8 x65 x66 x70 x71 y2 Qb Qg Qd Qa=Y8 x4 x8 x65 x66 x70 x71 y2 Qb Qg Qd Qa:=by
 simp only [Bc,Ba] at h
 obtain ⟨hd,h0,h1,h2,hl⟩:=h
 have key: ∀ (m:Nat) (x71:Int) (Qg:List Keep) (Qa:Dice),x71+m=x70->0<=x71->dOk Qa=true->Qg.length<=3->WJ x4 x8 x65 x66 x70 x71 y2 Qb Qg Qd Qa=Y8 x4 x8 x65 x66 x70 x71 y2 Qb Qg Qd Qa:=by
  intro m
  induction m with
  |zero=>
   intro x71 Qg Qa e _ _ _
   rw [QaZ]
   have:x70=x71:=by omega
   subst this
   simp only [UP,Y8,show ilt x70 x70=false from Bq (by omega),Qi,Int.sub_self,By,edZ]
  |succ m ih=>
   intro x71 Qg Qa e h0 hd hl
   rw [QaZ]
   have c1:Qz Qa 3=true:=JD hd (by omega)
   have c2:Qq Qg [(x8,(x71,()))] 16=true:=Q1 (by omega) (by simp only [Bh];omega)
   have e1:Qj .i64 x71 1=x71+1:=Jz (by omega)
   have e2:(x70-x71).toNat=m+1:=by omega
   have e3:(x70-(x71+1)).toNat=m:=by omega
   simp only [UP,show ilt x71 x70=true from Be (by omega),Qf,c1,c2,e1]
   have i0:=ih (x71+1) Qg Qa (by omega) (by omega) hd hl
   have i1:=ih (x71+1) Qg (Qe Qa 3) (by omega) (by omega) (QB hd) hl
   rw [i0,i1]
   cases hn:ine x8 x71 with
   |false=>simp only [Qi,Y8,e2,e3,edZ,hn,BW]
   |true=>
    cases hg:igt (Qh Qa 3) 0 with
    |false=>simp only [Qf,Qi,Y8,e2,e3,edZ,hn,hg,B8,Bool.false_and,BW]
    |true=>
     cases hq:ilt (Qc Qg) 3 with
     |false=>simp only [Qf,Qi,Y8,e2,e3,edZ,hn,hg,hq,B8,Bool.and_false,BW]
     |true=>
      have hl3:Qg.length<3:=by have:=BD hq;simp only [Qc] at this;omega
      have i2:=ih (x71+1) (Qg++[(x8,(x71,()))]) (Qe Qa 3) (by omega) (by omega) (QB hd) (by simp only [Bm,Bh];omega)
      rw [i2]
      simp only [Qf,Y8,e2,e3,edZ,hn,hg,hq,B8,B6]
 exact key (x70-x71).toNat x71 Qg Qa (by omega) h0 hd hl
theorem Qol (x4:List ByteArray)(x65 x66:Int)(y2:Estate)(Qb:List Endpoint)(Qg:List Keep)(Qd:List Item)(Qa:Dice)(h:(dOk Qa&&decide (0<=x66/\x66<=x65/\x65<=3/\x4.length<=3/\Qg.length<=3))=true):GS x4 x65 x66 y2 Qb Qg Qd Qa=GT x4 x65 x66 y2 Qb Qg Qd Qa:=by
 simp only [Bc,Ba] at h
 obtain ⟨hd,h0,h1,h2,h3,hl⟩:=h
 have key: ∀ (m:Nat) (x66:Int) (Qg:List Keep) (Qa:Dice),x66+m=x65->0<=x66->dOk Qa=true->Qg.length<=3->GS x4 x65 x66 y2 Qb Qg Qd Qa=GT x4 x65 x66 y2 Qb Qg Qd Qa:=by
  intro m
  induction m with
  |zero=>
   intro x66 Qg Qa e _ _ _
   rw [Qa0]
   have:x65=x66:=by omega
   subst this
   simp only [UQ,GT,show ilt x65 x65=false from Bq (by omega),Qi,Int.sub_self,By,edY]
  |succ m ih=>
   intro x66 Qg Qa e h0 hd hl
   rw [Qa0]
   have e1:Qj .i64 x66 1=x66+1:=Jz (by omega)
   have e2:(x65-x66).toNat=m+1:=by omega
   have e3:(x65-(x66+1)).toNat=m:=by omega
   have e4:(Qc x4-0).toNat=x4.length:=by simp only [Qc];omega
   have hz:=Ey x4.length x66 0 Qg Qa hd hl
   simp only [UQ,show ilt x66 x65=true from Be (by omega),Qf,e1,e4,hd,Bu]
   refine brY (Be (by simp only [Qc];omega)) ?_
   rw [ih (x66+1) _ _ (by omega) (by omega) hz.1 hz.2]
   simp only [GT,e2,e3,edY]
 exact key (x65-x66).toNat x66 Qg Qa (by omega) h0 hd hl
theorem Qom (x10:Int)(y2:Estate)(y3_1:List Keep)(Qb:List Endpoint)(Qd:List Item)(Qa:Dice)(h:(dOk Qa&&decide (0<=x10/\x10<=3/\Qd.length+x10.toNat<=100))=true):GU x10 y2 y3_1 Qb Qd Qa=GV x10 y2 y3_1 Qb Qd Qa:=by
 simp only [Bc,Ba] at h
 obtain ⟨hd,h0,h1,hl⟩:=h
 obtain ⟨n,rfl⟩:=Bl h0
 rw [Bb] at hl
 have key: ∀ (n:Nat) (Qd:List Item) (Qa:Dice),dOk Qa=true->Qd.length+n<=100->GU (n:Int) y2 y3_1 Qb Qd Qa=GV (n:Int) y2 y3_1 Qb Qd Qa:=by
  intro n
  induction n with
  |zero=>
   intro Qd Qa _ _
   rw [Qa1]
   simp only [UR,GV,show igt ((0:Nat):Int) 0=false from rfl,Qi,Bb,itZ,BL]
  |succ n ih=>
   intro Qd Qa hd hl
   rw [Qa1]
   have e2:Qw .i64 ((n+1:Nat):Int) 1=(n:Int):=(JO (by omega)).trans (by omega)
   have c1:YR Qa sIt=true:=by simp [YR,hd]
   have c2:Ub (YQ Qa sIt) (ZA Qa sIt)=true:=GM hd
   have c3: ∀ v,Qq Qd [v] 64=true:=fun v=>Q1 (by omega) (by simp only [Bh];omega)
   simp only [UR,show igt ((n+1:Nat):Int) 0=true from Be (by omega),Qf,e2,c1,c2,c3]
   refine Eq.trans (ih _ _ (Vz (s:=ZA Qa sIt) (GM hd)) (by simp only [Bm,Bh];omega)) ?_
   simp only [GV,Bb,itZ,BI,BH]
 exact key n Qd Qa hd (by omega)
theorem Qon:LO Zb FE Oc 0:=QI (s:=GN) fun x y h _ q=>by simp only [QG,QH] at q;exact (Qoj x.2.2.2.1 x.2.2.2.2.1 x.2.2.2.2.2.1 x.2.2.2.2.2.2.1 y.1 y.2.2.2.2.2.2.1 y.2.2.2.2.2.2.2.1 y.2.2.2.2.2.2.2.2.1 y.2.2.2.2.2.2.2.2.2.1 h).trans q
theorem Qoo:LO Zb FF Od 1:=QI (s:=GO) fun x y h _ q=>by simp only [QG,QH] at q;exact (Qok x.2.2.2.1 x.2.2.2.2.1 x.2.2.2.2.2.1 x.2.2.2.2.2.2.1 x.2.2.2.2.2.2.2.1 x.2.2.2.2.2.2.2.2.1 y.1 y.2.2.2.2.2.2.1 y.2.2.2.2.2.2.2.1 y.2.2.2.2.2.2.2.2.1 y.2.2.2.2.2.2.2.2.2.1 h).trans q
theorem Qop:LO Zb FG Oe 2:=QI (s:=GP) fun x y h _ q=>by simp only [QG,QH] at q;exact (Qol x.2.2.2.1 x.2.2.2.2.1 x.2.2.2.2.2.1 y.1 y.2.2.2.2.2.2.1 y.2.2.2.2.2.2.2.1 y.2.2.2.2.2.2.2.2.1 y.2.2.2.2.2.2.2.2.2.1 h).trans q
theorem Qoq:LO Zb FH Of 3:=QI (s:=GQ) fun x y h _ q=>by simp only [QG,QH] at q;exact (Qom x.2.2.2.1 y.1 y.2.1.2.1 y.2.2.2.2.2.2.1 y.2.2.2.2.2.2.2.2.1 y.2.2.2.2.2.2.2.2.2.1 h).trans q
theorem Qor:YB.lok Zb:=by
 repeat (first|exact trivial|exact Qon|exact Qoo|exact Qop|exact Qoq|refine ⟨?_, ?_⟩)
set_option maxRecDepth 100000 in
theorem Qos (d:Dice)(h:dOk d=true):EB d=some (.t Qm (JQ d),[.box (.t Qt (Yf d))]):=by
 have hv:=Q7 (d:=d) (n:=2) (by omega)
 have e:Qj .i64 2 (Qh d 2)=2+Qh d 2:=Jz (by omega)
 have c1:Qz d 2=true:=JD h (by omega)
 have hn:=QaW d
 have hd:=QB (n:=2) h
 have hz:=Qfv (Jq d) 0 (Qe d 2) hd
 have hy:=Qfw (Jq d).length (Jq d).length 0 [] _ hz (Da _)
 have hy1:dOk (JT d).2=true:=hy.1
 have hv3:=Q7 (d:=(JT d).2) (n:=3) (by omega)
 simp only [EB,show lsl Uk 0 (Qj .i64 2 (Qh d 2))=Jq d from rfl,BV,By,BG,Int.sub_zero,show (Qc (Jq d)).toNat=(Jq d).length by simp only [Qc];omega]
 simp only [show edY (Jq d).length (Jq d).length 0 [] (Zq (Jq d) 0 (Qe d 2)).2=JT d from rfl]
 refine brY c1 (brY (Be (by rw [e];refine ⟨by omega,by omega, ?_, ?_⟩<;>simp<;>omega)) (brY ?_ (brY ?_ ?_)))
 ·rw [JH (by omega),hd,hn.2.2]
  rfl
 ·rw [hz]
  exact Be (by simp only [Qc,Bv];omega)
 ·have c2:Qz (JT d).2 3=true:=JD hy1 (by omega)
  have c3:(dOk (Qe (JT d).2 3)&&decide (0<=Qh (JT d).2 3/\Qh (JT d).2 3<=3/\([]:List Item).length+(Qh (JT d).2 3).toNat<=100))=true:=by
   rw [QB hy1,Be (by simp only [Bv];omega)]
   rfl
  cases hq:ieq (Qc (JT d).1) 0 with
  |true=>
   rw [Qf]
   refine brY c2 (brY c3 ?_)
   unfold JQ GL
   rw [hq]
   rfl
  |false=>
   rw [Qi]
   refine brY c2 (brY c3 ?_)
   unfold JQ GL
   rw [hq]
   rfl
def Qfz:Ent:=Xx Qt .nil (fun d x=>(dOk d)) (fun d x=>(.t Qm (JQ d))) (fun d x=>(Yf d))
theorem Qz3:Qu Tryz.prog 47 (Qv Qfz):=WA (R:=QS Zb YB Ez false) (mG Tryz.func47 (by kernel_rfl) Tryz.ntmps47 (by kernel_rfl) Qoi Qor) rfl fun d x hok=>(Qoh d).trans (Qos d hok)
end
end Go.Proofs.YthlcobdnemhcdaaGreat.K
noncomputable section
namespace Go.Proofs.YthlcobdnemhcdaaGreat.K.SO
open Go.RowKit
noncomputable section
def QN7:List DO:=dT Tryz.f47 6
def QN8:List DO:=dT Tryz.f47 26
abbrev GN:Sh:=⟨[(0,.ptr 50000 0),(2,.ptr 2 0),(3,.ptr 3 0),(4,.ty (.sl .str)),(16,.ty (.sl .str)),(17,.ty tI),(18,.ty tI)],[(2,.box Qm),(3,.bag [.ms 20300,.ms 20301,.ms 20302]),(61,.no),(94,.no),(103,.no),(119,.no),(20300,.arr 111 QC),(20301,.arr 113 Qk),(20302,.arr 62 Qp),(50000,.box Qt)]⟩
abbrev Qn9:Sh:=⟨[(0,.ptr 50000 0),(2,.ptr 2 0),(3,.ptr 3 0),(4,.ty (.sl .str))],[(2,.box Qm),(3,.bag [.ms 20300,.ms 20301,.ms 20302]),(61,.no),(94,.no),(103,.no),(119,.no),(20300,.arr 111 QC),(20301,.arr 113 Qk),(20302,.arr 62 Qp),(50000,.box Qt)]⟩
abbrev GO:Sh:=⟨[(0,.ptr 50000 0),(2,.ptr 2 0),(3,.ptr 3 0),(4,.ty (.sl .str)),(8,.ty tI),(65,.ty tI),(66,.ty tI),(70,.ty tI),(71,.ty tI)],[(2,.box Qm),(3,.bag [.ms 20300,.ms 20301,.ms 20302]),(61,.no),(94,.no),(103,.no),(119,.no),(20300,.arr 111 QC),(20301,.arr 113 Qk),(20302,.arr 62 Qp),(50000,.box Qt)]⟩
abbrev GP:Sh:=⟨[(0,.ptr 50000 0),(2,.ptr 2 0),(3,.ptr 3 0),(4,.ty (.sl .str)),(65,.ty tI),(66,.ty tI)],[(2,.box Qm),(3,.bag [.ms 20300,.ms 20301,.ms 20302]),(61,.no),(94,.no),(103,.no),(119,.no),(20300,.arr 111 QC),(20301,.arr 113 Qk),(20302,.arr 62 Qp),(50000,.box Qt)]⟩
abbrev Qoa:Sh:=⟨[(0,.ptr 50000 0),(2,.ptr 2 0),(3,.ptr 3 0)],[(2,.box Qm),(3,.bag [.ms 20300,.ms 20301,.ms 20302]),(61,.no),(94,.no),(103,.no),(119,.no),(20300,.arr 111 QC),(20301,.arr 113 Qk),(20302,.arr 62 Qp),(50000,.box Qt)]⟩
abbrev GQ:Sh:=⟨[(0,.ptr 50000 0),(2,.ptr 2 0),(3,.ptr 3 0),(10,.ty tI)],[(2,.box Qm),(3,.bag [.ms 20300,.ty (.sl Qk),.ms 20302]),(61,.no),(94,.no),(103,.no),(119,.no),(20300,.arr 111 QC),(20301,.no),(20302,.arr 62 Qp),(50000,.box Qt)]⟩
abbrev Qob:Sh:=⟨[(2,.ptr 2 0),(3,.ptr 3 0)],[(2,.box Qm),(3,.bag [.ms 20300,.ty (.sl Qk),.ms 20302]),(61,.no),(94,.no),(103,.no),(119,.no),(20300,.arr 111 QC),(20301,.no),(20302,.arr 62 Qp),(50000,.box Qt)]⟩
def FE:Fg:=GN.f
def FF:Fg:=GO.f
def FG:Fg:=GP.f
def FH:Fg:=GQ.f
def YB:TC:=aF Tryz.f47 [(122,.nf 3 2 62 20302),(122,.nf 3 1 113 20301),(122,.nf 3 0 111 20300),(122,.nf 7 3 3 20703),(122,pL 0 FE),(1957,.fg ⟨[(0,none),(2,none),(3,none),(4,some (.sl .str))],[(2,some Qm),(3,some Qm),(61,none),(94,none),(103,none),(119,none),(20300,none),(20301,none),(20302,none),(50000,some Qt)]⟩),(15666,pD [(0,[]),(1,[50000]),(2,[]),(3,[26,5026,10026,15026,50000]),(4,[]),(5,[]),(6,[]),(7,[]),(8,[50000]),(9,[32,5032,10032,15032,50000]),(10,[]),(11,[]),(12,[50000]),(13,[36,5036,10036,15036,50000]),(14,[]),(15,[]),(16,[50000]),(17,[40,5040,10040,15040,50000]),(18,[]),(19,[7,5007,10007,15007]),(20,[7,45,48,20703])] (.one 0 (.one 1 (.one 2 (.one 4 (.one 5 (.one 6 (.one 7 (.one 8 (.one 12 (.one 14 (.one 15 (.one 16 (.alt 3 (.alt 9 (.one 10 (.one 11 (.alt 13 (.alt 17 (.of [18,19,20]) (.of [19,17,18,20])) (.of [19,13,17,18,20])))) (.of [19,9,10,11,13,17,18,20])) (.of [19,3,9,10,11,13,17,18,20]))))))))))))))),(250,.nf 3 2 62 20302),(250,.nf 3 0 111 20300),(250,.nf 3 1 113 20301),(250,pL 2 FG),(4005,.fg ⟨[(0,none),(2,none),(3,none)],[(2,some Qm),(3,some Qm),(61,none),(94,none),(103,none),(119,none),(20300,none),(20301,none),(20302,none),(50000,some Qt)]⟩),(64102,.nf 3 2 62 20302),(64102,.nf 3 0 111 20300),(64102,.nf 3 1 113 20301),(64102,pL 1 FF),(1025637,.fg ⟨[(0,none),(2,none),(3,none),(4,some (.sl .str)),(65,some tI),(66,some tI)],[(2,some Qm),(3,some Qm),(61,none),(94,none),(103,none),(119,none),(20300,none),(20301,none),(20302,none),(50000,some Qt)]⟩),(1018,.fz [20301,103]),(1018,.nf 3 1 113 20301),(1018,.nf 3 0 111 20300),(1018,.nf 3 2 62 20302),(1018,pL 3 FH),(16291,.fg ⟨[(2,none),(3,none)],[(2,some Qm),(3,some Qm),(61,none),(94,none),(103,none),(119,none),(20300,none),(20301,none),(20302,none),(50000,some Qt)]⟩),(16292,pD [(0,[3,61,94,103,119,20300,20301,20302]),(1,[3,61,94,103,119,20300,20301,20302]),(2,[50000]),(3,[50000]),(4,[]),(5,[116,5116,10116,15116,50000]),(6,[117,5117,10117,15117,50000]),(7,[]),(8,[2,3,61,94,103,119,5119,10119,15119,20300,20301,20302]),(9,[3,61,94,103,119,20300,20301,20302]),(10,[2,3,61,94,103,119,20300,20301,20302])] (.of [0,1,2,3,4,5,6,7,8,9,10]))]
def Oc:TC:=lb 0 YB
def Od:TC:=lb 1 YB
def Oe:TC:=lb 2 YB
def Of:TC:=lb 3 YB
def Ez:List (RV×Option Ty):=[((.c 2 true 3),none)]
def EA (x4 x16:List ByteArray)(x17 x18:Int)(y2:Estate)(Qb:List Endpoint)(Qg:List Keep)(Qd:List Item)(Qa:Dice):VS:=GN.st ((),(),(),x4,x16,x17,x18,()) (y2,((),(),(),()),(),(),(),(),Qb,Qg,Qd,Qa,())
def FI (x4:List ByteArray)(y2:Estate)(Qb:List Endpoint)(Qg:List Keep)(Qd:List Item)(Qa:Dice):VS:=Qn9.st ((),(),(),x4,()) (y2,((),(),(),()),(),(),(),(),Qb,Qg,Qd,Qa,())
def GR (x4:List ByteArray)(x8 x65 x66 x70 x71:Int)(y2:Estate)(Qb:List Endpoint)(Qg:List Keep)(Qd:List Item)(Qa:Dice):VS:=GO.st ((),(),(),x4,x8,x65,x66,x70,x71,()) (y2,((),(),(),()),(),(),(),(),Qb,Qg,Qd,Qa,())
def We (x4:List ByteArray)(x65 x66:Int)(y2:Estate)(Qb:List Endpoint)(Qg:List Keep)(Qd:List Item)(Qa:Dice):VS:=GP.st ((),(),(),x4,x65,x66,()) (y2,((),(),(),()),(),(),(),(),Qb,Qg,Qd,Qa,())
def FJ (y2:Estate)(Qb:List Endpoint)(Qg:List Keep)(Qd:List Item)(Qa:Dice):VS:=Qoa.st ((),(),(),()) (y2,((),(),(),()),(),(),(),(),Qb,Qg,Qd,Qa,())
def Og (x10:Int)(y2:Estate)(y3_1:List Keep)(Qb:List Endpoint)(Qd:List Item)(Qa:Dice):VS:=GQ.st ((),(),(),x10,()) (y2,((),y3_1,(),()),(),(),(),(),Qb,(),Qd,Qa,())
def FK (y2:Estate)(y3_1:List Keep)(Qb:List Endpoint)(Qd:List Item)(Qa:Dice):VS:=Qob.st ((),(),()) (y2,((),y3_1,(),()),(),(),(),(),Qb,(),Qd,Qa,())
def Qoc:VS->Option (Bool×List (Bool×Exit×VS)):=mkL GN (fun x y=>(QD x.2.2.2.2.1 x.2.2.2.2.2.1 x.2.2.2.2.2.2.1&&(dOk y.2.2.2.2.2.2.2.2.2.1&&(decide (y.2.2.2.2.2.2.1.length<=x.2.2.2.2.2.2.1)&&x.2.2.2.2.1.all nm1)))) (fun x y=>[(true,.exit 0,FI (x.2.2.2.1) (y.1) (y.2.2.2.2.2.2.1++(Zq (x.2.2.2.2.1.drop x.2.2.2.2.2.2.1.toNat) x.2.2.2.2.2.2.1.toNat y.2.2.2.2.2.2.2.2.2.1).1) (y.2.2.2.2.2.2.2.1) (y.2.2.2.2.2.2.2.2.1) ((Zq (x.2.2.2.2.1.drop x.2.2.2.2.2.2.1.toNat) x.2.2.2.2.2.2.1.toNat y.2.2.2.2.2.2.2.2.2.1).2))])
def Qod:VS->Option (Bool×List (Bool×Exit×VS)):=mkL GO (fun x y=>(dOk y.2.2.2.2.2.2.2.2.2.1&&decide (0<=x.2.2.2.2.2.2.2.2.1/\x.2.2.2.2.2.2.2.2.1<=x.2.2.2.2.2.2.2.1/\x.2.2.2.2.2.2.2.1<=3/\y.2.2.2.2.2.2.2.1.length<=3))) (fun x y=>[(true,.exit 4,We (x.2.2.2.1) (x.2.2.2.2.2.1) (x.2.2.2.2.2.2.1) (y.1) (y.2.2.2.2.2.2.1) ((edZ (x.2.2.2.2.2.2.2.1-x.2.2.2.2.2.2.2.2.1).toNat x.2.2.2.2.1 x.2.2.2.2.2.2.2.2.1 y.2.2.2.2.2.2.2.1 y.2.2.2.2.2.2.2.2.2.1).1) (y.2.2.2.2.2.2.2.2.1) ((edZ (x.2.2.2.2.2.2.2.1-x.2.2.2.2.2.2.2.2.1).toNat x.2.2.2.2.1 x.2.2.2.2.2.2.2.2.1 y.2.2.2.2.2.2.2.1 y.2.2.2.2.2.2.2.2.2.1).2))])
def Qoe:VS->Option (Bool×List (Bool×Exit×VS)):=mkL GP (fun x y=>(dOk y.2.2.2.2.2.2.2.2.2.1&&decide (0<=x.2.2.2.2.2.1/\x.2.2.2.2.2.1<=x.2.2.2.2.1/\x.2.2.2.2.1<=3/\x.2.2.2.1.length<=3/\y.2.2.2.2.2.2.2.1.length<=3))) (fun x y=>[(true,.exit 2,FJ (y.1) (y.2.2.2.2.2.2.1) ((edY (x.2.2.2.2.1-x.2.2.2.2.2.1).toNat x.2.2.2.1.length x.2.2.2.2.2.1 y.2.2.2.2.2.2.2.1 y.2.2.2.2.2.2.2.2.2.1).1) (y.2.2.2.2.2.2.2.2.1) ((edY (x.2.2.2.2.1-x.2.2.2.2.2.1).toNat x.2.2.2.1.length x.2.2.2.2.2.1 y.2.2.2.2.2.2.2.1 y.2.2.2.2.2.2.2.2.2.1).2))])
def Qof:VS->Option (Bool×List (Bool×Exit×VS)):=mkL GQ (fun x y=>(dOk y.2.2.2.2.2.2.2.2.2.1&&decide (0<=x.2.2.2.1/\x.2.2.2.1<=3/\y.2.2.2.2.2.2.2.2.1.length+x.2.2.2.1.toNat<=100))) (fun x y=>[(true,.exit 6,FK (y.1) (y.2.1.2.1) (y.2.2.2.2.2.2.1) (y.2.2.2.2.2.2.2.2.1++(itZ x.2.2.2.1.toNat y.2.2.2.2.2.2.2.2.2.1).1) ((itZ x.2.2.2.1.toNat y.2.2.2.2.2.2.2.2.2.1).2))])
def Zb:G:=⟨TYs,[45,103],122,EL [(32,Xl),(35,F5),(48,VC),(49,QbT),(50,WZ),(87,QkH),(88,QkG)],keeps,(Ls [Qoc,Qod,Qoe,Qof]),IL [],RL []⟩
def WH (x4 x16:List ByteArray)(x17 x18:Int)(y2:Estate)(Qb:List Endpoint)(Qg:List Keep)(Qd:List Item)(Qa:Dice):OX:=Qx (QA Zb FE Oc) (EA x4 x16 x17 x18 y2 Qb Qg Qd Qa)
def Y6 (kk:List ByteArray->List ByteArray->Int->Int->Estate->List Endpoint->List Keep->List Item->Dice->OX)(x4 x16:List ByteArray)(x17 x18:Int)(y2:Estate)(Qb:List Endpoint)(Qg:List Keep)(Qd:List Item)(Qa:Dice):OX:=
 let a5:=lgt .str x16 (Int.toNat x18)
 let a1:=Zw a5 JP (Qj .i64 100 x18) 1 901
 let a2:=(lgt (.sl tI) ([[10,8,2],[8,2],[2,10,8,3]]) (Int.toNat (Qh (Ql Qa ([3,3,4])) 3)))
 let a3:=(Qe (Ql Qa ([3,3,4])) 3)
 let a4:=((done a3 2),([(((a1.1).1,(((a1.1).2).1,())),((a1.2).1,(((a1.2).2).1,())))],([1],([2,3],((done (Qe a3 2) 3),())))))
 let a6:=(dof Qa ([3,3,4]))
 let a7:=Gm a5 JP (Qj .i64 100 x18) 1 901
 br (QT (Qe a3 2) 3) (br (ieq a6 4) (br (Qq ([14]) a2 8) (br a7 (br (Qq Qb ([(a5,(1,(a6,((([14])++a2),a4))))]) 144) (kk x4 x16 x17 (Qj .i64 x18 1) y2 (Qb++([(a5,(1,(a6,((([14])++a2),a4))))])) Qg Qd (Qe (Qe a3 2) 3)) none) none) none) (br a7 (br (Qq Qb ([(a5,(1,(a6,(a2,a4))))]) 144) (kk x4 x16 x17 (Qj .i64 x18 1) y2 (Qb++([(a5,(1,(a6,(a2,a4))))])) Qg Qd (Qe (Qe a3 2) 3)) none) none)) none
def Wf (kk:List ByteArray->List ByteArray->Int->Int->Estate->List Endpoint->List Keep->List Item->Dice->OX)(x4 x16:List ByteArray)(x17 x18:Int)(y2:Estate)(Qb:List Endpoint)(Qg:List Keep)(Qd:List Item)(Qa:Dice):OX:=br (QT (Qe (Ql Qa ([3,3,4])) 3) 2) (Y6 kk x4 x16 x17 x18 y2 Qb Qg Qd Qa) none
def Wg (kk:List ByteArray->List ByteArray->Int->Int->Estate->List Endpoint->List Keep->List Item->Dice->OX)(x4 x16:List ByteArray)(x17 x18:Int)(y2:Estate)(Qb:List Endpoint)(Qg:List Keep)(Qd:List Item)(Qa:Dice):OX:=
 let a1:=(Ql Qa ([3,3,4]))
 br (Qz a1 3) (br (cIx ([[10,8,2],[8,2],[2,10,8,3]]) (Qh a1 3)) (Wf kk x4 x16 x17 x18 y2 Qb Qg Qd Qa) none) none
def WI (kk:List ByteArray->List ByteArray->Int->Int->Estate->List Endpoint->List Keep->List Item->Dice->OX)(x4 x16:List ByteArray)(x17 x18:Int)(y2:Estate)(Qb:List Endpoint)(Qg:List Keep)(Qd:List Item)(Qa:Dice):OX:=
 let a1:=(Ql Qa ([3,3,4]))
 let a2:=(QM Qa ([3,3,4]))
 br (ilt x18 x17) (br (cIx x16 x18) (frk (br a2 (frk (br (Qz a1 3) (br (cIx ([[10,8,2],[8,2],[2,10,8,3]]) (Qh a1 3)) (frk (br (QT (Qe a1 3) 2) (frk (Y6 kk x4 x16 x17 x18 y2 Qb Qg Qd Qa) (Y6 kk x4 x16 x17 x18 y2 Qb Qg Qd Qa)) none) (Wf kk x4 x16 x17 x18 y2 Qb Qg Qd Qa)) none) none) (Wg kk x4 x16 x17 x18 y2 Qb Qg Qd Qa)) none) (br a2 (Wg kk x4 x16 x17 x18 y2 Qb Qg Qd Qa) none)) none) (some (.exit 0,FI x4 y2 Qb Qg Qd Qa))
def Y7 (x4 x16:List ByteArray)(x17 x18:Int)(y2:Estate)(Qb:List Endpoint)(Qg:List Keep)(Qd:List Item)(Qa:Dice):OX:=
 let a1:=Zq (x16.drop x18.toNat) x18.toNat Qa
 some (.exit 0,FI (x4) (y2) (Qb++a1.1) (Qg) (Qd) (a1.2))
theorem QaY (x4 x16:List ByteArray)(x17 x18:Int)(y2:Estate)(Qb:List Endpoint)(Qg:List Keep)(Qd:List Item)(Qa:Dice):WH x4 x16 x17 x18 y2 Qb Qg Qd Qa=WI WH x4 x16 x17 x18 y2 Qb Qg Qd Qa:=lnT (x:=WI (fun x4 x16 x17 x18 y2 Qb Qg Qd Qa=>some (.normal,EA x4 x16 x17 x18 y2 Qb Qg Qd Qa)) x4 x16 x17 x18 y2 Qb Qg Qd Qa) (by
 first
 |(simp only [J9,WI,Y6,Wf,Wg,J9,Xy,XX,XY,XZ,X5]
   rfl)
 |(simp only [J9,WI,Y6,Wf,Wg,J9]
   try generalize (Qq Qb ([((lgt .str x16 (Int.toNat x18)),(1,((dof Qa ([3,3,4])),((([14])++(lgt (.sl tI) ([[10,8,2],[8,2],[2,10,8,3]]) (Int.toNat (Qh (Ql Qa ([3,3,4])) 3)))),((done (Qe (Ql Qa ([3,3,4])) 3) 2),([((((Zw (lgt .str x16 (Int.toNat x18)) JP (Qj .i64 100 x18) 1 901).1).1,((((Zw (lgt .str x16 (Int.toNat x18)) JP (Qj .i64 100 x18) 1 901).1).2).1,())),(((Zw (lgt .str x16 (Int.toNat x18)) JP (Qj .i64 100 x18) 1 901).2).1,((((Zw (lgt .str x16 (Int.toNat x18)) JP (Qj .i64 100 x18) 1 901).2).2).1,())))],([1],([2,3],((done (Qe (Qe (Ql Qa ([3,3,4])) 3) 2) 3),())))))))))]) 144)=cq0
   try generalize ((Gm (lgt .str x16 (Int.toNat x18)) JP (Qj .i64 100 x18) 1 901))=cq1
   try generalize (Qq ([14]) (lgt (.sl tI) ([[10,8,2],[8,2],[2,10,8,3]]) (Int.toNat (Qh (Ql Qa ([3,3,4])) 3))) 8)=cq2
   try generalize (Qq Qb ([((lgt .str x16 (Int.toNat x18)),(1,((dof Qa ([3,3,4])),((lgt (.sl tI) ([[10,8,2],[8,2],[2,10,8,3]]) (Int.toNat (Qh (Ql Qa ([3,3,4])) 3))),((done (Qe (Ql Qa ([3,3,4])) 3) 2),([((((Zw (lgt .str x16 (Int.toNat x18)) JP (Qj .i64 100 x18) 1 901).1).1,((((Zw (lgt .str x16 (Int.toNat x18)) JP (Qj .i64 100 x18) 1 901).1).2).1,())),(((Zw (lgt .str x16 (Int.toNat x18)) JP (Qj .i64 100 x18) 1 901).2).1,((((Zw (lgt .str x16 (Int.toNat x18)) JP (Qj .i64 100 x18) 1 901).2).2).1,())))],([1],([2,3],((done (Qe (Qe (Ql Qa ([3,3,4])) 3) 2) 3),())))))))))]) 144)=cq3
   try generalize ((QT (Qe (Qe (Ql Qa ([3,3,4])) 3) 2) 3))=cq4
   try generalize ((QT (Qe (Ql Qa ([3,3,4])) 3) 2))=cq5
   try generalize (cIx ([[10,8,2],[8,2],[2,10,8,3]]) (Qh (Ql Qa ([3,3,4])) 3))=cq6
   try generalize ((Qz (Ql Qa ([3,3,4])) 3))=cq7
   try generalize ((QM Qa ([3,3,4])))=cq8
   try generalize (cIx x16 x18)=cq9
   simp only [brN,J9,Bool.and_assoc,Bool.and_comm,Bool.and_left_comm,B6,Bool.and_self_left,Xy,XX,XY,XZ,X5]
   try rfl))
def WJ (x4:List ByteArray)(x8 x65 x66 x70 x71:Int)(y2:Estate)(Qb:List Endpoint)(Qg:List Keep)(Qd:List Item)(Qa:Dice):OX:=Qx (QA Zb FF Od) (GR x4 x8 x65 x66 x70 x71 y2 Qb Qg Qd Qa)
def UP (kk:List ByteArray->Int->Int->Int->Int->Int->Estate->List Endpoint->List Keep->List Item->Dice->OX)(x4:List ByteArray)(x8 x65 x66 x70 x71:Int)(y2:Estate)(Qb:List Endpoint)(Qg:List Keep)(Qd:List Item)(Qa:Dice):OX:=
 let a1:=Qj .i64 x71 1
 let a2:=Qe Qa 3
 br (ilt x71 x70) (br (ine x8 x71) (br (Qz Qa 3) (br (igt (Qh Qa 3) 0) (br (ilt (Qc Qg) 3) (br (Qq Qg ([(x8,(x71,()))]) 16) (kk x4 x8 x65 x66 x70 a1 y2 Qb (Qg++([(x8,(x71,()))])) Qd a2) none) (kk x4 x8 x65 x66 x70 a1 y2 Qb Qg Qd a2)) (kk x4 x8 x65 x66 x70 a1 y2 Qb Qg Qd a2)) none) (kk x4 x8 x65 x66 x70 a1 y2 Qb Qg Qd Qa)) (some (.exit 4,We x4 x65 x66 y2 Qb Qg Qd Qa))
def Y8 (x4:List ByteArray)(x8 x65 x66 x70 x71:Int)(y2:Estate)(Qb:List Endpoint)(Qg:List Keep)(Qd:List Item)(Qa:Dice):OX:=
 let a1:=edZ (x70-x71).toNat x8 x71 Qg Qa
 some (.exit 4,We (x4) (x65) (x66) (y2) (Qb) (a1.1) (Qd) (a1.2))
theorem QaZ (x4:List ByteArray)(x8 x65 x66 x70 x71:Int)(y2:Estate)(Qb:List Endpoint)(Qg:List Keep)(Qd:List Item)(Qa:Dice):WJ x4 x8 x65 x66 x70 x71 y2 Qb Qg Qd Qa=UP WJ x4 x8 x65 x66 x70 x71 y2 Qb Qg Qd Qa:=lnT (x:=UP (fun x4 x8 x65 x66 x70 x71 y2 Qb Qg Qd Qa=>some (.normal,GR x4 x8 x65 x66 x70 x71 y2 Qb Qg Qd Qa)) x4 x8 x65 x66 x70 x71 y2 Qb Qg Qd Qa) (by simp only [UP,nxA];rfl)
def GS (x4:List ByteArray)(x65 x66:Int)(y2:Estate)(Qb:List Endpoint)(Qg:List Keep)(Qd:List Item)(Qa:Dice):OX:=Qx (QA Zb FG Oe) (We x4 x65 x66 y2 Qb Qg Qd Qa)
def UQ (kk:List ByteArray->Int->Int->Estate->List Endpoint->List Keep->List Item->Dice->OX)(x4:List ByteArray)(x65 x66:Int)(y2:Estate)(Qb:List Endpoint)(Qg:List Keep)(Qd:List Item)(Qa:Dice):OX:=
 let a1:=(edZ ((Qc x4)-(0:Int)).toNat x66 (0:Int) Qg Qa)
 br (ilt x66 x65) (br (dOk Qa&&decide (0<=(0:Int)/\(0:Int)<=(Qc x4)/\(Qc x4)<=3/\Qg.length<=3)) (kk (x4) (x65) (Qj .i64 (x66) 1) (y2) (Qb) (a1.1) (Qd) (a1.2)) none) (some (.exit 2,FJ y2 Qb Qg Qd Qa))
def GT (x4:List ByteArray)(x65 x66:Int)(y2:Estate)(Qb:List Endpoint)(Qg:List Keep)(Qd:List Item)(Qa:Dice):OX:=
 let a1:=edY (x65-x66).toNat x4.length x66 Qg Qa
 some (.exit 2,FJ (y2) (Qb) (a1.1) (Qd) (a1.2))
theorem Qa0 (x4:List ByteArray)(x65 x66:Int)(y2:Estate)(Qb:List Endpoint)(Qg:List Keep)(Qd:List Item)(Qa:Dice):GS x4 x65 x66 y2 Qb Qg Qd Qa=UQ GS x4 x65 x66 y2 Qb Qg Qd Qa:=lnT (x:=UQ (fun x4 x65 x66 y2 Qb Qg Qd Qa=>some (.normal,We x4 x65 x66 y2 Qb Qg Qd Qa)) x4 x65 x66 y2 Qb Qg Qd Qa) (by simp only [UQ,nxA];rfl)
def GU (x10:Int)(y2:Estate)(y3_1:List Keep)(Qb:List Endpoint)(Qd:List Item)(Qa:Dice):OX:=Qx (QA Zb FH Of) (Og x10 y2 y3_1 Qb Qd Qa)
def UR (kk:Int->Estate->List Keep->List Endpoint->List Item->Dice->OX)(x10:Int)(y2:Estate)(y3_1:List Keep)(Qb:List Endpoint)(Qd:List Item)(Qa:Dice):OX:=
 let a2:=(ByteArray.mk #[98,97,99,107,117,112])
 let a3:=(ByteArray.mk #[100,101,101,100])
 let a5:=(YQ Qa ([a2,a3]))
 let a6:=(ZA Qa ([a2,a3]))
 let a1:=Ww a5 a6
 let a4:=((a1.2).1,(((a1.2).2).1,((((a1.2).2).2).1,(((((a1.2).2).2).2).1,()))))
 br (igt x10 0) (br (YR Qa ([a2,a3])) (br (Ub a5 a6) (br (Qq Qd ([(a1.1,a4)]) 64) (kk (Qw .i64 x10 1) y2 y3_1 Qb (Qd++([(a1.1,a4)])) (Ua a5 a6)) none) none) none) (some (.exit 6,FK y2 y3_1 Qb Qd Qa))
def GV (x10:Int)(y2:Estate)(y3_1:List Keep)(Qb:List Endpoint)(Qd:List Item)(Qa:Dice):OX:=some (.exit 6,FK (y2) (y3_1) (Qb) (Qd++(itZ x10.toNat Qa).1) ((itZ x10.toNat Qa).2))
theorem Qa1 (x10:Int)(y2:Estate)(y3_1:List Keep)(Qb:List Endpoint)(Qd:List Item)(Qa:Dice):GU x10 y2 y3_1 Qb Qd Qa=UR GU x10 y2 y3_1 Qb Qd Qa:=lnT (x:=UR (fun x10 y2 y3_1 Qb Qd Qa=>some (.normal,Og x10 y2 y3_1 Qb Qd Qa)) x10 y2 y3_1 Qb Qd Qa) (by simp only [UR,nxA];rfl)
def EB (d0:Dice):OV:=
 let a6:=(ByteArray.mk #[97,112,112])
 let a8:=(ByteArray.mk #[100,98])
 let a7:=(ByteArray.mk #[119,101,98])
 let a2:=(lsl ([a6,a8,a7]) 0 (Qj .i64 2 (Qh d0 2)))
 let a5:=(Zq (a2.drop (0:Int).toNat) (0:Int).toNat (Qe d0 2))
 let a1:=(edY ((Qc a2)-(0:Int)).toNat a2.length (0:Int) ([]:List Keep) (a5.2))
 let a3:=(dOk (Qe (a1.2) 3)&&decide (0<=(Qh (a1.2) 3)/\(Qh (a1.2) 3)<=3/\([]:List Item).length+(Qh (a1.2) 3).toNat<=100))
 let a4:=itZ (Qh (a1.2) 3).toNat (Qe (a1.2) 3)
 br (Qz d0 2) (br (cSl ([a6,a8,a7]) 0 (Qj .i64 2 (Qh d0 2)) ((List.length ([a6,a8,a7]):Nat):Int)) (br (QD a2 (Qc a2) (0:Int)&&(dOk (Qe d0 2)&&(decide (([]:List Endpoint).length<=(0:Int))&&a2.all nm1))) (br (dOk (a5.2)&&decide (0<=(0:Int)/\(0:Int)<=(Qc a2)/\(Qc a2)<=3/\a2.length<=3/\([]:List Keep).length<=3)) (br (ieq (Qc (a1.1)) 0) (br (Qz (a1.2) 3) (br a3 (some (.ag [(.ms 50001),(.t (.sl Qk) ([(0,(1,()))])),(.ms 50002)],[.box (.t Qt (a4.2)),.arr 111 QC (([]:List Endpoint)++a5.1),.arr 62 Qp (([]:List Item)++a4.1)])) none) none) (br (Qz (a1.2) 3) (br a3 (some (.ag [(.ms 50001),(.t (.sl Qk) (a1.1)),(.ms 50002)],[.box (.t Qt (a4.2)),.arr 111 QC (([]:List Endpoint)++a5.1),.arr 62 Qp (([]:List Item)++a4.1)])) none) none)) none) none) none) none
theorem Qoh (d0:Dice):QS Zb YB Ez true [.ptr 50000 0] [.box (.t Qt d0)]=EB d0:=by kernel_rfl
theorem ok_f47:Option.map (trC Tryz.prog) Tryz.f47.body=some YB.er:=by kernel_rfl
theorem QOd:XV Tryz.prog Tryz.f47.results.toList=some (Ez.map Prod.fst):=by kernel_rfl
theorem Qz2:Ja Tryz.prog 47:= .inr ⟨by decide,_,Tryz.func47,by kernel_rfl,by kernel_rfl⟩
theorem Qoi:GOk Tryz.prog Zb:=Jp _ (gA (gD XM (gD E5 (gD Qde (gD QhM (gD UB (gD QuB (gD QuA gN))))))))
theorem Qoj (x4 x16:List ByteArray)(x17 x18:Int)(y2:Estate)(Qb:List Endpoint)(Qg:List Keep)(Qd:List Item)(Qa:Dice)(h:(QD x16 x17 x18&&(dOk Qa&&(decide (Qb.length<=x18)&&x16.all nm1)))=true):WH x4 x16 x17 x18 y2 Qb Qg Qd Qa=Y7 x4 x16 x17 x18 y2 Qb Qg Qd Qa:=by
 simp only [Bc,Ba] at h
 obtain ⟨h0,hd,hl,ha⟩:=h
 obtain ⟨rfl,h3,k,rfl,hk⟩:=JG h0
 clear h0
 revert Qb Qa
 refine QQ x16 (fun k=> ∀ (Qb:List Endpoint) (Qa:Dice),dOk Qa=true->(Qb.length:Int)<=(k:Int)->WH x4 x16 (x16.length:Int) (k:Int) y2 Qb Qg Qd Qa=Y7 x4 x16 (x16.length:Int) (k:Int) y2 Qb Qg Qd Qa) ?_ ?_ k hk
 ·intro Qb Qa _ _
  rw [QaY]
  simp only [WI,Y6,Wf,Wg,J9,Y7,Qy,BN,BM,Qi,Bb,BS,Zq,BL]
 ·intro k hk ih Qb Qa hd hl
  rw [QaY]
  have c1:QM Qa [3,3,4]=true:=Yu hd (by decide) (by decide)
  have d1:=Jc (l:=[3,3,4]) hd
  have c2:Qz (Ql Qa [3,3,4]) 3=true:=JD d1 (by omega)
  have d2:=QB (n:=3) d1
  have c3:QT (Qe (Ql Qa [3,3,4]) 3) 2=true:=Xk d2 (by omega) (by omega)
  have c4:QT (Qe (Qe (Ql Qa [3,3,4]) 3) 2) 3=true:=Xk (QB d2) (by omega) (by omega)
  have b3:=Q7 (d:=Ql Qa [3,3,4]) (n:=3) (by omega)
  have c5:cIx ([[10,8,2],[8,2],[2,10,8,3]]:List (List Int)) (Qh (Ql Qa [3,3,4]) 3)=true:=Be ⟨b3.1,b3.2⟩
  have c6:Gm x16[k] JP (Qj .i64 100 (k:Int)) 1 901=true:=Bi.1 ha _ (Bw hk)
  have c7: ∀ v,Qq Qb [v] 144=true:=fun v=>Q1 (by omega) (by simp only [Bh];omega)
  have b4: ∀ q,(lgt (.sl tI) [[10,8,2],[8,2],[2,10,8,3]] q).length<=4:=fun q=>Qf5 (by simp) q
  have c8:Qq ([14]:List Int) (lgt (.sl tI) [[10,8,2],[8,2],[2,10,8,3]] (Qh (Ql Qa [3,3,4]) 3).toNat) 8=true:=Q1 (by decide) (by have:=b4 (Qh (Ql Qa [3,3,4]) 3).toNat;simp only [Bh];omega)
  simp only [WI,Y6,Wf,Wg,J9,Qy,QK,hk,Bo,Qf,Bb,QO (show k<4611686018427387904 by omega),QL (y:= .str) hk,c1,c2,c3,c4,c6,c7,J9]
  have hi: ∀ v,WH x4 x16 (x16.length:Int) ((k+1:Nat):Int) y2 (Qb++[v]) Qg Qd (WG Qa)=Y7 x4 x16 (x16.length:Int) ((k+1:Nat):Int) y2 (Qb++[v]) Qg Qd (WG Qa):=fun v=>ih _ _ (Qn7 hd) (by simp only [Bm,Bh];omega)
  have goal2:Y7 x4 x16 (x16.length:Int) ((k+1:Nat):Int) y2 (Qb++[Wd Qa k x16[k]]) Qg Qd (WG Qa)=Y7 x4 x16 (x16.length:Int) (k:Int) y2 Qb Qg Qd Qa:=by
   simp only [Y7,Bb,Bg hk,Zq,BI,BH]
  refine Eq.trans ?_ ((hi _).trans goal2)
  unfold Wd FD
  refine brY c5 ?_
  cases ieq (dof Qa [3,3,4]) 4 with
  |false=>rfl
  |true=>exact brY rfl (brY c8 rfl)
theorem Qok (x4:List ByteArray)(x8 x65 x66 x70 x71:Int)(y2:Estate)(Qb:List Endpoint)(Qg:List Keep)(Qd:List Item)(Qa:Dice)(h:(dOk Qa&&decide (0<=x71/\x71<=x70/\x70<=3/\Qg.length<=3))=true):WJ x4 x8 x65 x66 x70 x71 y2 Qb Qg Qd Qa=Y8 x4 x8 x65 x66 x70 x71 y2 Qb Qg Qd Qa:=by
 simp only [Bc,Ba] at h
 obtain ⟨hd,h0,h1,h2,hl⟩:=h
 have key: ∀ (m:Nat) (x71:Int) (Qg:List Keep) (Qa:Dice),x71+m=x70->0<=x71->dOk Qa=true->Qg.length<=3->WJ x4 x8 x65 x66 x70 x71 y2 Qb Qg Qd Qa=Y8 x4 x8 x65 x66 x70 x71 y2 Qb Qg Qd Qa:=by
  intro m
  induction m with
  |zero=>
   intro x71 Qg Qa e _ _ _
   rw [QaZ]
   have:x70=x71:=by omega
   subst this
   simp only [UP,Y8,show ilt x70 x70=false from Bq (by omega),Qi,Int.sub_self,By,edZ]
  |succ m ih=>
   intro x71 Qg Qa e h0 hd hl
   rw [QaZ]
   have c1:Qz Qa 3=true:=JD hd (by omega)
   have c2:Qq Qg [(x8,(x71,()))] 16=true:=Q1 (by omega) (by simp only [Bh];omega)
   have e1:Qj .i64 x71 1=x71+1:=Jz (by omega)
   have e2:(x70-x71).toNat=m+1:=by omega
   have e3:(x70-(x71+1)).toNat=m:=by omega
   simp only [UP,show ilt x71 x70=true from Be (by omega),Qf,c1,c2,e1]
   have i0:=ih (x71+1) Qg Qa (by omega) (by omega) hd hl
   have i1:=ih (x71+1) Qg (Qe Qa 3) (by omega) (by omega) (QB hd) hl
   rw [i0,i1]
   cases hn:ine x8 x71 with
   |false=>simp only [Qi,Y8,e2,e3,edZ,hn,BW]
   |true=>
    cases hg:igt (Qh Qa 3) 0 with
    |false=>simp only [Qf,Qi,Y8,e2,e3,edZ,hn,hg,B8,Bool.false_and,BW]
    |true=>
     cases hq:ilt (Qc Qg) 3 with
     |false=>simp only [Qf,Qi,Y8,e2,e3,edZ,hn,hg,hq,B8,Bool.and_false,BW]
     |true=>
      have hl3:Qg.length<3:=by have:=BD hq;simp only [Qc] at this;omega
      have i2:=ih (x71+1) (Qg++[(x8,(x71,()))]) (Qe Qa 3) (by omega) (by omega) (QB hd) (by simp only [Bm,Bh];omega)
      rw [i2]
      simp only [Qf,Y8,e2,e3,edZ,hn,hg,hq,B8,B6]
 exact key (x70-x71).toNat x71 Qg Qa (by omega) h0 hd hl
theorem Qol (x4:List ByteArray)(x65 x66:Int)(y2:Estate)(Qb:List Endpoint)(Qg:List Keep)(Qd:List Item)(Qa:Dice)(h:(dOk Qa&&decide (0<=x66/\x66<=x65/\x65<=3/\x4.length<=3/\Qg.length<=3))=true):GS x4 x65 x66 y2 Qb Qg Qd Qa=GT x4 x65 x66 y2 Qb Qg Qd Qa:=by
 simp only [Bc,Ba] at h
 obtain ⟨hd,h0,h1,h2,h3,hl⟩:=h
 have key: ∀ (m:Nat) (x66:Int) (Qg:List Keep) (Qa:Dice),x66+m=x65->0<=x66->dOk Qa=true->Qg.length<=3->GS x4 x65 x66 y2 Qb Qg Qd Qa=GT x4 x65 x66 y2 Qb Qg Qd Qa:=by
  intro m
  induction m with
  |zero=>
   intro x66 Qg Qa e _ _ _
   rw [Qa0]
   have:x65=x66:=by omega
   subst this
   simp only [UQ,GT,show ilt x65 x65=false from Bq (by omega),Qi,Int.sub_self,By,edY]
  |succ m ih=>
   intro x66 Qg Qa e h0 hd hl
   rw [Qa0]
   have e1:Qj .i64 x66 1=x66+1:=Jz (by omega)
   have e2:(x65-x66).toNat=m+1:=by omega
   have e3:(x65-(x66+1)).toNat=m:=by omega
   have e4:(Qc x4-0).toNat=x4.length:=by simp only [Qc];omega
   have hz:=Ey x4.length x66 0 Qg Qa hd hl
   simp only [UQ,show ilt x66 x65=true from Be (by omega),Qf,e1,e4,hd,Bu]
   refine brY (Be (by simp only [Qc];omega)) ?_
   rw [ih (x66+1) _ _ (by omega) (by omega) hz.1 hz.2]
   simp only [GT,e2,e3,edY]
 exact key (x65-x66).toNat x66 Qg Qa (by omega) h0 hd hl
theorem Qom (x10:Int)(y2:Estate)(y3_1:List Keep)(Qb:List Endpoint)(Qd:List Item)(Qa:Dice)(h:(dOk Qa&&decide (0<=x10/\x10<=3/\Qd.length+x10.toNat<=100))=true):GU x10 y2 y3_1 Qb Qd Qa=GV x10 y2 y3_1 Qb Qd Qa:=by
 simp only [Bc,Ba] at h
 obtain ⟨hd,h0,h1,hl⟩:=h
 obtain ⟨n,rfl⟩:=Bl h0
 rw [Bb] at hl
 have key: ∀ (n:Nat) (Qd:List Item) (Qa:Dice),dOk Qa=true->Qd.length+n<=100->GU (n:Int) y2 y3_1 Qb Qd Qa=GV (n:Int) y2 y3_1 Qb Qd Qa:=by
  intro n
  induction n with
  |zero=>
   intro Qd Qa _ _
   rw [Qa1]
   simp only [UR,GV,show igt ((0:Nat):Int) 0=false from rfl,Qi,Bb,itZ,BL]
  |succ n ih=>
   intro Qd Qa hd hl
   rw [Qa1]
   have e2:Qw .i64 ((n+1:Nat):Int) 1=(n:Int):=(JO (by omega)).trans (by omega)
   have c1:YR Qa sIt=true:=by simp [YR,hd]
   have c2:Ub (YQ Qa sIt) (ZA Qa sIt)=true:=GM hd
   have c3: ∀ v,Qq Qd [v] 64=true:=fun v=>Q1 (by omega) (by simp only [Bh];omega)
   simp only [UR,show igt ((n+1:Nat):Int) 0=true from Be (by omega),Qf,e2,c1,c2,c3]
   refine Eq.trans (ih _ _ (Vz (s:=ZA Qa sIt) (GM hd)) (by simp only [Bm,Bh];omega)) ?_
   simp only [GV,Bb,itZ,BI,BH]
 exact key n Qd Qa hd (by omega)
theorem Qon:LO Zb FE Oc 0:=QI (s:=GN) fun x y h _ q=>by simp only [QG,QH] at q;exact (Qoj x.2.2.2.1 x.2.2.2.2.1 x.2.2.2.2.2.1 x.2.2.2.2.2.2.1 y.1 y.2.2.2.2.2.2.1 y.2.2.2.2.2.2.2.1 y.2.2.2.2.2.2.2.2.1 y.2.2.2.2.2.2.2.2.2.1 h).trans q
theorem Qoo:LO Zb FF Od 1:=QI (s:=GO) fun x y h _ q=>by simp only [QG,QH] at q;exact (Qok x.2.2.2.1 x.2.2.2.2.1 x.2.2.2.2.2.1 x.2.2.2.2.2.2.1 x.2.2.2.2.2.2.2.1 x.2.2.2.2.2.2.2.2.1 y.1 y.2.2.2.2.2.2.1 y.2.2.2.2.2.2.2.1 y.2.2.2.2.2.2.2.2.1 y.2.2.2.2.2.2.2.2.2.1 h).trans q
theorem Qop:LO Zb FG Oe 2:=QI (s:=GP) fun x y h _ q=>by simp only [QG,QH] at q;exact (Qol x.2.2.2.1 x.2.2.2.2.1 x.2.2.2.2.2.1 y.1 y.2.2.2.2.2.2.1 y.2.2.2.2.2.2.2.1 y.2.2.2.2.2.2.2.2.1 y.2.2.2.2.2.2.2.2.2.1 h).trans q
theorem Qoq:LO Zb FH Of 3:=QI (s:=GQ) fun x y h _ q=>by simp only [QG,QH] at q;exact (Qom x.2.2.2.1 y.1 y.2.1.2.1 y.2.2.2.2.2.2.1 y.2.2.2.2.2.2.2.2.1 y.2.2.2.2.2.2.2.2.2.1 h).trans q
theorem Qor:YB.lok Zb:=by
 repeat (first|exact trivial|exact Qon|exact Qoo|exact Qop|exact Qoq|refine ⟨?_, ?_⟩)
set_option maxRecDepth 100000 in
theorem Qos (d:Dice)(h:dOk d=true):EB d=some (.ag [.ms 50001,.t (.sl Qk) (JQ d).2.1,.ms 50002],[.box (.t Qt (Yf d)),.arr 111 QC (JQ d).1,.arr 62 Qp (JQ d).2.2.1]):=by
 have hv:=Q7 (d:=d) (n:=2) (by omega)
 have e:Qj .i64 2 (Qh d 2)=2+Qh d 2:=Jz (by omega)
 have c1:Qz d 2=true:=JD h (by omega)
 have hn:=QaW d
 have hd:=QB (n:=2) h
 have hz:=Qfv (Jq d) 0 (Qe d 2) hd
 have hy:=Qfw (Jq d).length (Jq d).length 0 [] _ hz (Da _)
 have hy1:dOk (JT d).2=true:=hy.1
 have hv3:=Q7 (d:=(JT d).2) (n:=3) (by omega)
 simp only [EB,show lsl Uk 0 (Qj .i64 2 (Qh d 2))=Jq d from rfl,BV,By,BG,Int.sub_zero,show (Qc (Jq d)).toNat=(Jq d).length by simp only [Qc];omega]
 simp only [show edY (Jq d).length (Jq d).length 0 [] (Zq (Jq d) 0 (Qe d 2)).2=JT d from rfl]
 refine brY c1 (brY (Be (by rw [e];refine ⟨by omega,by omega, ?_, ?_⟩<;>simp<;>omega)) (brY ?_ (brY ?_ ?_)))
 ·rw [JH (by omega),hd,hn.2.2]
  rfl
 ·rw [hz]
  exact Be (by simp only [Qc,Bv];omega)
 ·have c2:Qz (JT d).2 3=true:=JD hy1 (by omega)
  have c3:(dOk (Qe (JT d).2 3)&&decide (0<=Qh (JT d).2 3/\Qh (JT d).2 3<=3/\([]:List Item).length+(Qh (JT d).2 3).toNat<=100))=true:=by
   rw [QB hy1,Be (by simp only [Bv];omega)]
   rfl
  cases hq:ieq (Qc (JT d).1) 0 with
  |true=>
   rw [Qf]
   refine brY c2 (brY c3 ?_)
   unfold JQ GL
   rw [hq]
   rfl
  |false=>
   rw [Qi]
   refine brY c2 (brY c3 ?_)
   unfold JQ GL
   rw [hq]
   rfl
def Qfz:Ent:=XA [.ptr 50000 0] [.box Qt] (fun x y=>(dOk y.1)) (fun x y=>(.ag [(.ms 50001),(.t (.sl Qk) (((JQ y.1).2).1)),(.ms 50002)])) (fun x y=>[.box (.t Qt (Yf y.1)),.arr 111 QC ((JQ y.1).1),.arr 62 Qp ((((JQ y.1).2).2).1)])
theorem Qz3:Qu Tryz.prog 47 (Qv Qfz):=X8 (R:=QS Zb YB Ez true) (mG Tryz.func47 (by kernel_rfl) Tryz.ntmps47 (by kernel_rfl) Qoi Qor) fun x y hok=>(Qoh y.1).trans (Qos y.1 hok)
end
end Go.Proofs.YthlcobdnemhcdaaGreat.K.SO
noncomputable section
namespace Go.Proofs.YthlcobdnemhcdaaGreat.K
open Go.RowKit
def Ff (r:Rule)(u:Keep)(p:Int):Bool:=(r.Alg==0||r.Alg==u.1)&&(r.Purpose==0||r.Purpose==p)&&(r.Below==0||(decide (u.2.1 > 0)&&decide (u.2.1<r.Below)))
def Qle (r:Rule)(day:Int):Bool:=decide (r.From<=day)&&decide (day<r.To)
def Uc (r:Rule)(u:Keep)(p day:Int):Bool:=Ff r u p&&Qle r day
def QKv:TC:=aF Tryz.f152 []
def g_f152:G:=gG 43 [] (fun _ _=>none)
def Qlf (p0:Rule)(p1:Keep)(p2:Int):OV:=br (ieq p0.2.2.1 0) (some (.t .bool true,[])) (br (igt p1.2.1 0) (some (.t .bool (ilt p1.2.1 p0.2.2.1),[])) (some (.t .bool false,[])))
def Qlg (p0:Rule)(p1:Keep)(p2:Int):OV:=br (ine p0.2.2.2.1 0) (br (ine p0.2.2.2.1 p2) (some (.t .bool false,[])) (Qlf p0 p1 p2)) (Qlf p0 p1 p2)
def QvD (p0:Rule)(p1:Keep)(p2:Int):OV:=br (ine p0.2.1 0) (br (ine p0.2.1 p1.1) (some (.t .bool false,[])) (Qlg p0 p1 p2)) (Qlg p0 p1 p2)
theorem s_f152 (p0:Rule)(p1:Keep)(p2:Int):QvD p0 p1 p2=some (.t .bool (Ff p0 p1 p2),[]):=by
 simp only [QvD,Qlg,Qlf]
 repeat' (refine QY ?_ ?_<;>intro _)
 all_goals (simp_all [Ff,Estate.Endpoints,Estate.Edges,Estate.Items,Policy.Rules,Policy.Keeps,Keep.Alg,Keep.Bits,Link.Use,Link.Day,Job.Item,Job.Link,Item.Name,Item.Kind,Item.Purpose,Item.Links,Item.Until,Rule.Allow,Rule.Alg,Rule.Below,Rule.Purpose,Rule.From,Rule.To,Exception.Use,Exception.Purpose,Exception.Endpoint,Exception.Days,Exception.Seals,Dice.L,Dice.At,Endpoint.Name,Endpoint.Least,Endpoint.Most,Endpoint.Suites,Endpoint.OwnOrder,Endpoint.Identities,Endpoint.Anchors,Endpoint.Hashes,Endpoint.Fallback,Identity.Key,Identity.KeyId,Identity.Chain,Change.Endpoint,Change.Kind,Change.Number,Change.At,Change.Identity,Rules.p,Rules.l,Rules.o,Rules.day,Method.outcome,Method.uses,Certificate.Serial,Certificate.Issuer,Certificate.Subject,Certificate.Key,Certificate.KeyId,Certificate.Hash,Certificate.From,Certificate.To,Certificate.Authority,Certificate.Path,Certificate.Names,Certificate.Seal,LinkX.day,LinkX.fall,LinkX.falls,Suite.Code,Suite.Name,Suite.Exchange,Suite.Sign,Suite.Cipher,Suite.Mac,Suite.Least,Suite.Most,Row.name,Row.kind,Row.way,Row.sizes,Row.strengths,Talk.server,Talk.version,Talk.suites,Symbol.name,Symbol.kind]<;>omega)
def QvE:Ent:=Qo (.pr Q4 (.pr Qk (.pr tI .nil))) (fun x=>true) (fun x=>(.t .bool (Ff x.1 x.2.1 x.2.2.1)))
theorem QKw:EM 152 QvE:=mS g_f152 QKv [((.t 6),some .bool)] false (gB gN) fun m=>Qs m fun x _=>kT (s_f152 x.1 x.2.1 x.2.2.1)
def QKx:TC:=aF Tryz.f160 []
def g_f160:G:=gG 59 [] (fun _ _=>none)
def Qlh (p0:Rule)(p1:Keep)(p2 p3:Int):OV:=br (ige p3 p0.2.2.2.2.1) (some (.t .bool (ilt p3 p0.2.2.2.2.2.1),[])) (some (.t .bool false,[]))
def Qli (p0:Rule)(p1:Keep)(p2 p3:Int):OV:=br (ieq p0.2.2.2.1 0) (Qlh p0 p1 p2 p3) (br (ieq p0.2.2.2.1 p2) (Qlh p0 p1 p2 p3) (some (.t .bool false,[])))
def Qlj (p0:Rule)(p1:Keep)(p2 p3:Int):OV:=br (ieq p0.2.2.1 0) (Qli p0 p1 p2 p3) (br (igt p1.2.1 0) (br (ilt p1.2.1 p0.2.2.1) (Qli p0 p1 p2 p3) (some (.t .bool false,[]))) (some (.t .bool false,[])))
def QvF (p0:Rule)(p1:Keep)(p2 p3:Int):OV:=br (ieq p0.2.1 0) (Qlj p0 p1 p2 p3) (br (ieq p0.2.1 p1.1) (Qlj p0 p1 p2 p3) (some (.t .bool false,[])))
theorem s_f160 (p0:Rule)(p1:Keep)(p2 p3:Int):QvF p0 p1 p2 p3=some (.t .bool (Uc p0 p1 p2 p3),[]):=by
 simp only [QvF,Qlj,Qli,Qlh]
 repeat' (refine QY ?_ ?_<;>intro _)
 all_goals (simp_all [Uc,Ff,Qle,Estate.Endpoints,Estate.Edges,Estate.Items,Policy.Rules,Policy.Keeps,Keep.Alg,Keep.Bits,Link.Use,Link.Day,Job.Item,Job.Link,Item.Name,Item.Kind,Item.Purpose,Item.Links,Item.Until,Rule.Allow,Rule.Alg,Rule.Below,Rule.Purpose,Rule.From,Rule.To,Exception.Use,Exception.Purpose,Exception.Endpoint,Exception.Days,Exception.Seals,Dice.L,Dice.At,Endpoint.Name,Endpoint.Least,Endpoint.Most,Endpoint.Suites,Endpoint.OwnOrder,Endpoint.Identities,Endpoint.Anchors,Endpoint.Hashes,Endpoint.Fallback,Identity.Key,Identity.KeyId,Identity.Chain,Change.Endpoint,Change.Kind,Change.Number,Change.At,Change.Identity,Rules.p,Rules.l,Rules.o,Rules.day,Method.outcome,Method.uses,Certificate.Serial,Certificate.Issuer,Certificate.Subject,Certificate.Key,Certificate.KeyId,Certificate.Hash,Certificate.From,Certificate.To,Certificate.Authority,Certificate.Path,Certificate.Names,Certificate.Seal,LinkX.day,LinkX.fall,LinkX.falls,Suite.Code,Suite.Name,Suite.Exchange,Suite.Sign,Suite.Cipher,Suite.Mac,Suite.Least,Suite.Most,Row.name,Row.kind,Row.way,Row.sizes,Row.strengths,Talk.server,Talk.version,Talk.suites,Symbol.name,Symbol.kind]<;>omega)
def QvG:Ent:=Qo (.pr Q4 (.pr Qk (.pr tI (.pr tI .nil)))) (fun x=>true) (fun x=>(.t .bool (Uc x.1 x.2.1 x.2.2.1 x.2.2.2.1)))
theorem QKy:EM 160 QvG:=mS g_f160 QKx [((.t 8),some .bool)] false (gB gN) fun m=>Qs m fun x _=>kT (s_f160 x.1 x.2.1 x.2.2.1 x.2.2.2.1)
def same (a b:List Keep):Bool:=a==b
end Go.Proofs.YthlcobdnemhcdaaGreat.K
