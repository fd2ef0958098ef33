import Derived.Test.YtkmobehaikjdjaaGreatQ5
import Derived.Test.YtkmobehaikjdjaaGreatQ3
import Derived.Test.YtkmobehaikjdjaaGreatQ4
import Derived.Shelf.Small.Strs
import Derived.Ground.NamesProg
set_option maxRecDepth 100000
set_option linter.unusedSimpArgs false
set_option linter.unusedVariables false
noncomputable section
namespace Go.Proofs
open Go.Shelf
def Tryz.lays137_ren:Go.Shelf.Ren:=⟨fun|137=>173|217=>203|266=>218|n=>n,fun|9=>9|5=>5|3=>3|n=>n,fun|n=>n⟩
theorem Tryz.lays137:Go.Proofs.Lays.n137 Tryz.prog Tryz.lays137_ren:={
 mixed:=by kernel_rfl
 f137:=Tryz.func173.trans (congrArg some (by kernel_rfl))
 f217:=Tryz.func203.trans (congrArg some (by kernel_rfl))
 f266:=Tryz.func218.trans (congrArg some (by kernel_rfl))
 t3:=Tryz.underlying3
 a3:=Tryz.isAgg3
 z3:=Tryz.sizeOf3
 v3:=Tryz.zeroValue3
 t5:=Tryz.underlying5
 a5:=Tryz.isAgg5
 z5:=Tryz.sizeOf5
 v5:=Tryz.zeroValue5
 t9:=Tryz.underlying9
 a9:=Tryz.isAgg9
 z9:=Tryz.sizeOf9
 v9:=Tryz.zeroValue9}
end Go.Proofs
namespace Go.Proofs.YtkmobehaikjdjaaGreat.K
open Go.RowKit Go.Shelf
def ixB (s:ByteArray)(c:Int):Int:=Lib.indexByte s.data.toList c.toNat.toUInt8
def Qzx:Ent:=Qm (.pr .str (.pr (.int .u8) .nil)) (fun x=>true) (fun x=>(.t tI (ixB x.1 x.2.1)))
theorem QQk:J6 Tryz.prog 173:= .inr ⟨by decide,_,Tryz.func173,by kernel_rfl,by kernel_rfl⟩
theorem QQl:QH Tryz.prog 173 (QD Qzx):=QpJ fun x hok X w Z vs hfin hc=>by
 obtain ⟨s,c,u⟩:=x
 simp only [Ty.canon,V.ds,V.d,Ty.d,Cs,C] at hc
 obtain ⟨v1,r1,rfl,⟨rfl,_⟩,v2,r2,rfl,⟨rfl,_⟩,rfl⟩:=hc
 refine (Any.strings_IndexByte Tryz.lays137 s c w).mono ?_
 rintro e w' ⟨rfl,rfl⟩
 refine ⟨_,rfl, ?_,Below.refl _ _⟩
 simp only [V.d,Ty.d,C]
 exact ⟨rfl,rfl⟩
def IY (c:Int)(o:ByteArray):Bool:=(ige c 97&&ile c 122)||((ige c 65&&ile c 90)||((ige c 48&&ile c 57)||ige (ixB o c) 0))
def QQm:TC:=aF Tryz.f136 []
def g_f136:G:=gG 33 [(173,Qzx)] (fun _ _=>none)
def Qn4 (p0:Int)(p1:ByteArray):OV:=br (ige p0 48) (br (ile p0 57) (some (.t .bool true,[])) (some (.t .bool (ige (ixB p1 p0) 0),[]))) (some (.t .bool (ige (ixB p1 p0) 0),[]))
def Qn5 (p0:Int)(p1:ByteArray):OV:=br (ige p0 65) (br (ile p0 90) (some (.t .bool true,[])) (Qn4 p0 p1)) (Qn4 p0 p1)
def Qzy (p0:Int)(p1:ByteArray):OV:=br (ige p0 97) (br (ile p0 122) (some (.t .bool true,[])) (Qn5 p0 p1)) (Qn5 p0 p1)
theorem brO {a b r:Bool}{X:OV}(h:X=some (.t .bool r,[])):br a (br b (some (.t .bool true,[])) X) X=some (.t .bool ((a&&b)||r),[]):=by
 subst h
 cases a<;>cases b<;>rfl
theorem s_f136 (c o):Qzy c o=some (.t .bool (IY c o),[]):=by
 simp only [Qzy,Qn5,Qn4]
 exact brO (brO (brO rfl))
def Qzz:Ent:=Qm (.pr (.int .u8) (.pr .str .nil)) (fun x=>true) (fun x=>(.t .bool (IY x.1 x.2.1)))
theorem QQn:EM 136 Qzz:=mS g_f136 QQm [((.t 4),some .bool)] false (gB (gC QQk QQl gN)) fun m=>Qq m fun x _=>kT (s_f136 x.1 x.2.1)
def Y5 (c:Int):Bool:= !(ilt c 97||igt c 122)||(!(ilt c 65||igt c 90)||(!(ilt c 48||igt c 57)||(ieq c 45||(ieq c 95||ieq c 46))))
def WK (s:ByteArray):Bool:=(Q4 s).all Y5&&decide (1<=s.size/\s.size<=32)
theorem QQo:((List.range 256).all fun n=>IY (n:Int) (ByteArray.mk #[45,95,46])==Y5 (n:Int))=true:=by kernel_rfl
theorem QQp {s:ByteArray}{c:Int}(h:c∈Q4 s):IY c (ByteArray.mk #[45,95,46])=Y5 c:=by
 obtain ⟨b,_,rfl⟩:=Dd.1 h
 have:=Bi.1 QQo b.toNat (by rw [Dl];exact b.toNat_lt)
 exact eq_of_beq this
abbrev QfS:Sh:=⟨[(0,.ty .str),(6,.ty (.sl (.int .u8))),(7,.ty tI),(8,.ty tI)],[]⟩
abbrev Qa1:Sh:=⟨[(2,.ty .bool)],[]⟩
abbrev QzA:Sh:=⟨[(0,.ty .str)],[]⟩
def Qn6:Fg:=QfS.f
def QzB:TC:=aF Tryz.f92 [(26,pL 0 Qn6),(421,.fg QzA.f),(13517,.fg Qa1.f)]
def QzC:TC:=lb 0 QzB
def QzD (x0:ByteArray)(x6:List Int)(x7 x8:Int):VS:=QfS.st (x0,x6,x7,x8,()) ()
def Wf (x2:Bool):VS:=Qa1.st (x2,()) ()
def Qn7 (x0:ByteArray):VS:=QzA.st (x0,()) ()
def QQq:VS->Option (Bool×List (Bool×Exit×VS)):=mkL QfS (fun x y=>(UZ x.2.1 x.2.2.1 x.2.2.2.1&&Ws x.2.1 (Q4 x.1))) (fun x y=>[((!((x.2.1.drop x.2.2.2.1.toNat).all Y5)),.ret,Wf (false)),(true,.exit 0,Qn7 (x.1))])
def Qn8:G:=gG 24 [(136,Qzz),(20680144,QaM)] (Ls [QQq])
def QfT (x0:ByteArray)(x6:List Int)(x7 x8:Int):OX:=Qu (Qx Qn8 Qn6 QzC) (QzD x0 x6 x7 x8)
def Qa2 (kk:ByteArray->List Int->Int->Int->OX)(x0:ByteArray)(x6:List Int)(x7 x8:Int):OX:=br (ilt x8 x7) (br (cIx x6 x8) (br (!(IY (lgt (.int .u8) x6 (Int.toNat x8)) (ByteArray.mk #[45,95,46]))) (some (.ret,Wf false)) (kk x0 x6 x7 (Qi .i64 x8 1))) none) (some (.exit 0,Qn7 x0))
def QfU (x0:ByteArray)(x6:List Int)(x7 x8:Int):OX:=br (!((x6.drop x8.toNat).all Y5)) (some (.ret,Wf (false)))<|some (.exit 0,Qn7 (x0))
theorem QzE (x0 x6 x7 x8):QfT x0 x6 x7 x8=Qa2 QfT x0 x6 x7 x8:=lnT (x:=Qa2 (fun x0 x6 x7 x8=>some (.normal,QzD x0 x6 x7 x8)) x0 x6 x7 x8) (by simp only [Qa2,nxA];rfl)
def r_f92 (p0:ByteArray):OV:=br (YB p0) (br (UZ (Q4 p0) (Qb (Q4 p0)) (0:Int)&&Ws (Q4 p0) (Q4 p0)) (br (!(((Q4 p0).drop (0:Int).toNat).all Y5)) (some (.t .bool (false),[])) (br (ige (Zm (p0)) 1) (some (.t .bool (ile (Zm (p0)) 32),[])) (some (.t .bool false,[])))) none) none
theorem QQr (x0:ByteArray)(x6:List Int)(x7 x8:Int)(h:(UZ x6 x7 x8&&Ws x6 (Q4 x0))=true):QfT x0 x6 x7 x8=QfU x0 x6 x7 x8:=by
 simp only [Bd] at h
 obtain ⟨h,hs⟩:=h
 have hs:=Qsl hs
 obtain ⟨rfl,h3,k,rfl,hk⟩:=QDc h
 clear h
 refine QP x6 (fun k=>QfT x0 x6 (x6.length:Int) (k:Int)=QfU x0 x6 (x6.length:Int) (k:Int)) ?_ ?_ k hk
 ·rw [QzE]
  simp [Qa2,QfU,Qv,Qh]
 ·intro k hk ih
  rw [QzE]
  have hw:IY x6[k] (ByteArray.mk #[45,95,46])=Y5 x6[k]:=QQp (s:=x0) (by rw [<-hs];exact BC hk)
  simp only [Qa2,Qv,QM,hk,Bu,Qd,Bb,Qg3 (show k<9223372036854775807 by omega),QN (y:= .int .u8) hk,ih,hw]
  simp only [QfU,Bb,Bg hk,B2]
  cases Y5 x6[k]<;>rfl
theorem QQs:LO Qn8 Qn6 QzC 0:=QC (s:=QfS) fun x y h _ q=>by simp only [QA,QB] at q;exact (QQr x.1 x.2.1 x.2.2.1 x.2.2.2.1 h).trans q
theorem s_f92 (s)(h:Jc s=true):r_f92 s=some (.t .bool (WK s),[]):=by
 simp only [Jc,Ba] at h
 have hl:=EH s
 simp only [r_f92,show YB s=true from Bc (by omega),QDd (show (Q4 s).length<=9223372036854775807 by omega),Qsk,B1,Qd,Bt,Bx,WK]
 cases (Q4 s).all Y5 with
 |false=>rfl
 |true=>
  simp only [BA,Qh,By]
  refine Q1 (fun g=> ?_) (fun g=> ?_)
  ·simp only [ige,Zm,Ba] at g
   apply Fo
   rw [Dq]
   simp only [ile,Zm,Ba]
   omega
  ·simp only [ige,Zm,Bo] at g
   apply Fo
   rw [eq_comm,Bo]
   omega
def QzF:Ent:=Qm (.pr .str .nil) (fun x=>(Jc x.1)) (fun x=>(.t .bool (WK x.1)))
theorem ms_f92:EM 92 QzF:=mS (lk:=lkL (lkc QQs lkn)) Qn8 QzB [((.t 2),some .bool)] false (gB (gD QQn (gC Qfo Qfp gN))) fun m=>Qq m fun x hok=>kT (s_f92 x.1 hok)
abbrev QfV:Sh:=⟨[(0,.ty .str),(3,.ty tI)],[]⟩
abbrev IZ:Sh:=⟨[],[]⟩
def Qn9:Fg:=QfV.f
def QzG:TC:=aF Tryz.f114 [(58,pL 0 Qn9),(931,.fg IZ.f),(14925,.fg Qa1.f)]
def QzH:TC:=lb 0 QzG
def QzI (x0:ByteArray)(x3:Int):VS:=QfV.st (x0,x3,()) ()
def Qoa  : VS:=IZ.st () ()
def QQt:VS->Option (Bool×List (Bool×Exit×VS)):=mkL QfV (fun x y=>(Jc x.1&&decide (0<=x.2.1/\x.2.1<=x.1.size))) (fun x y=>[((!(((Q4 x.1).drop x.2.1.toNat).all Y5)),.ret,Wf (false)),(true,.exit 0,Qoa)])
def Qob:G:=gG 56 [] (Ls [QQt])
def QfW (x0:ByteArray)(x3:Int):OX:=Qu (Qx Qob Qn9 QzH) (QzI x0 x3)
def QfX (kk:ByteArray->Int->OX)(x0:ByteArray)(x3:Int):OX:=
 let a1:=Qi .i64 x3 1
 br (ine (sgt x0 x3) 45) (br (ine (sgt x0 x3) 95) (br (ine (sgt x0 x3) 46) (some (.ret,Wf false)) (kk x0 a1)) (kk x0 a1)) (kk x0 a1)
def QfY (kk:ByteArray->Int->OX)(x0:ByteArray)(x3:Int):OX:=br (ilt (sgt x0 x3) 48) (QfX kk x0 x3) (br (igt (sgt x0 x3) 57) (QfX kk x0 x3) (kk x0 (Qi .i64 x3 1)))
def QfZ (kk:ByteArray->Int->OX)(x0:ByteArray)(x3:Int):OX:=br (ilt (sgt x0 x3) 65) (QfY kk x0 x3) (br (igt (sgt x0 x3) 90) (QfY kk x0 x3) (kk x0 (Qi .i64 x3 1)))
def Qa3 (kk:ByteArray->Int->OX)(x0:ByteArray)(x3:Int):OX:=br (ilt x3 (Zm x0)) (br (cSx x0 x3) (br (ilt (sgt x0 x3) 97) (QfZ kk x0 x3) (br (igt (sgt x0 x3) 122) (QfZ kk x0 x3) (kk x0 (Qi .i64 x3 1)))) none) (some (.exit 0,Qoa))
def Qf0 (x0:ByteArray)(x3:Int):OX:=br (!(((Q4 x0).drop x3.toNat).all Y5)) (some (.ret,Wf (false)))<|some (.exit 0,Qoa)
theorem QzJ (x0 x3):QfW x0 x3=Qa3 QfW x0 x3:=lnT (x:=Qa3 (fun x0 x3=>some (.normal,QzI x0 x3)) x0 x3) (by simp only [Qa3,QfZ,QfY,QfX,nxA];rfl)
def QzK (p0:ByteArray):OV:=br (ilt (Zm p0) 1) (some (.t .bool false,[])) (br (igt (Zm p0) 32) (some (.t .bool false,[])) (br (Jc p0&&decide (0<=(0:Int)/\(0:Int)<=p0.size)) (br (!(((Q4 p0).drop (0:Int).toNat).all Y5)) (some (.t .bool (false),[])) (some (.t .bool true,[]))) none))
theorem QQu {M:Type}(c:Int)(bad ok:Option M):(br (ilt c 97) (br (ilt c 65) (br (ilt c 48) (br (ine c 45) (br (ine c 95) (br (ine c 46) bad ok) ok) ok) (br (igt c 57) (br (ine c 45) (br (ine c 95) (br (ine c 46) bad ok) ok) ok) ok)) (br (igt c 90) (br (ilt c 48) (br (ine c 45) (br (ine c 95) (br (ine c 46) bad ok) ok) ok) (br (igt c 57) (br (ine c 45) (br (ine c 95) (br (ine c 46) bad ok) ok) ok) ok)) ok)) (br (igt c 122) (br (ilt c 65) (br (ilt c 48) (br (ine c 45) (br (ine c 95) (br (ine c 46) bad ok) ok) ok) (br (igt c 57) (br (ine c 45) (br (ine c 95) (br (ine c 46) bad ok) ok) ok) ok)) (br (igt c 90) (br (ilt c 48) (br (ine c 45) (br (ine c 95) (br (ine c 46) bad ok) ok) ok) (br (igt c 57) (br (ine c 45) (br (ine c 95) (br (ine c 46) bad ok) ok) ok) ok)) ok)) ok))=br (Y5 c) ok bad:=by
 simp only [Y5,Vi]
 cases ilt c 97<;>cases igt c 122<;>cases ilt c 65<;>cases igt c 90<;>cases ilt c 48<;>cases igt c 57<;>cases ieq c 45<;>cases ieq c 95<;>cases ieq c 46<;>rfl
theorem QQv (x0:ByteArray)(x3:Int)(h:(Jc x0&&decide (0<=x3/\x3<=x0.size))=true):QfW x0 x3=Qf0 x0 x3:=by
 simp only [Jc,Bd,Ba] at h
 obtain ⟨h0,h1,h2⟩:=h
 obtain ⟨k,rfl⟩:=Bm h1
 have hl:=EH x0
 refine QP (Q4 x0) (fun k=>QfW x0 (k:Int)=Qf0 x0 (k:Int)) ?_ ?_ k (by omega)
 ·rw [QzJ]
  simp [Qa3,Qf0,ilt,Zm,hl,Qh,D4 (show (Q4 x0).length<=x0.size by omega)]
 ·intro k hk ih
  have hk2:k<x0.size:=by omega
  rw [QzJ]
  simp only [Qa3,QfZ,QfY,QfX,show ilt (k:Int) (Zm x0)=true from by simp only [ilt,Zm,Ba];omega,show cSx x0 (k:Int)=true from by simp only [cSx,Ba];omega,Qd,QDk hk2,Qg3 (show k<9223372036854775807 by omega),ih,QQu]
  simp only [Qf0,Bb,Bg hk,B2]
  cases Y5 (Q4 x0)[k]<;>rfl
theorem QQw:LO Qob Qn9 QzH 0:=QC (s:=QfV) fun x y h _ q=>by simp only [QA,QB] at q;exact (QQv x.1 x.2.1 h).trans q
theorem s_f114 (s)(h:Jc s=true):QzK s=some (.t .bool (WK s),[]):=by
 simp only [QzK]
 unfold WK
 refine Q1 (fun g=> ?_) (fun g=>Q1 (fun g2=> ?_) (fun g2=> ?_))
 ·simp only [ilt,Zm,Ba] at g
  rw [Bn (show ¬ (1<=s.size/\s.size<=32) by omega),D2]
 ·simp only [igt,Zm,Ba] at g2
  rw [Bn (show ¬ (1<=s.size/\s.size<=32) by omega),D2]
 ·simp only [ilt,igt,Zm,Bo] at g g2
  rw [h,Bc (show (0:Int)<=0/\(0:Int)<=s.size by omega),Bc (show 1<=s.size/\s.size<=32 by omega),Db,Db,Qd,Bt,Bx]
  cases (Q4 s).all Y5<;>rfl
def QzL:Ent:=Qm (.pr .str .nil) (fun x=>(Jc x.1)) (fun x=>(.t .bool (WK x.1)))
theorem QQx:EM 114 QzL:=mS (lk:=lkL (lkc QQw lkn)) Qob QzG [((.t 2),some .bool)] false (gB gN) fun m=>Qq m fun x hok=>kT (s_f114 x.1 hok)
def Zu {α:Type}(l:List α):Bool:=decide (l.length<=100000)
def Y6 (l:List Int)(k:Nat):Bool:=(List.range' k (l.length-k)).all fun j=>decide (j=0)||ilt (l.getD (j-1) 0) (l.getD j 0)
def Uc (l:List Int):Bool:=Y6 l 0
theorem Qoc (l:List Int):Y6 l l.length=true:=by
 unfold Y6
 rw [D0]
 rfl
theorem Qod {l:List Int}{k:Nat}(hk:k<l.length):Y6 l k=((decide (k=0)||ilt (l.getD (k-1) 0) l[k])&&Y6 l (k+1)):=by
 have:l.length-k=(l.length-(k+1))+1:=by omega
 unfold Y6
 rw [this,Dr,B2]
 simp only [Bp,Bl hk,BU]
theorem Qoe {M:Type}{l:List Int}{k:Nat}(hk:k<l.length)(hb:k<4611686018427387904)(bad ok:Option M):
  br (igt (k:Int) 0) (br (cIx l (QQ .i64 (k:Int) 1)) (br (ige (lgt tI l (Int.toNat (QQ .i64 (k:Int) 1))) l[k]) bad ok) none) ok=br (decide (k=0)||ilt (l.getD (k-1) 0) l[k]) ok bad:=by
 by_cases h0:k=0
 ·subst h0
  rw [show igt ((0:Nat):Int) 0=false from rfl,Qh,Bc rfl,Bool.true_or,Qd]
 ·have e:QQ .i64 (k:Int) 1=((k-1:Nat):Int):=by rw [Zv (by omega)];omega
  rw [show igt (k:Int) 0=true from Bc (by omega),Qd,e,Bb,QM,Bc (show k-1<l.length by omega),Qd,Bn h0,De,Qje]
  show br (!ilt (l.getD (k-1) 0) l[k]) bad ok=_
  cases ilt (l.getD (k-1) 0) l[k]<;>rfl
abbrev Qf1:Sh:=⟨[(0,.ty (.sl tI)),(5,.ty tI),(6,.ty tI)],[]⟩
def Qof:Fg:=Qf1.f
def QzM:TC:=aF Tryz.f94 [(26,pL 0 Qof),(421,.fg IZ.f),(3378,pE [[],[],[],[],[],[],[],[],[],[],[],[],[],[]] (oN 14)),(13517,.fg Qa1.f)]
def QzN:TC:=lb 0 QzM
def QzO (x0:List Int)(x5 x6:Int):VS:=Qf1.st (x0,x5,x6,()) ()
def Qog  : VS:=IZ.st () ()
def QQy:VS->Option (Bool×List (Bool×Exit×VS)):=mkL Qf1 (fun x y=>(Qw x.1 x.2.1 x.2.2.1)) (fun x y=>[((!Y6 x.1 x.2.2.1.toNat),.ret,Wf (false)),(true,.exit 0,Qog)])
def Qoh:G:=gG 24 [] (Ls [QQy])
def Qf2 (x0:List Int)(x5 x6:Int):OX:=Qu (Qx Qoh Qof QzN) (QzO x0 x5 x6)
def Qa4 (kk:List Int->Int->Int->OX)(x0:List Int)(x5 x6:Int):OX:=br (ilt x6 x5) (br (igt x6 0) (br (cIx x0 (QQ .i64 x6 1)) (br (cIx x0 x6) (br (ige (lgt tI x0 (Int.toNat (QQ .i64 x6 1))) (lgt tI x0 (Int.toNat x6))) (some (.ret,Wf false)) (kk x0 x5 (Qi .i64 x6 1))) none) none) (kk x0 x5 (Qi .i64 x6 1))) (some (.exit 0,Qog))
def Qf3 (x0:List Int)(x5 x6:Int):OX:=br (!Y6 x0 x6.toNat) (some (.ret,Wf (false)))<|some (.exit 0,Qog)
theorem QzP (x0 x5 x6):Qf2 x0 x5 x6=Qa4 Qf2 x0 x5 x6:=lnT (x:=Qa4 (fun x0 x5 x6=>some (.normal,QzO x0 x5 x6)) x0 x5 x6) (by simp only [Qa4,nxA];rfl)
def r_f94 (p0:List Int):OV:=br (Qw p0 (Qb p0) (0:Int)) (br (!Y6 p0 (0:Int).toNat) (some (.t .bool (false),[])) (some (.t .bool true,[]))) none
theorem QQz (x0:List Int)(x5 x6:Int)(h:(Qw x0 x5 x6)=true):Qf2 x0 x5 x6=Qf3 x0 x5 x6:=by
 obtain ⟨rfl,h3,k,rfl,hk⟩:=Jv h
 clear h
 refine QP x0 (fun k=>Qf2 x0 (x0.length:Int) (k:Int)=Qf3 x0 (x0.length:Int) (k:Int)) ?_ ?_ k hk
 ·rw [QzP]
  simp only [Qa4,Qf3,Qv,BK,BP,Qh,Bb,Qoc,BA]
 ·intro k hk ih
  rw [QzP]
  simp only [Qa4,Qv,QM,hk,Bu,Qd,Bb,QO (k:=k),QN (y:=tI) hk,ih,Qoe hk (show k<4611686018427387904 by omega)]
  simp only [Qf3,Bb,Qod hk]
  cases decide (k=0)||ilt (x0.getD (k-1) 0) x0[k]<;>rfl
theorem QQA:LO Qoh Qof QzN 0:=QC (s:=Qf1) fun x y h _ q=>by simp only [QA,QB] at q;exact (QQz x.1 x.2.1 x.2.2.1 h).trans q
theorem s_f94 (l)(h:Zu l=true):r_f94 l=some (.t .bool (Uc l),[]):=by
 simp only [Zu,Ba] at h
 simp only [r_f94,Jw h,Qd,Bt]
 unfold Uc
 cases Y6 l 0<;>rfl
def QzQ:Ent:=Qm (.pr (.sl tI) .nil) (fun x=>(Zu x.1)) (fun x=>(.t .bool (Uc x.1)))
theorem ms_f94:EM 94 QzQ:=mS (lk:=lkL (lkc QQA lkn)) Qoh QzM [((.t 2),some .bool)] false (gB gN) fun m=>Qq m fun x hok=>kT (s_f94 x.1 hok)
def UL (a:Int):Bool:=ieq (Y2 a) 1
def QQB:TC:=aF Tryz.f100 []
def g_f100:G:=gG 6 [(139,Qed)] (fun _ _=>none)
def r_f100 (p0:Int):OV:=some (.t .bool (ieq (Y2 p0) 1),[])
theorem s_f100 (a):r_f100 a=some (.t .bool (UL a),[]):=rfl
def QzR:Ent:=Qm (.pr tI .nil) (fun x=>true) (fun x=>(.t .bool (UL x.1)))
theorem QQC:EM 100 QzR:=mS g_f100 QQB [((.t 2),some .bool)] false (gB (gD Qmf gN)) fun m=>Qq m fun x _=>kT (s_f100 x.1)
def XL (l:List Int)(k:Nat):Bool:=(List.range' k (l.length-k)).all fun j=>ieq (QS (l.getD j 0)).2 0&& !Ju (l.take j) (l.getD j 0)
def YO (l:List Int):Bool:=XL l 0
theorem QzS (l:List Int):XL l l.length=true:=by
 unfold XL
 rw [D0]
 rfl
theorem QzT {l:List Int}{k:Nat}(hk:k<l.length):XL l k=((ieq (QS l[k]).2 0&& !Ju (l.take k) l[k])&&XL l (k+1)):=by
 have:l.length-k=(l.length-(k+1))+1:=by omega
 unfold XL
 rw [this,Dr,B2]
 simp only [Bp,Bl hk,BU]
theorem QzU (l:List Int)(k:Nat):lsl l 0 (k:Int)=l.take k:=by
 simp [lsl]
theorem QzV {l:List Int}{k:Nat}(hk:k<=l.length):cSl l 0 (k:Int) ((List.length l:Nat):Int)=true:=by
 simp only [cSl,Ba]
 omega
abbrev Qf4:Sh:=⟨[(0,.ty (.sl tI)),(7,.ty (.sl tI)),(8,.ty tI),(9,.ty tI)],[]⟩
def Qoi:Fg:=Qf4.f
def QzW:TC:=aF Tryz.f93 [(26,pL 0 Qoi),(421,.fg IZ.f),(27037,.fg Qa1.f)]
def QzX:TC:=lb 0 QzW
def QzY (x0 x7:List Int)(x8 x9:Int):VS:=Qf4.st (x0,x7,x8,x9,()) ()
def Qoj  : VS:=IZ.st () ()
def QQD:VS->Option (Bool×List (Bool×Exit×VS)):=mkL Qf4 (fun x y=>(Qw x.2.1 x.2.2.1 x.2.2.2.1&&Ws x.1 x.2.1)) (fun x y=>[((!XL x.2.1 x.2.2.2.1.toNat),.ret,Wf (false)),(true,.exit 0,Qoj)])
def Qok:G:=gG 29 [(137,V8),(138,Vt)] (Ls [QQD])
def Qf5 (x0 x7:List Int)(x8 x9:Int):OX:=Qu (Qx Qok Qoi QzX) (QzY x0 x7 x8 x9)
def Qa5 (kk:List Int->List Int->Int->Int->OX)(x0 x7:List Int)(x8 x9:Int):OX:=
 let a1:=lgt tI x7 (Int.toNat x9)
 br (ilt x9 x8) (br (cIx x7 x9) (br (ine ((QS a1).2) 0) (some (.ret,Wf false)) (br (cSl x0 0 x9 ((List.length x0:Nat):Int)) (br (Jm (lsl x0 0 x9) a1) (br (Ju (lsl x0 0 x9) a1) (some (.ret,Wf false)) (kk x0 x7 x8 (Qi .i64 x9 1))) none) none)) none) (some (.exit 0,Qoj))
def Qf6 (x0 x7:List Int)(x8 x9:Int):OX:=br (!XL x7 x9.toNat) (some (.ret,Wf (false)))<|some (.exit 0,Qoj)
theorem QzZ (x0 x7 x8 x9):Qf5 x0 x7 x8 x9=Qa5 Qf5 x0 x7 x8 x9:=lnT (x:=Qa5 (fun x0 x7 x8 x9=>some (.normal,QzY x0 x7 x8 x9)) x0 x7 x8 x9) (by simp only [Qa5,nxA];rfl)
def r_f93 (p0:List Int):OV:=br (Qw p0 (Qb p0) (0:Int)&&Ws p0 p0) (br (!XL p0 (0:Int).toNat) (some (.t .bool (false),[])) (some (.t .bool true,[]))) none
theorem QQE (x0 x7:List Int)(x8 x9:Int)(h:(Qw x7 x8 x9&&Ws x0 x7)=true):Qf5 x0 x7 x8 x9=Qf6 x0 x7 x8 x9:=by
 simp only [Bd] at h
 obtain ⟨h0,hs⟩:=h
 have hs:=Qsl hs
 subst hs
 obtain ⟨rfl,h3,k,rfl,hk⟩:=Jv h0
 clear h0
 refine QP x0 (fun k=>Qf5 x0 x0 (x0.length:Int) (k:Int)=Qf6 x0 x0 (x0.length:Int) (k:Int)) ?_ ?_ k hk
 ·rw [QzZ]
  simp only [Qa5,Qf6,Qv,BK,BP,Qh,Bb,QzS,BA]
 ·intro k hk ih
  rw [QzZ]
  have hi:Jm (x0.take k) x0[k]=true:=Bc (by rw [B9];omega)
  simp only [Qa5,Qv,QM,hk,Bu,Qd,Bb,QO (k:=k),QN (y:=tI) hk,ih,QzU,QzV (show k<=x0.length by omega),hi,Vi]
  simp only [Qf6,Bb,QzT hk]
  cases ieq (QS x0[k]).2 0<;>cases Ju (x0.take k) x0[k]<;>rfl
theorem QQF:LO Qok Qoi QzX 0:=QC (s:=Qf4) fun x y h _ q=>by simp only [QA,QB] at q;exact (QQE x.1 x.2.1 x.2.2.1 x.2.2.2.1 h).trans q
theorem s_f93 (l)(h:Zu l=true):r_f93 l=some (.t .bool (YO l),[]):=by
 simp only [Zu,Ba] at h
 simp only [r_f93,Jw h,Qsk,B1,Qd,Bt]
 unfold YO
 cases XL l 0<;>rfl
def Qz0:Ent:=Qm (.pr (.sl tI) .nil) (fun x=>(Zu x.1)) (fun x=>(.t .bool (YO x.1)))
theorem ms_f93:EM 93 Qz0:=mS (lk:=lkL (lkc QQF lkn)) Qok QzW [((.t 2),some .bool)] false (gB (gD Qek (gD Qj2 gN))) fun m=>Qq m fun x hok=>kT (s_f93 x.1 hok)
def Wg (n:Int):Bool:= !Zr n
def QQG:TC:=aF Tryz.f97 []
def QQH:G:=gG 8 [(99,QcG)] (fun _ _=>none)
def Qz1 (p0:Int):OV:=some (.t .bool (!(Zr p0)),[.box (.c (.func (.func 99) #[] #[]))])
theorem QQI (n:Int):Qz1 n=some (.t .bool (Wg n),[.box (.c (.func (.func 99) #[] #[]))]):=by
 simp only [Qz1]
 rfl
def Qz2:Ent:=Wl [.ty tI,.ptr 50000 0] [.bc 99] (fun x y=>true) (fun x y=>(.t .bool (Wg x.1))) (fun x y=>[.box (.c (.func (.func 99) #[] #[]))])
theorem QQJ:EM 97 Qz2:=mS QQH QQG [((.t 3),some .bool)] false (gB (gD Qjf gN)) fun m=>WP (Y8 m fun x y _=>kT (QQI x.1))
def I0 (l:List Int):Int:=match QG Wg l with|some k=>(k:Int)|none=> -1
abbrev Qf7:Sh:=⟨[(0,.ty (.sl tI)),(1,.fn 97 [(50000,0)]),(7,.ty tI),(8,.ty tI)],[(50000,.bc 99)]⟩
abbrev Qz3:Sh:=⟨[(4,.ty tI)],[(50000,.bc 99)]⟩
abbrev Qz4:Sh:=⟨[],[(50000,.bc 99)]⟩
def Qol:Fg:=Qf7.f
def Qz5:TC:=aF Tryz.f141 [(26,pL 0 Qol),(421,.fg Qz4.f),(13517,.fg Qz3.f)]
def Qz6:TC:=lb 0 Qz5
def Qz7 (x0:List Int)(x7 x8:Int):VS:=Qf7.st (x0,(),x7,x8,()) ((),())
def Qom (x4:Int):VS:=Qz3.st (x4,()) ((),())
def Qon  : VS:=Qz4.st () ((),())
def QQK:VS->Option (Bool×List (Bool×Exit×VS)):=mkL Qf7 (fun x y=>(Qw x.1 x.2.2.1 x.2.2.2.1)) (fun x y=>[(((QG Wg (x.1.drop x.2.2.2.1.toNat)).isSome),.ret,Qom (x.2.2.2.1+((QG Wg (x.1.drop x.2.2.2.1.toNat)).getD 0:Nat))),(true,.exit 0,Qon)])
def Qoo:G:=gG 19 [(97,Qz2)] (Ls [QQK])
def Qf8 (x0:List Int)(x7 x8:Int):OX:=Qu (Qx Qoo Qol Qz6) (Qz7 x0 x7 x8)
def Qa6 (kk:List Int->Int->Int->OX)(x0:List Int)(x7 x8:Int):OX:=br (ilt x8 x7) (br (cIx x0 x8) (br (Wg (lgt tI x0 (Int.toNat x8))) (some (.ret,Qom x8)) (kk x0 x7 (Qi .i64 x8 1))) none) (some (.exit 0,Qon))
def Qf9 (x0:List Int)(x7 x8:Int):OX:=
 let a1:=QG Wg (x0.drop x8.toNat)
 br (a1.isSome) (some (.ret,Qom (x8+(a1.getD 0:Nat))))<|some (.exit 0,Qon)
theorem Qz8 (x0 x7 x8):Qf8 x0 x7 x8=Qa6 Qf8 x0 x7 x8:=lnT (x:=Qa6 (fun x0 x7 x8=>some (.normal,Qz7 x0 x7 x8)) x0 x7 x8) (by simp only [Qa6,nxA];rfl)
def Qz9 (p0:List Int):OV:=
 let a1:=(QG Wg (p0.drop (0:Int).toNat))
 br (Qw p0 (Qb p0) (0:Int)) (br (a1.isSome) (some (.t tI ((0:Int)+(a1.getD 0:Nat)),[.box (.c (.func (.func 99) #[] #[]))])) (some (.t tI (-1),[.box (.c (.func (.func 99) #[] #[]))]))) none
theorem QQL (x0:List Int)(x7 x8:Int)(h:(Qw x0 x7 x8)=true):Qf8 x0 x7 x8=Qf9 x0 x7 x8:=by
 obtain ⟨rfl,h3,k,rfl,hk⟩:=Jv h
 clear h
 refine QP x0 (fun k=>Qf8 x0 (x0.length:Int) (k:Int)=Qf9 x0 (x0.length:Int) (k:Int)) ?_ ?_ k hk
 ·rw [Qz8]
  simp [Qa6,Qf9,Qv,Qh,QG]
 ·intro k hk ih
  rw [Qz8]
  simp only [Qa6,Qv,QM,hk,Bu,Qd,Bb,QO (k:=k),ih,QN (y:=tI) hk]
  simp only [Qf9,Bb,Bg hk,QG]
  cases h:Wg x0[k] with
  |true=>simp [Qd]
  |false=>
   simp only [Qh,BE,Dc]
   cases hq:QG Wg (x0.drop (k+1)) with
   |none=>rfl
   |some j=>
    simp only [B4,Da,BU,Qd]
    congr 3
    omega
theorem QQM:LO Qoo Qol Qz6 0:=QC (s:=Qf7) fun x y h _ q=>by simp only [QA,QB] at q;exact (QQL x.1 x.2.2.1 x.2.2.2.1 h).trans q
theorem QQN (l:List Int)(h:Zu l=true):Qz9 l=some (.t tI (I0 l),[.box (.c (.func (.func 99) #[] #[]))]):=by
 simp only [Zu,Ba] at h
 simp only [Qz9,Jw h,Qd,Bt,Bx,I0]
 cases QG Wg l<;>simp [Qd,Qh]
def QAa:Ent:=Wl [.ty (.sl tI),.fn 97 [(50000,0)]] [.bc 99] (fun x y=>(Zu x.1)) (fun x y=>(.t tI (I0 x.1))) (fun x y=>[.box (.c (.func (.func 99) #[] #[]))])
theorem QQO:EM 141 QAa:=mS (lk:=lkL (lkc QQM lkn)) Qoo Qz5 [((.t 4),some tI)] false (gB (gD QQJ gN)) fun m=>WP (Y8 m fun x y hok=>kT (QQN x.1 hok))
def Ej (l:List Int):Bool:= !l.all Zr
def QQP:TC:=aF Tryz.f98 []
def QQQ:G:=gG 9 [(141,QAa)] (fun _ _=>none)
def QAb (p0:List Int):OV:=br (Zu p0) (some (.t .bool (ige (I0 p0) 0),[.box (.c (.func (.func 99) #[] #[]))])) none
theorem QQR (l:List Int)(h:Zu l=true):QAb l=some (.t .bool (Ej l),[.box (.c (.func (.func 99) #[] #[]))]):=by
 simp only [QAb,h,Qd]
 have e:ige (I0 l) 0=Ej l:=by
  have e2:Ej l=l.any Wg:=by
   unfold Ej
   rw [List.not_all_eq_any_not]
   rfl
  rw [e2]
  unfold I0
  cases hq:QG Wg l with
  |none=>rw [OB.1 hq];rfl
  |some k=>
   rw [<-QbJ,hq]
   simp only [ige,Da,Ba]
   omega
 rw [e]
def QAc:Ent:=Wl [.ty (.sl tI),.fn 97 [(50000,0)]] [.bc 99] (fun x y=>(Zu x.1)) (fun x y=>(.t .bool (Ej x.1))) (fun x y=>[.box (.c (.func (.func 99) #[] #[]))])
theorem QQS:EM 98 QAc:=mS QQQ QQP [((.t 4),some .bool)] false (gB (gD QQO gN)) fun m=>WP (Y8 m fun x y hok=>kT (QQR x.1 hok))
def QAd:TC:=aF Tryz.f96 []
def QAe:List (RV×Option Ty):=[((.t 2),none)]
def QAf:G:=gG 4 [] (fun _ _=>none)
def QAg  : OV:=some (.fn 97 [(.ptr 50000 0)],[.box (.c (.func (.func 99) #[] #[]))])
theorem QQT  : JL QAf QAd QAe true [.c (.func (.func 99) ⟨[]⟩ ⟨[]⟩)] []=QAg  :=by kernel_rfl
theorem QQU:QAg=some (.fn 97 [.ptr 50000 0],[.box (.c (.func (.func 99) #[] #[]))]):=rfl
def QAh:Ent:=Wl [.cf 99] [] (fun x y=>true) (fun x y=>(.fn 97 [(.ptr 50000 0)])) (fun x y=>[.box (.c (.func (.func 99) #[] #[]))])
theorem QQV:EM 96 QAh:=mS QAf QAd QAe true (gB gN) fun m=>WP (Y8 m fun x y _=>(QQT ).trans (QQU ))
def Wh (n:Int):Bool:= !UL n
def QQW:TC:=aF Tryz.f97 []
def QQX:G:=gG 8 [(100,QzR)] (fun _ _=>none)
def QAi (p0:Int):OV:=some (.t .bool (!(UL p0)),[.box (.c (.func (.func 100) #[] #[]))])
theorem QQY (n:Int):QAi n=some (.t .bool (Wh n),[.box (.c (.func (.func 100) #[] #[]))]):=by
 simp only [QAi]
 rfl
def QAj:Ent:=Wl [.ty tI,.ptr 50000 0] [.bc 100] (fun x y=>true) (fun x y=>(.t .bool (Wh x.1))) (fun x y=>[.box (.c (.func (.func 100) #[] #[]))])
theorem QQZ:EM 97 QAj:=mS QQX QQW [((.t 3),some .bool)] false (gB (gD QQC gN)) fun m=>WP (Y8 m fun x y _=>kT (QQY x.1))
def I1 (l:List Int):Int:=match QG Wh l with|some k=>(k:Int)|none=> -1
abbrev Qga:Sh:=⟨[(0,.ty (.sl tI)),(1,.fn 97 [(50000,0)]),(7,.ty tI),(8,.ty tI)],[(50000,.bc 100)]⟩
abbrev QAk:Sh:=⟨[(4,.ty tI)],[(50000,.bc 100)]⟩
abbrev QAl:Sh:=⟨[],[(50000,.bc 100)]⟩
def Qop:Fg:=Qga.f
def QAm:TC:=aF Tryz.f141 [(26,pL 0 Qop),(421,.fg QAl.f),(13517,.fg QAk.f)]
def QAn:TC:=lb 0 QAm
def QAo (x0:List Int)(x7 x8:Int):VS:=Qga.st (x0,(),x7,x8,()) ((),())
def Qoq (x4:Int):VS:=QAk.st (x4,()) ((),())
def Qor  : VS:=QAl.st () ((),())
def QQ0:VS->Option (Bool×List (Bool×Exit×VS)):=mkL Qga (fun x y=>(Qw x.1 x.2.2.1 x.2.2.2.1)) (fun x y=>[(((QG Wh (x.1.drop x.2.2.2.1.toNat)).isSome),.ret,Qoq (x.2.2.2.1+((QG Wh (x.1.drop x.2.2.2.1.toNat)).getD 0:Nat))),(true,.exit 0,Qor)])
def Qos:G:=gG 19 [(97,QAj)] (Ls [QQ0])
def Qgb (x0:List Int)(x7 x8:Int):OX:=Qu (Qx Qos Qop QAn) (QAo x0 x7 x8)
def Qa7 (kk:List Int->Int->Int->OX)(x0:List Int)(x7 x8:Int):OX:=br (ilt x8 x7) (br (cIx x0 x8) (br (Wh (lgt tI x0 (Int.toNat x8))) (some (.ret,Qoq x8)) (kk x0 x7 (Qi .i64 x8 1))) none) (some (.exit 0,Qor))
def Qgc (x0:List Int)(x7 x8:Int):OX:=
 let a1:=QG Wh (x0.drop x8.toNat)
 br (a1.isSome) (some (.ret,Qoq (x8+(a1.getD 0:Nat))))<|some (.exit 0,Qor)
theorem QAp (x0 x7 x8):Qgb x0 x7 x8=Qa7 Qgb x0 x7 x8:=lnT (x:=Qa7 (fun x0 x7 x8=>some (.normal,QAo x0 x7 x8)) x0 x7 x8) (by simp only [Qa7,nxA];rfl)
def QAq (p0:List Int):OV:=
 let a1:=(QG Wh (p0.drop (0:Int).toNat))
 br (Qw p0 (Qb p0) (0:Int)) (br (a1.isSome) (some (.t tI ((0:Int)+(a1.getD 0:Nat)),[.box (.c (.func (.func 100) #[] #[]))])) (some (.t tI (-1),[.box (.c (.func (.func 100) #[] #[]))]))) none
theorem QQ1 (x0:List Int)(x7 x8:Int)(h:(Qw x0 x7 x8)=true):Qgb x0 x7 x8=Qgc x0 x7 x8:=by
 obtain ⟨rfl,h3,k,rfl,hk⟩:=Jv h
 clear h
 refine QP x0 (fun k=>Qgb x0 (x0.length:Int) (k:Int)=Qgc x0 (x0.length:Int) (k:Int)) ?_ ?_ k hk
 ·rw [QAp]
  simp [Qa7,Qgc,Qv,Qh,QG]
 ·intro k hk ih
  rw [QAp]
  simp only [Qa7,Qv,QM,hk,Bu,Qd,Bb,QO (k:=k),ih,QN (y:=tI) hk]
  simp only [Qgc,Bb,Bg hk,QG]
  cases h:Wh x0[k] with
  |true=>simp [Qd]
  |false=>
   simp only [Qh,BE,Dc]
   cases hq:QG Wh (x0.drop (k+1)) with
   |none=>rfl
   |some j=>
    simp only [B4,Da,BU,Qd]
    congr 3
    omega
theorem QQ2:LO Qos Qop QAn 0:=QC (s:=Qga) fun x y h _ q=>by simp only [QA,QB] at q;exact (QQ1 x.1 x.2.2.1 x.2.2.2.1 h).trans q
theorem QQ3 (l:List Int)(h:Zu l=true):QAq l=some (.t tI (I1 l),[.box (.c (.func (.func 100) #[] #[]))]):=by
 simp only [Zu,Ba] at h
 simp only [QAq,Jw h,Qd,Bt,Bx,I1]
 cases QG Wh l<;>simp [Qd,Qh]
def QAr:Ent:=Wl [.ty (.sl tI),.fn 97 [(50000,0)]] [.bc 100] (fun x y=>(Zu x.1)) (fun x y=>(.t tI (I1 x.1))) (fun x y=>[.box (.c (.func (.func 100) #[] #[]))])
theorem QQ4:EM 141 QAr:=mS (lk:=lkL (lkc QQ2 lkn)) Qos QAm [((.t 4),some tI)] false (gB (gD QQZ gN)) fun m=>WP (Y8 m fun x y hok=>kT (QQ3 x.1 hok))
def Ek (l:List Int):Bool:= !l.all UL
def QQ5:TC:=aF Tryz.f98 []
def QQ6:G:=gG 9 [(141,QAr)] (fun _ _=>none)
def QAs (p0:List Int):OV:=br (Zu p0) (some (.t .bool (ige (I1 p0) 0),[.box (.c (.func (.func 100) #[] #[]))])) none
theorem QQ7 (l:List Int)(h:Zu l=true):QAs l=some (.t .bool (Ek l),[.box (.c (.func (.func 100) #[] #[]))]):=by
 simp only [QAs,h,Qd]
 have e:ige (I1 l) 0=Ek l:=by
  have e2:Ek l=l.any Wh:=by
   unfold Ek
   rw [List.not_all_eq_any_not]
   rfl
  rw [e2]
  unfold I1
  cases hq:QG Wh l with
  |none=>rw [OB.1 hq];rfl
  |some k=>
   rw [<-QbJ,hq]
   simp only [ige,Da,Ba]
   omega
 rw [e]
def QAt:Ent:=Wl [.ty (.sl tI),.fn 97 [(50000,0)]] [.bc 100] (fun x y=>(Zu x.1)) (fun x y=>(.t .bool (Ek x.1))) (fun x y=>[.box (.c (.func (.func 100) #[] #[]))])
theorem QQ8:EM 98 QAt:=mS QQ6 QQ5 [((.t 4),some .bool)] false (gB (gD QQ4 gN)) fun m=>WP (Y8 m fun x y hok=>kT (QQ7 x.1 hok))
def QAu:TC:=aF Tryz.f96 []
def QAv:List (RV×Option Ty):=[((.t 2),none)]
def QAw:G:=gG 4 [] (fun _ _=>none)
def QAx  : OV:=some (.fn 97 [(.ptr 50000 0)],[.box (.c (.func (.func 100) #[] #[]))])
theorem QQ9  : JL QAw QAu QAv true [.c (.func (.func 100) ⟨[]⟩ ⟨[]⟩)] []=QAx  :=by kernel_rfl
theorem QRa:QAx=some (.fn 97 [.ptr 50000 0],[.box (.c (.func (.func 100) #[] #[]))]):=rfl
def QAy:Ent:=Wl [.cf 100] [] (fun x y=>true) (fun x y=>(.fn 97 [(.ptr 50000 0)])) (fun x y=>[.box (.c (.func (.func 100) #[] #[]))])
theorem QRb:EM 96 QAy:=mS QAw QAu QAv true (gB gN) fun m=>WP (Y8 m fun x y _=>(QQ9 ).trans (QRa ))
theorem QZt {c:Int}(h:ieq (QS c).2 0=true):1<=c/\c<=16:=by
 unfold QS at h
 split at h
 ·simp [ieq] at h
 ·omega
theorem QtQ {l:List Int}(h:YO l=true): ∀ (k:Nat) (hk:k<l.length),(1<=l[k]/\l[k]<=16)∧ ¬ l[k]∈l.take k:=by
 intro k hk
 simp only [YO,XL,Bi,List.mem_range'_1,Bd,BB] at h
 obtain ⟨h1,h2⟩:=h k ⟨by omega,by omega⟩
 simp only [Bp,Bl hk,BU] at h1 h2
 refine ⟨QZt h1,fun hm=> ?_⟩
 simp only [Ju] at h2
 rw [BR.2 hm] at h2
 cases h2
theorem QKe {l:List Int}(h:YO l=true):l.Nodup:=by
 have h2:=QtQ h
 rw [List.nodup_iff_pairwise_ne,List.pairwise_iff_getElem]
 intro i j hi hj hij he
 refine (h2 j hj).2 ?_
 rw [<-he]
 exact DZ.2 ⟨i,by rw [B9];omega,by rw [List.getElem_take]⟩
theorem QKf {l:List Int}(h:YO l=true):l.length<=16:=by
 have h1:=QKe h
 have h2:=QtQ h
 have h3:l ⊆ [1,2,3,4,5,6,7,8,9,10,11,12,13,14,15,16]:=by
  intro x hx
  obtain ⟨k,hk,rfl⟩:=DZ.1 hx
  have:=(h2 k hk).1
  simp only [BQ,B3,Dt]
  omega
 exact h1.length_le_of_subset h3
abbrev QI (e:Ac):List Int:=e.2.2.2.1
abbrev QF (e:Ac):List Aj:=e.2.2.2.2.2.1
abbrev Ji (e:Ac):List Int:=e.2.2.2.2.2.2.1
abbrev Jk (e:Ac):List Int:=e.2.2.2.2.2.2.2.1
def GZ (x:Aj):Bool:=Uk x.1 x.2.1 x.2.2.1
def Jn (x:Aj):Bool:=JN x.2.2.1
def QY (e:Ac):Bool:=Jc e.1&&decide ((QI e).length<=100000/\(QF e).length<=100000/\(Ji e).length<=100000/\(Jk e).length<=100000)&&(QF e).all Jn
def Jj (e:Ac):Bool:=
 WK e.1&&(!ilt e.2.1 1&&(!igt e.2.1 e.2.2.1&&(!igt e.2.2.1 4&&(YO (QI e)&&(!igt (Qb (QF e)) 4&&(!igt (Qb (Ji e)) 16&&(Uc (Ji e)&&(Uc (Jk e)&&((QF e).all GZ&&((Ji e).all Zr&&(Jk e).all UL))))))))))
def Zy (e:Ac):Int:=bif Jj e then 0 else 19
theorem QZu (e:Ac):ieq (Zy e) 0=Jj e:=by
 unfold Zy
 cases Jj e<;>rfl
theorem Qdb (e:Ac):ine (Zy e) 0= !Jj e:=by
 unfold Zy
 cases Jj e<;>rfl
abbrev Qko:Sh:=⟨[(1,.ptr 1 0),(56,.ty (.sl Q2)),(57,.ty tI),(58,.ty tI)],[(1,.box Qp)]⟩
abbrev Vz:Sh:=⟨[(2,.ty tI)],[]⟩
abbrev Qdc:Sh:=⟨[(1,.ptr 1 0)],[(1,.box Qp)]⟩
def QtR:Fg:=Qko.f
def QKg:TC:=aF Tryz.f60 [(122,pL 0 QtR),(1957,.fg Qdc.f),(62669,.fg Vz.f),(252,pE [[1],[1],[],[74,5074,10074,15074],[74,75,5074,5075,10074,10075,15074,15075],[],[1],[1],[],[80,5080,10080,15080],[80,81,5080,5081,10080,10081,15080,15081],[]] (oN 12))]
def QKh:TC:=lb 0 QKg
def QKi (x56:List Aj)(x57 x58:Int)(y1:Ac):VS:=Qko.st ((),x56,x57,x58,()) (y1,())
def Ys (x2:Int):VS:=Vz.st (x2,()) ()
def W5 (y1:Ac):VS:=Qdc.st ((),()) (y1,())
def QZv:VS->Option (Bool×List (Bool×Exit×VS)):=mkL Qko (fun x y=>(Qw x.2.1 x.2.2.1 x.2.2.2.1&&x.2.1.all Jn)) (fun x y=>[((!(x.2.1.drop x.2.2.2.1.toNat).all GZ),.ret,Ys (19)),(true,.exit 0,W5 (y.1))])
def QtS:G:=gG 83 [(92,QzF),(93,Qz0),(94,QzQ),(95,QDJ),(96,QAh),(96,QAy),(98,QAt),(98,QAc)] (Ls [QZv])
def Qkp (x56:List Aj)(x57 x58:Int)(y1:Ac):OX:=Qu (Qx QtS QtR QKh) (QKi x56 x57 x58 y1)
def Qdd (kk:List Aj->Int->Int->Ac->OX)(x56:List Aj)(x57 x58:Int)(y1:Ac):OX:=
 let a1:=lgt Q2 x56 (Int.toNat x58)
 br (ilt x58 x57) (br (cIx x56 x58) (br (Fv (a1.1) ((a1.2).1) (((a1.2).2).1)) (br (!(Uk (a1.1) ((a1.2).1) (((a1.2).2).1))) (some (.ret,Ys 19)) (kk x56 x57 (Qi .i64 x58 1) y1)) none) none) (some (.exit 0,W5 y1))
def Qkq (x56:List Aj)(x57 x58:Int)(y1:Ac):OX:=br (!(x56.drop x58.toNat).all GZ) (some (.ret,Ys (19)))<|some (.exit 0,W5 (y1))
theorem QKj (x56 x57 x58 y1):Qkp x56 x57 x58 y1=Qdd Qkp x56 x57 x58 y1:=lnT (x:=Qdd (fun x56 x57 x58 y1=>some (.normal,QKi x56 x57 x58 y1)) x56 x57 x58 y1) (by simp only [Qdd,nxA];rfl)
def r_f60 (p0:Ac):OV:=
 let a1:=(((((((p0).2).2).2).2).2).2)
 br (Jc p0.1) (br (!(WK p0.1)) (some (.t tI 19,[])) (br (ilt p0.2.1 1) (some (.t tI 19,[])) (br (igt p0.2.1 p0.2.2.1) (some (.t tI 19,[])) (br (igt p0.2.2.1 4) (some (.t tI 19,[])) (br (Zu p0.2.2.2.1) (br (!(YO p0.2.2.2.1)) (some (.t tI 19,[])) (br (igt (Qb p0.2.2.2.2.2.1) 4) (some (.t tI 19,[])) (br (igt (Qb p0.2.2.2.2.2.2.1) 16) (some (.t tI 19,[])) (br (Zu p0.2.2.2.2.2.2.1) (br (!(Uc p0.2.2.2.2.2.2.1)) (some (.t tI 19,[])) (br (Zu p0.2.2.2.2.2.2.2.1) (br (!(Uc p0.2.2.2.2.2.2.2.1)) (some (.t tI 19,[])) (br (Qw p0.2.2.2.2.2.1 (Qb p0.2.2.2.2.2.1) (0:Int)&&p0.2.2.2.2.2.1.all Jn) (br (!(p0.2.2.2.2.2.1.drop (0:Int).toNat).all GZ) (some (.t tI (19),[])) (br (Zu (a1.1)) (br (Ej (a1.1)) (some (.t tI 19,[])) (br (Zu ((a1.2).1)) (br (Ek ((a1.2).1)) (some (.t tI 19,[])) (some (.t tI 0,[]))) none)) none)) none)) none)) none)))) none))))) none
theorem QZw (x56:List Aj)(x57 x58:Int)(y1:Ac)(h:(Qw x56 x57 x58&&x56.all Jn)=true):Qkp x56 x57 x58 y1=Qkq x56 x57 x58 y1:=by
 simp only [Bd,Bi] at h
 obtain ⟨h0,hc⟩:=h
 obtain ⟨rfl,h3,k,rfl,hk⟩:=Jv h0
 clear h0
 refine QP x56 (fun k=>Qkp x56 (x56.length:Int) (k:Int) y1=Qkq x56 (x56.length:Int) (k:Int) y1) ?_ ?_ k hk
 ·rw [QKj]
  simp only [Qdd,Qkq,Qv,BK,BP,Qh,Bb,BF,DC,BA]
 ·intro k hk ih
  rw [QKj]
  have hx:Fv x56[k].1 x56[k].2.1 x56[k].2.2.1=true:=hc x56[k] (BC hk)
  simp only [Qdd,Qv,QM,hk,Bu,Qd,Bb,QO (k:=k),QN (y:=Q2) hk,hx,ih]
  simp only [Qkq,Bb,Bg hk,B2,GZ]
  cases Uk x56[k].1 x56[k].2.1 x56[k].2.2.1<;>rfl
theorem QZx:LO QtS QtR QKh 0:=QC (s:=Qko) fun x y h _ q=>by simp only [QA,QB] at q;exact (QZw x.2.1 x.2.2.1 x.2.2.2.1 y.1 h).trans q
theorem s_f60 (e)(h:QY e=true):r_f60 e=some (.t tI (Zy e),[]):=by
 simp only [QY,Bd,Ba] at h
 obtain ⟨⟨h1,h2,h3,h4,h5⟩,h6⟩:=h
 have q2:Zu (QI e)=true:=Bc h2
 have q4:Zu (Ji e)=true:=Bc h4
 have q5:Zu (Jk e)=true:=Bc h5
 unfold Zy
 simp only [r_f60,h1,q2,q4,q5,Jw h3,h6,B1,Qd,Bt,Bx,Ej,Ek]
 refine br9 (fun g=>by simp only [BB] at g;simp [Jj,g]) fun g1=>br9 (fun g=>by simp [Jj,g]) fun g2=>br9 (fun g=>by simp [Jj,g]) fun g3=>br9 (fun g=>by simp [Jj,g]) fun g4=>br9 (fun g=>by simp only [BB] at g;simp [Jj,g]) fun g5=>br9 (fun g=>by simp [Jj,g]) fun g6=>br9 (fun g=>by simp [Jj,g]) fun g7=>br9 (fun g=>by simp only [BB] at g;simp [Jj,g]) fun g8=>br9 (fun g=>by simp only [BB] at g;simp [Jj,g]) fun g9=>br9 (fun g=>by simp only [BB] at g;simp [Jj,g]) fun g10=>br9 (fun g=>by simp only [BB] at g;simp [Jj,g]) fun g11=>br9 (fun g=>by simp only [BB] at g;simp [Jj,g]) fun g12=> ?_
 simp only [Bool.not_eq_false'] at g1 g5 g8 g9 g10 g11 g12
 have:Jj e=true:=by
  simp only [Jj,g1,g2,g3,g4,g5,g6,g7,g8,g9,g10,g11,g12,Dy,B1]
 rw [this]
 rfl
def Qkr:Ent:=Qm (.pr Qp .nil) (fun x=>(QY x.1)) (fun x=>(.t tI (Zy x.1)))
theorem QtT:EM 60 Qkr:=mS (lk:=lkL (lkc QZx lkn)) QtS QKg [((.t 2),some tI)] false (gB (gD ms_f92 (gD ms_f93 (gD ms_f94 (gD ms_f95 (gD QQV (gD QRb (gD QQ8 (gD QQS gN))))))))) fun m=>Qq m fun x hok=>kT (s_f60 x.1 hok)
abbrev Qks:Sh:=⟨[(1,.ptr 1 0),(3,.ty tI)],[(1,.box Qp)]⟩
abbrev Qkt:Sh:=⟨[(1,.ptr 1 0),(6,.ty tI)],[(1,.box Qp)]⟩
abbrev Qku:Sh:=⟨[(1,.ptr 1 0),(7,.ty tI)],[(1,.box Qp)]⟩
abbrev Qkv:Sh:=⟨[(1,.ptr 1 0),(8,.ty tI)],[(1,.box Qp)]⟩
abbrev QKk:Sh:=⟨[],[]⟩
def QtU:Fg:=Qks.f
def QtV:Fg:=Qkt.f
def QtW:Fg:=Qku.f
def QtX:Fg:=Qkv.f
def Qde:TC:=aF Tryz.f71 [(58,pL 0 QtU),(931,.fg Qdc.f),(3730,pE [[],[],[],[1],[1],[],[],[1],[1],[],[],[],[],[]] (oN 14)),(14925,.fg Vz.f),(122,pL 1 QtV),(1955,.fg Qdc.f),(3912,pE [[1],[1],[],[],[],[],[1],[1],[],[],[],[],[1],[1],[],[],[],[],[],[]] (oN 20)),(15653,.fg Vz.f),(250,pL 2 QtW),(4003,.fg Qdc.f),(8008,pE [[1],[1],[],[],[],[],[],[1],[1],[],[],[],[],[],[],[],[],[],[1],[1],[],[],[],[],[1],[1],[],[],[],[],[],[]] (oN 32)),(32037,.fg Vz.f),(506,pL 3 QtX),(8099,.fg QKk.f),(16200,pE [[1],[1],[],[],[],[],[],[],[],[],[],[1],[1],[],[],[],[],[1],[1],[],[],[],[],[],[]] (oN 25)),(64805,.fg Vz.f)]
def QKl:TC:=lb 0 Qde
def QKm:TC:=lb 1 Qde
def QKn:TC:=lb 2 Qde
def QKo:TC:=lb 3 Qde
def QKp (x3:Int)(y1:Ac):VS:=Qks.st ((),x3,()) (y1,())
def QKq (x6:Int)(y1:Ac):VS:=Qkt.st ((),x6,()) (y1,())
def QKr (x7:Int)(y1:Ac):VS:=Qku.st ((),x7,()) (y1,())
def QKs (x8:Int)(y1:Ac):VS:=Qkv.st ((),x8,()) (y1,())
def QtY  : VS:=QKk.st () ()
def QZy:VS->Option (Bool×List (Bool×Exit×VS)):=mkL Qks (fun x y=>(decide (0<=x.2.1/\x.2.1<=(QI y.1).length/\(QI y.1).length<=100000))) (fun x y=>[((!XL (QI y.1) x.2.1.toNat),.ret,Ys (19)),(true,.exit 0,W5 (y.1))])
def QZz:VS->Option (Bool×List (Bool×Exit×VS)):=mkL Qkt (fun x y=>(decide (0<=x.2.1/\x.2.1<=(QF y.1).length/\(QF y.1).length<=100000)&&(QF y.1).all Jn)) (fun x y=>[((!((QF y.1).drop x.2.1.toNat).all GZ),.ret,Ys (19)),(true,.exit 2,W5 (y.1))])
def QZA:VS->Option (Bool×List (Bool×Exit×VS)):=mkL Qku (fun x y=>(decide (0<=x.2.1/\x.2.1<=(Ji y.1).length/\(Ji y.1).length<=100000))) (fun x y=>[((!(((Ji y.1).drop x.2.1.toNat).all Zr&&Y6 (Ji y.1) x.2.1.toNat)),.ret,Ys (19)),(true,.exit 4,W5 (y.1))])
def QZB:VS->Option (Bool×List (Bool×Exit×VS)):=mkL Qkv (fun x y=>(decide (0<=x.2.1/\x.2.1<=(Jk y.1).length/\(Jk y.1).length<=100000))) (fun x y=>[((!(((Jk y.1).drop x.2.1.toNat).all UL&&Y6 (Jk y.1) x.2.1.toNat)),.ret,Ys (19)),(true,.exit 6,QtY)])
def G0:G:=gG 176 [(85,Qab),(114,QzL),(115,Iy),(116,QDP),(117,Qef)] (Ls [QZy,QZz,QZA,QZB])
def Qkw (x3:Int)(y1:Ac):OX:=Qu (Qx G0 QtU QKl) (QKp x3 y1)
def Qdf (kk:Int->Ac->OX)(x3:Int)(y1:Ac):OX:=
 let a1:=lgt tI y1.2.2.2.1 (Int.toNat x3)
 br (ilt x3 (Qb y1.2.2.2.1)) (br (cIx y1.2.2.2.1 x3) (br (ine ((QS a1).2) 0) (some (.ret,Ys 19)) (br (cSl y1.2.2.2.1 0 x3 ((List.length y1.2.2.2.1:Nat):Int)) (br (cIx y1.2.2.2.1 x3) (br (Jm (lsl y1.2.2.2.1 0 x3) a1) (br (Ju (lsl y1.2.2.2.1 0 x3) a1) (some (.ret,Ys 19)) (kk (Qi .i64 x3 1) y1)) none) none) none)) none) (some (.exit 0,W5 y1))
def Qkx (x3:Int)(y1:Ac):OX:=br (!XL (QI y1) x3.toNat) (some (.ret,Ys (19)))<|some (.exit 0,W5 (y1))
theorem QKt (x3 y1):Qkw x3 y1=Qdf Qkw x3 y1:=lnT (x:=Qdf (fun x3 y1=>some (.normal,QKp x3 y1)) x3 y1) (by simp only [Qdf,nxA];rfl)
def Qky (x6:Int)(y1:Ac):OX:=Qu (Qx G0 QtV QKm) (QKq x6 y1)
def Qdg (kk:Int->Ac->OX)(x6:Int)(y1:Ac):OX:=
 let a1:=lgt Q2 y1.2.2.2.2.2.1 (Int.toNat x6)
 let a2:=cIx y1.2.2.2.2.2.1 x6
 br (ilt x6 (Qb y1.2.2.2.2.2.1)) (br a2 (br a2 (br a2 (br (Fv (a1.1) ((a1.2).1) (((a1.2).2).1)) (br (!(Uk (a1.1) ((a1.2).1) (((a1.2).2).1))) (some (.ret,Ys 19)) (kk (Qi .i64 x6 1) y1)) none) none) none) none) (some (.exit 2,W5 y1))
def Qkz (x6:Int)(y1:Ac):OX:=br (!((QF y1).drop x6.toNat).all GZ) (some (.ret,Ys (19)))<|some (.exit 2,W5 (y1))
theorem QKu (x6 y1):Qky x6 y1=Qdg Qky x6 y1:=lnT (x:=Qdg (fun x6 y1=>some (.normal,QKq x6 y1)) x6 y1) (by simp only [Qdg,nxA];rfl)
def QkA (x7:Int)(y1:Ac):OX:=Qu (Qx G0 QtW QKn) (QKr x7 y1)
def Qdh (kk:Int->Ac->OX)(x7:Int)(y1:Ac):OX:=
 let a1:=lgt tI y1.2.2.2.2.2.2.1 (Int.toNat x7)
 let a2:=cIx y1.2.2.2.2.2.2.1 x7
 br (ilt x7 (Qb y1.2.2.2.2.2.2.1)) (br a2 (br (ilt a1 0) (some (.ret,Ys 19)) (br a2 (br (igt a1 2147483648) (some (.ret,Ys 19)) (br (igt x7 0) (br (cIx y1.2.2.2.2.2.2.1 (QQ .i64 x7 1)) (br a2 (br (ige (lgt tI y1.2.2.2.2.2.2.1 (Int.toNat (QQ .i64 x7 1))) a1) (some (.ret,Ys 19)) (kk (Qi .i64 x7 1) y1)) none) none) (kk (Qi .i64 x7 1) y1))) none)) none) (some (.exit 4,W5 y1))
def QkB (x7:Int)(y1:Ac):OX:=br (!(((Ji y1).drop x7.toNat).all Zr&&Y6 (Ji y1) x7.toNat)) (some (.ret,Ys (19)))<|some (.exit 4,W5 (y1))
theorem QKv (x7 y1):QkA x7 y1=Qdh QkA x7 y1:=lnT (x:=Qdh (fun x7 y1=>some (.normal,QKr x7 y1)) x7 y1) (by simp only [Qdh,nxA];rfl)
def QkC (x8:Int)(y1:Ac):OX:=Qu (Qx G0 QtX QKo) (QKs x8 y1)
def Qdi (kk:Int->Ac->OX)(x8:Int)(y1:Ac):OX:=
 let a1:=lgt tI y1.2.2.2.2.2.2.2.1 (Int.toNat x8)
 let a2:=cIx y1.2.2.2.2.2.2.2.1 x8
 br (ilt x8 (Qb y1.2.2.2.2.2.2.2.1)) (br a2 (br (ine (Y2 a1) 1) (some (.ret,Ys 19)) (br (igt x8 0) (br (cIx y1.2.2.2.2.2.2.2.1 (QQ .i64 x8 1)) (br a2 (br (ige (lgt tI y1.2.2.2.2.2.2.2.1 (Int.toNat (QQ .i64 x8 1))) a1) (some (.ret,Ys 19)) (kk (Qi .i64 x8 1) y1)) none) none) (kk (Qi .i64 x8 1) y1))) none) (some (.exit 6,QtY))
def QkD (x8:Int)(y1:Ac):OX:=br (!(((Jk y1).drop x8.toNat).all UL&&Y6 (Jk y1) x8.toNat)) (some (.ret,Ys (19)))<|some (.exit 6,QtY)
theorem QKw (x8 y1):QkC x8 y1=Qdi QkC x8 y1:=lnT (x:=Qdi (fun x8 y1=>some (.normal,QKs x8 y1)) x8 y1) (by simp only [Qdi,nxA];rfl)
def r_f71 (p0:Ac):OV:=br (Jc p0.1) (br (!(WK p0.1)) (some (.t tI 19,[])) (br (ilt p0.2.1 1) (some (.t tI 19,[])) (br (igt p0.2.1 p0.2.2.1) (some (.t tI 19,[])) (br (igt p0.2.2.1 4) (some (.t tI 19,[])) (br (igt (Qb p0.2.2.2.1) 16) (some (.t tI 19,[])) (br (igt (Qb p0.2.2.2.2.2.1) 4) (some (.t tI 19,[])) (br (igt (Qb p0.2.2.2.2.2.2.1) 16) (some (.t tI 19,[])) (br (decide (0<=(0:Int)/\(0:Int)<=(QI p0).length/\(QI p0).length<=100000)) (br (!XL (QI p0) (0:Int).toNat) (some (.t tI (19),[])) (br (decide (0<=(0:Int)/\(0:Int)<=(QF (p0)).length/\(QF (p0)).length<=100000)&&(QF (p0)).all Jn) (br (!((QF (p0)).drop (0:Int).toNat).all GZ) (some (.t tI (19),[])) (br (decide (0<=(0:Int)/\(0:Int)<=(Ji (p0)).length/\(Ji (p0)).length<=100000)) (br (!(((Ji (p0)).drop (0:Int).toNat).all Zr&&Y6 (Ji (p0)) (0:Int).toNat)) (some (.t tI (19),[])) (br (decide (0<=(0:Int)/\(0:Int)<=(Jk (p0)).length/\(Jk (p0)).length<=100000)) (br (!(((Jk (p0)).drop (0:Int).toNat).all UL&&Y6 (Jk (p0)) (0:Int).toNat)) (some (.t tI (19),[])) (some (.t tI 0,[]))) none)) none)) none)) none)))))))) none
theorem QZC (x3:Int)(y1:Ac)(h:(decide (0<=x3/\x3<=(QI y1).length/\(QI y1).length<=100000))=true):Qkw x3 y1=Qkx x3 y1:=by
 simp only [Ba] at h
 obtain ⟨h0,h1,h2⟩:=h
 obtain ⟨k,rfl⟩:=Bm h0
 refine QP (QI y1) (fun k=>Qkw (k:Int) y1=Qkx (k:Int) y1) ?_ ?_ k (by omega)
 ·rw [QKt]
  simp only [Qdf,Qkx,show ilt ((QI y1).length:Int) (Qb (QI y1))=false from Bn (by simp only [Qb];omega),Qh,Bb,QzS,BA]
 ·intro k hk ih
  rw [QKt]
  have hi:Jm ((QI y1).take k) (QI y1)[k]=true:=Bc (by rw [B9];omega)
  simp only [Qdf,show ilt (k:Int) (Qb (QI y1))=true from Bc (by simp only [Qb];omega),QM,hk,Bu,Qd,Bb,QO (k:=k),QN (y:=tI) hk,ih,QzU,QzV (show k<=(QI y1).length by omega),hi,Vi]
  simp only [Qkx,Bb,QzT hk]
  cases ieq (QS (QI y1)[k]).2 0<;>cases Ju ((QI y1).take k) (QI y1)[k]<;>rfl
theorem QZD (x6:Int)(y1:Ac)(h:(decide (0<=x6/\x6<=(QF y1).length/\(QF y1).length<=100000)&&(QF y1).all Jn)=true):Qky x6 y1=Qkz x6 y1:=by
 simp only [Bd,Ba,Bi] at h
 obtain ⟨⟨h0,h1,h2⟩,hc⟩:=h
 obtain ⟨k,rfl⟩:=Bm h0
 refine QP (QF y1) (fun k=>Qky (k:Int) y1=Qkz (k:Int) y1) ?_ ?_ k (by omega)
 ·rw [QKu]
  simp only [Qdg,Qkz,show ilt ((QF y1).length:Int) (Qb (QF y1))=false from Bn (by simp only [Qb];omega),Qh,Bb,BF,DC,BA]
 ·intro k hk ih
  rw [QKu]
  have hx:Fv (QF y1)[k].1 (QF y1)[k].2.1 (QF y1)[k].2.2.1=true:=hc (QF y1)[k] (BC hk)
  simp only [Qdg,show ilt (k:Int) (Qb (QF y1))=true from Bc (by simp only [Qb];omega),QM,hk,Bu,Qd,Bb,QO (k:=k),QN (y:=Q2) hk,hx,ih]
  simp only [Qkz,Bb,Bg hk,B2,GZ]
  cases Uk (QF y1)[k].1 (QF y1)[k].2.1 (QF y1)[k].2.2.1<;>rfl
theorem QZE (x7:Int)(y1:Ac)(h:(decide (0<=x7/\x7<=(Ji y1).length/\(Ji y1).length<=100000))=true):QkA x7 y1=QkB x7 y1:=by
 simp only [Ba] at h
 obtain ⟨h0,h1,h2⟩:=h
 obtain ⟨k,rfl⟩:=Bm h0
 refine QP (Ji y1) (fun k=>QkA (k:Int) y1=QkB (k:Int) y1) ?_ ?_ k (by omega)
 ·rw [QKv]
  simp only [Qdh,QkB,show ilt ((Ji y1).length:Int) (Qb (Ji y1))=false from Bn (by simp only [Qb];omega),Qh,Bb,BF,DC,Qoc,B1,BA]
 ·intro k hk ih
  rw [QKv]
  simp only [Qdh,show ilt (k:Int) (Qb (Ji y1))=true from Bc (by simp only [Qb];omega),QM,hk,Bu,Qd,Bb,QO (k:=k),QN (y:=tI) hk,ih,Qoe hk (show k<4611686018427387904 by omega)]
  simp only [QkB,Bb,Qod hk,Bg hk,B2,Zr]
  cases ilt (Ji y1)[k] 0<;>cases igt (Ji y1)[k] 2147483648<;>cases decide (k=0)||ilt ((Ji y1).getD (k-1) 0) (Ji y1)[k]<;>simp [Qd,Qh]
theorem QZF (x8:Int)(y1:Ac)(h:(decide (0<=x8/\x8<=(Jk y1).length/\(Jk y1).length<=100000))=true):QkC x8 y1=QkD x8 y1:=by
 simp only [Ba] at h
 obtain ⟨h0,h1,h2⟩:=h
 obtain ⟨k,rfl⟩:=Bm h0
 refine QP (Jk y1) (fun k=>QkC (k:Int) y1=QkD (k:Int) y1) ?_ ?_ k (by omega)
 ·rw [QKw]
  simp only [Qdi,QkD,show ilt ((Jk y1).length:Int) (Qb (Jk y1))=false from Bn (by simp only [Qb];omega),Qh,Bb,BF,DC,Qoc,B1,BA]
 ·intro k hk ih
  rw [QKw]
  simp only [Qdi,show ilt (k:Int) (Qb (Jk y1))=true from Bc (by simp only [Qb];omega),QM,hk,Bu,Qd,Bb,QO (k:=k),QN (y:=tI) hk,ih,Qoe hk (show k<4611686018427387904 by omega),Vi]
  simp only [QkD,Bb,Qod hk,Bg hk,B2,UL]
  cases ieq (Y2 (Jk y1)[k]) 1<;>cases decide (k=0)||ilt ((Jk y1).getD (k-1) 0) (Jk y1)[k]<;>simp [Qd,Qh]
theorem QZG:LO G0 QtU QKl 0:=QC (s:=Qks) fun x y h _ q=>by simp only [QA,QB] at q;exact (QZC x.2.1 y.1 h).trans q
theorem QZH:LO G0 QtV QKm 1:=QC (s:=Qkt) fun x y h _ q=>by simp only [QA,QB] at q;exact (QZD x.2.1 y.1 h).trans q
theorem QZI:LO G0 QtW QKn 2:=QC (s:=Qku) fun x y h _ q=>by simp only [QA,QB] at q;exact (QZE x.2.1 y.1 h).trans q
theorem QZJ:LO G0 QtX QKo 3:=QC (s:=Qkv) fun x y h _ q=>by simp only [QA,QB] at q;exact (QZF x.2.1 y.1 h).trans q
theorem s_f71 (e)(h:QY e=true):r_f71 e=some (.t tI (Zy e),[]):=by
 simp only [QY,Bd,Ba] at h
 obtain ⟨⟨h1,h2,h3,h4,h5⟩,h6⟩:=h
 have q2:decide ((0:Int)<=0/\(0:Int)<=(QI e).length/\(QI e).length<=100000)=true:=Bc (by omega)
 have q3:decide ((0:Int)<=0/\(0:Int)<=(QF e).length/\(QF e).length<=100000)=true:=Bc (by omega)
 have q4:decide ((0:Int)<=0/\(0:Int)<=(Ji e).length/\(Ji e).length<=100000)=true:=Bc (by omega)
 have q5:decide ((0:Int)<=0/\(0:Int)<=(Jk e).length/\(Jk e).length<=100000)=true:=Bc (by omega)
 unfold Zy
 simp only [r_f71,h1,q2,q3,q4,q5,h6,B1,Qd,Bt,Bx]
 refine br9 (fun g=>by simp only [BB] at g;simp [Jj,g]) fun g1=>br9 (fun g=>by simp [Jj,g]) fun g2=>br9 (fun g=>by simp [Jj,g]) fun g3=>br9 (fun g=>by simp [Jj,g]) fun g4=>br9 (fun g=> ?_) fun g5=>br9 (fun g=>by simp [Jj,g]) fun g6=>br9 (fun g=>by simp [Jj,g]) fun g7=>br9 (fun g=>by simp only [BB] at g;have:YO (QI e)=false:=g;simp [Jj,this]) fun g8=>br9 (fun g=>by simp only [BB] at g;simp [Jj,g]) fun g9=>br9 (fun g=> ?_) fun g10=>br9 (fun g=> ?_) fun g11=> ?_
 ·have:YO (QI e)=false:=by
   cases hs:YO (QI e) with
   |false=>rfl
   |true=>
    have h16:e.2.2.2.1.length<=16:=QKf hs
    simp only [igt,Qb,Ba] at g
    omega
  simp [Jj,this]
 ·simp only [BB,Bool.and_eq_false_iff] at g
  rcases g with g|g
  ·simp [Jj,g]
  ·have:Uc (Ji e)=false:=g
   simp [Jj,this]
 ·simp only [BB,Bool.and_eq_false_iff] at g
  rcases g with g|g
  ·simp [Jj,g]
  ·have:Uc (Jk e)=false:=g
   simp [Jj,this]
 simp only [Bool.not_eq_false',Bd] at g1 g8 g9 g10 g11
 have k1:YO (QI e)=true:=g8
 have k2:Uc (Ji e)=true:=g10.2
 have k3:Uc (Jk e)=true:=g11.2
 have:Jj e=true:=by
  simp only [Jj,g1,g2,g3,g4,k1,g6,g7,k2,k3,g9,g10.1,g11.1,Dy,B1]
 rw [this]
 rfl
def VA:Ent:=Qm (.pr Qp .nil) (fun x=>(QY x.1)) (fun x=>(.t tI (Zy x.1)))
theorem Qdj:EM 71 VA:=mS (lk:=lkL (lkc QZG (lkc QZH (lkc QZI (lkc QZJ lkn))))) G0 Qde [((.t 2),some tI)] false (gB (gD Qac (gD QQx (gD V9 (gD QTT (gD Qmg gN)))))) fun m=>Qq m fun x hok=>kT (s_f71 x.1 hok)
def Vk (b:Ty):VO->VO
 |.box (.ag [.t b' x])=>if b'=b/\b'.row=false then .box (.t b' x) else .box (.ag [.t b' x])
 |o=>o
def FP:List Ty->List VO->List VO
 |b::bs,o::os=>Vk b o::FP bs os
 |_,os=>os
def Vl (l:List SV)(bs:List Ty)(ok:SVt l->Wk bs->Bool)(F:SVt l->Wk bs->V):Ent:=fun args objs=>YA l bs ok F args (FP bs objs)
section
variable {P:Program}{X:Nat->Nat->Prop}{w:World}{Z:Pl}
theorem QX9 {b:Ty}{o:VO}{k:Nat}(h:OAt X w Z k o):OAt X w Z k (Vk b o):=by
 unfold Vk
 split
 ·rename_i b' x
  split
  ·rename_i hq
   obtain ⟨g,ty,vs,h1,h2,h3,h4⟩:=h
   refine ⟨g,ty,vs,h1,h2, ?_,h4⟩
   have e1:(V.ag [.t b' x]).d.cells=[b'.d x]:=rfl
   have e2:(V.t b' x).d.cells=[b'.d x]:=by
    show (b'.d x).cells=_
    rw [Ty.d_cells,Ty.d_one b' x hq.2]
   rw [e2, <- e1]
   exact h3
  ·exact h
 ·exact h
theorem QYa {b:Ty}{o:VO}(h:o≠ .no):Vk b o≠ .no:=by
 unfold Vk
 split
 ·split<;>simp
 ·exact h
theorem Qjx: ∀ (bs:List Ty) (os:List VO),(FP bs os).length=os.length
 | [],os=>rfl
 |b::bs,[]=>rfl
 |b::bs,o::os=>by rw [FP,Br,Br,Qjx bs os]
theorem QIa: ∀ (bs:List Ty) (os:List VO) (j:Nat) (o:VO),(FP bs os)[j]? = some o→ ∃ o',os[j]? = some o'/\(o=o'∨ ∃ b,o=Vk b o')
 | [],os,j,o,h=>⟨o,h,.inl rfl⟩
 |b::bs,[],j,o,h=>⟨o,h,.inl rfl⟩
 |b::bs,o1::os,0,o,h=>by
  simp only [FP,BZ,Be] at h
  exact ⟨o1,rfl,.inr ⟨b,h.symm⟩⟩
 |b::bs,o1::os,j+1,o,h=>by
  simp only [FP,BX] at h
  obtain ⟨o',h1,h2⟩:=QIa bs os j o h
  exact ⟨o',by rw [BX];exact h1,h2⟩
theorem QcN {f:FuncId}{l:List SV}{bs:List Ty}{ok:SVt l->Wk bs->Bool}{F:SVt l->Wk bs->V}(hM:QH P f (QD (YA l bs ok F))):QH P f (QD (Vl l bs ok F)):=by
 intro args objs r os hF X w Z vs hfin hl hc
 have:=hM args (FP bs objs) r os hF X w Z vs hfin ⟨fun j o hj=>by
  obtain ⟨o',h1,h2⟩:=QIa bs objs j o hj
  obtain ⟨g1,g2⟩:=hl.at_ j o' h1
  rcases h2 with rfl|⟨b,rfl⟩
  ·exact ⟨g1,g2⟩
  ·exact ⟨QX9 g1,QYa g2⟩,fun i j b hij hi hj=>hl.apart i j b hij (by rwa [Qjx] at hi) (by rwa [Qjx] at hj)⟩ hc
 rw [Qjx] at this
 exact this
theorem QFJ {l:List Af}(h:JN l=true){k:Nat}(hk:k<l.length):JR l[k]=true:=by
 simp only [JN,Bd,Bi] at h
 exact h.2 _ (BC hk)
theorem QFK {l:List Af}(h:JN l=true):l.length<=100000:=by
 simp only [JN,Bd,Ba] at h
 exact h.1
abbrev cAt (l:List Af)(k:Nat):Af:=l.getD k Qhl
theorem QVI {l:List Af}{k:Nat}(hk:k<l.length):cAt l k=l[k]:=by
 simp only [cAt,Bp,Bl hk,BU]
def pathF (l:List Af)(i:Int):Bool:= !ilt i 0&&(!ige i (Qb l)&&(ieq i 0||((cAt l i.toNat).2.2.2.2.2.2.2.2.1&&ige (cAt l i.toNat).2.2.2.2.2.2.2.2.2.1 (i-1))))
def QVJ (l:List Af)(k:Nat):Int:=if k+1<l.length then (cAt l (k+1)).2.2.2.2.1 else (U7 (cAt l k)).1
def QVK (l:List Af)(e:Int)(k:Nat):Bool:=
 bif ieq e 11 then decide (k+1<l.length)&&sne (cAt l k).2.1 (cAt l (k+1)).2.2.1
 else bif ieq e 15 then !pathF l k else !QTK (cAt l k) (QVJ l k)
def failUp (l:List Af)(e:Int)(k:Nat):Bool:=(List.range' k (l.length-k)).any (QVK l e)
def Qri (l:List Af)(e:Int):Bool:=failUp l e 0
theorem brOr {M:Type}{a b:Bool}{X Y:Option M}:br a X (br b X Y)=br (a||b) X Y:=by cases a<;>cases b<;>rfl
def ZA (x:Aj)(s:Ao):Bool:=ieq s.2.2.2.1.1 0||ieq x.1.1 s.2.2.2.1.1
def QYF:TC:=aF Tryz.f183 []
def g_f183:G:=gG 17 [] (fun _ _=>none)
def QIS (p0:Aj)(d0:Ao):OV:=br (ieq d0.2.2.2.1.1 0) (some (.t .bool true,[.box (.t Je d0)])) (some (.t .bool (ieq p0.1.1 d0.2.2.2.1.1),[.box (.t Je d0)]))
theorem s_f183 (x s):QIS x s=some (.t .bool (ZA x s),[.box (.t Je s)]):=by
 simp only [QIS]
 unfold ZA
 cases ieq s.2.2.2.1.1 0<;>rfl
def QIT:Ent:=Vl [.ty Q2,.ptr 50000 0] [Je] (fun x d=>true) (fun x d=>(.t .bool (ZA x.1 d.1)))
theorem QYG:EM 183 QIT:=mS g_f183 QYF [((.t 3),some .bool)] false (gB gN) fun m=>QcN (Yn m fun x d _=>kT (s_f183 x.1 d.1))
def QjI (l:List Aj)(_s:Ao):Bool:=decide (l.length<=100000)
def FQ (l:List Aj)(s:Ao):Int:=match QG (fun x=>ZA x s) l with|some k=>(k:Int)|none=> -1
abbrev QjJ:Sh:=⟨[(0,.ty (.sl Q2)),(1,.fn 183 [(50000,0)]),(7,.ty tI),(8,.ty tI)],[(50000,.box Je)]⟩
abbrev QIU:Sh:=⟨[(4,.ty tI)],[(50000,.box Je)]⟩
abbrev QIV:Sh:=⟨[],[(50000,.box Je)]⟩
def Qs7:Fg:=QjJ.f
def QIW:TC:=aF Tryz.f182 [(26,pL 0 Qs7),(421,.fg QIV.f),(13517,.fg QIU.f)]
def QIX:TC:=lb 0 QIW
def QIY (x0:List Aj)(x7 x8:Int)(Qa:Ao):VS:=QjJ.st (x0,(),x7,x8,()) (Qa,())
def Qs8 (x4:Int)(Qa:Ao):VS:=QIU.st (x4,()) (Qa,())
def Qs9 (Qa:Ao):VS:=QIV.st () (Qa,())
def QYH:VS->Option (Bool×List (Bool×Exit×VS)):=mkL QjJ (fun x y=>(Qw x.1 x.2.2.1 x.2.2.2.1)) (fun x y=>[(((QG (fun x=>ZA x y.1) (x.1.drop x.2.2.2.1.toNat)).isSome),.ret,Qs8 (x.2.2.2.1+((QG (fun x=>ZA x y.1) (x.1.drop x.2.2.2.1.toNat)).getD 0:Nat)) (y.1)),(true,.exit 0,Qs9 (y.1))])
def Qta:G:=gG 19 [(183,QIT)] (Ls [QYH])
def QjK (x0:List Aj)(x7 x8:Int)(Qa:Ao):OX:=Qu (Qx Qta Qs7 QIX) (QIY x0 x7 x8 Qa)
def QcU (kk:List Aj->Int->Int->Ao->OX)(x0:List Aj)(x7 x8:Int)(Qa:Ao):OX:=br (ilt x8 x7) (br (cIx x0 x8) (br (ZA (lgt Q2 x0 (Int.toNat x8)) Qa) (some (.ret,Qs8 x8 Qa)) (kk x0 x7 (Qi .i64 x8 1) Qa)) none) (some (.exit 0,Qs9 Qa))
def QjL (x0:List Aj)(x7 x8:Int)(Qa:Ao):OX:=br ((QG (fun x=>ZA x Qa) (x0.drop x8.toNat)).isSome) (some (.ret,Qs8 (x8+((QG (fun x=>ZA x Qa) (x0.drop x8.toNat)).getD 0:Nat)) (Qa)))<|some (.exit 0,Qs9 (Qa))
theorem QIZ (x0 x7 x8 Qa):QjK x0 x7 x8 Qa=QcU QjK x0 x7 x8 Qa:=lnT (x:=QcU (fun x0 x7 x8 Qa=>some (.normal,QIY x0 x7 x8 Qa)) x0 x7 x8 Qa) (by simp only [QcU,nxA];rfl)
def QI0 (p0:List Aj)(d0:Ao):OV:=
 let a1:=(p0.drop (0:Int).toNat)
 br (Qw p0 (Qb p0) (0:Int)) (br ((QG (fun x=>ZA x d0) a1).isSome) (some (.t tI ((0:Int)+((QG (fun x=>ZA x d0) a1).getD 0:Nat)),[.box (.t Je (d0))])) (some (.t tI (-1),[.box (.t Je (d0))]))) none
theorem QYI (x0:List Aj)(x7 x8:Int)(Qa:Ao)(h:(Qw x0 x7 x8)=true):QjK x0 x7 x8 Qa=QjL x0 x7 x8 Qa:=by
 obtain ⟨rfl,h3,k,rfl,hk⟩:=Jv h
 clear h
 refine QP x0 (fun k=>QjK x0 (x0.length:Int) (k:Int) Qa=QjL x0 (x0.length:Int) (k:Int) Qa) ?_ ?_ k hk
 ·rw [QIZ]
  simp [QcU,QjL,Qv,Qh,QG]
 ·intro k hk ih
  rw [QIZ]
  simp only [QcU,Qv,QM,hk,Bu,Qd,Bb,QO (k:=k),ih,QN (y:=Q2) hk]
  simp only [QjL,Bb,Bg hk,QG]
  cases h:(ZA x0[k] Qa) with
  |true=>simp [Qd]
  |false=>
   simp only [Qh,BE,Dc]
   cases hq:QG (fun x=>ZA x Qa) (x0.drop (k+1)) with
   |none=>rfl
   |some j=>
    simp only [B4,Da,BU,Qd]
    congr 3
    omega
theorem QYJ:LO Qta Qs7 QIX 0:=QC (s:=QjJ) fun x y h _ q=>by simp only [QA,QB] at q;exact (QYI x.1 x.2.2.1 x.2.2.2.1 y.1 h).trans q
theorem QYK (l:List Aj)(s:Ao)(h:QjI l s=true):QI0 l s=some (.t tI (FQ l s),[.box (.t Je s)]):=by
 have hl:l.length<=100000:=Bw h
 simp only [QI0,Jw hl,Qd,Bt,Bx,FQ]
 cases QG (fun x=>ZA x s) l<;>simp [Qd,Qh]
def QI1:Ent:=Vl [.ty (.sl Q2),.fn 183 [(50000,0)]] [Je] (fun x d=>(QjI x.1 d.1)) (fun x d=>(.t tI (FQ x.1 d.1)))
theorem QYL:EM 182 QI1:=mS (lk:=lkL (lkc QYJ lkn)) Qta QIW [((.t 4),some tI)] false (gB (gD QYG gN)) fun m=>QcN (Yn m fun x d hok=>kT (QYK x.1 d.1 hok))
def J4 (e:Ac)(c:Int):Int×Bool:=bif ine (QS c).2 0 then (-1,false) else (FQ (QF e) (QS c).1,ige (FQ (QF e) (QS c).1) 0)
def ZM (e:Ac)(_c:Int):Bool:=decide ((QF e).length<=100000)
def QYM:TC:=aF Tryz.f149 []
def g_f149:G:=gG 23 [(137,V8),(182,QI1)] (fun _ _=>none)
def QI2 (p0:Ac)(p1:Int):OV:=
 let a1:=FQ p0.2.2.2.2.2.1 ((QS p1).1)
 br (ine ((QS p1).2) 0) (some (.tu [(.t tI (-1)),(.t .bool false)],[])) (br (QjI p0.2.2.2.2.2.1 ((QS p1).1)) (some (.tu [(.t tI a1),(.t .bool (ige a1 0))],[])) none)
theorem s_f149 (e c)(h:ZM e c=true):QI2 e c=some (.tu [.t tI (J4 e c).1,.t .bool (J4 e c).2],[]):=by
 have hk:QjI (QF e) (QS c).1=true:=h
 simp only [QI2,hk,Qd]
 unfold J4
 cases ine (QS c).2 0<;>rfl
def Qtb:Ent:=Qm (.pr Qp (.pr tI .nil)) (fun x=>(ZM x.1 x.2.1)) (fun x=>(.tu [(.t tI ((J4 x.1 x.2.1).1)),(.t .bool ((J4 x.1 x.2.1).2))]))
theorem QI3:EM 149 Qtb:=mS g_f149 QYM [((.t 4),some tI),((.t 5),some .bool)] false (gB (gD Qek (gD QYL gN))) fun m=>Qq m fun x hok=>kT (s_f149 x.1 x.2.1 hok)
abbrev QjM:Sh:=⟨[(2,.ptr 2 0),(6,.ptr 6 0),(8,.ty tI)],[(2,.box Qp),(6,.box Je)]⟩
abbrev QI4:Sh:=⟨[(4,.ty tI),(5,.ty .bool)],[]⟩
abbrev QI5:Sh:=⟨[],[]⟩
def Qtc:Fg:=QjM.f
def QI6:TC:=aF Tryz.f157 [(122,pL 0 Qtc),(1955,.fg QI5.f),(3912,pE [[6],[6],[6],[],[],[2],[2],[],[],[],[],[],[6],[6],[6],[],[]] (oN 17)),(15653,.fg QI4.f)]
def QI7:TC:=lb 0 QI6
def QI8 (x8:Int)(y2:Ac)(y6:Ao):VS:=QjM.st ((),(),x8,()) (y2,y6,())
def QjN (x4:Int)(x5:Bool):VS:=QI4.st (x4,x5,()) ()
def Qtd  : VS:=QI5.st () ()
def QYN:VS->Option (Bool×List (Bool×Exit×VS)):=mkL QjM (fun x y=>(ZM y.1 0&&decide (0<=x.2.2.1/\x.2.2.1<=(QF y.1).length))) (fun x y=>[(((QG (fun x=>ZA x y.2.1) ((QF y.1).drop x.2.2.1.toNat)).isSome),.ret,QjN (x.2.2.1+((QG (fun x=>ZA x y.2.1) ((QF y.1).drop x.2.2.1.toNat)).getD 0:Nat)) (true)),(true,.exit 0,Qtd)])
def Qte:G:=gG 41 [(115,Iy)] (Ls [QYN])
def QjO (x8:Int)(y2:Ac)(y6:Ao):OX:=Qu (Qx Qte Qtc QI7) (QI8 x8 y2 y6)
def QcV (kk:Int->Ac->Ao->OX)(x8:Int)(y2:Ac)(y6:Ao):OX:=br (ilt x8 (Qb y2.2.2.2.2.2.1)) (br (ieq y6.2.2.2.1.1 0) (some (.ret,QjN x8 true)) (br (cIx y2.2.2.2.2.2.1 x8) (br (ieq (((lgt Q2 y2.2.2.2.2.2.1 (Int.toNat x8)).1).1) y6.2.2.2.1.1) (some (.ret,QjN x8 true)) (kk (Qi .i64 x8 1) y2 y6)) none)) (some (.exit 0,Qtd))
def QjP (x8:Int)(y2:Ac)(y6:Ao):OX:=
 let a1:=((QF y2).drop x8.toNat)
 br ((QG (fun x=>ZA x y6) a1).isSome) (some (.ret,QjN (x8+((QG (fun x=>ZA x y6) a1).getD 0:Nat)) (true)))<|some (.exit 0,Qtd)
theorem QI9 (x8 y2 y6):QjO x8 y2 y6=QcV QjO x8 y2 y6:=lnT (x:=QcV (fun x8 y2 y6=>some (.normal,QI8 x8 y2 y6)) x8 y2 y6) (by simp only [QcV,nxA];rfl)
def QJa (p0:Ac)(p1:Int):OV:=br (ine ((QS p1).2) 0) (some (.tu [(.t tI (-1)),(.t .bool false)],[])) (br (ZM p0 0&&decide (0<=(0:Int)/\(0:Int)<=(QF p0).length)) (br ((QG (fun x=>ZA x ((QS p1).1)) ((QF p0).drop (0:Int).toNat)).isSome) (some (.tu [(.t tI ((0:Int)+((QG (fun x=>ZA x ((QS p1).1)) ((QF p0).drop (0:Int).toNat)).getD 0:Nat))),(.t .bool (true))],[])) (some (.tu [(.t tI (-1)),(.t .bool false)],[]))) none)
theorem QYO (x8:Int)(y2:Ac)(y6:Ao)(h:(ZM y2 0&&decide (0<=x8/\x8<=(QF y2).length))=true):QjO x8 y2 y6=QjP x8 y2 y6:=by
 simp only [ZM,Bd,Ba] at h
 obtain ⟨hl,h0,h1⟩:=h
 obtain ⟨k,rfl⟩:=Bm h0
 refine QP (QF y2) (fun k=>QjO (k:Int) y2 y6=QjP (k:Int) y2 y6) ?_ ?_ k (by omega)
 ·rw [QI9]
  simp only [QcV,show ilt ((QF y2).length:Int) (Qb (QF y2))=false from Bn (by simp only [Qb];omega),Qh,QjP,Bb,BF,QG]
  rfl
 ·intro k hk ih
  rw [QI9]
  simp only [QcV,show ilt (k:Int) (Qb (QF y2))=true from Bc (by simp only [Qb];omega),QM,hk,Bu,Qd,Bb,QO (k:=k),QN (y:=Q2) hk,ih]
  simp only [QjP,Bb,Bg hk,QG]
  rw [brOr]
  show br (ZA (QF y2)[k] y6) _ _=_
  cases h:ZA (QF y2)[k] y6 with
  |true=>simp [Qd]
  |false=>
   simp only [Qh,BE,Dc]
   cases hq:QG (fun x=>ZA x y6) ((QF y2).drop (k+1)) with
   |none=>rfl
   |some j=>
    simp only [B4,Da,BU,Qd]
    congr 3
    omega
theorem QYP:LO Qte Qtc QI7 0:=QC (s:=QjM) fun x y h _ q=>by simp only [QA,QB] at q;exact (QYO x.2.2.1 y.1 y.2.1 h).trans q
theorem s_f157 (e c)(h:ZM e c=true):QJa e c=some (.tu [.t tI (J4 e c).1,.t .bool (J4 e c).2],[]):=by
 have hd:decide ((0:Int)<=0/\(0:Int)<=(QF e).length)=true:=Bc (by omega)
 have hk:ZM e 0=true:=h
 simp only [QJa,hk,hd,B1,Qd,Bt,Bx]
 unfold J4 FQ
 cases ine (QS c).2 0 with
 |true=>rfl
 |false=>
  rw [Qh,BW]
  cases QG (fun x=>ZA x (QS c).1) (QF e) with
  |none=>rfl
  |some k=>
   have:ige (k:Int) 0=true:=Bc (by omega)
   simp [Qd,this]
def Qtf:Ent:=Qm (.pr Qp (.pr tI .nil)) (fun x=>(ZM x.1 x.2.1)) (fun x=>(.tu [(.t tI ((J4 x.1 x.2.1).1)),(.t .bool ((J4 x.1 x.2.1).2))]))
theorem QJb:EM 157 Qtf:=mS (lk:=lkL (lkc QYP lkn)) Qte QI6 [((.t 4),some tI),((.t 5),some .bool)] false (gB (gD V9 gN)) fun m=>Qq m fun x hok=>kT (s_f157 x.1 x.2.1 hok)
def YW (e:Ac)(o:List Int):Bool:=decide ((QF e).length<=100000/\(QI e).length<=100000/\o.length<=100000)
def Xz (e:Ac)(o:List Int)(v c:Int):Bool:=
 ieq (QS c).2 0&&(ige v (QS c).1.2.2.2.2.2.2.1&&(ige (QS c).1.2.2.2.2.2.2.2.1 v&&(Ju o c&&(Ju (QI e) c&&(J4 e c).2))))
def QcW (e:Ac)(o:List Int)(_v _c:Int):Bool:=YW e o
abbrev tkE (t:An):Ac:=t.1
abbrev tkV (t:An):Int:=t.2.1
abbrev tkO (t:An):List Int:=t.2.2.1
def FR (t:An)(c:Int):Bool:=Xz (tkE t) (tkO t) (tkV t) c
def GX (t:An)(_c:Int):Bool:=YW (tkE t) (tkO t)
def QYQ:TC:=aF Tryz.f148 []
def g_f148:G:=gG 53 [(137,V8),(138,Vt),(149,Qtb)] (fun _ _=>none)
def QJc (p0:An)(p1:Int):OV:=
 let a1:=((((((((QS p1).1).2).2).2).2).2).2)
 br (ine ((QS p1).2) 0) (some (.t .bool false,[])) (br (ilt p0.2.1 (a1.1)) (some (.t .bool false,[])) (br (igt p0.2.1 ((a1.2).1)) (some (.t .bool false,[])) (br (Jm p0.2.2.1 p1) (br (!(Ju p0.2.2.1 p1)) (some (.t .bool false,[])) (br (Jm p0.1.2.2.2.1 p1) (br (!(Ju p0.1.2.2.2.1 p1)) (some (.t .bool false,[])) (br (ZM p0.1 p1) (some (.t .bool ((J4 p0.1 p1).2),[])) none)) none)) none)))
theorem QJd (a b:Int):ine a b= !ieq a b:=rfl
theorem QJe (a b:Int):ilt a b= !ige a b:=by simp only [ilt,ige];by_cases h:a<b<;>simp [h]<;>omega
theorem s_f148 (t c)(h:GX t c=true):QJc t c=some (.t .bool (FR t c),[]):=by
 simp only [GX,YW,Ba] at h
 have c1:Jm t.2.2.1 c=true:=Bc h.2.2
 have c2:Jm t.1.2.2.2.1 c=true:=Bc h.2.1
 have c3:ZM t.1 c=true:=Bc h.1
 simp only [QJc,c1,c2,c3,Qd,QJd,QJe]
 show _=some (V.t .bool (Xz t.1 t.2.2.1 t.2.1 c),[])
 unfold Xz
 cases ieq (QS c).2 0 with
 |false=>rfl
 |true=>
  cases ige t.2.1 (QS c).1.2.2.2.2.2.2.1 with
  |false=>rfl
  |true=>
   cases ige (QS c).1.2.2.2.2.2.2.2.1 t.2.1 with
   |false=>rfl
   |true=>
    cases Ju t.2.2.1 c with
    |false=>rfl
    |true=>cases Ju t.1.2.2.2.1 c<;>rfl
def Qtg:Ent:=Qm (.pr QaL (.pr tI .nil)) (fun x=>(GX x.1 x.2.1)) (fun x=>(.t .bool (FR x.1 x.2.1)))
theorem QJf:EM 148 Qtg:=mS g_f148 QYQ [((.t 4),some .bool)] false (gB (gD Qek (gD Qj2 (gD QI3 gN)))) fun m=>Qq m fun x hok=>kT (s_f148 x.1 x.2.1 hok)
def QYR:TC:=aF Tryz.f124 []
def g_f124:G:=gG 52 [(85,Qab),(115,Iy),(157,Qtf)] (fun _ _=>none)
def QJg (p0:Ac)(p1:List Int)(p2 p3:Int):OV:=
 let a1:=((((((((QS p3).1).2).2).2).2).2).2)
 br (ine ((QS p3).2) 0) (some (.t .bool false,[])) (br (Jm p1 p3) (br (!(Ju p1 p3)) (some (.t .bool false,[])) (br (Jm p0.2.2.2.1 p3) (br (!(Ju p0.2.2.2.1 p3)) (some (.t .bool false,[])) (br (ilt p2 (a1.1)) (some (.t .bool false,[])) (br (igt p2 ((a1.2).1)) (some (.t .bool false,[])) (br (ZM p0 p3) (some (.t .bool ((J4 p0 p3).2),[])) none)))) none)) none)
theorem s_f124 (e o v c)(h:QcW e o v c=true):QJg e o v c=some (.t .bool (Xz e o v c),[]):=by
 simp only [QcW,YW,Ba] at h
 have c1:Jm o c=true:=Bc h.2.2
 have c2:Jm e.2.2.2.1 c=true:=Bc h.2.1
 have c3:ZM e c=true:=Bc h.1
 simp only [QJg,c1,c2,c3,Qd,QJd,QJe]
 unfold Xz
 cases ieq (QS c).2 0<;>cases ige v (QS c).1.2.2.2.2.2.2.1<;>cases ige (QS c).1.2.2.2.2.2.2.2.1 v<;>cases Ju o c<;>cases Ju e.2.2.2.1 c<;>rfl
def QJh:Ent:=Qm (.pr Qp (.pr (.sl tI) (.pr tI (.pr tI .nil)))) (fun x=>(QcW x.1 x.2.1 x.2.2.1 x.2.2.2.1)) (fun x=>(.t .bool (Xz x.1 x.2.1 x.2.2.1 x.2.2.2.1)))
theorem QYS:EM 124 QJh:=mS g_f124 QYR [((.t 8),some .bool)] false (gB (gD Qac (gD V9 (gD QJb gN)))) fun m=>Qq m fun x hok=>kT (s_f124 x.1 x.2.1 x.2.2.1 x.2.2.2.1 hok)
def Uw (c s:Ac):Bool:=Jj c&&Jj s
def WZ (c s:Ac):Bool:=QY c&&QY s
def QYT:TC:=aF Tryz.f145 []
def g_f145:G:=gG 13 [(60,Qkr)] (fun _ _=>none)
def QJi (p0 p1:Ac):OV:=br (QY p0) (br (ieq (Zy p0) 0) (br (QY p1) (some (.t .bool (ieq (Zy p1) 0),[])) none) (some (.t .bool false,[]))) none
theorem s_f145 (c s)(h:WZ c s=true):QJi c s=some (.t .bool (Uw c s),[]):=by
 simp only [WZ,Bd] at h
 simp only [QJi,h.1,h.2,Qd,QZu]
 unfold Uw
 cases Jj c<;>rfl
def QJj:Ent:=Qm (.pr Qp (.pr Qp .nil)) (fun x=>(WZ x.1 x.2.1)) (fun x=>(.t .bool (Uw x.1 x.2.1)))
theorem QYU:EM 145 QJj:=mS g_f145 QYT [((.t 4),some .bool)] false (gB (gD QtT gN)) fun m=>Qq m fun x hok=>kT (s_f145 x.1 x.2.1 hok)
def okPos (l:List Int)(t:An):Bool:=decide (l.length<=100000)&&YW (tkE t) (tkO t)
abbrev Q0q:Sh:=⟨[(0,.ty (.sl tI)),(1,.bf 148 QaL),(7,.ty tI),(8,.ty tI)],[]⟩
abbrev Q0r:Sh:=⟨[(4,.ty tI)],[]⟩
def Q0s (x4:Int):VS:=Q0r.st (x4,()) ()
abbrev Q0t:Sh:=⟨[],[]⟩
def Q0u  : VS:=Q0t.st () ()
def Q0v:VS->Option (Bool×List (Bool×Exit×VS)):=mkL Q0q (fun x y=>(Qw x.1 x.2.2.1 x.2.2.2.1&&okPos x.1 x.2.1)) (fun x y=>[(((QG (FR x.2.1) (x.1.drop x.2.2.2.1.toNat)).isSome),.ret,Q0s (x.2.2.2.1+((QG (FR x.2.1) (x.1.drop x.2.2.2.1.toNat)).getD 0:Nat))),(true,.exit 0,Q0u)])
def Q0w:G:=gG 19 [(148,Qtg)] (Ls [Q0v])
theorem Q2S:GOk Tryz.prog Q0w:=Zq _ (gA (gD QJf gN))
abbrev zK:Aa:=(0,(0,()))
theorem Gc {e:Ac}(h:QY e=true):Jc e.1=true/\(QI e).length<=100000/\(QF e).length<=100000/\(Ji e).length<=100000/\(Jk e).length<=100000/\(QF e).all Jn=true:=by
 simp only [QY,Bd,Ba] at h
 exact ⟨h.1.1,h.1.2.1,h.1.2.2.1,h.1.2.2.2.1,h.1.2.2.2.2,h.2⟩
theorem Q0x {e:Ac}{c:Int}(h:(J4 e c).2=true): ∃ k,(J4 e c).1=((k:Nat):Int)/\k<(QF e).length:=by
 unfold J4 FQ at h ⊢
 cases hi:ine (QS c).2 0 with
 |true=>rw [hi] at h;cases h
 |false=>
  rw [hi] at h
  cases hq:QG (fun x=>ZA x (QS c).1) (QF e) with
  |none=>rw [hq] at h;cases h
  |some k=>exact ⟨k,rfl,(Qg4 hq).1⟩
theorem eEta (p1:Ac):(p1.1,(p1.2.1,(p1.2.2.1,(p1.2.2.2.1,(p1.2.2.2.2.1,(p1.2.2.2.2.2.1,(p1.2.2.2.2.2.2.1,(p1.2.2.2.2.2.2.2.1,(p1.2.2.2.2.2.2.2.2.1,())))))))))=p1:=rfl
theorem FT {c:Ac}(h:Jj c=true):1<=c.2.1/\c.2.1<=c.2.2.1/\c.2.2.1<=4:=by
 simp only [Jj,Bd,BB] at h
 obtain ⟨_,h1,h2,h3,_⟩:=h
 have h1:=Dp h1
 have h2:=Dp h2
 have h3:=Dp h3
 omega
def Qur (e:Ac)(c:Int):List Aa:=
 [bif ieq (QS c).1.2.2.1.2.1 0 then ((QS c).1.2.2.1.1,((lgt Q2 (QF e) (J4 e c).1.toNat).1.2.1,())) else (QS c).1.2.2.1,(lgt Q2 (QF e) (J4 e c).1.toNat).1,(QS c).1.2.2.2.2.1,(QS c).1.2.2.2.2.2.1]
def QZ (e:Ac)(o:Aa):List Aa×Int:=
 bif !Jj e then ([],19) else bif ine (QS o.2.1).2 0 then ([],(QS o.2.1).2) else bif !(J4 e o.2.1).2 then ([],4) else (Qur e o.2.1,0)
def Gd (e:Ac)(_o:Aa):Bool:=QY e
def outLI (p:List Aa×Int):OV:=some (.tu [.t (.sl Qe) p.1,.t tI p.2],[])
theorem QLe {e:Ac}{c:Int}(h:(J4 e c).2=true):cIx (QF e) (J4 e c).1=true:=by
 obtain ⟨k,hk,hl⟩:=Q0x h
 rw [hk,QM]
 exact Bc hl
def Q0y:TC:=aF Tryz.f112 []
def g_f112:G:=gG 57 [(60,Qkr),(137,V8),(149,Qtb)] (fun _ _=>none)
def QLf (p0:Ac)(p1:Aa):OV:=
 let a1:=((lgt Q2 p0.2.2.2.2.2.1 (Int.toNat ((J4 p0 p1.2.1).1))).1)
 let a2:=((((QS p1.2.1).1).2).2)
 let a3:=(((((a2.2).2).2).1).1,((((((a2.2).2).2).1).2).1,()))
 let a4:=((((a2.2).2).1).1,(((((a2.2).2).1).2).1,()))
 let a5:=((a1.2).1,())
 br (QY p0) (br (ine (Zy p0) 0) (some (.tu [(.t (.sl Qe) ([]:List Aa)),(.t tI (Zy p0))],[])) (br (ine ((QS p1.2.1).2) 0) (some (.tu [(.t (.sl Qe) ([]:List Aa)),(.t tI ((QS p1.2.1).2))],[])) (br (ZM p0 p1.2.1) (br (!((J4 p0 p1.2.1).2)) (some (.tu [(.t (.sl Qe) ([]:List Aa)),(.t tI 4)],[])) (br (cIx p0.2.2.2.2.2.1 ((J4 p0 p1.2.1).1)) (br (ieq (((a2.1).2).1) 0) (some (.tu [(.t (.sl Qe) ([((a2.1).1,a5),(a1.1,a5),a4,a3])),(.t tI 0)],[])) (some (.tu [(.t (.sl Qe) ([((a2.1).1,(((a2.1).2).1,())),(a1.1,a5),a4,a3])),(.t tI 0)],[]))) none)) none))) none
theorem s_f112 (e o)(h:Gd e o=true):QLf e o=some (.tu [.t (.sl Qe) (QZ e o).1,.t tI (QZ e o).2],[]):=by
 have hr:QY e=true:=h
 have hid: ∀ x,ZM e x=true:=fun x=>Bc (Gc hr).2.2.1
 simp only [QLf,hr,hid,Qd,Qdb]
 show _=outLI (QZ e o)
 unfold QZ Zy
 cases Jj e with
 |false=>rfl
 |true=>
  rw [BA,Qh,BW]
  cases ine (QS o.2.1).2 0 with
  |true=>rfl
  |false=>
   rw [Qh,BW]
   cases hi:(J4 e o.2.1).2 with
   |false=>rfl
   |true=>
    rw [BA,Qh,BW]
    refine Eq.trans (congrArg (fun b=>br b _ _) (QLe hi)) ?_
    rw [Qd]
    unfold Qur
    cases ieq (QS o.2.1).1.2.2.1.2.1 0<;>rfl
def QkU:Ent:=Qm (.pr Qp (.pr Qe .nil)) (fun x=>(Gd x.1 x.2.1)) (fun x=>(.tu [(.t (.sl Qe) ((QZ x.1 x.2.1).1)),(.t tI ((QZ x.1 x.2.1).2))]))
theorem QLg:EM 112 QkU:=mS g_f112 Q0y [((.t 4),some (.sl Qe)),((.t 5),some tI)] false (gB (gD QtT (gD Qek (gD QI3 gN)))) fun m=>Qq m fun x hok=>kT (s_f112 x.1 x.2.1 hok)
def Q0z:TC:=aF Tryz.f122 []
def g_f122:G:=gG 54 [(71,VA),(115,Iy),(157,Qtf)] (fun _ _=>none)
def QLh (p0:Ac)(p1:Aa):OV:=
 let a1:=((lgt Q2 p0.2.2.2.2.2.1 (Int.toNat ((J4 p0 p1.2.1).1))).1)
 let a2:=((((QS p1.2.1).1).2).2)
 let a3:=(((((a2.2).2).2).1).1,((((((a2.2).2).2).1).2).1,()))
 let a4:=((((a2.2).2).1).1,(((((a2.2).2).1).2).1,()))
 let a5:=((a1.2).1,())
 br (QY p0) (br (ine (Zy p0) 0) (some (.tu [(.t (.sl Qe) ([]:List Aa)),(.t tI 19)],[])) (br (ine ((QS p1.2.1).2) 0) (some (.tu [(.t (.sl Qe) ([]:List Aa)),(.t tI ((QS p1.2.1).2))],[])) (br (ZM p0 p1.2.1) (br (!((J4 p0 p1.2.1).2)) (some (.tu [(.t (.sl Qe) ([]:List Aa)),(.t tI 4)],[])) (br (cIx p0.2.2.2.2.2.1 ((J4 p0 p1.2.1).1)) (br (ieq (((a2.1).2).1) 0) (some (.tu [(.t (.sl Qe) ([((a2.1).1,a5),(a1.1,a5),a4,a3])),(.t tI 0)],[])) (some (.tu [(.t (.sl Qe) ([((a2.1).1,(((a2.1).2).1,())),(a1.1,a5),a4,a3])),(.t tI 0)],[]))) none)) none))) none
theorem s_f122 (e o)(h:Gd e o=true):QLh e o=some (.tu [.t (.sl Qe) (QZ e o).1,.t tI (QZ e o).2],[]):=by
 have hr:QY e=true:=h
 have hid: ∀ x,ZM e x=true:=fun x=>Bc (Gc hr).2.2.1
 simp only [QLh,hr,hid,Qd,Qdb]
 show _=outLI (QZ e o)
 unfold QZ
 cases Jj e with
 |false=>rfl
 |true=>
  rw [BA,Qh,BW]
  cases ine (QS o.2.1).2 0 with
  |true=>rfl
  |false=>
   rw [Qh,BW]
   cases hi:(J4 e o.2.1).2 with
   |false=>rfl
   |true=>
    rw [BA,Qh,BW]
    refine Eq.trans (congrArg (fun b=>br b _ _) (QLe hi)) ?_
    rw [Qd]
    unfold Qur
    cases ieq (QS o.2.1).1.2.2.1.2.1 0<;>rfl
def Qus:Ent:=Qm (.pr Qp (.pr Qe .nil)) (fun x=>(Gd x.1 x.2.1)) (fun x=>(.tu [(.t (.sl Qe) ((QZ x.1 x.2.1).1)),(.t tI ((QZ x.1 x.2.1).2))]))
theorem QLi:EM 122 Qus:=mS g_f122 Q0z [((.t 4),some (.sl Qe)),((.t 5),some tI)] false (gB (gD Qdj (gD V9 (gD QJb gN)))) fun m=>Qq m fun x hok=>kT (s_f122 x.1 x.2.1 hok)
def El (a b:List Aa):Bool:=a==b
def Gr (a b:List Aa):Bool:=decide (a.length<=100000/\b.length<=100000)
theorem brN {M:Type}{p q:Bool}{X:Option M}:br p (br q X none) none=br (p&&q) X none:=by cases p<;>rfl
def Wi (c:Int):Int:=bif ine (QS c).2 0 then 0 else XH (QS c).1.2.2.2.2.1
def QRc:TC:=aF Tryz.f131 []
def g_f131:G:=gG 15 [(115,Iy),(156,QmK)] (fun _ _=>none)
def QAC (p0:Int):OV:=br (ine ((QS p0).2) 0) (some (.t tI 0,[])) (some (.t tI (XH (((((((QS p0).1).2).2).2).2).1)),[]))
theorem s_f131 (c):QAC c=some (.t tI (Wi c),[]):=by
 simp only [QAC]
 unfold Wi
 cases ine (QS c).2 0<;>rfl
def QAD:Ent:=Qm (.pr tI .nil) (fun x=>true) (fun x=>(.t tI (Wi x.1)))
theorem QRd:EM 131 QAD:=mS g_f131 QRc [((.t 2),some tI)] false (gB (gD V9 (gD Qxi gN))) fun m=>Qq m fun x _=>kT (s_f131 x.1)
def J8 (x:Int)(l:List Int):Nat->Nat
 |0=>0
 |k+1=>if ilt (Wi (l.getD k 0)) (Wi x)=true then J8 x l k else k+1
theorem Qot (x:Int)(l:List Int): ∀ k,J8 x l k<=k
 |0=>BI _
 |k+1=>by
  unfold J8
  split
  ·exact Nat.le_succ_of_le (Qot x l k)
  ·exact BI _
def UM (l:List Int)(x:Int):List Int:=(l.take (J8 x l l.length)++[x])++l.drop (J8 x l l.length)
theorem QAE (l:List Int)(x:Int):(UM l x).length=l.length+1:=by
 have:=Qot x l l.length
 simp only [UM,Bj,B9,Di,Bh]
 omega
def I2 (l:List Int):List Int:=l.foldl UM []
def Qa8 (l:List Int):Bool:=decide (l.length<=1000)
abbrev Qa9:Sh:=⟨[(0,.ty (.sl tI)),(3,.ms 3),(4,.ty tI),(5,.ty tI)],[(3,.arr 3 tI),(32,.no),(36,.no),(42,.no),(46,.no)]⟩
abbrev Qge:Sh:=⟨[(0,.ty (.sl tI)),(3,.ms 3),(4,.ty tI)],[(3,.arr 3 tI),(32,.no),(36,.no),(42,.no),(46,.no)]⟩
abbrev QAF:Sh:=⟨[(3,.ms 3)],[(3,.arr 3 tI),(32,.no),(36,.no),(42,.no),(46,.no)]⟩
def Qou:Fg:=Qa9.f
def Qov:Fg:=Qge.f
def Qow:TC:=aF Tryz.f86 [(58,.nw 3 3),(58,pL 1 Qov),(116,.mv [(32,3)]),(931,.fg QAF.f),(7460,pL 0 Qou),(59680,pE [[],[],[],[3,32,36,42,46],[],[],[3,32,36,42,46],[3,32,36,42,46],[],[],[],[],[],[],[],[]] (oN 16)),(119363,.fg Qa9.f),(3731,pE [[32,5032,10032,15032],[3,32,36,42,46],[],[3,32,36,42,46],[3,32,36,42,46,5036,10036,15036],[],[],[],[],[],[32,36,42,5042,10042,15042],[3,32,36,42,46],[],[3,32,36,42,46],[3,32,36,42,46,5046,10046,15046],[32,36,42,46]] (.one 2 (.one 5 (.one 6 (.one 7 (.one 8 (.one 9 (.one 12 (.alt 0 (.one 1 (.one 3 (.alt 4 (.alt 10 (.of [11,13,14,15]) (.one 11 (.alt 10 (.of [13,14,15]) (.of [13,10,14,15])))) (.one 11 (.alt 4 (.alt 10 (.of [13,14,15]) (.of [13,10,14,15])) (.of [13,4,10,14,15])))))) (.alt 1 (.alt 0 (.one 3 (.alt 4 (.alt 10 (.of [11,13,14,15]) (.one 11 (.alt 10 (.of [13,14,15]) (.of [13,10,14,15])))) (.one 11 (.alt 4 (.alt 10 (.of [13,14,15]) (.of [13,10,14,15])) (.of [13,4,10,14,15]))))) (.alt 3 (.alt 0 (.alt 4 (.alt 10 (.of [11,13,14,15]) (.one 11 (.alt 10 (.of [13,14,15]) (.of [13,10,14,15])))) (.one 11 (.alt 4 (.alt 10 (.of [13,14,15]) (.of [13,10,14,15])) (.of [13,4,10,14,15])))) (.one 11 (.alt 0 (.alt 4 (.alt 10 (.of [13,14,15]) (.of [13,10,14,15])) (.of [13,4,10,14,15])) (.of [13,0,4,10,14,15])))) (.one 11 (.alt 0 (.one 3 (.alt 4 (.alt 10 (.of [13,14,15]) (.of [13,10,14,15])) (.of [13,4,10,14,15]))) (.alt 3 (.alt 0 (.alt 4 (.alt 10 (.of [13,14,15]) (.of [13,10,14,15])) (.of [13,4,10,14,15])) (.of [13,0,4,10,14,15])) (.one 13 (.alt 0 (.of [3,4,10,14,15]) (.of [3,0,4,10,14,15])))))))) (.one 11 (.alt 0 (.one 1 (.one 3 (.alt 4 (.alt 10 (.of [13,14,15]) (.of [13,10,14,15])) (.of [13,4,10,14,15])))) (.alt 1 (.alt 0 (.one 3 (.alt 4 (.alt 10 (.of [13,14,15]) (.of [13,10,14,15])) (.of [13,4,10,14,15]))) (.alt 3 (.alt 0 (.alt 4 (.alt 10 (.of [13,14,15]) (.of [13,10,14,15])) (.of [13,4,10,14,15])) (.of [13,0,4,10,14,15])) (.one 13 (.alt 0 (.of [3,4,10,14,15]) (.of [3,0,4,10,14,15]))))) (.one 13 (.alt 0 (.of [1,3,4,10,14,15]) (.one 1 (.alt 0 (.of [3,4,10,14,15]) (.of [3,0,4,10,14,15]))))))))))))))))))]
def QAG:TC:=lb 0 Qow
def QAH:TC:=lb 1 Qow
def I3 (x0:List Int)(x4 x5:Int)(y3:List Int):VS:=Qa9.st (x0,(),x4,x5,()) (y3,(),(),(),(),())
def QAI (x0:List Int)(x4:Int)(y3:List Int):VS:=Qge.st (x0,(),x4,()) (y3,(),(),(),(),())
def Qox (y3:List Int):VS:=QAF.st ((),()) (y3,(),(),(),(),())
def QRe:VS->Option (Bool×List (Bool×Exit×VS)):=mkL Qa9 (fun x y=>(decide (0<=x.2.2.2.1/\x.2.2.2.1<=y.1.length/\y.1.length<=1000)&&cIx x.1 x.2.2.1)) (fun x y=>[(true,.exit 2,I3 (x.1) (x.2.2.1) ((J8 (lgt tI x.1 x.2.2.1.toNat) y.1 x.2.2.2.1.toNat:Nat):Int) (y.1))])
def QRf:VS->Option (Bool×List (Bool×Exit×VS)):=mkL Qge (fun x y=>(decide (0<=x.2.2.1/\x.2.2.1<=x.1.length/\x.1.length<=1000/\y.1.length<=x.2.2.1.toNat))) (fun x y=>[(true,.exit 0,Qox ((x.1.drop x.2.2.1.toNat).foldl UM y.1))])
def Qba:G:=⟨TYs,[32],48,EL [(131,QAD)],Yx,(Ls [QRe,QRf]),IL [],RL []⟩
def Qgf (x0:List Int)(x4 x5:Int)(y3:List Int):OX:=Qu (Qx Qba Qou QAG) (I3 x0 x4 x5 y3)
def Qbb (kk:List Int->Int->Int->List Int->OX)(x0:List Int)(x4 x5:Int)(y3:List Int):OX:=
 let a1:=QQ .i64 x5 1
 br (igt x5 0) (br (cIx y3 a1) (br (cLd y3 (Int.toNat a1)) (br (cIx x0 x4) (br (ilt (Wi (lgt tI y3 (Int.toNat a1))) (Wi (lgt tI x0 (Int.toNat x4)))) (kk x0 x4 a1 y3) (some (.exit 2,I3 x0 x4 x5 y3))) none) none) none) (some (.exit 2,I3 x0 x4 x5 y3))
def Qgg (x0:List Int)(x4 x5:Int)(y3:List Int):OX:=some (.exit 2,I3 (x0) (x4) ((J8 (lgt tI x0 x4.toNat) y3 x5.toNat:Nat):Int) (y3))
theorem QAJ (x0 x4 x5 y3):Qgf x0 x4 x5 y3=Qbb Qgf x0 x4 x5 y3:=lnT (x:=Qbb (fun x0 x4 x5 y3=>some (.normal,I3 x0 x4 x5 y3)) x0 x4 x5 y3) (by simp only [Qbb,nxA];rfl)
def Qgh (x0:List Int)(x4:Int)(y3:List Int):OX:=Qu (Qx Qba Qov QAH) (QAI x0 x4 y3)
def I4 (kk:List Int->Int->List Int->OX)(x0:List Int)(x4:Int)(y3:List Int):OX:=
 let a1:=((J8 (lgt tI x0 x4.toNat) y3 (Qb y3).toNat:Nat):Int)
 let a2:=(wnL tI (y3) (Int.toNat a1) (Int.toNat ((List.length (y3):Nat):Int)-Int.toNat a1))
 let a3:=wnL tI (y3) (Int.toNat 0) (Int.toNat a1-Int.toNat 0)
 let a4:=lgt tI (x0) (Int.toNat (x4))
 br (Qt ((([]:List Int)++a3)++([a4])) a2 8) (kk (x0) (Qi .i64 (x4) 1) (((([]:List Int)++a3)++([a4]))++a2)) none
def I5 (kk:List Int->Int->List Int->OX)(x0:List Int)(x4:Int)(y3:List Int):OX:=
 let a1:=((J8 (lgt tI x0 x4.toNat) y3 (Qb y3).toNat:Nat):Int)
 br (Qt (([]:List Int)++(wnL tI (y3) (Int.toNat 0) (Int.toNat a1-Int.toNat 0))) ([(lgt tI (x0) (Int.toNat (x4)))]) 8) (br (cWn (y3) a1 ((List.length (y3):Nat):Int)) (I4 kk x0 x4 y3) none) none
def I6 (kk:List Int->Int->List Int->OX)(x0:List Int)(x4:Int)(y3:List Int):OX:=br (Qt (([]:List Int)++(wnL tI (y3) (Int.toNat 0) (Int.toNat ((J8 (lgt tI x0 x4.toNat) y3 (Qb y3).toNat:Nat):Int)-Int.toNat 0))) ([(lgt tI (x0) (Int.toNat (x4)))]) 8) (I4 kk x0 x4 y3) none
def I7 (kk:List Int->Int->List Int->OX)(x0:List Int)(x4:Int)(y3:List Int):OX:=frk (I5 kk x0 x4 y3) (br (cWn (y3) ((J8 (lgt tI x0 x4.toNat) y3 (Qb y3).toNat:Nat):Int) ((List.length (y3):Nat):Int)) (I6 kk x0 x4 y3) none)
def I8 (kk:List Int->Int->List Int->OX)(x0:List Int)(x4:Int)(y3:List Int):OX:=br (Qt ([]:List Int) (wnL tI (y3) (Int.toNat 0) (Int.toNat ((J8 (lgt tI x0 x4.toNat) y3 (Qb y3).toNat:Nat):Int)-Int.toNat 0)) 8) (I6 kk x0 x4 y3) none
def I9 (kk:List Int->Int->List Int->OX)(x0:List Int)(x4:Int)(y3:List Int):OX:=br (cWn (y3) ((J8 (lgt tI x0 x4.toNat) y3 (Qb y3).toNat:Nat):Int) ((List.length (y3):Nat):Int)) (I8 kk x0 x4 y3) none
def Em (kk:List Int->Int->List Int->OX)(x0:List Int)(x4:Int)(y3:List Int):OX:=frk (br (Qt ([]:List Int) (wnL tI (y3) (Int.toNat 0) (Int.toNat ((J8 (lgt tI x0 x4.toNat) y3 (Qb y3).toNat:Nat):Int)-Int.toNat 0)) 8) (I7 kk x0 x4 y3) none) (I9 kk x0 x4 y3)
def Oa (kk:List Int->Int->List Int->OX)(x0:List Int)(x4:Int)(y3:List Int):OX:=frk (br (Qt ([]:List Int) (wnL tI (y3) (Int.toNat 0) (Int.toNat ((J8 (lgt tI x0 x4.toNat) y3 (Qb y3).toNat:Nat):Int)-Int.toNat 0)) 8) (frk (I5 kk x0 x4 y3) (I7 kk x0 x4 y3)) none) (Em kk x0 x4 y3)
def Ob (kk:List Int->Int->List Int->OX)(x0:List Int)(x4:Int)(y3:List Int):OX:=br (cWn (y3) 0 ((J8 (lgt tI x0 x4.toNat) y3 (Qb y3).toNat:Nat):Int)) (Oa kk x0 x4 y3) none
def Oc (kk:List Int->Int->List Int->OX)(x0:List Int)(x4:Int)(y3:List Int):OX:=frk (Em kk x0 x4 y3) (I9 kk x0 x4 y3)
def Od (kk:List Int->Int->List Int->OX)(x0:List Int)(x4:Int)(y3:List Int):OX:=br (cWn (y3) 0 ((J8 (lgt tI x0 x4.toNat) y3 (Qb y3).toNat:Nat):Int)) (Em kk x0 x4 y3) none
def En (kk:List Int->Int->List Int->OX)(x0:List Int)(x4:Int)(y3:List Int):OX:=br (cWn (y3) 0 ((J8 (lgt tI x0 x4.toNat) y3 (Qb y3).toNat:Nat):Int)) (I8 kk x0 x4 y3) none
def Oe (kk:List Int->Int->List Int->OX)(x0:List Int)(x4:Int)(y3:List Int):OX:=frk (En kk x0 x4 y3) (En kk x0 x4 y3)
def Of (kk:List Int->Int->List Int->OX)(x0:List Int)(x4:Int)(y3:List Int):OX:=
 let a1:=((J8 (lgt tI x0 x4.toNat) y3 (Qb y3).toNat:Nat):Int)
 frk (Od kk x0 x4 y3) (frk (br (cWn (y3) 0 a1) (Oc kk x0 x4 y3) none) (br (cWn (y3) a1 ((List.length (y3):Nat):Int)) (Oe kk x0 x4 y3) none))
def Og (kk:List Int->Int->List Int->OX)(x0:List Int)(x4:Int)(y3:List Int):OX:=
 let a1:=((J8 (lgt tI x0 x4.toNat) y3 (Qb y3).toNat:Nat):Int)
 br (ilt x4 (Qb x0)) (br (decide (0<=(Qb y3)/\(Qb y3)<=y3.length/\y3.length<=1000)&&cIx x0 x4) (br (cIx (x0) (x4)) (frk (Ob kk x0 x4 y3) (frk (frk (Ob kk x0 x4 y3) (frk (br (cWn (y3) 0 a1) (frk (Oa kk x0 x4 y3) (Oc kk x0 x4 y3)) none) (Of kk x0 x4 y3))) (frk (Od kk x0 x4 y3) (frk (Of kk x0 x4 y3) (br (cWn (y3) a1 ((List.length (y3):Nat):Int)) (frk (En kk x0 x4 y3) (Oe kk x0 x4 y3)) none))))) none) none) (some (.exit 0,Qox y3))
def Qgi (x0:List Int)(x4:Int)(y3:List Int):OX:=some (.exit 0,Qox ((x0.drop x4.toNat).foldl UM y3))
theorem QAK (x0 x4 y3):Qgh x0 x4 y3=Og Qgh x0 x4 y3:=lnT (x:=Og (fun x0 x4 y3=>some (.normal,QAI x0 x4 y3)) x0 x4 y3) (by
 first
 |(simp only [JG,Og,Ob,Oa,I5,I4,I7,I6,Em,I9,I8,Oc,Of,Od,Oe,En,JG,Ud,UR,US,UT,UU]
   rfl)
 |(simp only [JG,Og,Ob,Oa,I5,I4,I7,I6,Em,I9,I8,Oc,Of,Od,Oe,En,JG]
   try generalize (Qt ((([]:List Int)++(wnL tI (y3) (Int.toNat 0) (Int.toNat (((J8 (lgt tI x0 x4.toNat) y3 (Qb y3).toNat:Nat):Int))-Int.toNat 0)))++([(lgt tI (x0) (Int.toNat (x4)))])) (wnL tI (y3) (Int.toNat (((J8 (lgt tI x0 x4.toNat) y3 (Qb y3).toNat:Nat):Int))) (Int.toNat ((List.length (y3):Nat):Int)-Int.toNat (((J8 (lgt tI x0 x4.toNat) y3 (Qb y3).toNat:Nat):Int)))) 8)=cq0
   try generalize (cWn (y3) (((J8 (lgt tI x0 x4.toNat) y3 (Qb y3).toNat:Nat):Int)) ((List.length (y3):Nat):Int))=cq1
   try generalize (Qt (([]:List Int)++(wnL tI (y3) (Int.toNat 0) (Int.toNat (((J8 (lgt tI x0 x4.toNat) y3 (Qb y3).toNat:Nat):Int))-Int.toNat 0))) ([(lgt tI (x0) (Int.toNat (x4)))]) 8)=cq2
   try generalize (Qt ([]:List Int) (wnL tI (y3) (Int.toNat 0) (Int.toNat (((J8 (lgt tI x0 x4.toNat) y3 (Qb y3).toNat:Nat):Int))-Int.toNat 0)) 8)=cq3
   try generalize (cWn (y3) 0 (((J8 (lgt tI x0 x4.toNat) y3 (Qb y3).toNat:Nat):Int)))=cq4
   try generalize (cIx (x0) (x4))=cq5
   try generalize ((decide (0<=(Qb y3)/\(Qb y3)<=y3.length/\y3.length<=1000)&&cIx x0 x4))=cq6
   simp only [brN,JG,Bool.and_assoc,Bool.and_comm,Bool.and_left_comm,B1,Bool.and_self_left,Ud,UR,US,UT,UU]
   try rfl))
def r_f86 (p0:List Int):OV:=br (decide (0<=(0:Int)/\(0:Int)<=p0.length/\p0.length<=1000/\([]:List Int).length<=(0:Int).toNat)) (some (.ms 50000,[.arr 3 tI ((p0.drop (0:Int).toNat).foldl UM ([]:List Int))])) none
theorem QRg (x0:List Int)(x4 x5:Int)(y3:List Int)(h:(decide (0<=x5/\x5<=y3.length/\y3.length<=1000)&&cIx x0 x4)=true):Qgf x0 x4 x5 y3=Qgg x0 x4 x5 y3:=by
 obtain ⟨h,hc⟩:=Bf.1 h
 obtain ⟨h0,h1,h2⟩:=Bw h
 obtain ⟨k,rfl⟩:=Bm h0
 have key: ∀ k:Nat,k<=y3.length->Qgf x0 x4 (k:Int) y3=Qgg x0 x4 (k:Int) y3:=by
  intro k
  induction k with
  |zero=>
   intro _
   rw [QAJ]
   simp only [Qbb,Qgg,show igt ((0:Nat):Int) 0=false from rfl,Qh,Bb]
   rfl
  |succ k ih=>
   intro hk
   rw [QAJ]
   have e1:QQ .i64 ((k+1:Nat):Int) 1=(k:Int):=by rw [Zv (by omega)];omega
   have e2:cLd y3 k=true:=Bc (by omega)
   simp only [Qbb,show igt ((k+1:Nat):Int) 0=true from Bc (by omega),Qd,e1,QM,show k<y3.length by omega,Bu,Bb,e2,hc,ih (by omega)]
   simp only [Qgg,Bb]
   rw [show J8 (lgt tI x0 x4.toNat) y3 (k+1)=if ilt (Wi (y3.getD k 0)) (Wi (lgt tI x0 x4.toNat))=true then J8 (lgt tI x0 x4.toNat) y3 k else k+1 from rfl]
   show br (ilt (Wi (y3.getD k 0)) (Wi (lgt tI x0 x4.toNat))) _ _=_
   cases ilt (Wi (y3.getD k 0)) (Wi (lgt tI x0 x4.toNat))<;>rfl
 exact key k (by omega)
theorem QRh (x0:List Int)(x4:Int)(y3:List Int)(h:(decide (0<=x4/\x4<=x0.length/\x0.length<=1000/\y3.length<=x4.toNat))=true):Qgh x0 x4 y3=Qgi x0 x4 y3:=by
 simp only [Ba] at h
 obtain ⟨h0,h1,h2,h3⟩:=h
 obtain ⟨k,rfl⟩:=Bm h0
 rw [Bb] at h3
 revert y3
 refine QP x0 (fun k=> ∀ y3:List Int,y3.length<=k->Qgh x0 (k:Int) y3=Qgi x0 (k:Int) y3) ?_ ?_ k (by omega)
 ·intro y3 _
  rw [QAK]
  simp only [Og,Ob,Oa,I5,I4,I7,I6,Em,I9,I8,Oc,Of,Od,Oe,En,JG,Qgi,show ilt (x0.length:Int) (Qb x0)=false from Bn (by simp only [Qb];omega),Qh,Bb,BF,List.foldl_nil]
 ·intro k hk ih y3 hy
  rw [QAK]
  have hle:=Qot x0[k] y3 y3.length
  obtain ⟨q,hq⟩: ∃ q,q=J8 x0[k] y3 y3.length:=⟨_,rfl⟩
  rw [<-hq] at hle
  have c0:decide ((0:Int)<=(y3.length:Nat)/\((y3.length:Nat):Int)<=y3.length/\y3.length<=1000)=true:=Bc (by omega)
  have c1:cWn y3 0 (q:Int)=true:=Bc (by omega)
  have c2:cWn y3 (q:Int) (y3.length:Nat)=true:=Bc (by omega)
  have w1:wnL tI y3 0 (q-0)=y3.take q:=by rw [Qcp (by omega),Bx,Nat.sub_zero]
  have w2:wnL tI y3 q (y3.length-q)=y3.drop q:=by rw [Qcp (by omega),DD (by rw [Di];omega)]
  have a1:Qt ([]:List Int) (y3.take q) 8=true:=QX (by omega) (by simp only [Bv,B9];omega)
  have a2:Qt (y3.take q) [x0[k]] 8=true:=QX (by omega) (by simp only [Bh,B9];omega)
  have a3:Qt (y3.take q++[x0[k]]) (y3.drop q) 8=true:=QX (by omega) (by simp only [Bj,Bh,B9,Di];omega)
  simp only [Og,Ob,Oa,I5,I4,I7,I6,Em,I9,I8,Oc,Of,Od,Oe,En,JG,show ilt (k:Int) (Qb x0)=true from Bc (by simp only [Qb];omega),QM,hk,Bu,Db,Qd,Bb,Bt,QO (k:=k),QN (y:=tI) hk,Qb,c0, <- hq,c1,c2,w1,w2,BM,a1,a2,a3,JG]
  have e:=ih (UM y3 x0[k]) (by rw [QAE];omega)
  simp only [UM, <- hq] at e
  rw [e]
  simp only [Qgi,Bb,Bg hk,DE,UM, <- hq]
theorem QRi:LO Qba Qou QAG 0:=QC (s:=Qa9) fun x y h _ q=>by simp only [QA,QB] at q;exact (QRg x.1 x.2.2.1 x.2.2.2.1 y.1 h).trans q
theorem QRj:LO Qba Qov QAH 1:=QC (s:=Qge) fun x y h _ q=>by simp only [QA,QB] at q;exact (QRh x.1 x.2.2.1 y.1 h).trans q
theorem s_f86 (l)(h:Qa8 l=true):r_f86 l=some (.ms 50000,[.arr 3 tI (I2 l)]):=by
 simp only [Qa8,Ba] at h
 refine Eq.trans (congrArg (fun b=>br b _ _) (Bc ⟨BY _,by omega,h,by simp⟩)) ?_
 rfl
def QAL:Ent:=UQ (.pr (.sl tI) .nil) (fun x=>(Qa8 x.1)) (fun x=>(.ms 50000)) (fun x=>[.arr 3 tI (I2 x.1)])
theorem ms_f86:EM 86 QAL:=mS (lk:=lkL (lkc QRj (lkc QRi lkn))) Qba Qow [((.t 2),none)] true (Zq _ (gA (gD QRd gN))) fun m=>QgW m fun x hok=>kT (s_f86 x.1 hok)
theorem XJ {d:Ab}{l:List Int}(h:dOk d=true)(h1:l≠[])(h2:l.length<=100):QR d l=true:=by
 have:0<l.length:=List.length_pos_iff.2 h1
 simp only [QR,h,By,Ba]
 omega
theorem Zp {d:Ab}{n:Int}(h:dOk d=true)(hn:n<=1000000):QE d n=true:=by
 simp only [QE,h,By,Ba]
 omega
theorem WA {d:Ab}{n:Int}(h:dOk d=true)(h0:0<=n)(hn:n<=1000000):Jb d n=true:=by
 simp only [Jb,Zp h hn,By,Ba]
 omega
abbrev QmZ (d:Ab):Int:=dof d [5,7,5,6,8,9]
def Fb (d:Ab):Aa:=(QmZ d,(F9 (Qr d [5,7,5,6,8,9]) (QmZ d),()))
def ZQ (d:Ab):Ab:=XG (Qr d [5,7,5,6,8,9]) (QmZ d)
theorem Qm0 {d:Ab}(h:dOk d=true):dOk (ZQ d)=true:=QmA (JB h)
def tc_f55:TC:=aF Tryz.f55 []
def g_f55:G:=gG 12 [(33,Ug),(56,Qmz)] (fun _ _=>none)
def r_f55 (d0:Ab):OV:=
 let a1:=(dof d0 ([5,7,5,6,8,9]))
 let a2:=(Qr d0 ([5,7,5,6,8,9]))
 br (QR d0 ([5,7,5,6,8,9])) (br (ID a2 a1) (some (.t Qe (a1,((F9 a2 a1),())),[.box (.t Qn (XG a2 a1))])) none) none
theorem s_f55 (d)(h:dOk d=true):r_f55 d=some (.t Qe (Fb d),[.box (.t Qn (ZQ d))]):=by
 have h1:QR d [5,7,5,6,8,9]=true:=XJ h (by decide) (by decide)
 have h2:ID (Qr d [5,7,5,6,8,9]) (dof d [5,7,5,6,8,9])=true:=JB (l:=[5,7,5,6,8,9]) h
 simp only [r_f55,h1,h2,Qd]
 rfl
def QxD:Ent:=Yz Qn .nil (fun d x=>(dOk d)) (fun d x=>(.t Qe (Fb d))) (fun d x=>(ZQ d))
theorem ms_f55:EM 55 QxD:=mS g_f55 tc_f55 [((.c 2 true 2),some Qe)] false (gB (gD UY (gD Qw3 gN))) fun m=>Y7 m rfl fun d x hok=>kT (s_f55 d hok)
abbrev cD1 (d:Ab):Ab:=Qc d 1000
abbrev cD2 (d:Ab):Ab:=Qr (cD1 d) [3,2,4,1]
abbrev cD3 (d:Ab):Ab:=Qr (cD2 d) [0,5,10]
abbrev cD4 (d:Ab):Ab:=Qr (cD3 d) [1000,100,50,20]
def cD5 (d:Ab)(a:Bool):Ab:=bif a then Qr (cD4 d) [3,0,1] else cD4 d
def cPath (d:Ab)(a:Bool):Int:=bif a then dof (cD4 d) [3,0,1] else 0
def cNm (d:Ab)(a:Bool)(s:ByteArray):List ByteArray:=bif done (cD5 d a) 3 then [s,Fn s (ByteArray.mk #[120])] else [s]
def QeO (d:Ab)(i s:ByteArray)(k:Aa)(id:Int)(a:Bool):Af:=
 (Qg d 1000,(i,(s,(k,(id,((dof (cD1 d) [3,2,4,1],(0,())),(dof (cD2 d) [0,5,10],(dof (cD3 d) [1000,100,50,20],(a,(cPath d a,(cNm d a s,((0,(0,())),()))))))))))))
def UH (d:Ab)(i s:ByteArray)(k:Aa)(id g:Int)(a:Bool):Af:=(XP (QeO d i s k id a) g).1
def Gn (d:Ab)(_i _s:ByteArray)(_k:Aa)(_id _g:Int)(a:Bool):Ab:=Qc (cD5 d a) 3
def Ed (d:Ab)(i s:ByteArray)(_k:Aa)(_id _g:Int)(_a:Bool):Bool:=dOk d&&decide (i.size<=1000/\s.size<=1000)
theorem QxE {d:Ab}(h:dOk d=true):dOk (cD4 d)=true:=JB (JB (JB (Qz h)))
theorem dOk_c5 {d:Ab}{a:Bool}(h:dOk d=true):dOk (cD5 d a)=true:=by
 cases a
 ·exact QxE h
 ·exact JB (l:=[3,0,1]) (QxE h)
theorem QxF {d:Ab}{i s:ByteArray}{k:Aa}{id g:Int}{a:Bool}(h:dOk d=true):dOk (Gn d i s k id g a)=true:=Qz (dOk_c5 h)
theorem QxG (a b:ByteArray):(Fn a b).size=a.size+b.size:=by simp [Fn]
theorem QeP {i s:ByteArray}{k:Aa}{id:Int}{a:Bool}{q p:Int}{u v:Aa}{x y:Int}(hi:i.size<=1000)(hs:s.size<=1000){l:List ByteArray}(hl:l.length<=2)(hn: ∀ t∈l,t.size<=1001):
  JR (q,(i,(s,(k,(id,(u,(x,(y,(a,(p,(l,(v,()))))))))))))=true:=by
 have hg: ∀ t:ByteArray,t.size<=1001->Jc t=true:=fun t ht=>Bc (by omega)
 simp only [JR,Bd]
 refine ⟨hg _ (by omega),hg _ (by omega), ?_⟩
 simp only [Xw,Bd,Bi]
 exact ⟨Bc (by show l.length<=_;omega),fun t ht=>hg t (hn t ht)⟩
def tc_f87:TC:=aF Tryz.f87 [(6,pE [[50000],[17,5017,10017,15017,50000],[],[],[10],[],[50000],[],[24,5024,10024,15024,50000],[],[50000],[],[28,5028,10028,15028,50000],[50000],[],[31,5031,10031,15031,50000],[],[],[15,5015,10015,15015],[14,15,40,49]] (.one 0 (.one 2 (.one 3 (.one 4 (.one 5 (.one 6 (.one 7 (.one 10 (.one 11 (.one 13 (.one 14 (.one 16 (.alt 1 (.alt 8 (.one 9 (.alt 12 (.alt 15 (.of [17,18,19]) (.of [18,15,17,19])) (.of [18,12,15,17,19]))) (.of [18,8,9,12,15,17,19])) (.of [18,1,8,9,12,15,17,19])))))))))))))))]
def g_f87:G:=⟨TYs,[40],58,EL [(10,Y9),(13,Fq),(33,Ug),(82,Qqg)],Yx,(fun _ _=>none),IL [],RL []⟩
def QeQ (d0:Ab)(p1 p2:ByteArray)(p3:Aa)(p4 p5:Int)(p6:Bool):OV:=
 let a1:=(Qr (Qr (Qc d0 1000) ([3,2,4,1])) ([0,5,10]))
 let a2:=(dof (Qr (Qc d0 1000) ([3,2,4,1])) ([0,5,10]))
 let a3:=(Qr a1 ([1000,100,50,20]))
 let a4:=(dof (Qc d0 1000) ([3,2,4,1]))
 let a5:=(dof a1 ([1000,100,50,20]))
 let a6:=Fn p2 (ByteArray.mk #[120])
 let a7:=Qg d0 1000
 let a8:=(Qr a3 ([3,0,1]))
 let a9:=(dof a3 ([3,0,1]))
 let a10:=cCat p2 (ByteArray.mk #[120])
 let a11:=Qt ([p2]) ([a6]) 16
 br (QR a1 ([1000,100,50,20])) (br (p6) (br (QR a3 ([3,0,1])) (br (Jb a8 3) (br (done a8 3) (br a10 (br a11 (br (GE (a7,(p1,(p2,((p3.1,(p3.2.1,())),(p4,((a4,(0,())),(a2,(a5,(p6,(a9,((([p2])++([a6])),((0,(0,())),())))))))))))) p5) (some (.t QW ((XP (a7,(p1,(p2,((p3.1,(p3.2.1,())),(p4,((a4,(0,())),(a2,(a5,(p6,(a9,((([p2])++([a6])),((0,(0,())),())))))))))))) p5).1),[.box (.t Qn (Qc a8 3))])) none) none) none) (br (GE (a7,(p1,(p2,((p3.1,(p3.2.1,())),(p4,((a4,(0,())),(a2,(a5,(p6,(a9,([p2],((0,(0,())),())))))))))))) p5) (some (.t QW ((XP (a7,(p1,(p2,((p3.1,(p3.2.1,())),(p4,((a4,(0,())),(a2,(a5,(p6,(a9,([p2],((0,(0,())),())))))))))))) p5).1),[.box (.t Qn (Qc a8 3))])) none)) none) none) (br (Jb a3 3) (br (done a3 3) (br a10 (br a11 (br (GE (a7,(p1,(p2,((p3.1,(p3.2.1,())),(p4,((a4,(0,())),(a2,(a5,(p6,(0,((([p2])++([a6])),((0,(0,())),())))))))))))) p5) (some (.t QW ((XP (a7,(p1,(p2,((p3.1,(p3.2.1,())),(p4,((a4,(0,())),(a2,(a5,(p6,(0,((([p2])++([a6])),((0,(0,())),())))))))))))) p5).1),[.box (.t Qn (Qc a3 3))])) none) none) none) (br (GE (a7,(p1,(p2,((p3.1,(p3.2.1,())),(p4,((a4,(0,())),(a2,(a5,(p6,(0,([p2],((0,(0,())),())))))))))))) p5) (some (.t QW ((XP (a7,(p1,(p2,((p3.1,(p3.2.1,())),(p4,((a4,(0,())),(a2,(a5,(p6,(0,([p2],((0,(0,())),())))))))))))) p5).1),[.box (.t Qn (Qc a3 3))])) none)) none)) none
def Qm1 (d0:Ab)(p1 p2:ByteArray)(p3:Aa)(p4 p5:Int)(p6:Bool):OV:=br (QR (Qr (Qc d0 1000) ([3,2,4,1])) ([0,5,10])) (QeQ d0 p1 p2 p3 p4 p5 p6) none
def Qm2 (d0:Ab)(p1 p2:ByteArray)(p3:Aa)(p4 p5:Int)(p6:Bool):OV:=br (QR (Qc d0 1000) ([3,2,4,1])) (Qm1 d0 p1 p2 p3 p4 p5 p6) none
def r_f87 (d0:Ab)(p1 p2:ByteArray)(p3:Aa)(p4 p5:Int)(p6:Bool):OV:=frk (br (QE d0 1000) (frk (br (QR (Qc d0 1000) ([3,2,4,1])) (frk (br (QR (Qr (Qc d0 1000) ([3,2,4,1])) ([0,5,10])) (frk (QeQ d0 p1 p2 p3 p4 p5 p6) (QeQ d0 p1 p2 p3 p4 p5 p6)) none) (Qm1 d0 p1 p2 p3 p4 p5 p6)) none) (Qm2 d0 p1 p2 p3 p4 p5 p6)) none) (br (QE d0 1000) (Qm2 d0 p1 p2 p3 p4 p5 p6) none)
theorem s_f87 (d i s k id g a)(h:Ed d i s k id g a=true):r_f87 d i s k id g a=some (.t QW (UH d i s k id g a),[.box (.t Qn (Gn d i s k id g a))]):=by
 simp only [Ed,Bd,Ba] at h
 obtain ⟨h,hi,hs⟩:=h
 have h1:QE d 1000=true:=Zp h (by omega)
 have k1:=Qz (n:=1000) h
 have h2:QR (Qc d 1000) [3,2,4,1]=true:=XJ k1 (by decide) (by decide)
 have k2:=JB (l:=[3,2,4,1]) k1
 have h3:QR (Qr (Qc d 1000) [3,2,4,1]) [0,5,10]=true:=XJ k2 (by decide) (by decide)
 have k3:=JB (l:=[0,5,10]) k2
 have h4:QR (Qr (Qr (Qc d 1000) [3,2,4,1]) [0,5,10]) [1000,100,50,20]=true:=XJ k3 (by decide) (by decide)
 have k4:=JB (l:=[1000,100,50,20]) k3
 have h5:QR (Qr (Qr (Qr (Qc d 1000) [3,2,4,1]) [0,5,10]) [1000,100,50,20]) [3,0,1]=true:=XJ k4 (by decide) (by decide)
 have h6:Jb (Qr (Qr (Qr (Qr (Qc d 1000) [3,2,4,1]) [0,5,10]) [1000,100,50,20]) [3,0,1]) 3=true:=WA (JB k4) (by omega) (by omega)
 have h7:Jb (Qr (Qr (Qr (Qc d 1000) [3,2,4,1]) [0,5,10]) [1000,100,50,20]) 3=true:=WA k4 (by omega) (by omega)
 have c1:cCat s (ByteArray.mk #[120])=true:=Bc (by show ((s.size+1:Nat):Int)<=_;omega)
 have c2:Qt [s] [Fn s (ByteArray.mk #[120])] 16=true:=by rfl
 have hn1: ∀ t∈[s],t.size<=1001:=fun t ht=>by
  rw [Dz] at ht
  subst ht
  omega
 have hn2: ∀ t∈[s]++[Fn s (ByteArray.mk #[120])],t.size<=1001:=fun t ht=>by
  simp only [BL,Dz] at ht
  rcases ht with rfl|rfl
  ·omega
  ·rw [QxG];show s.size+1<=_;omega
 have c3: ∀ (q p x y:Int) (u v:Aa) (kk:Aa),GE (q,(i,(s,(kk,(id,(u,(x,(y,(a,(p,([s],(v,())))))))))))) g=true:=fun q p x y u v kk=>QeP hi hs (by simp) hn1
 have c4: ∀ (q p x y:Int) (u v:Aa) (kk:Aa),GE (q,(i,(s,(kk,(id,(u,(x,(y,(a,(p,([s]++[Fn s (ByteArray.mk #[120])],(v,())))))))))))) g=true:=fun q p x y u v kk=>QeP hi hs (by simp) hn2
 simp only [r_f87,QeQ,Qm1,Qm2,JG,h1,h2,h3,h4,h5,h6,h7,c1,c2,c3,c4,Qd,JG]
 unfold UH Gn QeO cNm cD5 cPath
 cases a with
 |true=>
  rw [Qd]
  simp only [B6]
  cases done (Qr (Qr (Qr (Qr (Qc d 1000) [3,2,4,1]) [0,5,10]) [1000,100,50,20]) [3,0,1]) 3<;>rfl
 |false=>
  rw [Qh]
  simp only [BW]
  cases done (Qr (Qr (Qr (Qc d 1000) [3,2,4,1]) [0,5,10]) [1000,100,50,20]) 3<;>rfl
def QxH:Ent:=Yz Qn (.pr .str (.pr .str (.pr Qe (.pr tI (.pr tI (.pr .bool .nil)))))) (fun d x=>(Ed d x.1 x.2.1 x.2.2.1 x.2.2.2.1 x.2.2.2.2.1 x.2.2.2.2.2.1)) (fun d x=>(.t QW (UH d x.1 x.2.1 x.2.2.1 x.2.2.2.1 x.2.2.2.2.1 x.2.2.2.2.2.1))) (fun d x=>(Gn d x.1 x.2.1 x.2.2.1 x.2.2.2.1 x.2.2.2.2.1 x.2.2.2.2.2.1))
theorem ms_f87:EM 87 QxH:=mS g_f87 tc_f87 [((.c 14 true 15),some QW)] false (Zq _ (gA (gD Xq (gD EG (gD UY (gD QDD gN)))))) fun m=>Y7 m rfl fun d x hok=>kT (s_f87 d x.1 x.2.1 x.2.2.1 x.2.2.2.1 x.2.2.2.2.1 x.2.2.2.2.2.1 hok)
abbrev GU:ByteArray:=ByteArray.mk #[114,111,111,116]
abbrev WW:List ByteArray:=[ByteArray.mk #[99,97],ByteArray.mk #[99,98],ByteArray.mk #[99,99]]
abbrev Up:Type:=List Af×Ab×ByteArray×Int
def GV:Nat->Nat->Up->Up
 |0,_,u=>u
 |m+1,i,(ab,d,iss,g)=>GV m (i+1) (UH d iss (WW.getD i ByteArray.empty) (5,(2048,())) ((11+i:Nat):Int) g true::ab,Gn d iss (WW.getD i ByteArray.empty) (5,(2048,())) ((11+i:Nat):Int) g true,WW.getD i ByteArray.empty,((11+i:Nat):Int))
def Wt (u:Up):Bool:=dOk u.2.1&&decide (u.2.2.1.size<=1000)
def chU (d:Ab):Up:=GV (dof d [1,0,2]).toNat 0 ([],Qc (Qr d [1,0,2]) 2,GU,1+Qg (Qr d [1,0,2]) 2)
def E5 (d:Ab)(nm:ByteArray)(k:Aa)(id:Int):List Af:=UH (chU d).2.1 (chU d).2.2.1 nm k id (chU d).2.2.2 false::(chU d).1
def Vj (d:Ab)(nm:ByteArray)(k:Aa)(id:Int):Ab:=Gn (chU d).2.1 (chU d).2.2.1 nm k id (chU d).2.2.2 false
def E6 (d:Ab)(nm:ByteArray)(_k:Aa)(_id:Int):Bool:=dOk d&&decide (nm.size<=1000)
theorem Qsv (i:Nat):(WW.getD i ByteArray.empty).size<=2:=by
 rcases i with _|_|_|i
 ·exact BI 2
 ·exact BI 2
 ·exact BI 2
 ·exact B0 _
theorem QHX {ab:List Af}{d:Ab}{iss:ByteArray}{g:Int}{i:Nat}(h:Wt (ab,d,iss,g)=true):Wt (UH d iss (WW.getD i ByteArray.empty) (5,(2048,())) ((11+i:Nat):Int) g true::ab,Gn d iss (WW.getD i ByteArray.empty) (5,(2048,())) ((11+i:Nat):Int) g true,WW.getD i ByteArray.empty,((11+i:Nat):Int))=true:=by
 simp only [Wt,Bd,Ba] at h ⊢
 exact ⟨QxF h.1,by have:=Qsv i;omega⟩
theorem Qjp: ∀ (m i:Nat) (u:Up),Wt u=true->Wt (GV m i u)=true/\(GV m i u).1.length=u.1.length+m
 |0,_,u,h=>⟨h,rfl⟩
 |m+1,i,(ab,d,iss,g),h=>by
  have:=Qjp m (i+1) _ (QHX (i:=i) h)
  refine ⟨this.1,this.2.trans ?_⟩
  simp only [Br]
  omega
theorem cEta (c:Af):(c.1,(c.2.1,(c.2.2.1,((c.2.2.2.1.1,(c.2.2.2.1.2.1,())),(c.2.2.2.2.1,((c.2.2.2.2.2.1.1,(c.2.2.2.2.2.1.2.1,())),(c.2.2.2.2.2.2.1,(c.2.2.2.2.2.2.2.1,(c.2.2.2.2.2.2.2.2.1,(c.2.2.2.2.2.2.2.2.2.1,(c.2.2.2.2.2.2.2.2.2.2.1,((c.2.2.2.2.2.2.2.2.2.2.2.1.1,(c.2.2.2.2.2.2.2.2.2.2.2.1.2.1,())),()))))))))))))=c:=rfl
abbrev upQ (n i:Int)(ab:List Af)(d:Ab)(iss:ByteArray)(g:Int):Up:=GV (n-i).toNat i.toNat (ab,d,iss,g)
abbrev Qjq:Sh:=⟨[(0,.ptr 50000 0),(1,.ty .str),(3,.ty tI),(6,.ptr 6 0),(9,.ty tI),(10,.ty tI),(11,.ty .str),(12,.ms 12),(13,.ty tI)],[(6,.box Qe),(12,.arr 153 QW),(40,.no),(42,.no),(50000,.box Qn)]⟩
abbrev QHY:Sh:=⟨[(0,.ptr 50000 0),(1,.ty .str),(3,.ty tI),(6,.ptr 6 0),(10,.ty tI),(11,.ty .str),(12,.ms 12)],[(6,.box Qe),(12,.arr 153 QW),(40,.no),(42,.no),(50000,.box Qn)]⟩
def Qsw:Fg:=Qjq.f
def QHZ:TC:=aF Tryz.f57 [(250,.nw 12 153),(250,pL 0 Qsw),(500,.mv [(40,12)]),(4003,.fg QHY.f)]
def QH0:TC:=lb 0 QHZ
def QH1 (x1:ByteArray)(x3 x9 x10:Int)(x11:ByteArray)(x13:Int)(y6:Aa)(y12:List Af)(Qa:Ab):VS:=Qjq.st ((),x1,x3,(),x9,x10,x11,(),x13,()) (y6,y12,(),(),Qa,())
def Qsx (x1:ByteArray)(x3 x10:Int)(x11:ByteArray)(y6:Aa)(y12:List Af)(Qa:Ab):VS:=QHY.st ((),x1,x3,(),x10,x11,(),()) (y6,y12,(),(),Qa,())
def QXZ:VS->Option (Bool×List (Bool×Exit×VS)):=mkL Qjq (fun x y=>(decide (0<=x.2.2.2.2.2.2.2.2.1/\x.2.2.2.2.2.2.2.2.1<=x.2.2.2.2.1/\x.2.2.2.2.1<=3/\y.2.1.length<=x.2.2.2.2.2.2.2.2.1)&&Wt (y.2.1,y.2.2.2.2.1,x.2.2.2.2.2.2.1,x.2.2.2.2.2.1))) (fun x y=>[(true,.exit 0,Qsx (x.2.1) (x.2.2.1) ((upQ x.2.2.2.2.1 x.2.2.2.2.2.2.2.2.1 y.2.1 y.2.2.2.2.1 x.2.2.2.2.2.2.1 x.2.2.2.2.2.1).2.2.2) ((upQ x.2.2.2.2.1 x.2.2.2.2.2.2.2.2.1 y.2.1 y.2.2.2.2.1 x.2.2.2.2.2.2.1 x.2.2.2.2.2.1).2.2.1) (y.1) ((upQ x.2.2.2.2.1 x.2.2.2.2.2.2.2.2.1 y.2.1 y.2.2.2.2.1 x.2.2.2.2.2.2.1 x.2.2.2.2.2.1).1) ((upQ x.2.2.2.2.1 x.2.2.2.2.2.2.2.2.1 y.2.1 y.2.2.2.2.1 x.2.2.2.2.2.2.1 x.2.2.2.2.2.1).2.1))])
def Qsy:G:=⟨TYs,[40,53],56,EL [(10,Y9),(33,Ug),(87,QxH)],Yx,(Ls [QXZ]),IL [],RL []⟩
def Qjr (x1:ByteArray)(x3 x9 x10:Int)(x11:ByteArray)(x13:Int)(y6:Aa)(y12:List Af)(Qa:Ab):OX:=Qu (Qx Qsy Qsw QH0) (QH1 x1 x3 x9 x10 x11 x13 y6 y12 Qa)
def QcK (kk:ByteArray->Int->Int->Int->ByteArray->Int->Aa->List Af->Ab->OX)(x1:ByteArray)(x3 x9 x10:Int)(x11:ByteArray)(x13:Int)(y6:Aa)(y12:List Af)(Qa:Ab):OX:=
 let a3:=(lgt .str ([(ByteArray.mk #[99,97]),(ByteArray.mk #[99,98]),(ByteArray.mk #[99,99])]) (Int.toNat x13))
 let a4:=Qi .i64 11 x13
 let a1:=(UH Qa x11 a3 (5,(2048,())) a4 x10 true)
 let a2:=((a1.2).1,(((a1.2).2).1,((((((a1.2).2).2).1).1,((((((a1.2).2).2).1).2).1,())),(((((a1.2).2).2).2).1,((((((((a1.2).2).2).2).2).1).1,((((((((a1.2).2).2).2).2).1).2).1,())),(((((((a1.2).2).2).2).2).2).1,((((((((a1.2).2).2).2).2).2).2).1,(((((((((a1.2).2).2).2).2).2).2).2).1,((((((((((a1.2).2).2).2).2).2).2).2).2).1,(((((((((((a1.2).2).2).2).2).2).2).2).2).2).1,((((((((((((((a1.2).2).2).2).2).2).2).2).2).2).2).1).1,((((((((((((((a1.2).2).2).2).2).2).2).2).2).2).2).1).2).1,())),())))))))))))
 br (ilt x13 x9) (br (cIx ([(ByteArray.mk #[99,97]),(ByteArray.mk #[99,98]),(ByteArray.mk #[99,99])]) x13) (br (Ed Qa x11 a3 (5,(2048,())) a4 x10 true) (br (Qt ([(a1.1,a2)]) y12 152) (kk x1 x3 x9 a4 a3 (Qi .i64 x13 1) y6 (([(a1.1,a2)])++y12) (Gn Qa x11 a3 (5,(2048,())) a4 x10 true)) none) none) none) (some (.exit 0,Qsx x1 x3 x10 x11 y6 y12 Qa))
def Qjs (x1:ByteArray)(x3 x9 x10:Int)(x11:ByteArray)(x13:Int)(y6:Aa)(y12:List Af)(Qa:Ab):OX:=
 let a1:=upQ x9 x13 y12 Qa x11 x10
 some (.exit 0,Qsx (x1) (x3) (a1.2.2.2) (a1.2.2.1) (y6) (a1.1) (a1.2.1))
theorem QH2 (x1 x3 x9 x10 x11 x13 y6 y12 Qa):Qjr x1 x3 x9 x10 x11 x13 y6 y12 Qa=QcK Qjr x1 x3 x9 x10 x11 x13 y6 y12 Qa:=lnT (x:=QcK (fun x1 x3 x9 x10 x11 x13 y6 y12 Qa=>some (.normal,QH1 x1 x3 x9 x10 x11 x13 y6 y12 Qa)) x1 x3 x9 x10 x11 x13 y6 y12 Qa) (by simp only [QcK,nxA];rfl)
def r_f57 (d0:Ab)(p1:ByteArray)(p2:Aa)(p3:Int):OV:=
 let a4:=(Qr d0 ([1,0,2]))
 let a1:=(upQ (dof d0 ([1,0,2])) (0:Int) ([]:List Af) (Qc a4 2) (ByteArray.mk #[114,111,111,116]) (Qi .i64 1 (Qg a4 2)))
 let a2:=UH (a1.2.1) (a1.2.2.1) (p1) (p2) (p3) (a1.2.2.2) false
 let a3:=((a2.2).1,(((a2.2).2).1,((((((a2.2).2).2).1).1,((((((a2.2).2).2).1).2).1,())),(((((a2.2).2).2).2).1,((((((((a2.2).2).2).2).2).1).1,((((((((a2.2).2).2).2).2).1).2).1,())),(((((((a2.2).2).2).2).2).2).1,((((((((a2.2).2).2).2).2).2).2).1,(((((((((a2.2).2).2).2).2).2).2).2).1,((((((((((a2.2).2).2).2).2).2).2).2).2).1,(((((((((((a2.2).2).2).2).2).2).2).2).2).2).1,((((((((((((((a2.2).2).2).2).2).2).2).2).2).2).2).1).1,((((((((((((((a2.2).2).2).2).2).2).2).2).2).2).2).1).2).1,())),())))))))))))
 br (QR d0 ([1,0,2])) (br (QE a4 2) (br (decide (0<=(0:Int)/\(0:Int)<=(dof d0 ([1,0,2]))/\(dof d0 ([1,0,2]))<=3/\([]:List Af).length<=(0:Int))&&Wt (([]:List Af),(Qc a4 2),(ByteArray.mk #[114,111,111,116]),(Qi .i64 1 (Qg a4 2)))) (br (Ed (a1.2.1) (a1.2.2.1) (p1) (p2) (p3) (a1.2.2.2) false) (br (Qt ([(a2.1,a3)]) (a1.1) 152) (some (.t (.sl QW) (([(a2.1,a3)])++(a1.1)),[.box (.t Qn (Gn (a1.2.1) (a1.2.2.1) (p1) (p2) (p3) (a1.2.2.2) false))])) none) none) none) none) none
theorem QX0 (x1:ByteArray)(x3 x9 x10:Int)(x11:ByteArray)(x13:Int)(y6:Aa)(y12:List Af)(Qa:Ab)(h:(decide (0<=x13/\x13<=x9/\x9<=3/\y12.length<=x13)&&Wt (y12,Qa,x11,x10))=true):Qjr x1 x3 x9 x10 x11 x13 y6 y12 Qa=Qjs x1 x3 x9 x10 x11 x13 y6 y12 Qa:=by
 obtain ⟨h,hu⟩:=Bf.1 h
 obtain ⟨h0,h1,h2,h3⟩:=Bw h
 clear h
 obtain ⟨k,rfl⟩:=Bm h0
 obtain ⟨n,rfl⟩:=Bm (show 0<=x9 by omega)
 have key: ∀ (m k:Nat) (x10:Int) (x11:ByteArray) (y12:List Af) (Qa:Ab),m=n-k->k<=n->y12.length<=k->Wt (y12,Qa,x11,x10)=true->Qjr x1 x3 (n:Int) x10 x11 (k:Int) y6 y12 Qa=Qjs x1 x3 (n:Int) x10 x11 (k:Int) y6 y12 Qa:=by
  intro m
  induction m with
  |zero=>
   intro k x10 x11 y12 Qa hm h1 h3 hu
   have:k=n:=by omega
   subst this
   rw [QH2]
   simp only [QcK,Qjs,show ilt (k:Int) (k:Int)=false from Bn (by omega),Qh,upQ,Int.sub_self,Bt,GV]
  |succ m ih=>
   intro k x10 x11 y12 Qa hm h1 h3 hu
   rw [QH2]
   have hk:k<3:=by omega
   have c1:cIx WW (k:Int)=true:=by rw [QM];exact Bc hk
   have e1:Qi .i64 11 (k:Int)=((11+k:Nat):Int):=(Ja (by omega)).trans (by omega)
   have hu2:=Bf.1 hu
   have hu3:x11.size<=1000:=Bw hu2.2
   have c2:Ed Qa x11 (WW.getD k ByteArray.empty) (5,(2048,())) ((11+k:Nat):Int) x10 true=true:=Bf.2 ⟨hu2.1,Bc ⟨hu3,by have:=Qsv k;omega⟩⟩
   have c3: ∀ c:Af,Qt [c] y12 152=true:=fun c=>QX (by omega) (by simp only [Bh];omega)
   have hg:lgt .str WW k=WW.getD k ByteArray.empty:=rfl
   simp only [QcK,cEta,show ilt (k:Int) (n:Int)=true from Bc (by omega),Qd,c1,e1,Bb,hg,c2,c3,QO (k:=k),BD]
   rw [ih (k+1) _ _ _ _ (by omega) (by omega) (by simp only [Br];omega) (QHX hu)]
   have q1:((n:Int)-(k:Int)).toNat=m+1:=by omega
   have q2:((n:Int)-((k+1:Nat):Int)).toNat=m:=by omega
   simp only [Qjs,upQ,q1,q2,Bb,GV]
 exact key _ k _ _ _ _ rfl (by omega) (by omega) hu
theorem QX1:LO Qsy Qsw QH0 0:=QC (s:=Qjq) fun x y h _ q=>by simp only [QA,QB] at q;exact (QX0 x.2.1 x.2.2.1 x.2.2.2.2.1 x.2.2.2.2.2.1 x.2.2.2.2.2.2.1 x.2.2.2.2.2.2.2.2.1 y.1 y.2.1 y.2.2.2.2.1 h).trans q
theorem s_f57 (d nm k id)(h:E6 d nm k id=true):r_f57 d nm k id=some (.t (.sl QW) (E5 d nm k id),[.box (.t Qn (Vj d nm k id))]):=by
 simp only [E6,Bd,Ba] at h
 obtain ⟨h,hn⟩:=h
 have h1:QR d [1,0,2]=true:=XJ h (by decide) (by decide)
 have k1:=JB (l:=[1,0,2]) h
 have h2:QE (Qr d [1,0,2]) 2=true:=Zp k1 (by omega)
 have b2:=Q8 (d:=Qr d [1,0,2]) (n:=2) (by omega)
 have e2:Qi .i64 1 (Qg (Qr d [1,0,2]) 2)=1+Qg (Qr d [1,0,2]) 2:=Ja (by omega)
 have hm:=X9 (d:=d) (l:=[1,0,2]) (by decide)
 simp only [BQ,B3,Dt] at hm
 have hu0:Wt ([],Qc (Qr d [1,0,2]) 2,GU,1+Qg (Qr d [1,0,2]) 2)=true:=Bf.2 ⟨Qz (n:=2) k1,rfl⟩
 obtain ⟨hv,hl⟩:=Qjp (dof d [1,0,2]).toNat 0 _ hu0
 have hv2:=Bf.1 hv
 have hv3:(chU d).2.2.1.size<=1000:=Bw hv2.2
 have c5:Ed (chU d).2.1 (chU d).2.2.1 nm k id (chU d).2.2.2 false=true:=Bf.2 ⟨hv2.1,Bc ⟨hv3,hn⟩⟩
 have hl2:(chU d).1.length<=3:=by
  unfold chU
  rw [hl]
  simp only [Bv]
  omega
 have c6: ∀ c:Af,Qt [c] (chU d).1 152=true:=fun c=>QX (by omega) (by simp only [Bh];omega)
 have c7:(decide ((0:Int)<=0/\(0:Int)<=dof d [1,0,2]/\dof d [1,0,2]<=3/\(([]:List Af).length:Int)<=0)&&Wt ([],Qc (Qr d [1,0,2]) 2,GU,1+Qg (Qr d [1,0,2]) 2))=true:=Bf.2 ⟨Bc ⟨BY _,by omega,by omega,BY _⟩,hu0⟩
 have e3:upQ (dof d [1,0,2]) 0 [] (Qc (Qr d [1,0,2]) 2) GU (1+Qg (Qr d [1,0,2]) 2)=chU d:=by
  unfold upQ chU
  rw [Int.sub_zero,Bt]
 simp only [r_f57,h1,h2,e2,Qd,cEta,e3,c5,c6]
 refine Eq.trans (congrArg (fun b=>br b _ _) c7) ?_
 rfl
def QH3:Ent:=Yz Qn (.pr .str (.pr Qe (.pr tI .nil))) (fun d x=>(E6 d x.1 x.2.1 x.2.2.1)) (fun d x=>(.t (.sl QW) (E5 d x.1 x.2.1 x.2.2.1))) (fun d x=>(Vj d x.1 x.2.1 x.2.2.1))
theorem ms_f57:EM 57 QH3:=mS (lk:=lkL (lkc QX1 lkn)) Qsy QHZ [((.t 8),some (.sl QW))] false (Zq _ (gA (gD Xq (gD UY (gD ms_f87 gN))))) fun m=>Y7 m rfl fun d x hok=>kT (s_f57 d x.1 x.2.1 x.2.2.1 hok)
def QM9:Ent:=Qre Qab
theorem Q2O:QH Tryz.prog 85 (QD QM9):=QVC Qac.2
def suZ:Nat->List Int->Ab->List Int×Ab
 |0,l,d=>(l,d)
 |n+1,l,d=>suZ n (bif !Ju l (1+Qg d 16) then l++[1+Qg d 16] else l) (Qc d 16)
def suI (d:Ab):List Int×Ab:=suZ (2+Qg d 9).toNat [] (Qc d 9)
def F7 (d:Ab):List Int:=bif done (suI d).2 4 then I2 (suI d).1 else (suI d).1
def UF (d:Ab):Ab:=Qc (suI d).2 4
theorem QNa: ∀ (n:Nat) (l:List Int) (d:Ab),dOk d=true->dOk (suZ n l d).2=true/\(suZ n l d).1.length<=l.length+n
 |0,l,d,h=>⟨h,BI _⟩
 |n+1,l,d,h=>by
  have:=QNa n (bif !Ju l (1+Qg d 16) then l++[1+Qg d 16] else l) (Qc d 16) (Qz h)
  refine ⟨this.1,B5 this.2 ?_⟩
  cases !Ju l (1+Qg d 16)<;>simp only [B6,BW,Bj,Bh]<;>omega
theorem QvO {d:Ab}(h:dOk d=true):dOk (suI d).2=true/\(suI d).1.length<=10:=by
 have h2:=QNa (2+Qg d 9).toNat [] (Qc d 9) (Qz h)
 have b:=Q8 (d:=d) (n:=9) (by omega)
 refine ⟨h2.1,B5 h2.2 ?_⟩
 simp only [Bv]
 omega
theorem QvP {d:Ab}(h:dOk d=true):dOk (UF d)=true:=Qz (n:=4) (QvO h).1
abbrev QlV:Sh:=⟨[(0,.ptr 50000 0),(3,.ms 3),(4,.ty tI)],[(3,.arr 3 tI),(23,.no),(27,.no),(5027,.no),(10027,.no),(15027,.no),(50000,.box Qn)]⟩
abbrev QNb:Sh:=⟨[(0,.ptr 50000 0),(3,.ms 3)],[(3,.arr 3 tI),(23,.no),(27,.no),(5027,.no),(10027,.no),(15027,.no),(50000,.box Qn)]⟩
def QvQ:Fg:=QlV.f
def QNc:TC:=aF Tryz.f54 [(58,.nw 3 3),(58,pL 0 QvQ),(931,.fg QNb.f)]
def QNd:TC:=lb 0 QNc
def QNe (x4:Int)(y3:List Int)(Qa:Ab):VS:=QlV.st ((),(),x4,()) (y3,(),(),(),(),(),Qa,())
def QvR (y3:List Int)(Qa:Ab):VS:=QNb.st ((),(),()) (y3,(),(),(),(),(),Qa,())
def Q2P:VS->Option (Bool×List (Bool×Exit×VS)):=mkL QlV (fun x y=>(decide (0<=x.2.2.1/\(y.1.length:Int)+x.2.2.1<=10)&&dOk y.2.2.2.2.2.2.1)) (fun x y=>[(true,.exit 0,QvR ((suZ x.2.2.1.toNat y.1 y.2.2.2.2.2.2.1).1) ((suZ x.2.2.1.toNat y.1 y.2.2.2.2.2.2.1).2))])
def QvS:G:=⟨TYs,[],29,EL [(10,Y9),(13,Fq),(85,QM9),(86,QAL)],(85::Yx),(Ls [Q2P]),IL [],RL []⟩
def QlW (x4:Int)(y3:List Int)(Qa:Ab):OX:=Qu (Qx QvS QvQ QNd) (QNe x4 y3 Qa)
def Qd3 (kk:Int->List Int->Ab->OX)(x4:Int)(y3:List Int)(Qa:Ab):OX:=
 let a1:=Qi .i64 1 (Qg Qa 16)
 br (igt x4 0) (br (QE Qa 16) (br (Jm y3 a1) (br (!(Ju y3 a1)) (br (Qt y3 ([a1]) 8) (kk (QQ .i64 x4 1) (y3++([a1])) (Qc Qa 16)) none) (kk (QQ .i64 x4 1) y3 (Qc Qa 16))) none) none) (some (.exit 0,QvR y3 Qa))
def QlX (x4:Int)(y3:List Int)(Qa:Ab):OX:=
 let a1:=suZ x4.toNat y3 Qa
 some (.exit 0,QvR (a1.1) (a1.2))
theorem QNf (x4 y3 Qa):QlW x4 y3 Qa=Qd3 QlW x4 y3 Qa:=lnT (x:=Qd3 (fun x4 y3 Qa=>some (.normal,QNe x4 y3 Qa)) x4 y3 Qa) (by simp only [Qd3,nxA];rfl)
def r_f54 (d0:Ab):OV:=
 let a2:=Qi .i64 2 (Qg d0 9)
 let a1:=(suZ a2.toNat ([]:List Int) (Qc d0 9))
 br (QE d0 9) (br (decide (0<=a2/\(([]:List Int).length:Int)+a2<=10)&&dOk (Qc d0 9)) (br (Jb (a1.2) 4) (br (done (a1.2) 4) (br (Qa8 (a1.1)) (some (.ms 50001,[.box (.t Qn (Qc (a1.2) 4)),.arr 3 tI (I2 (a1.1))])) none) (some (.ms 50001,[.box (.t Qn (Qc (a1.2) 4)),.arr 3 tI (a1.1)]))) none) none) none
theorem Q2Q (x4:Int)(y3:List Int)(Qa:Ab)(h:(decide (0<=x4/\(y3.length:Int)+x4<=10)&&dOk Qa)=true):QlW x4 y3 Qa=QlX x4 y3 Qa:=by
 obtain ⟨h,hd⟩:=Bf.1 h
 obtain ⟨h0,h1⟩:=Bw h
 clear h
 obtain ⟨n,rfl⟩:=Bm h0
 have key: ∀ (n:Nat) (y3:List Int) (Qa:Ab),y3.length+n<=10->dOk Qa=true->QlW (n:Int) y3 Qa=QlX (n:Int) y3 Qa:=by
  intro n
  induction n with
  |zero=>
   intro y3 Qa _ _
   rw [QNf]
   simp only [Qd3,QlX,show igt ((0:Nat):Int) 0=false from rfl,Qh,Bb,suZ]
  |succ n ih=>
   intro y3 Qa hl hd
   rw [QNf]
   have b:=Q8 (d:=Qa) (n:=16) (by omega)
   have e1:Qi .i64 1 (Qg Qa 16)=1+Qg Qa 16:=Ja (by omega)
   have e2:QQ .i64 ((n+1:Nat):Int) 1=(n:Int):=(Zv (by omega)).trans (by omega)
   have c1:QE Qa 16=true:=Zp hd (by omega)
   have c2: ∀ v,Jm y3 v=true:=fun v=>Bc (by omega)
   have c3: ∀ v,Qt y3 [v] 8=true:=fun v=>QX (by omega) (by simp only [Bh];omega)
   simp only [Qd3,show igt ((n+1:Nat):Int) 0=true from Bc (by omega),Qd,e1,e2,c1,c2,c3]
   rw [ih y3 (Qc Qa 16) (by omega) (Qz hd),ih (y3++[1+Qg Qa 16]) (Qc Qa 16) (by simp only [Bj,Bh];omega) (Qz hd)]
   simp only [QlX,Bb,suZ]
   cases !Ju y3 (1+Qg Qa 16)<;>rfl
 exact key n y3 Qa (by omega) hd
theorem Q2R:LO QvS QvQ QNd 0:=QC (s:=QlV) fun x y h _ q=>by simp only [QA,QB] at q;exact (Q2Q x.2.2.1 y.1 y.2.2.2.2.2.2.1 h).trans q
theorem s_f54 (d)(h:dOk d=true):r_f54 d=some (.ms 50001,[.box (.t Qn (UF d)),.arr 3 tI (F7 d)]):=by
 have b:=Q8 (d:=d) (n:=9) (by omega)
 have e1:Qi .i64 2 (Qg d 9)=2+Qg d 9:=Ja (by omega)
 have c1:QE d 9=true:=Zp h (by omega)
 obtain ⟨k1,k2⟩:=QvO h
 have c2:Jb (suI d).2 4=true:=WA k1 (by omega) (by omega)
 have c3:Qa8 (suI d).1=true:=Bc (by omega)
 have c4:(decide ((0:Int)<=2+Qg d 9/\(([]:List Int).length:Int)+(2+Qg d 9)<=10)&&dOk (Qc d 9))=true:=Bf.2 ⟨Bc ⟨by omega,by simp only [Bv];omega⟩,Qz h⟩
 have e2:suZ (2+Qg d 9).toNat [] (Qc d 9)=suI d:=rfl
 simp only [r_f54,c1,e1,Qd,e2,c2,c3]
 refine Eq.trans (congrArg (fun b=>br b _ _) c4) ?_
 rw [Qd]
 unfold F7 UF
 cases done (suI d).2 4<;>rfl
def QNg:Ent:=Uf [.ptr 50000 0] [.box Qn] (fun x y=>(dOk y.1)) (fun x y=>(.ms 50001)) (fun x y=>[.box (.t Qn (UF y.1)),.arr 3 tI (F7 y.1)])
theorem ms_f54:EM 54 QNg:=mS (lk:=lkL (lkc Q2R lkn)) QvS QNc [((.t 2),none)] true (Zq _ (gA (gD Xq (gD EG (gC Qac.1 Q2O (gD ms_f86 gN)))))) fun m=>Y8 m fun x y hok=>kT (s_f54 y.1 hok)
abbrev iB (d:Ab):Bool:=igt (Qg (ZQ d) 3) 0
abbrev iD2 (d:Ab):Ab:=Qc (ZQ d) 3
abbrev iA (d:Ab):Int:=dof (iD2 d) [5,7]
def Qj3 (d:Ab):Aa:=bif iB d then (iA d,(F9 (Qr (iD2 d) [5,7]) (iA d),())) else Fb d
def iD3 (d:Ab):Ab:=bif iB d then XG (Qr (iD2 d) [5,7]) (iA d) else iD2 d
def iId (d:Ab):Int:=100+Qg (iD3 d) 20
abbrev iD4 (d:Ab):Ab:=Qc (iD3 d) 20
abbrev iD5 (d:Ab):Ab:=Qc (iD4 d) 9
def iCh (d:Ab)(nm:ByteArray):List Af:=bif !done (iD4 d) 9 then E5 (iD5 d) nm (Qj3 d) (iId d) else []
def iD6 (d:Ab)(nm:ByteArray):Ab:=bif !done (iD4 d) 9 then Vj (iD5 d) nm (Qj3 d) (iId d) else iD5 d
def idV (d:Ab)(nm:ByteArray):Aj:=(Qj3 d,(iId d,(iCh d nm,())))
theorem QJT {d:Ab}(h:dOk d=true):dOk (iD3 d)=true:=by
 unfold iD3
 cases iB d
 ·exact Qz (n:=3) (Qm0 h)
 ·exact QmA (JB (l:=[5,7]) (Qz (n:=3) (Qm0 h)))
theorem QZb {d:Ab}{nm:ByteArray}{k:Aa}{id:Int}(h:dOk d=true):dOk (Vj d nm k id)=true:=by
 have h2:=(Qjp (dof d [1,0,2]).toNat 0 _ (Bf.2 ⟨Qz (n:=2) (JB (l:=[1,0,2]) h),rfl⟩:Wt ([],Qc (Qr d [1,0,2]) 2,GU,1+Qg (Qr d [1,0,2]) 2)=true)).1
 exact QxF (Bf.1 h2).1
theorem QtA {d:Ab}{nm:ByteArray}(h:dOk d=true):dOk (iD6 d nm)=true:=by
 have h5:dOk (iD5 d)=true:=Qz (n:=9) (Qz (n:=20) (QJT h))
 unfold iD6
 cases !done (iD4 d) 9
 ·exact h5
 ·exact QZb h5
def Xi:Nat->ByteArray->Ab->List Aj×Ab
 |0,_,d=>([],d)
 |n+1,nm,d=>(idV d nm::(Xi n nm (iD6 d nm)).1,(Xi n nm (iD6 d nm)).2)
theorem Qj4: ∀ (n:Nat) (nm:ByteArray) (d:Ab),dOk d=true->dOk (Xi n nm d).2=true/\(Xi n nm d).1.length=n
 |0,_,d,h=>⟨h,rfl⟩
 |n+1,nm,d,h=>by
  have:=Qj4 n nm (iD6 d nm) (QtA h)
  exact ⟨this.1,by simp only [Xi,Br,this.2]⟩
abbrev eL0 (d:Ab):Int:=dof d [1,1,2,3]
abbrev eD1 (d:Ab):Ab:=Qr d [1,1,2,3]
abbrev eD2 (d:Ab):Ab:=UF (eD1 d)
abbrev eD3 (d:Ab):Ab:=Qc (eD2 d) 2
abbrev eD4 (d:Ab):Ab:=Qc (eD3 d) 2
abbrev eD5 (d:Ab):Ab:=Qc (eD4 d) (5-eL0 d)
abbrev eD6 (d:Ab):Ab:=Qc (eD5 d) 3
abbrev eB (d:Ab):Bool:=igt (Qg (eD5 d) 3) 0
def Qc2 (d:Ab):Int:=bif eB d then 1 else eL0 d
def Qc3 (d:Ab):Int:=bif eB d then dof (eD6 d) [3,4,2] else eL0 d+Qg (eD4 d) (5-eL0 d)
def eD7 (d:Ab):Ab:=bif eB d then Qr (eD6 d) [3,4,2] else eD6 d
abbrev eD8 (d:Ab):Ab:=Qr (eD7 d) [1,2,1,3,0]
def XZ (d:Ab)(nm:ByteArray):List Aj×Ab:=Xi (dof (eD7 d) [1,2,1,3,0]).toNat nm (eD8 d)
abbrev eAn (d:Ab)(nm:ByteArray):List Int:=lgt (.sl tI) [[1,2],[1,2],[1],[2,11],([]:List Int)] (Qg (XZ d nm).2 5).toNat
abbrev eD10 (d:Ab)(nm:ByteArray):Ab:=Qc (XZ d nm).2 5
abbrev eHs (d:Ab)(nm:ByteArray):List Int:=lgt (.sl tI) [[1,2,3,4],[2,3,4],[3,4]] (Qg (eD10 d nm) 3).toNat
def epV (d:Ab)(nm:ByteArray):Ac:=(nm,(Qc2 d,(Qc3 d,(F7 (eD1 d),(done (eD2 d) 2,((XZ d nm).1,(eAn d nm,(eHs d nm,(done (eD3 d) 2,())))))))))
def epN (d:Ab)(nm:ByteArray):Ab:=Qc (eD10 d nm) 3
def Qc4 (d:Ab)(nm:ByteArray):Bool:=dOk d&&decide (nm.size<=1000)
-- loop 0: (x1 : ByteArray) (x6 : Int) (y4 : Ac) (y5_0 : ByteArray) (y5_1 : Int) (y5_2 : Int) (y5_4 : Bool) (y5_8 : Bool) (y15 : (List Int)) (JD : (List Aj)) (Qa : Ab); out: ('exit', 0) (y4 : Ac) (y5_0 : ByteArray) (y5_1 : Int) (y5_2 : Int) (y5_4 : Bool) (y5_8 : Bool) (y15 : (List Int)) (JD : (List Aj)) (Qa : Ab)
theorem QWQ (l:List Int):(I2 l).length=l.length:=by
 unfold I2
 have: ∀ (l a:List Int),(l.foldl UM a).length=a.length+l.length:=by
  intro l
  induction l with
  |nil=>intro a;rfl
  |cons x r ih=>
   intro a
   rw [DE,ih,QAE,Br]
   omega
 rw [this]
 simp
theorem QWR {d:Ab}(h:dOk d=true):(F7 d).length<=10:=by
 have:=(QvO h).2
 unfold F7
 cases done (suI d).2 4
 ·exact this
 ·rw [B6,QWQ]
  exact this
theorem QWS {d:Ab}{nm:ByteArray}(h:dOk d=true):dOk (XZ d nm).2=true:=by
 have k4:=Qz (n:=2) (Qz (n:=2) (QvP (JB (l:=[1,1,2,3]) h)))
 have k6:=Qz (n:=3) (Qz (n:=5-eL0 d) k4)
 have k7:dOk (eD7 d)=true:=by
  unfold eD7
  cases eB d
  ·exact k6
  ·exact JB (l:=[3,4,2]) k6
 exact (Qj4 (dof (eD7 d) [1,2,1,3,0]).toNat nm (eD8 d) (JB (l:=[1,2,1,3,0]) k7)).1
theorem QrK {d:Ab}{nm:ByteArray}(h:dOk d=true):dOk (epN d nm)=true:=Qz (n:=3) (Qz (n:=5) (QWS h))
def prZ:List Int->List Int->Ab->List Int×Ab
 | [],s,d=>(s,d)
 |x::r,s,d=>if ilt (Qb s) 16=true then (if Ju s x=true then prZ r s d else if done d 2=true then prZ r (s++[x]) (Qc d 2) else prZ r s (Qc d 2)) else (s,d)
theorem QWT {d:Ab}{nm:ByteArray}(h:dOk d=true):(QI (epV d nm)).length<=10:=QWR (JB (l:=[1,1,2,3]) h)
end
end Go.Proofs.YtkmobehaikjdjaaGreat.K
