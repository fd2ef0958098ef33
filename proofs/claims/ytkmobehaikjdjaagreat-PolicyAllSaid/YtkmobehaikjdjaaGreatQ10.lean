import Derived.Test.YtkmobehaikjdjaaGreatQ9
import Derived.Test.YtkmobehaikjdjaaGreatQ8
import Derived.Maps.OwnIn
import Derived.ChangeKeysEq
set_option maxRecDepth 100000
set_option linter.unusedSimpArgs false
set_option linter.unusedVariables false
noncomputable section
namespace Go.Proofs.YtkmobehaikjdjaaGreat
namespace K
open Go.RowKit
def J2 (l:List Ae):Bool:=decide (l.length<=100000)&&l.all Jy
def ZT (l:List Ae)(o:Ab):Bool:=J2 l&&Jm o.1 0
theorem OL {l:List Ae}(h:J2 l=true):l.length<=100000:=Bw (Bf.1 h).1
theorem Qb1 {l:List Ae}(h:J2 l=true){k:Nat}(hk:k<l.length):Jy l[k]=true:=Bi.1 (Bf.1 h).2 _ (BC hk)
theorem QD4 {l:List Ae}{o:Ab}(h:ZT l o=true){k:Nat}(hk:k<l.length):E0 l[k] o=true:=by
 obtain ⟨h1,h2⟩:=Bf.1 h
 exact Bf.2 ⟨Qb1 h1 hk,h2⟩
def U0 (o:Ab)(u:Aa)(p:Int)(s:ByteArray)(d:Int)(x:Ae):Bool:=Xu x o&&Ur x u p s d
def EN (l:List Ae)(o:Ab)(u:Aa)(p:Int)(s:ByteArray)(d:Int):Bool:=l.any (U0 o u p s d)
def Fy (l:List Ae)(o:Ab)(_u:Aa)(_p:Int)(_s:ByteArray)(_d:Int):Bool:=ZT l o
def Fz (o:Ab)(u:Aa)(p:Int)(s:ByteArray)(d:Int)(z:Int×Bool)(x:Ae):Int×Bool:=bif U0 o u p s d x then (imx z.1 x.2.2.2.1.2.1,true) else z
def EO (l:List Ae)(o:Ab)(u:Aa)(p:Int)(s:ByteArray)(d:Int):Int×Bool:=l.foldl (Fz o u p s d) (0,false)
theorem QD5 (o:Ab)(u:Aa)(p:Int)(s:ByteArray)(d:Int): ∀ (l:List Ae) (z:Int×Bool),(l.foldl (Fz o u p s d) z).2=(z.2||l.any (U0 o u p s d))
 | [],z=>by simp
 |x::l,z=>by
  rw [DE,QD5 o u p s d l,List.any_cons]
  unfold Fz
  cases U0 o u p s d x with
  |true=>simp
  |false=>simp
theorem QUa (l:List Ae)(o:Ab)(u:Aa)(p:Int)(s:ByteArray)(d:Int):(EO l o u p s d).2=EN l o u p s d:=by
 unfold EO EN
 rw [QD5]
 rfl
abbrev QhE:Sh:=⟨[(3,.ty tI),(4,.ty .str),(5,.ty tI),(7,.ptr 7 0),(8,.ptr 8 0),(14,.ty tI),(15,.ty .bool),(18,.ty (.sl QK)),(19,.ty tI),(20,.ty tI)],[(7,.box Qn),(8,.box Qe)]⟩
abbrev QD6:Sh:=⟨[(14,.ty tI),(15,.ty .bool)],[]⟩
def Qqw:Fg:=QhE.f
def QD7:TC:=aF Tryz.f152 [(58,pL 0 Qqw),(933,.fg QD6.f)]
def QD8:TC:=lb 0 QD7
def QD9 (x3:Int)(x4:ByteArray)(x5 x14:Int)(x15:Bool)(x18:List Ae)(x19 x20:Int)(y7:Ab)(y8:Aa):VS:=QhE.st (x3,x4,x5,(),(),x14,x15,x18,x19,x20,()) (y7,y8,())
def Qqx (x14:Int)(x15:Bool):VS:=QD6.st (x14,x15,()) ()
def QUb:VS->Option (Bool×List (Bool×Exit×VS)):=mkL QhE (fun x y=>(Qw x.2.2.2.2.2.2.2.1 x.2.2.2.2.2.2.2.2.1 x.2.2.2.2.2.2.2.2.2.1&&ZT x.2.2.2.2.2.2.2.1 y.1)) (fun x y=>[(true,.exit 0,Qqx (((x.2.2.2.2.2.2.2.1.drop x.2.2.2.2.2.2.2.2.2.1.toNat).foldl (Fz y.1 y.2.1 x.1 x.2.1 x.2.2.1) (x.2.2.2.2.2.1,x.2.2.2.2.2.2.1)).1) (((x.2.2.2.2.2.2.2.1.drop x.2.2.2.2.2.2.2.2.2.1.toNat).foldl (Fz y.1 y.2.1 x.1 x.2.1 x.2.2.1) (x.2.2.2.2.2.1,x.2.2.2.2.2.2.1)).2))])
def Qqy:G:=gG 43 [(187,QGF),(188,Qn1)] (Ls [QUb])
def QhF (x3:Int)(x4:ByteArray)(x5 x14:Int)(x15:Bool)(x18:List Ae)(x19 x20:Int)(y7:Ab)(y8:Aa):OX:=Qu (Qx Qqy Qqw QD8) (QD9 x3 x4 x5 x14 x15 x18 x19 x20 y7 y8)
def Qb2 (kk:Int->ByteArray->Int->Int->Bool->List Ae->Int->Int->Ab->Aa->OX)(x3:Int)(x4:ByteArray)(x5 x14:Int)(x15:Bool)(x18:List Ae)(x19 x20:Int)(y7:Ab)(y8:Aa):OX:=
 let a1:=lgt QK x18 (Int.toNat x20)
 let a2:=Qi .i64 x20 1
 br (ilt x20 x19) (br (cIx x18 x20) (br (Ur a1 y8 x3 x4 x5) (br (E0 a1 y7) (br (Xu a1 y7) (kk x3 x4 x5 (imx x14 ((((((a1.2).2).2).1).2).1)) true x18 x19 a2 y7 y8) (kk x3 x4 x5 x14 x15 x18 x19 a2 y7 y8)) none) (kk x3 x4 x5 x14 x15 x18 x19 a2 y7 y8)) none) (some (.exit 0,Qqx x14 x15))
def QhG (x3:Int)(x4:ByteArray)(x5 x14:Int)(x15:Bool)(x18:List Ae)(x19 x20:Int)(y7:Ab)(y8:Aa):OX:=
 let a1:=((x18.drop x20.toNat).foldl (Fz y7 y8 x3 x4 x5) (x14,x15))
 some (.exit 0,Qqx (a1.1) (a1.2))
theorem QEa (x3 x4 x5 x14 x15 x18 x19 x20 y7 y8):QhF x3 x4 x5 x14 x15 x18 x19 x20 y7 y8=Qb2 QhF x3 x4 x5 x14 x15 x18 x19 x20 y7 y8:=lnT (x:=Qb2 (fun x3 x4 x5 x14 x15 x18 x19 x20 y7 y8=>some (.normal,QD9 x3 x4 x5 x14 x15 x18 x19 x20 y7 y8)) x3 x4 x5 x14 x15 x18 x19 x20 y7 y8) (by simp only [Qb2,nxA];rfl)
def QEb (p0:List Ae)(p1:Ab)(p2:Aa)(p3:Int)(p4:ByteArray)(p5:Int):OV:=
 let a1:=(p0.drop (0:Int).toNat)
 let a2:=(a1.foldl (Fz p1 p2 p3 p4 p5) ((0:Int),false))
 br (Qw p0 (Qb p0) (0:Int)&&ZT p0 p1) (some (.tu [(.t tI (a2.1)),(.t .bool (a2.2))],[])) none
theorem QUc (x3:Int)(x4:ByteArray)(x5 x14:Int)(x15:Bool)(x18:List Ae)(x19 x20:Int)(y7:Ab)(y8:Aa)(h:(Qw x18 x19 x20&&ZT x18 y7)=true):QhF x3 x4 x5 x14 x15 x18 x19 x20 y7 y8=QhG x3 x4 x5 x14 x15 x18 x19 x20 y7 y8:=by
 obtain ⟨h0,hc⟩:=Bf.1 h
 obtain ⟨rfl,h3,k,rfl,hk⟩:=Jv h0
 clear h0
 revert x14 x15
 refine QP x18 (fun k=> ∀ (x14:Int) (x15:Bool),QhF x3 x4 x5 x14 x15 x18 (x18.length:Int) (k:Int) y7 y8=QhG x3 x4 x5 x14 x15 x18 (x18.length:Int) (k:Int) y7 y8) ?_ ?_ k hk
 ·intro x14 x15
  rw [QEa]
  simp only [Qb2,QhG,Qv,BK,BP,Qh,Bb,BF,List.foldl_nil]
 ·intro k hk ih x14 x15
  rw [QEa]
  have hv:=QD4 hc hk
  simp only [Qb2,Qv,QM,hk,Bu,Qd,Bb,QO (k:=k),QN (y:=QK) hk,hv,ih]
  simp only [QhG,Bb,Bg hk,DE]
  unfold Fz U0
  cases Ur x18[k] y8 x3 x4 x5 with
  |false=>simp only [Qh,D2,BW]
  |true=>cases Xu x18[k] y7<;>rfl
theorem QUd:LO Qqy Qqw QD8 0:=QC (s:=QhE) fun x y h _ q=>by simp only [QA,QB] at q;exact (QUc x.1 x.2.1 x.2.2.1 x.2.2.2.2.2.1 x.2.2.2.2.2.2.1 x.2.2.2.2.2.2.2.1 x.2.2.2.2.2.2.2.2.1 x.2.2.2.2.2.2.2.2.2.1 y.1 y.2.1 h).trans q
theorem s_f152 (l o u p e d)(h:Fy l o u p e d=true):QEb l o u p e d=some (.tu [.t tI (EO l o u p e d).1,.t .bool (EO l o u p e d).2],[]):=by
 have h:ZT l o=true:=h
 unfold QEb
 refine brY ?_ rfl
 rw [Jw (OL (Bf.1 h).1),h]
 rfl
def QEc:Ent:=Qm (.pr (.sl QK) (.pr Qn (.pr Qe (.pr tI (.pr .str (.pr tI .nil)))))) (fun x=>(Fy x.1 x.2.1 x.2.2.1 x.2.2.2.1 x.2.2.2.2.1 x.2.2.2.2.2.1)) (fun x=>(.tu [(.t tI ((EO x.1 x.2.1 x.2.2.1 x.2.2.2.1 x.2.2.2.2.1 x.2.2.2.2.2.1).1)),(.t .bool ((EO x.1 x.2.1 x.2.2.1 x.2.2.2.1 x.2.2.2.2.1 x.2.2.2.2.2.1).2))]))
theorem QUe:EM 152 QEc:=mS (lk:=lkL (lkc QUd lkn)) Qqy QD7 [((.t 12),some tI),((.t 13),some .bool)] false (gB (gD QW9 (gC QQc QQd gN))) fun m=>Qq m fun x hok=>kT (s_f152 x.1 x.2.1 x.2.2.1 x.2.2.2.1 x.2.2.2.2.1 x.2.2.2.2.2.1 hok)
abbrev QhH:Sh:=⟨[(0,.ty (.sl QK)),(3,.ty tI),(4,.ty .str),(5,.ty tI),(7,.ptr 7 0),(8,.ptr 8 0),(13,.ty tI)],[(7,.box Qn),(8,.box Qe)]⟩
abbrev QEd:Sh:=⟨[(12,.ty .bool)],[]⟩
abbrev OM:Sh:=⟨[],[]⟩
def Qqz:Fg:=QhH.f
def QEe:TC:=aF Tryz.f160 [(26,pL 0 Qqz),(419,.fg OM.f),(840,pE [[],[],[],[],[7],[],[],[],[],[],[],[8],[],[],[],[],[]] (oN 17)),(3365,.fg QEd.f)]
def QEf:TC:=lb 0 QEe
def QEg (x0:List Ae)(x3:Int)(x4:ByteArray)(x5 x13:Int)(y7:Ab)(y8:Aa):VS:=QhH.st (x0,x3,x4,x5,(),(),x13,()) (y7,y8,())
def QqA (x12:Bool):VS:=QEd.st (x12,()) ()
def QqB  : VS:=OM.st () ()
def QUf:VS->Option (Bool×List (Bool×Exit×VS)):=mkL QhH (fun x y=>(decide (0<=x.2.2.2.2.2.2.1/\x.2.2.2.2.2.2.1<=x.1.length)&&ZT x.1 y.1)) (fun x y=>[(((x.1.drop x.2.2.2.2.2.2.1.toNat).any (U0 y.1 y.2.1 x.2.1 x.2.2.1 x.2.2.2.1)),.ret,QqA (true)),(true,.exit 0,QqB)])
def QqC:G:=gG 37 [(197,QGO),(198,QGH)] (Ls [QUf])
def QhI (x0:List Ae)(x3:Int)(x4:ByteArray)(x5 x13:Int)(y7:Ab)(y8:Aa):OX:=Qu (Qx QqC Qqz QEf) (QEg x0 x3 x4 x5 x13 y7 y8)
def Qb3 (kk:List Ae->Int->ByteArray->Int->Int->Ab->Aa->OX)(x0:List Ae)(x3:Int)(x4:ByteArray)(x5 x13:Int)(y7:Ab)(y8:Aa):OX:=
 let a1:=lgt QK x0 (Int.toNat x13)
 br (ilt x13 (Qb x0)) (br (cIx x0 x13) (br (E0 a1 y7) (br (Xu a1 y7) (br (cIx x0 x13) (br (Ur a1 y8 x3 x4 x5) (some (.ret,QqA true)) (kk x0 x3 x4 x5 (Qi .i64 x13 1) y7 y8)) none) (kk x0 x3 x4 x5 (Qi .i64 x13 1) y7 y8)) none) none) (some (.exit 0,QqB))
def QhJ (x0:List Ae)(x3:Int)(x4:ByteArray)(x5 x13:Int)(y7:Ab)(y8:Aa):OX:=br ((x0.drop x13.toNat).any (U0 y7 y8 x3 x4 x5)) (some (.ret,QqA (true)))<|some (.exit 0,QqB)
theorem QEh (x0 x3 x4 x5 x13 y7 y8):QhI x0 x3 x4 x5 x13 y7 y8=Qb3 QhI x0 x3 x4 x5 x13 y7 y8:=lnT (x:=Qb3 (fun x0 x3 x4 x5 x13 y7 y8=>some (.normal,QEg x0 x3 x4 x5 x13 y7 y8)) x0 x3 x4 x5 x13 y7 y8) (by simp only [Qb3,nxA];rfl)
def QEi (p0:List Ae)(p1:Ab)(p2:Aa)(p3:Int)(p4:ByteArray)(p5:Int):OV:=br (decide (0<=(0:Int)/\(0:Int)<=p0.length)&&ZT p0 p1) (br ((p0.drop (0:Int).toNat).any (U0 p1 p2 p3 p4 p5)) (some (.t .bool (true),[])) (some (.t .bool false,[]))) none
theorem QUg (x0:List Ae)(x3:Int)(x4:ByteArray)(x5 x13:Int)(y7:Ab)(y8:Aa)(h:(decide (0<=x13/\x13<=x0.length)&&ZT x0 y7)=true):QhI x0 x3 x4 x5 x13 y7 y8=QhJ x0 x3 x4 x5 x13 y7 y8:=by
 simp only [Bd,Ba] at h
 obtain ⟨⟨h0,h1⟩,hc⟩:=h
 obtain ⟨k,rfl⟩:=Bm h0
 have hl:=OL (Bf.1 hc).1
 refine QP x0 (fun k=>QhI x0 x3 x4 x5 (k:Int) y7 y8=QhJ x0 x3 x4 x5 (k:Int) y7 y8) ?_ ?_ k (by omega)
 ·rw [QEh]
  simp only [Qb3,QhJ,Qb,Qv,BK,BP,Qh,Bb,BF,List.any_nil]
 ·intro k hk ih
  rw [QEh]
  have hv:=QD4 hc hk
  simp only [Qb3,Qb,Qv,QM,hk,Bu,Qd,Bb,QO (k:=k),QN (y:=QK) hk,hv,ih]
  simp only [QhJ,Bb,Bg hk,List.any_cons]
  unfold U0
  cases Xu x0[k] y7 with
  |false=>simp only [Qh,DK,De]
  |true=>cases Ur x0[k] y8 x3 x4 x5<;>rfl
theorem QUh:LO QqC Qqz QEf 0:=QC (s:=QhH) fun x y h _ q=>by simp only [QA,QB] at q;exact (QUg x.1 x.2.1 x.2.2.1 x.2.2.2.1 x.2.2.2.2.2.2.1 y.1 y.2.1 h).trans q
theorem s_f160 (l o u p e d)(h:Fy l o u p e d=true):QEi l o u p e d=some (.t .bool (EN l o u p e d),[]):=by
 have h:ZT l o=true:=h
 unfold QEi EN
 rw [h,Bc (show (0:Int)<=0/\(0:Int)<=l.length by omega),Bt,Bx]
 cases l.any (U0 o u p e d)<;>rfl
def QEj:Ent:=Qm (.pr (.sl QK) (.pr Qn (.pr Qe (.pr tI (.pr .str (.pr tI .nil)))))) (fun x=>(Fy x.1 x.2.1 x.2.2.1 x.2.2.2.1 x.2.2.2.2.1 x.2.2.2.2.2.1)) (fun x=>(.t .bool (EN x.1 x.2.1 x.2.2.1 x.2.2.2.1 x.2.2.2.2.1 x.2.2.2.2.2.1)))
theorem QUi:EM 160 QEj:=mS (lk:=lkL (lkc QUh lkn)) QqC QEe [((.t 12),some .bool)] false (gB (gD QXf (gD QXb gN))) fun m=>Qq m fun x hok=>kT (s_f160 x.1 x.2.1 x.2.2.1 x.2.2.2.1 x.2.2.2.2.1 x.2.2.2.2.2.1 hok)
def JX (x:Ae):Bool:= !exG x
def YF (l:List Ae):Bool:=l.any JX
def ON (l:List Ae):Int:=bif YF l then 26 else 0
abbrev QhK:Sh:=⟨[(0,.ty (.sl QK)),(3,.ty tI)],[]⟩
abbrev QEk:Sh:=⟨[(2,.ty tI)],[]⟩
def QqD:Fg:=QhK.f
def QEl:TC:=aF Tryz.f159 [(26,pL 0 QqD),(419,.fg OM.f),(6733,.fg QEk.f)]
def QEm:TC:=lb 0 QEl
def QEn (x0:List Ae)(x3:Int):VS:=QhK.st (x0,x3,()) ()
def QqE (x2:Int):VS:=QEk.st (x2,()) ()
def QqF  : VS:=OM.st () ()
def QUj:VS->Option (Bool×List (Bool×Exit×VS)):=mkL QhK (fun x y=>(decide (0<=x.2.1/\x.2.1<=x.1.length)&&J2 x.1)) (fun x y=>[(((x.1.drop x.2.1.toNat).any JX),.ret,QqE (26)),(true,.exit 0,QqF)])
def QqG:G:=gG 19 [(74,QiG)] (Ls [QUj])
def QhL (x0:List Ae)(x3:Int):OX:=Qu (Qx QqG QqD QEm) (QEn x0 x3)
def Qb4 (kk:List Ae->Int->OX)(x0:List Ae)(x3:Int):OX:=
 let a1:=lgt QK x0 (Int.toNat x3)
 br (ilt x3 (Qb x0)) (br (cIx x0 x3) (br (Jy a1) (br (ine (exZ a1) 0) (some (.ret,QqE (exZ a1))) (kk x0 (Qi .i64 x3 1))) none) none) (some (.exit 0,QqF))
def QhM (x0:List Ae)(x3:Int):OX:=br ((x0.drop x3.toNat).any JX) (some (.ret,QqE (26)))<|some (.exit 0,QqF)
theorem QEo (x0 x3):QhL x0 x3=Qb4 QhL x0 x3:=lnT (x:=Qb4 (fun x0 x3=>some (.normal,QEn x0 x3)) x0 x3) (by simp only [Qb4,nxA];rfl)
def QEp (p0:List Ae):OV:=br (decide (0<=(0:Int)/\(0:Int)<=p0.length)&&J2 p0) (br ((p0.drop (0:Int).toNat).any JX) (some (.t tI (26),[])) (some (.t tI 0,[]))) none
theorem QUk (x0:List Ae)(x3:Int)(h:(decide (0<=x3/\x3<=x0.length)&&J2 x0)=true):QhL x0 x3=QhM x0 x3:=by
 simp only [Bd,Ba] at h
 obtain ⟨⟨h0,h1⟩,hc⟩:=h
 obtain ⟨k,rfl⟩:=Bm h0
 have hl:=OL hc
 refine QP x0 (fun k=>QhL x0 (k:Int)=QhM x0 (k:Int)) ?_ ?_ k (by omega)
 ·rw [QEo]
  simp only [Qb4,QhM,Qb,Qv,BK,BP,Qh,Bb,BF,List.any_nil]
 ·intro k hk ih
  rw [QEo]
  have hv:=Qb1 hc hk
  simp only [Qb4,Qb,Qv,QM,hk,Bu,Qd,Bb,QO (k:=k),QN (y:=QK) hk,hv,ih]
  simp only [QhM,Bb,Bg hk,List.any_cons,JX,Ve,exZ]
  cases exG x0[k]<;>rfl
theorem QUl:LO QqG QqD QEm 0:=QC (s:=QhK) fun x y h _ q=>by simp only [QA,QB] at q;exact (QUk x.1 x.2.1 h).trans q
theorem s_f159 (l)(h:J2 l=true):QEp l=some (.t tI (ON l),[]):=by
 unfold QEp ON YF
 rw [h,Bc (show (0:Int)<=0/\(0:Int)<=l.length by omega),Bt,Bx]
 cases l.any JX<;>rfl
def QEq:Ent:=Qm (.pr (.sl QK) .nil) (fun x=>(J2 x.1)) (fun x=>(.t tI (ON x.1)))
theorem QUm:EM 159 QEq:=mS (lk:=lkL (lkc QUl lkn)) QqG QEl [((.t 2),some tI)] false (gB (gD QrT gN)) fun m=>Qq m fun x hok=>kT (s_f159 x.1 hok)
def QUn:TC:=aF Tryz.f151 []
def g_f151:G:=gG 6 [(68,QiC)] (fun _ _=>none)
def QEr (p0:Ae):OV:=br (Jy p0) (some (.t .bool (ine (exZ p0) 0),[])) none
theorem s_f151 (x)(h:Jy x=true):QEr x=some (.t .bool (JX x),[]):=by
 simp only [QEr,h,Qd,Ve]
 rfl
def QEs:Ent:=YA [.ty QK] [] (fun x d=>(Jy x.1)) (fun x d=>(.t .bool (JX x.1)))
theorem QUo:EM 151 QEs:=mS g_f151 QUn [((.t 2),some .bool)] false (gB (gD QrP gN)) fun m=>Yn m fun x d hok=>kT (s_f151 x.1 hok)
def U1 (l:List Ae):Int:=match QG JX l with|some k=>(k:Int)|none=> -1
theorem QEt (l:List Ae):ige (U1 l) 0=YF l:=by
 unfold U1 YF
 cases hq:QG JX l with
 |none=>rw [OB.1 hq];rfl
 |some k=>
  rw [<-QbJ,hq]
  simp only [ige,Da,Ba]
  omega
abbrev QhN:Sh:=⟨[(0,.ty (.sl QK)),(1,.cf 151),(7,.ty tI),(8,.ty tI)],[]⟩
abbrev QEu:Sh:=⟨[(4,.ty tI)],[]⟩
def QqH:Fg:=QhN.f
def QEv:TC:=aF Tryz.f110 [(26,pL 0 QqH),(421,.fg OM.f),(13517,.fg QEu.f)]
def QEw:TC:=lb 0 QEv
def QEx (x0:List Ae)(x7 x8:Int):VS:=QhN.st (x0,(),x7,x8,()) ()
def QqI (x4:Int):VS:=QEu.st (x4,()) ()
def QqJ  : VS:=OM.st () ()
def QUp:VS->Option (Bool×List (Bool×Exit×VS)):=mkL QhN (fun x y=>(Qw x.1 x.2.2.1 x.2.2.2.1&&J2 x.1)) (fun x y=>[(((QG JX (x.1.drop x.2.2.2.1.toNat)).isSome),.ret,QqI (x.2.2.2.1+((QG JX (x.1.drop x.2.2.2.1.toNat)).getD 0:Nat))),(true,.exit 0,QqJ)])
def QqK:G:=gG 19 [(151,QEs)] (Ls [QUp])
def QhO (x0:List Ae)(x7 x8:Int):OX:=Qu (Qx QqK QqH QEw) (QEx x0 x7 x8)
def Qb5 (kk:List Ae->Int->Int->OX)(x0:List Ae)(x7 x8:Int):OX:=
 let a1:=lgt QK x0 (Int.toNat x8)
 br (ilt x8 x7) (br (cIx x0 x8) (br (Jy a1) (br (JX a1) (some (.ret,QqI x8)) (kk x0 x7 (Qi .i64 x8 1))) none) none) (some (.exit 0,QqJ))
def QhP (x0:List Ae)(x7 x8:Int):OX:=
 let a1:=QG JX (x0.drop x8.toNat)
 br (a1.isSome) (some (.ret,QqI (x8+(a1.getD 0:Nat))))<|some (.exit 0,QqJ)
theorem QEy (x0 x7 x8):QhO x0 x7 x8=Qb5 QhO x0 x7 x8:=lnT (x:=Qb5 (fun x0 x7 x8=>some (.normal,QEx x0 x7 x8)) x0 x7 x8) (by simp only [Qb5,nxA];rfl)
def QEz (p0:List Ae):OV:=
 let a1:=(QG JX (p0.drop (0:Int).toNat))
 br (Qw p0 (Qb p0) (0:Int)&&J2 p0) (br (a1.isSome) (some (.t tI ((0:Int)+(a1.getD 0:Nat)),[])) (some (.t tI (-1),[]))) none
theorem QUq (x0:List Ae)(x7 x8:Int)(h:(Qw x0 x7 x8&&J2 x0)=true):QhO x0 x7 x8=QhP x0 x7 x8:=by
 obtain ⟨h0,hc⟩:=Bf.1 h
 obtain ⟨rfl,h3,k,rfl,hk⟩:=Jv h0
 clear h0
 refine QP x0 (fun k=>QhO x0 (x0.length:Int) (k:Int)=QhP x0 (x0.length:Int) (k:Int)) ?_ ?_ k hk
 ·rw [QEy]
  simp [Qb5,QhP,Qv,Qh,QG]
 ·intro k hk ih
  rw [QEy]
  have hx:=Qb1 hc hk
  simp only [Qb5,Qv,QM,hk,Bu,Qd,Bb,QO (k:=k),ih,QN (y:=QK) hk,hx]
  simp only [QhP,Bb,Bg hk,QG]
  cases h:(JX x0[k]) with
  |true=>simp [Qd]
  |false=>
   simp only [Qh,BE,Dc]
   cases hq:QG JX (x0.drop (k+1)) with
   |none=>rfl
   |some j=>
    simp only [B4,Da,BU,Qd]
    congr 3
    omega
theorem QUr:LO QqK QqH QEw 0:=QC (s:=QhN) fun x y h _ q=>by simp only [QA,QB] at q;exact (QUq x.1 x.2.2.1 x.2.2.2.1 h).trans q
theorem QUs (l:List Ae)(h:J2 l=true):QEz l=some (.t tI (U1 l),[]):=by
 have hl:=OL h
 simp only [QEz,Jw hl,h,B1,Qd,Bt,Bx,U1]
 cases QG JX l<;>simp [Qd,Qh]
def QEA:Ent:=YA [.ty (.sl QK),.cf 151] [] (fun x d=>(J2 x.1)) (fun x d=>(.t tI (U1 x.1)))
theorem QUt:EM 110 QEA:=mS (lk:=lkL (lkc QUr lkn)) QqK QEv [((.t 4),some tI)] false (gB (gD QUo gN)) fun m=>Yn m fun x d hok=>kT (QUs x.1 hok)
def QUu:TC:=aF Tryz.f66 []
def QUv:G:=gG 9 [(110,QEA)] (fun _ _=>none)
def QEB (p0:List Ae):OV:=br (J2 p0) (some (.t .bool (ige (U1 p0) 0),[])) none
theorem QUw (l:List Ae)(h:J2 l=true):QEB l=some (.t .bool (YF l),[]):=by
 simp only [QEB,h,Qd,QEt]
def QEC:Ent:=YA [.ty (.sl QK),.cf 151] [] (fun x d=>(J2 x.1)) (fun x d=>(.t .bool (YF x.1)))
theorem QUx:EM 66 QEC:=mS QUv QUu [((.t 4),some .bool)] false (gB (gD QUt gN)) fun m=>Yn m fun x d hok=>kT (QUw x.1 hok)
def Jp (y:Ah)(l:List Ae)(o:Ab)(u:Aa)(p:Int)(s:ByteArray)(d:Int):Bool×Int:=
 bif ine (ZJ y u p d).2.2 0 then (false,(ZJ y u p d).2.2) else bif YF l then (false,26) else ((ZJ y u p d).1||EN l o u p s d,0)
def FA (y:Ah)(l:List Ae)(o:Ab)(_:Aa)(_:Int)(_:ByteArray)(_:Int):Bool:=JP y&&ZT l o
def QUy:TC:=aF Tryz.f113 []
def g_f113:G:=gG 51 [(66,QEC),(150,QCg),(152,QEc)] (fun _ _=>none)
def QED (p0:Ah)(p1:List Ae)(p2:Ab)(p3:Aa)(p4:Int)(p5:ByteArray)(p6:Int):OV:=
 let a1:=ZJ p0 p3 p4 p6
 br (Gw p0 p3 p4 p6) (br (ine ((a1.2).2) 0) (some (.tu [(.t .bool false),(.t tI ((a1.2).2))],[])) (br (J2 p1) (br (YF p1) (some (.tu [(.t .bool false),(.t tI 26)],[])) (br (Fy p1 p2 p3 p4 p5 p6) (br (a1.1) (some (.tu [(.t .bool true),(.t tI 0)],[])) (some (.tu [(.t .bool ((EO p1 p2 p3 p4 p5 p6).2)),(.t tI 0)],[]))) none)) none)) none
theorem s_f113 (y l o u p e d)(h:FA y l o u p e d=true):QED y l o u p e d=some (.tu [.t .bool (Jp y l o u p e d).1,.t tI (Jp y l o u p e d).2],[]):=by
 obtain ⟨h1,h2⟩:=Bf.1 h
 have h3:=(Bf.1 h2).1
 unfold QED Jp
 refine brY h1 ?_
 cases ine (ZJ y u p d).2.2 0 with
 |true=>rfl
 |false=>
  rw [Qh]
  refine brY h3 ?_
  cases YF l with
  |true=>rfl
  |false=>
   rw [Qh]
   refine brY (show Fy l o u p e d=true from h2) ?_
   rw [QUa]
   cases (ZJ y u p d).1<;>rfl
def QEE:Ent:=Qm (.pr Q3 (.pr (.sl QK) (.pr Qn (.pr Qe (.pr tI (.pr .str (.pr tI .nil))))))) (fun x=>(FA x.1 x.2.1 x.2.2.1 x.2.2.2.1 x.2.2.2.2.1 x.2.2.2.2.2.1 x.2.2.2.2.2.2.1)) (fun x=>(.tu [(.t .bool ((Jp x.1 x.2.1 x.2.2.1 x.2.2.2.1 x.2.2.2.2.1 x.2.2.2.2.2.1 x.2.2.2.2.2.2.1).1)),(.t tI ((Jp x.1 x.2.1 x.2.2.1 x.2.2.2.1 x.2.2.2.2.1 x.2.2.2.2.2.1 x.2.2.2.2.2.2.1).2))]))
theorem QUz:EM 113 QEE:=mS g_f113 QUy [((.t 14),some .bool),((.t 15),some tI)] false (gB (gD QUx (gD QSD (gD QUe gN)))) fun m=>Qq m fun x hok=>kT (s_f113 x.1 x.2.1 x.2.2.1 x.2.2.2.1 x.2.2.2.2.1 x.2.2.2.2.2.1 x.2.2.2.2.2.2.1 hok)
def QUA:TC:=aF Tryz.f123 []
def g_f123:G:=gG 47 [(158,QE4),(159,QEq),(160,QEj)] (fun _ _=>none)
def QEF (p0:Ah)(p1:List Ae)(p2:Ab)(p3:Aa)(p4:Int)(p5:ByteArray)(p6:Int):OV:=
 let a1:=ZJ p0 p3 p4 p6
 br (Gw p0 p3 p4 p6) (br (ine ((a1.2).2) 0) (some (.tu [(.t .bool false),(.t tI ((a1.2).2))],[])) (br (J2 p1) (br (ine (ON p1) 0) (some (.tu [(.t .bool false),(.t tI (ON p1))],[])) (br (a1.1) (some (.tu [(.t .bool true),(.t tI 0)],[])) (br (Fy p1 p2 p3 p4 p5 p6) (some (.tu [(.t .bool (EN p1 p2 p3 p4 p5 p6)),(.t tI 0)],[])) none))) none)) none
theorem s_f123 (y l o u p e d)(h:FA y l o u p e d=true):QEF y l o u p e d=some (.tu [.t .bool (Jp y l o u p e d).1,.t tI (Jp y l o u p e d).2],[]):=by
 obtain ⟨h1,h2⟩:=Bf.1 h
 have h3:=(Bf.1 h2).1
 unfold QEF Jp
 refine brY h1 ?_
 cases ine (ZJ y u p d).2.2 0 with
 |true=>rfl
 |false=>
  rw [Qh]
  refine brY h3 ?_
  unfold ON
  cases YF l with
  |true=>rfl
  |false=>
   show br false _ _=_
   rw [Qh]
   cases (ZJ y u p d).1 with
   |true=>rfl
   |false=>
    rw [Qh]
    exact brY (show Fy l o u p e d=true from h2) rfl
def QEG:Ent:=Qm (.pr Q3 (.pr (.sl QK) (.pr Qn (.pr Qe (.pr tI (.pr .str (.pr tI .nil))))))) (fun x=>(FA x.1 x.2.1 x.2.2.1 x.2.2.2.1 x.2.2.2.2.1 x.2.2.2.2.2.1 x.2.2.2.2.2.2.1)) (fun x=>(.tu [(.t .bool ((Jp x.1 x.2.1 x.2.2.1 x.2.2.2.1 x.2.2.2.2.1 x.2.2.2.2.2.1 x.2.2.2.2.2.2.1).1)),(.t tI ((Jp x.1 x.2.1 x.2.2.1 x.2.2.2.1 x.2.2.2.2.1 x.2.2.2.2.2.1 x.2.2.2.2.2.2.1).2))]))
theorem QUB:EM 123 QEG:=mS g_f123 QUA [((.t 14),some .bool),((.t 15),some tI)] false (gB (gD QU1 (gD QUm (gD QUi gN)))) fun m=>Qq m fun x hok=>kT (s_f123 x.1 x.2.1 x.2.2.1 x.2.2.2.1 x.2.2.2.2.1 x.2.2.2.2.2.1 x.2.2.2.2.2.2.1 hok)
def J1 (A:Aa->Bool×Int):List Aa->Bool->Bool×Int
 | [],b=>(b,0)
 |u::r,b=>bif ine (A u).2 0 then (false,(A u).2) else J1 A r (b|| !(A u).1)
def ZY (y:Ah)(l:List Ae)(w:Ab)(s:Ac)(o:Aa)(d:Int):Bool×Int:=
 bif ine (QZ s o).2 0 then (false,(QZ s o).2) else J1 (fun u=>Jp y l w u 1 s.1 d) (QZ s o).1 false
def UO (y:Ah)(l:List Ae)(w:Ab)(s:Ac)(_:Aa)(_:Int):Bool:=JP y&&(ZT l w&&QY s)
theorem QoE (s:Ac)(o:Aa):(QZ s o).1.length<=4:=by
 unfold QZ
 cases Jj s with
 |false=>exact B0 _
 |true=>
  cases ine (QS o.2.1).2 0 with
  |true=>exact B0 _
  |false=>
   cases (J4 s o.2.1).2 with
   |false=>exact B0 _
   |true=>exact BI 4
theorem Qgn {A:Aa->Bool×Int}: ∀ {l:List Aa} {b:Bool},ine (J1 A l b).2 0=true->(J1 A l b).1=false
 | [],b,h=>by cases h
 |u::r,b,h=>by
  unfold J1 at h ⊢
  cases hq:ine (A u).2 0 with
  |true=>rfl
  |false=>
   rw [hq] at h
   exact Qgn (l:=r) h
theorem ine_z {x:Int}(h:ine x 0=false):x=0:=by simpa [ine] using h
abbrev Qgo:Sh:=⟨[(1,.ty (.sl QK)),(5,.ty tI),(6,.ptr 6 0),(8,.ptr 8 0),(9,.ptr 9 0),(16,.ty .bool),(30,.ty (.sl Qe)),(31,.ty tI),(32,.ty tI)],[(6,.box Q3),(8,.box Qn),(9,.box Qp)]⟩
abbrev QAT:Sh:=⟨[(12,.ty .bool),(13,.ty tI)],[]⟩
abbrev QAU:Sh:=⟨[(16,.ty .bool)],[]⟩
def QoF:Fg:=Qgo.f
def QAV:TC:=aF Tryz.f70 [(250,pL 0 QoF),(4005,.fg QAU.f),(512821,.fg QAT.f)]
def QAW:TC:=lb 0 QAV
def QAX (x1:List Ae)(x5:Int)(x16:Bool)(x30:List Aa)(x31 x32:Int)(y6:Ah)(y8:Ab)(y9:Ac):VS:=Qgo.st (x1,x5,(),(),(),x16,x30,x31,x32,()) (y6,y8,y9,())
def QoG (x12:Bool)(x13:Int):VS:=QAT.st (x12,x13,()) ()
def QoH (x16:Bool):VS:=QAU.st (x16,()) ()
def QRu:VS->Option (Bool×List (Bool×Exit×VS)):=mkL Qgo (fun x y=>(Qw x.2.2.2.2.2.2.1 x.2.2.2.2.2.2.2.1 x.2.2.2.2.2.2.2.2.1&&(JP y.1&&ZT x.1 y.2.1))) (fun x y=>[((ine (J1 (fun u=>Jp y.1 x.1 y.2.1 u 1 y.2.2.1.1 x.2.1) (x.2.2.2.2.2.2.1.drop x.2.2.2.2.2.2.2.2.1.toNat) x.2.2.2.2.2.1).2 0),.ret,QoG (false) ((J1 (fun u=>Jp y.1 x.1 y.2.1 u 1 y.2.2.1.1 x.2.1) (x.2.2.2.2.2.2.1.drop x.2.2.2.2.2.2.2.2.1.toNat) x.2.2.2.2.2.1).2)),(true,.exit 0,QoH ((J1 (fun u=>Jp y.1 x.1 y.2.1 u 1 y.2.2.1.1 x.2.1) (x.2.2.2.2.2.2.1.drop x.2.2.2.2.2.2.2.2.1.toNat) x.2.2.2.2.2.1).1))])
def QoI:G:=gG 57 [(112,QkU),(113,QEE)] (Ls [QRu])
def Qgp (x1:List Ae)(x5:Int)(x16:Bool)(x30:List Aa)(x31 x32:Int)(y6:Ah)(y8:Ab)(y9:Ac):OX:=Qu (Qx QoI QoF QAW) (QAX x1 x5 x16 x30 x31 x32 y6 y8 y9)
def Qbh (kk:List Ae->Int->Bool->List Aa->Int->Int->Ah->Ab->Ac->OX)(x1:List Ae)(x5:Int)(x16:Bool)(x30:List Aa)(x31 x32:Int)(y6:Ah)(y8:Ab)(y9:Ac):OX:=
 let a1:=Jp y6 x1 y8 (lgt Qe x30 (Int.toNat x32)) 1 y9.1 x5
 br (ilt x32 x31) (br (cIx x30 x32) (br (FA y6 x1 y8 (lgt Qe x30 (Int.toNat x32)) 1 y9.1 x5) (br (ine (a1.2) 0) (some (.ret,QoG false (a1.2))) (br (x16) (kk x1 x5 true x30 x31 (Qi .i64 x32 1) y6 y8 y9) (kk x1 x5 (!(a1.1)) x30 x31 (Qi .i64 x32 1) y6 y8 y9))) none) none) (some (.exit 0,QoH x16))
def Oi (x1:List Ae)(x5:Int)(x16:Bool)(x30:List Aa)(x31 x32:Int)(y6:Ah)(y8:Ab)(y9:Ac):OX:=
 let a1:=x30.drop x32.toNat
 br (ine (J1 (fun u=>Jp y6 x1 y8 u 1 y9.1 x5) a1 x16).2 0) (some (.ret,QoG (false) ((J1 (fun u=>Jp y6 x1 y8 u 1 y9.1 x5) a1 x16).2)))<|some (.exit 0,QoH ((J1 (fun u=>Jp y6 x1 y8 u 1 y9.1 x5) a1 x16).1))
theorem QAY (x1 x5 x16 x30 x31 x32 y6 y8 y9):Qgp x1 x5 x16 x30 x31 x32 y6 y8 y9=Qbh Qgp x1 x5 x16 x30 x31 x32 y6 y8 y9:=lnT (x:=Qbh (fun x1 x5 x16 x30 x31 x32 y6 y8 y9=>some (.normal,QAX x1 x5 x16 x30 x31 x32 y6 y8 y9)) x1 x5 x16 x30 x31 x32 y6 y8 y9) (by simp only [Qbh,nxA];rfl)
def r_f70 (p0:Ah)(p1:List Ae)(p2:Ab)(p3:Ac)(p4:Aa)(p5:Int):OV:=
 let a1:=((QZ p3 p4).1)
 let a2:=(a1.drop (0:Int).toNat)
 br (Gd p3 p4) (br (ine ((QZ p3 p4).2) 0) (some (.tu [(.t .bool false),(.t tI ((QZ p3 p4).2))],[])) (br (Qw a1 (Qb a1) (0:Int)&&(JP p0&&ZT p1 p2)) (br (ine (J1 (fun u=>Jp p0 p1 p2 u 1 p3.1 p5) a2 false).2 0) (some (.tu [(.t .bool (false)),(.t tI ((J1 (fun u=>Jp p0 p1 p2 u 1 p3.1 p5) a2 false).2))],[])) (some (.tu [(.t .bool ((J1 (fun u=>Jp p0 p1 p2 u 1 p3.1 p5) a2 false).1)),(.t tI 0)],[]))) none)) none
theorem QRv (x1:List Ae)(x5:Int)(x16:Bool)(x30:List Aa)(x31 x32:Int)(y6:Ah)(y8:Ab)(y9:Ac)(h:(Qw x30 x31 x32&&(JP y6&&ZT x1 y8))=true):Qgp x1 x5 x16 x30 x31 x32 y6 y8 y9=Oi x1 x5 x16 x30 x31 x32 y6 y8 y9:=by
 simp only [Bd] at h
 obtain ⟨h,g1,g2⟩:=h
 obtain ⟨rfl,h3,k,rfl,hk⟩:=Jv h
 clear h
 revert x16
 refine QP x30 (fun k=> ∀ x16:Bool,Qgp x1 x5 x16 x30 (x30.length:Int) (k:Int) y6 y8 y9=Oi x1 x5 x16 x30 (x30.length:Int) (k:Int) y6 y8 y9) ?_ ?_ k hk
 ·intro x16
  rw [QAY]
  simp only [Qbh,Oi,Qv,BK,BP,Qh,Bb,BF,J1]
  rfl
 ·intro k hk ih x16
  rw [QAY]
  have e1: ∀ u p e,FA y6 x1 y8 u p e x5=true:=fun _ _ _=>Bf.2 ⟨g1,g2⟩
  have hd:J1 (fun u=>Jp y6 x1 y8 u 1 y9.1 x5) (x30.drop k) x16=bif ine (Jp y6 x1 y8 x30[k] 1 y9.1 x5).2 0 then (false,(Jp y6 x1 y8 x30[k] 1 y9.1 x5).2) else J1 (fun u=>Jp y6 x1 y8 u 1 y9.1 x5) (x30.drop (k+1)) (x16|| !(Jp y6 x1 y8 x30[k] 1 y9.1 x5).1):=by
   rw [Bg hk]
   rfl
  simp only [Qbh,Qv,QM,hk,Bu,Qd,Bb,QO (k:=k),e1,QN (y:=Qe) hk]
  simp only [Oi,Bb,hd]
  cases hq:ine (Jp y6 x1 y8 x30[k] 1 y9.1 x5).2 0 with
  |true=>simp only [Qd,B6,hq]
  |false=>
   simp only [Qh,BW]
   cases x16 with
   |true=>
    rw [Qd,ih true]
    simp only [Oi,Bb,Bool.true_or]
   |false=>
    rw [Qh,ih]
    simp only [Oi,Bb,De]
theorem QRw:LO QoI QoF QAW 0:=QC (s:=Qgo) fun x y h _ q=>by simp only [QA,QB] at q;exact (QRv x.1 x.2.1 x.2.2.2.2.2.1 x.2.2.2.2.2.2.1 x.2.2.2.2.2.2.2.1 x.2.2.2.2.2.2.2.2.1 y.1 y.2.1 y.2.2.1 h).trans q
theorem s_f70 (y l w s o d)(h:UO y l w s o d=true):r_f70 y l w s o d=some (.tu [.t .bool (ZY y l w s o d).1,.t tI (ZY y l w s o d).2],[]):=by
 simp only [UO,Bd] at h
 obtain ⟨h1,h2,h3⟩:=h
 unfold r_f70 ZY
 refine brY h3 (Q1 (fun k=>by rw [k];rfl) fun k=> ?_)
 have hl:=QoE s o
 rw [k,BW]
 refine brY ?_ ?_
 ·rw [Jw (by omega),h1,h2]
  rfl
 ·rw [Bt,Bx]
  cases hz:ine (J1 (fun u=>Jp y l w u 1 s.1 d) (QZ s o).1 false).2 0 with
  |true=>rw [Qd,Qgn hz]
  |false=>rw [Qh,ine_z hz]
def QAZ:Ent:=Qm (.pr Q3 (.pr (.sl QK) (.pr Qn (.pr Qp (.pr Qe (.pr tI .nil)))))) (fun x=>(UO x.1 x.2.1 x.2.2.1 x.2.2.2.1 x.2.2.2.2.1 x.2.2.2.2.2.1)) (fun x=>(.tu [(.t .bool ((ZY x.1 x.2.1 x.2.2.1 x.2.2.2.1 x.2.2.2.2.1 x.2.2.2.2.2.1).1)),(.t tI ((ZY x.1 x.2.1 x.2.2.1 x.2.2.2.1 x.2.2.2.2.1 x.2.2.2.2.2.1).2))]))
theorem ms_f70:EM 70 QAZ:=mS (lk:=lkL (lkc QRw lkn)) QoI QAV [((.t 12),some .bool),((.t 13),some tI)] false (gB (gD QLg (gD QUz gN))) fun m=>Qq m fun x hok=>kT (s_f70 x.1 x.2.1 x.2.2.1 x.2.2.2.1 x.2.2.2.2.1 x.2.2.2.2.2.1 hok)
def UK (a b:List Aa):Bool:=a==b
def QfA (a b:List Aa):Bool:=decide (a.length<=100000/\b.length<=100000)
abbrev QfB:Sh:=⟨[(0,.ty (.sl Qe)),(1,.ty (.sl Qe)),(12,.ty tI),(13,.ty tI)],[]⟩
abbrev Qy7:Sh:=⟨[(4,.ty .bool)],[]⟩
abbrev QfC:Sh:=⟨[],[]⟩
def QnM:Fg:=QfB.f
def Qy8:TC:=aF Tryz.f77 [(58,pL 0 QnM),(933,.fg QfC.f),(7474,pE [[],[],[],[],[],[],[],[],[]] (oN 9)),(29901,.fg Qy7.f)]
def Qy9:TC:=lb 0 Qy8
def Qza (x0 x1:List Aa)(x12 x13:Int):VS:=QfB.st (x0,x1,x12,x13,()) ()
def QnN (x4:Bool):VS:=Qy7.st (x4,()) ()
def QnO  : VS:=QfC.st () ()
def QPV:VS->Option (Bool×List (Bool×Exit×VS)):=mkL QfB (fun x y=>(decide (0<=x.2.2.2.1/\x.2.2.2.1<=x.1.length/\x.1.length=x.2.1.length/\x.2.2.1=x.1.length/\x.1.length<=100000))) (fun x y=>[((!(x.1.drop x.2.2.2.1.toNat==x.2.1.drop x.2.2.2.1.toNat)),.ret,QnN (false)),(true,.exit 0,QnO)])
def QnP:G:=gG 26 [] (Ls [QPV])
def QfD (x0 x1:List Aa)(x12 x13:Int):OX:=Qu (Qx QnP QnM Qy9) (Qza x0 x1 x12 x13)
def QaT (kk:List Aa->List Aa->Int->Int->OX)(x0 x1:List Aa)(x12 x13:Int):OX:=
 let a1:=Int.toNat x13
 br (ilt x13 x12) (br (cIx x0 x13) (br (cIx x1 x13) (br (!(and (ieq ((lgt Qe x0 a1).1) ((lgt Qe x1 a1).1)) (and (ieq (((lgt Qe x0 a1).2).1) (((lgt Qe x1 a1).2).1)) true))) (some (.ret,QnN false)) (kk x0 x1 x12 (Qi .i64 x13 1))) none) none) (some (.exit 0,QnO))
def QfE (x0 x1:List Aa)(x12 x13:Int):OX:=br (!(x0.drop x13.toNat==x1.drop x13.toNat)) (some (.ret,QnN (false)))<|some (.exit 0,QnO)
theorem Qzb (x0 x1 x12 x13):QfD x0 x1 x12 x13=QaT QfD x0 x1 x12 x13:=lnT (x:=QaT (fun x0 x1 x12 x13=>some (.normal,Qza x0 x1 x12 x13)) x0 x1 x12 x13) (by simp only [QaT,nxA];rfl)
def r_f77 (p0 p1:List Aa):OV:=br (ine (Qb p0) (Qb p1)) (some (.t .bool false,[])) (br (decide (0<=(0:Int)/\(0:Int)<=p0.length/\p0.length=p1.length/\(Qb p0)=p0.length/\p0.length<=100000)) (br (!(p0.drop (0:Int).toNat==p1.drop (0:Int).toNat)) (some (.t .bool (false),[])) (some (.t .bool true,[]))) none)
theorem QPW (x0 x1:List Aa)(x12 x13:Int)(h:(decide (0<=x13/\x13<=x0.length/\x0.length=x1.length/\x12=x0.length/\x0.length<=100000))=true):QfD x0 x1 x12 x13=QfE x0 x1 x12 x13:=by
 simp only [Ba] at h
 obtain ⟨h0,h1,h2,rfl,h3⟩:=h
 obtain ⟨k,rfl⟩:=Bm h0
 refine QP x0 (fun k=>QfD x0 x1 (x0.length:Int) (k:Int)=QfE x0 x1 (x0.length:Int) (k:Int)) ?_ ?_ k (by omega)
 ·rw [Qzb]
  simp only [QaT,QfE,Qv,BK,BP,Qh,Bb,BF]
  rw [h2,BF]
  rfl
 ·intro k hk ih
  rw [Qzb]
  have hk2:k<x1.length:=by omega
  have hq:(and (ieq x0[k].1 x1[k].1) (and (ieq x0[k].2.1 x1[k].2.1) true))=(x0[k]==x1[k]):=rfl
  simp only [QaT,Qv,QM,hk,hk2,Bu,Qd,Bb,QO (k:=k),QN (y:=Qe) hk,QN (y:=Qe) hk2,ih]
  rw [hq]
  simp only [QfE,Bb,Bg hk,Bg hk2,List.cons_beq_cons]
  cases x0[k]==x1[k]<;>rfl
theorem QPX:LO QnP QnM Qy9 0:=QC (s:=QfB) fun x y h _ q=>by simp only [QA,QB] at q;exact (QPW x.1 x.2.1 x.2.2.1 x.2.2.2.1 h).trans q
theorem s_f77 (a b)(h:QfA a b=true):r_f77 a b=some (.t .bool (UK a b),[]):=by
 have h:=Bw h
 unfold r_f77 UK
 cases hl:ine (Qb a) (Qb b) with
 |true=>
  have hn:a.length≠b.length:=by
   simp only [ine,Qb,bne_iff_ne,ne_eq] at hl
   omega
  rw [Qd]
  have:(a==b)=false:=by
   rw [Dv]
   intro e
   exact hn (by rw [e])
  rw [this]
 |false=>
  have hn:a.length=b.length:=by
   simp only [ine,Qb,DM] at hl
   omega
  rw [Qh]
  refine brY (Bc ⟨BY 0,by omega,hn,rfl,h.1⟩) ?_
  rw [Bt,Bx,Bx]
  cases a==b<;>rfl
def Qzc:Ent:=Qm (.pr (.sl Qe) (.pr (.sl Qe) .nil)) (fun x=>(QfA x.1 x.2.1)) (fun x=>(.t .bool (UK x.1 x.2.1)))
theorem ms_f77:EM 77 Qzc:=mS (lk:=lkL (lkc QPX lkn)) QnP Qy8 [((.t 4),some .bool)] false (gB gN) fun m=>Qq m fun x hok=>kT (s_f77 x.1 x.2.1 hok)
theorem QPY {a b:List Aa}:UK a b=true↔a=b:=by unfold UK;exact Dh
def Q9 (e:Ad)(i:Int):List Aa×Ac:=(Xo (We e i).1 (We e i).2,(We e i).2)
def JC (e:Ad)(i:Int):Bool:=Fe e i&&WZ (We e i).1 (We e i).2
theorem Y3 {e:Ad}{i:Int}(h:JQ e=true)(hl:Jh e=true)(h0:0<=i)(h1:i<e.2.1.length):JC e i=true:=
 Bf.2 ⟨Qy4 h h0 h1,QPU hl (Qy4 h h0 h1)⟩
def tc_f69:TC:=aF Tryz.f69 [(30,pE [[2],[2],[6],[6],[],[],[7],[],[7],[],[5]] (oN 11))]
def g_f69:G:=gG 28 [(111,QKR)] (fun _ _=>none)
def r_f69 (p0:Ad)(p1:Int):OV:=
 let a1:=lgt Qe p0.2.1 (Int.toNat p1)
 let a2:=lgt Qp p0.1 (Int.toNat ((a1.2).1))
 let a3:=lgt Qp p0.1 (Int.toNat (a1.1))
 br (cIx p0.2.1 p1) (br (cIx p0.1 ((a1.2).1)) (br (cIx p0.1 (a1.1)) (br (WZ a3 a2) (some (.tu [(.t (.sl Qe) (Xo a3 a2)),(.t Qp a2)],[])) none) none) none) none
theorem s_f69 (e i)(h:JC e i=true):r_f69 e i=some (.tu [.t (.sl Qe) (Q9 e i).1,.t Qp (Q9 e i).2],[]):=by
 simp only [JC,Fe,Bd] at h
 obtain ⟨⟨h1,h2,h3⟩,h4⟩:=h
 exact brY h1 (brY h3 (brY h2 (brY h4 rfl)))
def IT:Ent:=Qm (.pr Qo (.pr tI .nil)) (fun x=>(JC x.1 x.2.1)) (fun x=>(.tu [(.t (.sl Qe) ((Q9 x.1 x.2.1).1)),(.t Qp ((Q9 x.1 x.2.1).2))]))
theorem QnQ:EM 69 IT:=mS g_f69 tc_f69 [((.t 4),some (.sl Qe)),((.c 5 true 9),some Qp)] false (gB (gD QZ3 gN)) fun m=>Qq m fun x hok=>kT (s_f69 x.1 x.2.1 hok)
def tc_f67:TC:=aF Tryz.f67 []
def g_f67:G:=gG 6 [(68,QiC)] (fun _ _=>none)
def r_f67 (p0:Ae):OV:=br (Jy p0) (some (.t .bool (ine (exZ p0) 0),[])) none
theorem s_f67 (x)(h:Jy x=true):r_f67 x=some (.t .bool (JX x),[]):=by
 simp only [r_f67,h,Qd,Ve]
 rfl
def Qzd:Ent:=YA [.ty QK] [] (fun x d=>(Jy x.1)) (fun x d=>(.t .bool (JX x.1)))
theorem ms_f67:EM 67 Qzd:=mS g_f67 tc_f67 [((.t 2),some .bool)] false (gB (gD QrP gN)) fun m=>Yn m fun x d hok=>kT (s_f67 x.1 hok)
abbrev QfF:Sh:=⟨[(0,.ty (.sl QK)),(1,.cf 67),(7,.ty tI),(8,.ty tI)],[]⟩
abbrev Qze:Sh:=⟨[(4,.ty tI)],[]⟩
def QnR:Fg:=QfF.f
def Qzf:TC:=aF Tryz.f110 [(26,pL 0 QnR),(421,.fg QfC.f),(13517,.fg Qze.f)]
def Qzg:TC:=lb 0 Qzf
def Qzh (x0:List Ae)(x7 x8:Int):VS:=QfF.st (x0,(),x7,x8,()) ()
def QnS (x4:Int):VS:=Qze.st (x4,()) ()
def QnT  : VS:=QfC.st () ()
def QPZ:VS->Option (Bool×List (Bool×Exit×VS)):=mkL QfF (fun x y=>(Qw x.1 x.2.2.1 x.2.2.2.1&&J2 x.1)) (fun x y=>[(((QG JX (x.1.drop x.2.2.2.1.toNat)).isSome),.ret,QnS (x.2.2.2.1+((QG JX (x.1.drop x.2.2.2.1.toNat)).getD 0:Nat))),(true,.exit 0,QnT)])
def QnU:G:=gG 19 [(67,Qzd)] (Ls [QPZ])
def QfG (x0:List Ae)(x7 x8:Int):OX:=Qu (Qx QnU QnR Qzg) (Qzh x0 x7 x8)
def QaU (kk:List Ae->Int->Int->OX)(x0:List Ae)(x7 x8:Int):OX:=
 let a1:=lgt QK x0 (Int.toNat x8)
 br (ilt x8 x7) (br (cIx x0 x8) (br (Jy a1) (br (JX a1) (some (.ret,QnS x8)) (kk x0 x7 (Qi .i64 x8 1))) none) none) (some (.exit 0,QnT))
def QfH (x0:List Ae)(x7 x8:Int):OX:=
 let a1:=QG JX (x0.drop x8.toNat)
 br (a1.isSome) (some (.ret,QnS (x8+(a1.getD 0:Nat))))<|some (.exit 0,QnT)
theorem Qzi (x0 x7 x8):QfG x0 x7 x8=QaU QfG x0 x7 x8:=lnT (x:=QaU (fun x0 x7 x8=>some (.normal,Qzh x0 x7 x8)) x0 x7 x8) (by simp only [QaU,nxA];rfl)
def Qzj (p0:List Ae):OV:=
 let a1:=(QG JX (p0.drop (0:Int).toNat))
 br (Qw p0 (Qb p0) (0:Int)&&J2 p0) (br (a1.isSome) (some (.t tI ((0:Int)+(a1.getD 0:Nat)),[])) (some (.t tI (-1),[]))) none
theorem QP0 (x0:List Ae)(x7 x8:Int)(h:(Qw x0 x7 x8&&J2 x0)=true):QfG x0 x7 x8=QfH x0 x7 x8:=by
 obtain ⟨h0,hc⟩:=Bf.1 h
 obtain ⟨rfl,h3,k,rfl,hk⟩:=Jv h0
 clear h0
 refine QP x0 (fun k=>QfG x0 (x0.length:Int) (k:Int)=QfH x0 (x0.length:Int) (k:Int)) ?_ ?_ k hk
 ·rw [Qzi]
  simp [QaU,QfH,Qv,Qh,QG]
 ·intro k hk ih
  rw [Qzi]
  have hx:=Qb1 hc hk
  simp only [QaU,Qv,QM,hk,Bu,Qd,Bb,QO (k:=k),ih,QN (y:=QK) hk,hx]
  simp only [QfH,Bb,Bg hk,QG]
  cases h:(JX x0[k]) with
  |true=>simp [Qd]
  |false=>
   simp only [Qh,BE,Dc]
   cases hq:QG JX (x0.drop (k+1)) with
   |none=>rfl
   |some j=>
    simp only [B4,Da,BU,Qd]
    congr 3
    omega
theorem QP1:LO QnU QnR Qzg 0:=QC (s:=QfF) fun x y h _ q=>by simp only [QA,QB] at q;exact (QP0 x.1 x.2.2.1 x.2.2.2.1 h).trans q
theorem QP2 (l:List Ae)(h:J2 l=true):Qzj l=some (.t tI (U1 l),[]):=by
 have hl:=OL h
 simp only [Qzj,Jw hl,h,B1,Qd,Bt,Bx,U1]
 cases QG JX l<;>simp [Qd,Qh]
def Qzk:Ent:=YA [.ty (.sl QK),.cf 67] [] (fun x d=>(J2 x.1)) (fun x d=>(.t tI (U1 x.1)))
theorem QP3:EM 110 Qzk:=mS (lk:=lkL (lkc QP1 lkn)) QnU Qzf [((.t 4),some tI)] false (gB (gD ms_f67 gN)) fun m=>Yn m fun x d hok=>kT (QP2 x.1 hok)
def QP4:TC:=aF Tryz.f66 []
def QP5:G:=gG 9 [(110,Qzk)] (fun _ _=>none)
def Qzl (p0:List Ae):OV:=br (J2 p0) (some (.t .bool (ige (U1 p0) 0),[])) none
theorem QP6 (l:List Ae)(h:J2 l=true):Qzl l=some (.t .bool (YF l),[]):=by
 simp only [Qzl,h,Qd,QEt]
def Qzm:Ent:=YA [.ty (.sl QK),.cf 67] [] (fun x d=>(J2 x.1)) (fun x d=>(.t .bool (YF x.1)))
theorem QP7:EM 66 Qzm:=mS QP5 QP4 [((.t 4),some .bool)] false (gB (gD QP3 gN)) fun m=>Yn m fun x d hok=>kT (QP6 x.1 hok)
def rl (y:Ah)(l:List Ae)(o:Ab)(d:Int):Ak:=(y,(l,(o,(d,()))))
def ZS (r:Ak):Bool:=JP r.1&&ZT r.2.1 r.2.2.1
def JE (r:Ak):Int:=bif ine (YI r.1) 0 then 25 else bif YF r.2.1 then 26 else bif ilt r.2.2.2.1 0||igt r.2.2.2.1 40000 then 2 else 0
def tc_f36:TC:=aF Tryz.f36 []
def g_f36:G:=gG 21 [(65,Qq6),(66,Qzm)] (fun _ _=>none)
def r_f36 (p0:Ak):OV:=br (JP p0.1) (br (ine (YI p0.1) 0) (some (.t tI 25,[])) (br (J2 p0.2.1) (br (YF p0.2.1) (some (.t tI 26,[])) (br (ilt p0.2.2.2.1 0) (some (.t tI 2,[])) (br (igt p0.2.2.2.1 40000) (some (.t tI 2,[])) (some (.t tI 0,[]))))) none)) none
theorem s_f36 (r)(h:ZS r=true):r_f36 r=some (.t tI (JE r),[]):=by
 obtain ⟨h1,h2⟩:=Bf.1 h
 unfold r_f36 JE
 refine brY h1 ?_
 cases ine (YI r.1) 0 with
 |true=>rfl
 |false=>
  rw [Qh]
  refine brY (Bf.1 h2).1 ?_
  cases YF r.2.1 with
  |true=>rfl
  |false=>
   rw [Qh]
   cases ilt r.2.2.2.1 0 with
   |true=>rfl
   |false=>cases igt r.2.2.2.1 40000<;>rfl
def QaV:Ent:=Qm (.pr Fc .nil) (fun x=>(ZS x.1)) (fun x=>(.t tI (JE x.1)))
theorem QfI:EM 36 QaV:=mS g_f36 tc_f36 [((.t 2),some tI)] false (gB (gD QFw (gD QP7 gN))) fun m=>Qq m fun x hok=>kT (s_f36 x.1 hok)
def XK (r:Ak)(s:Ac)(o:Aa):Bool:=(ZY r.1 r.2.1 r.2.2.1 s o r.2.2.2.1).1
def QaW (r:Ak)(s:Ac)(l m:List Aa)(k:Int):Bool:=ZS r&&(QY s&&decide (l.length<=1000/\(m.length:Int)<=k))
def YN (r:Ak)(e:Ad)(i:Int):List Aa:=(Q9 e i).1.filter (XK r (Q9 e i).2)
def WH (r:Ak)(e:Ad)(i:Int):Bool:=ZS r&&JC e i
theorem IU (r:Ak)(e:Ad)(i:Int):(YN r e i).length<=64:=B5 (DG _ _) F3
abbrev QfJ:Sh:=⟨[(3,.ptr 3 0),(7,.ms 7),(9,.ptr 9 0),(20,.ty (.sl Qe)),(21,.ty tI),(22,.ty tI)],[(3,.box Fc),(7,.arr 108 Qe),(9,.box Qp),(44,.no)]⟩
abbrev Qzn:Sh:=⟨[(7,.ms 7)],[(7,.arr 108 Qe),(44,.no)]⟩
def QnV:Fg:=QfJ.f
def Qzo:TC:=aF Tryz.f37 [(122,.nw 7 108),(122,pL 0 QnV),(1957,.fg Qzn.f)]
def Qzp:TC:=lb 0 Qzo
def Qzq (x20:List Aa)(x21 x22:Int)(y3:Ak)(y7:List Aa)(y9:Ac):VS:=QfJ.st ((),(),(),x20,x21,x22,()) (y3,y7,y9,(),())
def QnW (y7:List Aa):VS:=Qzn.st ((),()) (y7,(),())
def QP8:VS->Option (Bool×List (Bool×Exit×VS)):=mkL QfJ (fun x y=>(Qw x.2.2.2.1 x.2.2.2.2.1 x.2.2.2.2.2.1&&QaW y.1 y.2.2.1 x.2.2.2.1 y.2.1 x.2.2.2.2.2.1)) (fun x y=>[(true,.exit 0,QnW (y.2.1++(x.2.2.2.1.drop x.2.2.2.2.2.1.toNat).filter (XK y.1 y.2.2.1)))])
def QnX:G:=gG 47 [(69,IT),(70,QAZ)] (Ls [QP8])
def QfK (x20:List Aa)(x21 x22:Int)(y3:Ak)(y7:List Aa)(y9:Ac):OX:=Qu (Qx QnX QnV Qzp) (Qzq x20 x21 x22 y3 y7 y9)
def QaX (kk:List Aa->Int->Int->Ak->List Aa->Ac->OX)(x20:List Aa)(x21 x22:Int)(y3:Ak)(y7:List Aa)(y9:Ac):OX:=
 let a1:=lgt Qe x20 (Int.toNat x22)
 br (ilt x22 x21) (br (cIx x20 x22) (br (UO y3.1 y3.2.1 y3.2.2.1 y9 a1 y3.2.2.2.1) (br ((ZY y3.1 y3.2.1 y3.2.2.1 y9 a1 y3.2.2.2.1).1) (br (Qt y7 ([(a1.1,((a1.2).1,()))]) 16) (kk x20 x21 (Qi .i64 x22 1) y3 (y7++([(a1.1,((a1.2).1,()))])) y9) none) (kk x20 x21 (Qi .i64 x22 1) y3 y7 y9)) none) none) (some (.exit 0,QnW y7))
def QfL (x20:List Aa)(x21 x22:Int)(y3:Ak)(y7:List Aa)(y9:Ac):OX:=some (.exit 0,QnW (y7++(x20.drop x22.toNat).filter (XK y3 y9)))
theorem Qzr (x20 x21 x22 y3 y7 y9):QfK x20 x21 x22 y3 y7 y9=QaX QfK x20 x21 x22 y3 y7 y9:=lnT (x:=QaX (fun x20 x21 x22 y3 y7 y9=>some (.normal,Qzq x20 x21 x22 y3 y7 y9)) x20 x21 x22 y3 y7 y9) (by simp only [QaX,nxA];rfl)
def r_f37 (p0:Ak)(p1:Ad)(p2:Int):OV:=
 let a1:=((Q9 p1 p2).1)
 br (JC p1 p2) (br (Qw a1 (Qb a1) (0:Int)&&QaW p0 ((Q9 p1 p2).2) a1 ([]:List Aa) (0:Int)) (some (.t (.sl Qe) (([]:List Aa)++(a1.drop (0:Int).toNat).filter (XK p0 ((Q9 p1 p2).2))),[])) none) none
theorem QP9 (x20:List Aa)(x21 x22:Int)(y3:Ak)(y7:List Aa)(y9:Ac)(h:(Qw x20 x21 x22&&QaW y3 y9 x20 y7 x22)=true):QfK x20 x21 x22 y3 y7 y9=QfL x20 x21 x22 y3 y7 y9:=by
 simp only [QaW,Bd,Ba] at h
 obtain ⟨h,g1,g2,g3,g4⟩:=h
 obtain ⟨rfl,h3,k,rfl,hk⟩:=Jv h
 clear h
 obtain ⟨r1,r2⟩:=Bf.1 g1
 revert y7
 refine QP x20 (fun k=> ∀ y7:List Aa,(y7.length:Int)<=(k:Int)->QfK x20 (x20.length:Int) (k:Int) y3 y7 y9=QfL x20 (x20.length:Int) (k:Int) y3 y7 y9) ?_ ?_ k hk
 ·intro y7 _
  rw [Qzr]
  simp only [QaX,QfL,Qv,BK,BP,Qh,Bb,BF,List.filter_nil,BH]
 ·intro k hk ih y7 g4
  rw [Qzr]
  have e1: ∀ o,UO y3.1 y3.2.1 y3.2.2.1 y9 o y3.2.2.2.1=true:=fun _=>Bf.2 ⟨r1,Bf.2 ⟨r2,g2⟩⟩
  have hx:((x20[k].1,(x20[k].2.1,())):Aa)=x20[k]:=rfl
  have e2:Qt y7 [x20[k]] 16=true:=QX (by omega) (by simp only [Bh];omega)
  simp only [QaX,Qv,QM,hk,Bu,Qd,Bb,QO (k:=k),e1,QN (y:=Qe) hk,hx,e2]
  rw [ih (y7++[x20[k]]) (by simp only [Bj,Bh];omega),ih y7 (by omega)]
  simp only [QfL,Bb,Bg hk,DU]
  show br (XK y3 y9 x20[k]) _ _=_
  cases XK y3 y9 x20[k] with
  |true=>simp only [Qd,if_true,BG,BD]
  |false=>simp only [Qh,BE,Dc]
theorem QQa:LO QnX QnV Qzp 0:=QC (s:=QfJ) fun x y h _ q=>by simp only [QA,QB] at q;exact (QP9 x.2.2.2.1 x.2.2.2.2.1 x.2.2.2.2.2.1 y.1 y.2.1 y.2.2.1 h).trans q
theorem s_f37 (r e i)(h:WH r e i=true):r_f37 r e i=some (.t (.sl Qe) (YN r e i),[]):=by
 obtain ⟨h1,h2⟩:=Bf.1 h
 obtain ⟨h3,h4⟩:=Bf.1 h2
 have hs:QY (We e i).2=true:=(Bf.1 h4).2
 have hl:(Q9 e i).1.length<=64:=F3
 unfold r_f37 YN
 refine brY h2 (brY ?_ ?_)
 ·rw [Jw (by omega),By]
  unfold QaW
  rw [h1,By]
  exact Bf.2 ⟨hs,Bc ⟨by omega,by simp⟩⟩
 ·rw [Bt,Bx,BM]
def QaY:Ent:=Qm (.pr Fc (.pr Qo (.pr tI .nil))) (fun x=>(WH x.1 x.2.1 x.2.2.1)) (fun x=>(.t (.sl Qe) (YN x.1 x.2.1 x.2.2.1)))
theorem QfM:EM 37 QaY:=mS (lk:=lkL (lkc QQa lkn)) QnX Qzo [((.t 6),some (.sl Qe))] false (gB (gD QnQ (gD ms_f70 gN))) fun m=>Qq m fun x hok=>kT (s_f37 x.1 x.2.1 x.2.2.1 hok)
def Y4 (e:Ad)(y:Ah)(l:List Ae)(o:Ab)(i d:Int):List Aa×Int:=
 bif !JQ e then ([],31) else bif ine (JE (rl y l o d)) 0 then ([],JE (rl y l o d)) else bif ilt i 0||ige i (Qb e.2.1) then ([],4) else (YN (rl y l o d) e i,0)
def Eh (e:Ad)(y:Ah)(l:List Ae)(o:Ab)(_i d:Int):Bool:=Jh e&&ZS (rl y l o d)
def tc_f15:TC:=aF Tryz.f15 []
def g_f15:G:=gG 42 [(35,Qi1),(36,QaV),(37,QaY)] (fun _ _=>none)
def r_f15 (p0:Ad)(p1:Ah)(p2:List Ae)(p3:Ab)(p4 p5:Int):OV:=
 let a1:=((p1.1,(p1.2.1,())),(p2,((p3.1,(p3.2.1,())),(p5,()))))
 br (Jh p0) (br (ine (Ye p0) 0) (some (.tu [(.t (.sl Qe) ([]:List Aa)),(.t tI 31)],[])) (br (ZS a1) (br (ine (JE a1) 0) (some (.tu [(.t (.sl Qe) ([]:List Aa)),(.t tI (JE a1))],[])) (br (ilt p4 0) (some (.tu [(.t (.sl Qe) ([]:List Aa)),(.t tI 4)],[])) (br (ige p4 (Qb p0.2.1)) (some (.tu [(.t (.sl Qe) ([]:List Aa)),(.t tI 4)],[])) (br (WH a1 p0 p4) (some (.tu [(.t (.sl Qe) (YN a1 p0 p4)),(.t tI 0)],[])) none)))) none)) none
theorem s_f15 (e y l o i d)(h:Eh e y l o i d=true):r_f15 e y l o i d=some (.tu [.t (.sl Qe) (Y4 e y l o i d).1,.t tI (Y4 e y l o i d).2],[]):=by
 obtain ⟨h1,h2⟩:=Bf.1 h
 unfold r_f15 Y4
 refine brY h1 ?_
 rw [FM]
 cases ho:JQ e with
 |false=>rfl
 |true=>
  rw [BA,Qh]
  refine brY (show ZS (rl y l o d)=true from h2) ?_
  show br (ine (JE (rl y l o d)) 0) (some (V.tu [V.t (.sl Qe) ([]:List Aa),V.t tI (JE (rl y l o d))],[])) _=_
  cases ine (JE (rl y l o d)) 0 with
  |true=>rfl
  |false=>
   rw [Qh]
   cases h3:ilt i 0 with
   |true=>rfl
   |false=>
    rw [Qh]
    cases h4:ige i (Qb e.2.1) with
    |true=>rfl
    |false=>
     rw [Qh]
     have h3:=Dp h3
     have h4:=Dp h4
     simp only [Qb] at h4
     exact brY (show WH (rl y l o d) e i=true from Bf.2 ⟨h2,Y3 ho h1 (by omega) (by omega)⟩) rfl
def QnY:Ent:=Qm (.pr Qo (.pr Q3 (.pr (.sl QK) (.pr Qn (.pr tI (.pr tI .nil)))))) (fun x=>(Eh x.1 x.2.1 x.2.2.1 x.2.2.2.1 x.2.2.2.2.1 x.2.2.2.2.2.1)) (fun x=>(.tu [(.t (.sl Qe) ((Y4 x.1 x.2.1 x.2.2.1 x.2.2.2.1 x.2.2.2.2.1 x.2.2.2.2.2.1).1)),(.t tI ((Y4 x.1 x.2.1 x.2.2.1 x.2.2.2.1 x.2.2.2.2.1 x.2.2.2.2.2.1).2))]))
theorem Qzs:EM 15 QnY:=mS g_f15 tc_f15 [((.t 12),some (.sl Qe)),((.t 13),some tI)] false (gB (gD Qse (gD QfI (gD QfM gN)))) fun m=>Qq m fun x hok=>kT (s_f15 x.1 x.2.1 x.2.2.1 x.2.2.2.1 x.2.2.2.2.1 x.2.2.2.2.2.1 hok)
def JO (a b:Ad):Int:=bif !JQ a then 31 else bif !JQ b then 31 else bif !UK a.2.1 b.2.1 then 42 else 0
def WI (a b:Ad):Bool:=Jh a&&Jh b
theorem Ei {a b:Ad}(h:ine (JO a b) 0=false):JQ a=true/\JQ b=true/\a.2.1=b.2.1:=by
 unfold JO at h
 cases h1:JQ a with
 |false=>rw [h1] at h;cases h
 |true=>
  rw [h1] at h
  cases h2:JQ b with
  |false=>rw [h2] at h;cases h
  |true=>
   rw [h2] at h
   cases h3:UK a.2.1 b.2.1 with
   |false=>rw [h3] at h;cases h
   |true=>exact ⟨rfl,rfl,QPY.1 h3⟩
def tc_f43:TC:=aF Tryz.f43 []
def g_f43:G:=gG 21 [(35,Qi1),(77,Qzc)] (fun _ _=>none)
def r_f43 (p0 p1:Ad):OV:=br (Jh p0) (br (ine (Ye p0) 0) (some (.t tI 31,[])) (br (Jh p1) (br (ine (Ye p1) 0) (some (.t tI 31,[])) (br (QfA p0.2.1 p1.2.1) (br (!(UK p0.2.1 p1.2.1)) (some (.t tI 42,[])) (some (.t tI 0,[]))) none)) none)) none
theorem s_f43 (a b)(h:WI a b=true):r_f43 a b=some (.t tI (JO a b),[]):=by
 obtain ⟨h1,h2⟩:=Bf.1 h
 unfold r_f43 JO
 refine brY h1 ?_
 rw [FM]
 cases g1:JQ a with
 |false=>rfl
 |true=>
  rw [BA,Qh]
  refine brY h2 ?_
  rw [FM]
  cases g2:JQ b with
  |false=>rfl
  |true=>
   rw [BA,Qh]
   have p1:=WG g1
   have p2:=WG g2
   refine brY (show QfA a.2.1 b.2.1=true from Bc ⟨by have:a.2.1.length<=40:=p1.2.2.2.2.2;omega,by have:b.2.1.length<=40:=p2.2.2.2.2.2;omega⟩) ?_
   cases UK a.2.1 b.2.1<;>rfl
def QfN:Ent:=Qm (.pr Qo (.pr Qo .nil)) (fun x=>(WI x.1 x.2.1)) (fun x=>(.t tI (JO x.1 x.2.1)))
theorem QnZ:EM 43 QfN:=mS g_f43 tc_f43 [((.t 4),some tI)] false (gB (gD Qse (gD ms_f77 gN))) fun m=>Qq m fun x hok=>kT (s_f43 x.1 x.2.1 hok)
theorem QRk {X:Nat->Nat->Prop}{w:World}{Z:Pl}{s:Ac}{o:Aa}{sv:Value}(hfin: ∀ b q,X b q->b<w.heap.size)(hs:C X w Z (V.t Qp s).d sv)(hl:QY s=true):
  Calls Tryz.prog 112 #[sv,ER o] w fun e w'=> ∃ A c er,e= .returned (.tuple #[.slice A (QZ s o).1.length c,.int .i64 er])/\(QZ s o).1.length<=c∧
   (0<(QZ s o).1.length→ ∃ b off,A=some ⟨b,off,none⟩∧ ∀ j v,(cU (QZ s o).1)[j]? = some v->w'.cell? ⟨b,off+j,none⟩=some v)/\Below w.heap.size w w':=by
 have hF:QD QkU [.t Qp s,.t Qe o] []=some (.tu [.t (.sl Qe) (QZ s o).1,.t tI (QZ s o).2],[]):=by
  unfold QkU
  exact EE (a:= .pr Qp (.pr Qe .nil)) (x:=(s,(o,()))) (by simp [Ty.args,Ik]) hl
 refine (Uz (by decide) (QLg.2 _ _ _ _ hF X w Z [sv,ER o] hfin O0 ⟨sv,_,rfl,hs,ER o,_,rfl,keep_c o,rfl⟩)).mono ?_
 rintro e w' ⟨u,X',Z',rfl,h1,h2⟩
 have h1:C X' w' Z' (.tu [.sl (QZ s o).1.length ((QZ s o).1.flatMap Qe.cells),.v (.int .i64 (QZ s o).2)]) u:=h1
 simp only [C,Cs] at h1
 obtain ⟨vs,rfl,u1,us,rfl,⟨A,c,rfl,g1,g2,g3,g4⟩,u2,us2,rfl,⟨rfl,_⟩,rfl⟩:=h1
 refine ⟨A,c,_,rfl,g1,fun hp=> ?_,O1 h2⟩
 obtain ⟨b,off,vs,rfl,k1,k2⟩:=g4 hp
 rw [Qcj k1] at k2
 exact ⟨b,off,rfl,fun j v hv=>k2.at_ j v hv⟩
theorem QRl {P:Program}{w:World}{T ty elem:TypeId}(hu:P.underlying T=some (.slice elem))(hs:(P.info? elem).map (·.size)=some 2){b o n c:Nat}{A:Option Addr}{cs:List Value}(hn:n<=4)(hl:cs.length=n*2)
  (hp:0<n→ ∃ a,A=some a∧ ∀ j v,cs[j]? = some v->w.cell? (a.add j)=some v) (hc: ∀ j,j<cs.length->(w.cell? ⟨b,o+j,none⟩).isSome=true) (hf: ∀ j,j<cs.length->w.frozen? ⟨b,o+j,none⟩=false) (h1: ∀ v∈cs,v.oneCell'=true):
  (Builtin.copy_ #[T,T] ty #[.slice (some ⟨b,o,none⟩) 4 4,.slice A n c]).run P w= .ok (goInt n) (w.setCells b o cs):=by
 have hst:=run_storeCells_cells (P:=P) b o cs 0 w (by simpa using hc) (by simpa using hf) h1
 have hm:Nat.min n 4=n:=Nat.min_eq_left hn
 cases hq:P.info? elem with
 |none=>simp [hq] at hs
 |some i=>
  have hi:i.size=2:=by simpa [hq] using hs
  rcases DW n with rfl|h0
  ·have hcs:cs=[]:=BJ (by omega)
   subst hcs
   have hl0: ∀ (x:Addr),(loadCells x 0).run P w= .ok #[] w:=fun x=>by simpa using run_loadCells_list (P:=P) w x [] (by simp)
   cases A<;>simp [Builtin.copy_,run_underlying hu,Builtin.lenOf,Builtin.firstCells,sizeOf,typeInfo,hq,hi,hl0,storeCells,World.setCells]
  ·obtain ⟨a,rfl,hsrc⟩:=hp h0
   have hld:=run_loadCells_list (P:=P) w a cs hsrc
   rw [hl] at hld
   simp [Builtin.copy_,run_underlying hu,Builtin.lenOf,Builtin.firstCells,sizeOf,typeInfo,hq,hi,hm,hld,hst]
def Eo (l:List Aa):List Aa:=(l++List.replicate 4 zK).take 4
def mV (o:Aa)(us:List Aa):Array Value:=(.int .i64 o.1:: .int .i64 o.2.1::cU (Eo us)).toArray
set_option maxHeartbeats 1000000 in
theorem of_any {v0 v1 v2 v3 v4 v5 v6 v7 v8:Value}{o:Aa}{us:List Aa}{w:World}
  (o0:v0.oneCell'=true) (o1:v1.oneCell'=true) (o2:v2.oneCell'=true) (o3:v3.oneCell'=true) (o4:v4.oneCell'=true) (o5:v5.oneCell'=true) (o6:v6.oneCell'=true) (o7:v7.oneCell'=true) (o8:v8.oneCell'=true)
  (hU: ∀ W,Below w.heap.size w W->Calls Tryz.prog 112 #[.agg #[v0,v1,v2,v3,v4,v5,v6,v7,v8],ER o] W fun e w'=> ∃ A c er,e= .returned (.tuple #[.slice A us.length c,.int .i64 er])/\us.length<=c∧
   (0<us.length→ ∃ b off,A=some ⟨b,off,none⟩∧ ∀ j v,(cU us)[j]? = some v->w'.cell? ⟨b,off+j,none⟩=some v)/\Below W.heap.size W w')
  (hn:us=[]∨ ∃ a b c d,us=[a,b,c,d]):
  Calls Tryz.prog 78 #[.agg #[v0,v1,v2,v3,v4,v5,v6,v7,v8],ER o] w fun e w'=>e= .returned (.agg (mV o us))/\Below w.heap.size w w':=by
 go_enter Tryz.func78,Tryz.ntmps78
 go_wp2_with fail
 obtain ⟨Wa,ha⟩: ∃ Wa,Wa=w.alloc (.cells #[v0,v1,v2,v3,v4,v5,v6,v7,v8] 82):=⟨_,rfl⟩
 obtain ⟨Wb,hb⟩: ∃ Wb,Wb=Wa.alloc (.cells #[.int .i64 o.1,.int .i64 o.2.1] 108):=⟨_,rfl⟩
 obtain ⟨Wc,hc⟩: ∃ Wc,Wc=Wb.alloc (.cells #[.int .i64 0,.int .i64 0,.int .i64 0,.int .i64 0,.int .i64 0,.int .i64 0,.int .i64 0,.int .i64 0,.int .i64 0,.int .i64 0] 147):=⟨_,rfl⟩
 obtain ⟨Wd,hd⟩: ∃ Wd,Wd=Wc.alloc (.cells #[.int .i64 o.1,.int .i64 o.2.1,.int .i64 0,.int .i64 0,.int .i64 0,.int .i64 0,.int .i64 0,.int .i64 0,.int .i64 0,.int .i64 0] 147):=⟨_,rfl⟩
 obtain ⟨S,hS⟩: ∃ S,S=w.heap.size:=⟨_,rfl⟩
 rw [<-ha, <- hb, <- hc, <- hd, <- hS]
 have sa:Wa.heap.size=S+1:=by rw [ha,World.size_alloc,hS]
 have sb:Wb.heap.size=S+1+1:=by rw [hb,World.size_alloc,sa]
 have sc:Wc.heap.size=S+1+1+1:=by rw [hc,World.size_alloc,sb]
 have sd:Wd.heap.size=S+1+1+1+1:=by rw [hd,World.size_alloc,sc]
 have b4:Below w.heap.size w Wd:=by
  rw [hd,hc,hb,ha]
  have e1:=(Below.refl w.heap.size w).alloc (BI _) (.cells #[v0,v1,v2,v3,v4,v5,v6,v7,v8] 82)
  have e2:=e1.alloc e1.size (.cells #[.int .i64 o.1,.int .i64 o.2.1] 108)
  have e3:=e2.alloc e2.size (.cells #[.int .i64 0,.int .i64 0,.int .i64 0,.int .i64 0,.int .i64 0,.int .i64 0,.int .i64 0,.int .i64 0,.int .i64 0,.int .i64 0] 147)
  exact e3.alloc e3.size _
 have k2:Go.Proofs.YtkmobehaikjdjaaGreat.Blk Wd (S+1+1) 147 #[.int .i64 0,.int .i64 0,.int .i64 0,.int .i64 0,.int .i64 0,.int .i64 0,.int .i64 0,.int .i64 0,.int .i64 0,.int .i64 0]:=by
  rw [hd];refine Go.Proofs.YtkmobehaikjdjaaGreat.Blk.alloc ?_ _;rw [hc, <- sb];exact Go.Proofs.YtkmobehaikjdjaaGreat.Blk.new _ _ _
 have k3:Go.Proofs.YtkmobehaikjdjaaGreat.Blk Wd (S+1+1+1) 147 #[.int .i64 o.1,.int .i64 o.2.1,.int .i64 0,.int .i64 0,.int .i64 0,.int .i64 0,.int .i64 0,.int .i64 0,.int .i64 0,.int .i64 0]:=by
  rw [hd, <- sc];exact Go.Proofs.YtkmobehaikjdjaaGreat.Blk.new _ _ _
 clear ha hb hc hd sa sb sc
 refine (hU _ b4).mono ?_
 rintro e w1 ⟨A,c,er,rfl,hc,hp,hb1⟩
 have hsz:=hb1.size
 have k2:=k2.ext hb1
 have k3:=k3.ext hb1
 have b5:Below S w w1:=hS▸XR b4 hb1 (by omega)
 have HP:=Lib.hid hp
 have HB:=Lib.hid b5
 clear hp hb1 hU b4 b5
 have hM: ∃ m0 m1 m2 m3 m4 m5 m6 m7:Int,Q6 [.int .i64 o.1,.int .i64 o.2.1,.int .i64 0,.int .i64 0,.int .i64 0,.int .i64 0,.int .i64 0,.int .i64 0,.int .i64 0,.int .i64 0] 2 (cU us)=[.int .i64 o.1,.int .i64 o.2.1,.int .i64 m0,.int .i64 m1,.int .i64 m2,.int .i64 m3,.int .i64 m4,.int .i64 m5,.int .i64 m6,.int .i64 m7]/\mV o us= #[.int .i64 o.1,.int .i64 o.2.1,.int .i64 m0,.int .i64 m1,.int .i64 m2,.int .i64 m3,.int .i64 m4,.int .i64 m5,.int .i64 m6,.int .i64 m7]:=by
  rcases hn with rfl|⟨a,b,c,d,rfl⟩<;>exact ⟨_,_,_,_,_,_,_,_,rfl,rfl⟩
 have hn4:us.length<=4:=by rcases hn with rfl|⟨a,b,c,d,rfl⟩<;>simp
 obtain ⟨m0,m1,m2,m3,m4,m5,m6,m7,hm1,hm2⟩:=hM
 have HM:=Lib.hid hm2
 have f3:=k3.frozen
 have hl8:=Qie us
 have hrun:=QRl (P:=Tryz.prog) (w:=w1) (T:=96) (ty:=3) (elem:=24) (by kernel_rfl) (by kernel_rfl) (b:=S+1+1+1) (o:=2) (n:=us.length) (c:=c) (A:=A) (cs:=cU us) hn4 hl8
  (fun h0=>by
   obtain ⟨b,off,rfl,h⟩:=HP.out h0
   exact ⟨_,rfl,fun j v hv=>by
    have:=h j v hv
    have ha:(Addr.mk b off none).add j=⟨b,off+j,none⟩:=by by_cases h0:j=0<;>simp [Addr.add,h0]
    rw [ha]
    exact this⟩)
  (fun j hj=>by
   rw [k3.cell,Array.getElem?_eq_getElem (by simp;omega)]
   rfl)
  (fun j _=>f3 _) (QFH us)
 have k3':=EV (S+1+1+1) 147 (0,0) (cU us) 2 w1 _ k3
 rw [hm1] at k3'
 have k2':Go.Proofs.YtkmobehaikjdjaaGreat.Blk (w1.setCells (S+1+1+1) 2 (cU us)) (S+1+1) 147 #[.int .i64 0,.int .i64 0,.int .i64 0,.int .i64 0,.int .i64 0,.int .i64 0,.int .i64 0,.int .i64 0,.int .i64 0,.int .i64 0]:=(GN (S+1+1+1) (cU us) 2 w1 (S+1+1) (by omega)).trans k2
 have b6:Below S w (w1.setCells (S+1+1+1) 2 (cU us)):=by
  have fr:=GO (S+1+1+1) (cU us) 2 w1
  exact HB.out.trans ⟨fr.os,fr.tape,fr.output,fr.size,fun k hk=>GN (S+1+1+1) (cU us) 2 w1 k (by omega)⟩
 generalize w1.setCells (S+1+1+1) 2 (cU us)=w2 at*
 replace k3':Go.Proofs.YtkmobehaikjdjaaGreat.Blk w2 (S+1+1+1) 147 #[.int .i64 o.1,.int .i64 o.2.1,.int .i64 m0,.int .i64 m1,.int .i64 m2,.int .i64 m3,.int .i64 m4,.int .i64 m5,.int .i64 m6,.int .i64 m7]:=k3'
 have HB2:=Lib.hid b6
 have K2:=Lib.hid k2'
 clear k2 k3 HB HP hn hn4 hm1 hm2 hl8 b6 sd hsz Wa Wb Wc hc
 have HS:=Lib.hid hS
 clear hS
 have q0:=k3'.cell 0
 have q1:=k3'.cell 1
 have q2:=k3'.cell 2
 have q3:=k3'.cell 3
 have q4:=k3'.cell 4
 have q5:=k3'.cell 5
 have q6:=k3'.cell 6
 have q7:=k3'.cell 7
 have q8:=k3'.cell 8
 have q9:=k3'.cell 9
 have p0:=k2'.cell 0
 have p1:=k2'.cell 1
 have p2:=k2'.cell 2
 have p3:=k2'.cell 3
 have p4:=k2'.cell 4
 have p5:=k2'.cell 5
 have p6:=k2'.cell 6
 have p7:=k2'.cell 7
 have p8:=k2'.cell 8
 have p9:=k2'.cell 9
 simp only [Do,BZ,BX] at q0 q1 q2 q3 q4 q5 q6 q7 q8 q9 p0 p1 p2 p3 p4 p5 p6 p7 p8 p9
 have f2:=k2'.frozen
 clear k3' k2' f3
 generalize us.length=n at*
 go_wp2_with fail
 have fr:=GO (S+1+1) [.int .i64 o.1,.int .i64 o.2.1,.int .i64 m0,.int .i64 m1,.int .i64 m2,.int .i64 m3,.int .i64 m4,.int .i64 m5,.int .i64 m6,.int .i64 m7] 0 w2
 have kF:=EV (S+1+1) 147 (0,0) [.int .i64 o.1,.int .i64 o.2.1,.int .i64 m0,.int .i64 m1,.int .i64 m2,.int .i64 m3,.int .i64 m4,.int .i64 m5,.int .i64 m6,.int .i64 m7] 0 w2 _ K2.out
 change bodyPost _ _ _ _ _ (w2.setCells (S+1+1) 0 [.int .i64 o.1,.int .i64 o.2.1,.int .i64 m0,.int .i64 m1,.int .i64 m2,.int .i64 m3,.int .i64 m4,.int .i64 m5,.int .i64 m6,.int .i64 m7])
 have b7:Below S w (w2.setCells (S+1+1) 0 [.int .i64 o.1,.int .i64 o.2.1,.int .i64 m0,.int .i64 m1,.int .i64 m2,.int .i64 m3,.int .i64 m4,.int .i64 m5,.int .i64 m6,.int .i64 m7]):=HB2.out.trans ⟨fr.os,fr.tape,fr.output,fr.size,fun k hk=>GN (S+1+1) _ 0 w2 k (by omega)⟩
 clear fr q0 q1 q2 q3 q4 q5 q6 q7 q8 q9 p0 p1 p2 p3 p4 p5 p6 p7 p8 p9 f2 hrun
 generalize w2.setCells (S+1+1) 0 [.int .i64 o.1,.int .i64 o.2.1,.int .i64 m0,.int .i64 m1,.int .i64 m2,.int .i64 m3,.int .i64 m4,.int .i64 m5,.int .i64 m6,.int .i64 m7]=w3 at*
 replace kF:Go.Proofs.YtkmobehaikjdjaaGreat.Blk w3 (S+1+1) 147 #[.int .i64 o.1,.int .i64 o.2.1,.int .i64 m0,.int .i64 m1,.int .i64 m2,.int .i64 m3,.int .i64 m4,.int .i64 m5,.int .i64 m6,.int .i64 m7]:=kF
 have r0:=kF.cell 0
 have r1:=kF.cell 1
 have r2:=kF.cell 2
 have r3:=kF.cell 3
 have r4:=kF.cell 4
 have r5:=kF.cell 5
 have r6:=kF.cell 6
 have r7:=kF.cell 7
 have r8:=kF.cell 8
 have r9:=kF.cell 9
 simp only [Do,BZ,BX] at r0 r1 r2 r3 r4 r5 r6 r7 r8 r9
 refine bodyPost_ret (by simp [results,Tryz.results78,go_sem,r0,r1,r2,r3,r4,r5,r6,r7,r8,r9];rfl) rfl ?_
 rw [HM.out]
 have hS:=HS.out
 subst hS
 exact ⟨rfl,b7⟩
theorem Q1U:(Tryz.prog.fieldsOf 147).toList=[⟨"outcome", 108,0,false, "", "cipherplan/policy", 0⟩,⟨"uses", 145,2,false, "", "cipherplan/policy", 16⟩]:=by kernel_rfl
theorem flat54:Wo Tryz.prog 3 108=some [0,0]:=by kernel_rfl
theorem flat64:Wo Tryz.prog 3 24=some [0,0]:=by kernel_rfl
theorem und130:Tryz.prog.underlying 145=some (.array 4 24):=by kernel_rfl
theorem Q1V:Tryz.prog.cellsOf 24=2:=by kernel_rfl
theorem eq2 (t:TypeId)(ht:t=108∨t=24)(w:World)(d:Nat)(hd:3<=d)(a b x y:Int):(Op.equalIn d t (.agg #[.int .i64 a,.int .i64 b]) (.agg #[.int .i64 x,.int .i64 y])).run Tryz.prog w= .ok ((a==x)&&((b==y)&&true)) w:=by
 rcases ht with rfl|rfl
 ·exact Qrm (P:=Tryz.prog) (w:=w) 3 d 108 _ [0,0] [.int .i64 a,.int .i64 b] [.int .i64 x,.int .i64 y] ((a==x)&&((b==y)&&true)) flat54 hd Tryz.underlying108 (by simp [ZE,eqV])
 ·exact Qrm (P:=Tryz.prog) (w:=w) 3 d 24 _ [0,0] [.int .i64 a,.int .i64 b] [.int .i64 x,.int .i64 y] ((a==x)&&((b==y)&&true)) flat64 hd Tryz.underlying24 (by simp [ZE,eqV])
theorem info64: ∃ i,Tryz.prog.info? 24=some i:=by
 have:=Tryz.underlying24
 unfold Program.underlying at this
 cases h:Tryz.prog.info? 24 with
 |none=>simp [h] at this
 |some i=>exact ⟨i,rfl⟩
theorem arr4 (w:World)(a0 a1 a2 a3 a4 a5 a6 a7 b0 b1 b2 b3 b4 b5 b6 b7:Int):
  (Op.equalIn 9999 145 (.agg #[.int .i64 a0,.int .i64 a1,.int .i64 a2,.int .i64 a3,.int .i64 a4,.int .i64 a5,.int .i64 a6,.int .i64 a7]) (.agg #[.int .i64 b0,.int .i64 b1,.int .i64 b2,.int .i64 b3,.int .i64 b4,.int .i64 b5,.int .i64 b6,.int .i64 b7])).run Tryz.prog w= .ok ([a0,a1,a2,a3,a4,a5,a6,a7]==[b0,b1,b2,b3,b4,b5,b6,b7]) w:=by
 obtain ⟨i,hi⟩:=info64
 rw [run_equalIn_array w 9998 _ _ und130 hi,Q1V,show List.range 4=[0,1,2,3] from rfl]
 have e2: ∀ (w:World) (a b x y:Int),(Op.equalIn 9998 24 (.agg #[.int .i64 a,.int .i64 b]) (.agg #[.int .i64 x,.int .i64 y])).run Tryz.prog w= .ok ((a==x)&&((b==y)&&true)) w:=fun w a b x y=>eq2 24 (.inr rfl) w 9998 (by decide) a b x y
 simp [Op.eqItems,part,Tryz.isAgg24,Tryz.sizeOf24,e2]
 by_cases h0:a0=b0
 ·
  by_cases h1:a1=b1
  ·
   by_cases h2:a2=b2
   ·
    by_cases h3:a3=b3
    ·
     by_cases h4:a4=b4
     ·
      by_cases h5:a5=b5
      ·
       by_cases h6:a6=b6
       ·
        by_cases h7:a7=b7
        ·
         simp [h0,h1,h2,h3,h4,h5,h6,h7]
        ·simp [h0,h1,h2,h3,h4,h5,h6,h7]
       ·simp [h0,h1,h2,h3,h4,h5,h6]
      ·simp [h0,h1,h2,h3,h4,h5]
     ·simp [h0,h1,h2,h3,h4]
    ·simp [h0,h1,h2,h3]
   ·simp [h0,h1,h2]
  ·simp [h0,h1]
 ·simp [h0]
theorem meq (w:World)(a0 a1 a2 a3 a4 a5 a6 a7 a8 a9 b0 b1 b2 b3 b4 b5 b6 b7 b8 b9:Int):
  (Op.equal 147 (.agg #[.int .i64 a0,.int .i64 a1,.int .i64 a2,.int .i64 a3,.int .i64 a4,.int .i64 a5,.int .i64 a6,.int .i64 a7,.int .i64 a8,.int .i64 a9]) (.agg #[.int .i64 b0,.int .i64 b1,.int .i64 b2,.int .i64 b3,.int .i64 b4,.int .i64 b5,.int .i64 b6,.int .i64 b7,.int .i64 b8,.int .i64 b9])).run Tryz.prog w= .ok ([a0,a1,a2,a3,a4,a5,a6,a7,a8,a9]==[b0,b1,b2,b3,b4,b5,b6,b7,b8,b9]) w:=by
 show (Op.equalIn (9999+1) 147 _ _).run Tryz.prog w=_
 rw [run_equalIn_struct w 9999 147 _ _ (by kernel_rfl) (by kernel_rfl),Q1U]
 have e2: ∀ (w:World) (a b x y:Int),(Op.equalIn 9999 108 (.agg #[.int .i64 a,.int .i64 b]) (.agg #[.int .i64 x,.int .i64 y])).run Tryz.prog w= .ok ((a==x)&&((b==y)&&true)) w:=fun w a b x y=>eq2 108 (.inl rfl) w 9999 (by decide) a b x y
 have e4:=fun w=>arr4 w a2 a3 a4 a5 a6 a7 a8 a9 b2 b3 b4 b5 b6 b7 b8 b9
 simp [Op.eqFields,part,Tryz.isAgg108,Tryz.sizeOf108,Tryz.isAgg145,Tryz.sizeOf145,e2,e4]
 by_cases h0:a0=b0
 ·by_cases h1:a1=b1
  ·simp [h0,h1]
   generalize (a2==b2&&(a3==b3&&(a4==b4&&(a5==b5&&(a6==b6&&(a7==b7&&(a8==b8&&a9==b9)))))))=q
   cases q<;>rfl
  ·simp [h0,h1]
 ·simp [h0]
def kV (z:List Int):Value:= .agg (z.map (Value.int .i64)).toArray
theorem ten {z:List Int}(h:z.length=10): ∃ a0 a1 a2 a3 a4 a5 a6 a7 a8 a9,z=[a0,a1,a2,a3,a4,a5,a6,a7,a8,a9]:=by
 match z,h with
 | [a0,a1,a2,a3,a4,a5,a6,a7,a8,a9],_=>exact ⟨_,_,_,_,_,_,_,_,_,_,rfl⟩
theorem keq (w:World){x y:List Int}(hx:x.length=10)(hy:y.length=10):(Op.equal 147 (kV x) (kV y)).run Tryz.prog w= .ok (x==y) w:=by
 obtain ⟨a0,a1,a2,a3,a4,a5,a6,a7,a8,a9,rfl⟩:=ten hx
 obtain ⟨b0,b1,b2,b3,b4,b5,b6,b7,b8,b9,rfl⟩:=ten hy
 exact meq w a0 a1 a2 a3 a4 a5 a6 a7 a8 a9 b0 b1 b2 b3 b4 b5 b6 b7 b8 b9
theorem Qvo {x y:List Int}(h:kV x=kV y):x=y:=by
 have h:(x.map (Value.int .i64)).toArray=(y.map (Value.int .i64)).toArray:=by injection h
 have h:=congrArg Array.toList h
 simp only at h
 exact (List.map_inj_right (fun a b e=>by injection e)).1 h
def QlB (es:List MapEntry)(ks:List (List Int)):Prop:=(∀ e∈es,e.val= .bool true∧ ∃ z∈ks,z.length=10/\e.key=kV z)∧ ∀ z∈ks, ∃ e∈es,e.key=kV z
theorem QMp (w:World){z:List Int}(hz:z.length=10): ∀ (es:List MapEntry) (i:Nat),(∀ e∈es, ∃ y:List Int,y.length=10/\e.key=kV y)→
  ((Instr.findAsking 147 (kV z) es i).run Tryz.prog w= .ok none w∧ ∀ e∈es,e.key≠kV z)∨ ∃ j e,(Instr.findAsking 147 (kV z) es i).run Tryz.prog w= .ok (some (i+j,e.val)) w/\es[j]? = some e/\e.key=kV z
 | [],i,_=> .inl ⟨by simp [Instr.findAsking],by simp⟩
 |e::es,i,h=>by
  obtain ⟨y,hy,hk⟩:=h e Df
  have he:=keq w hz hy
  by_cases hq:z=y
  ·subst hq
   refine .inr ⟨0,e, ?_,rfl,hk⟩
   simp [Instr.findAsking,hk,he]
  ·rcases QMp w hz es (i+1) (fun e he=>h e (B8 _ he)) with ⟨h1,h2⟩|⟨j,e',h1,h2,h3⟩
   ·refine .inl ⟨by simp [Instr.findAsking,hk,he,hq,h1],fun e' he'=> ?_⟩
    rcases BQ.1 he' with rfl|he'
    ·rw [hk]
     exact fun e=>hq (Qvo e).symm
    ·exact h2 e' he'
   ·refine .inr ⟨j+1,e', ?_,by simpa using h2,h3⟩
    simp [Instr.findAsking,hk,he,hq,h1]
    omega
theorem QMq (w:World)(em:Bool){z:List Int}(hz:z.length=10):(Instr.checkKey em 10000 147 (kV z)).run Tryz.prog w= .ok () w:=by
 obtain ⟨a0,a1,a2,a3,a4,a5,a6,a7,a8,a9,rfl⟩:=ten hz
 kernel_rfl
theorem QMr (w:World){z:List Int}(hz:z.length=10)(es:List MapEntry)(h: ∀ e∈es, ∃ y:List Int,y.length=10/\e.key=kV y):
  ((Instr.findKey 147 (kV z) es).run Tryz.prog w= .ok none w∧ ∀ e∈es,e.key≠kV z)∨ ∃ j e,(Instr.findKey 147 (kV z) es).run Tryz.prog w= .ok (some (j,e.val)) w/\es[j]? = some e/\e.key=kV z:=by
 cases es with
 |nil=>
  refine .inl ⟨?_,by simp⟩
  simp [Instr.findKey,run_underlying Tryz.underlying147,Instr.findNow]
 |cons e es=>
  have:=QMp w hz (e::es) 0 h
  simp only [DY] at this
  have hn: ∀ k:Value,Instr.findNow (.struct (Tryz.prog.fieldsOf 147)) k (e::es) 0=none:=fun k=>by simp [Instr.findNow,Instr.sameNow]
  have e1:(Instr.findKey 147 (kV z) (e::es)).run Tryz.prog w=(Instr.findAsking 147 (kV z) (e::es) 0).run Tryz.prog w:=by
   simp [Instr.findKey,run_underlying Tryz.underlying147,Instr.findNow,Instr.sameNow]
  rw [e1]
  exact this
theorem Q1W (w:World){bm clk:Nat}{es:Array MapEntry}{ks:List (List Int)}{z:List Int}(hz:z.length=10)(hb:w.heap[bm]? = some (.map es clk))(hE:QlB es.toList ks):
  (Instr.lookup 144 (.map (some bm)) (kV z) false).run Tryz.prog w= .ok (.bool (decide (z∈ks))) w:=by
 have hc:=QMq w es.isEmpty hz
 have hz0:(zeroValue 4).run Tryz.prog w= .ok (.bool false) w:=by kernel_rfl
 rcases QMr w hz es.toList (fun e he=>by obtain ⟨_,y,_,h1,h2⟩:=hE.1 e he;exact ⟨y,h1,h2⟩) with ⟨h1,h2⟩|⟨j,e,h1,h2,h3⟩
 ·have hn: ¬ z∈ks:=fun hm=>by obtain ⟨e,he,hk⟩:=hE.2 z hm;exact h2 e he hk
  have hg:(getObj bm).run Tryz.prog w= .ok (.map es clk) w:=by simp [getObj,Sem.run,hb]
  simp [Instr.lookup,run_underlying Tryz.underlying144,hg,hc,h1,hz0,hn]
 ·have he:=Ds h2
  obtain ⟨hv,y,hy,hyl,hyk⟩:=hE.1 e he
  have hm:z∈ks:=by rw [Qvo (h3.symm.trans hyk)];exact hy
  have hg:(getObj bm).run Tryz.prog w= .ok (.map es clk) w:=by simp [getObj,Sem.run,hb]
  simp [Instr.lookup,run_underlying Tryz.underlying144,hg,hc,h1,hv,hm]
theorem Q1X (w:World){bm clk:Nat}{es:Array MapEntry}{ks:List (List Int)}{z:List Int}(hz:z.length=10)(hb:w.heap[bm]? = some (.map es clk))(hE:QlB es.toList ks):
  ∃ w',(Instr.mapUpdate 144 (.map (some bm)) (kV z) (.bool true)).run Tryz.prog w= .ok () w'/\(∃ es' clk',w'.heap[bm]? = some (.map es' clk')/\QlB es'.toList (ks++[z]))/\w.grownBy w' (some bm):=by
 have hc:=QMq w false hz
 have hg:(getObj bm).run Tryz.prog w= .ok (.map es clk) w:=by simp [getObj,Sem.run,hb]
 have hs: ∀ o,(setObj bm o).run Tryz.prog w= .ok () {w with heap:=w.heap.setIfInBounds bm o}:=fun o=>by simp [setObj,Sem.run,hb]
 have hlt:bm<w.heap.size:=(B7.1 hb).1
 have hgr: ∀ o,w.grownBy {w with heap:=w.heap.setIfInBounds bm o} (some bm):=fun o=>⟨rfl,rfl,rfl,by simp,fun i _ hi=>by
  have:bm≠i:=fun e=>hi (by rw [e])
  simp [Array.getElem?_setIfInBounds_ne this]⟩
 rcases QMr w hz es.toList (fun e he=>by obtain ⟨_,y,_,h1,h2⟩:=hE.1 e he;exact ⟨y,h1,h2⟩) with ⟨h1,h2⟩|⟨j,e,h1,h2,h3⟩
 ·refine ⟨{w with heap:=w.heap.setIfInBounds bm (.map (es.push {key:=kV z,val:= .bool true,born:=clk }) (clk+1)) }, ?_,⟨es.push {key:=kV z,val:= .bool true,born:=clk },clk+1,by simp [hlt], ?_⟩,hgr _⟩
  ·simp [Instr.mapUpdate,run_underlying Tryz.underlying144,hg,hc,h1,hs]
  ·rw [Array.toList_push]
   refine ⟨fun e he=> ?_,fun y hy=> ?_⟩
   ·rcases BL.1 he with he|he
    ·obtain ⟨a,y,b,c,d⟩:=hE.1 e he
     exact ⟨a,y,List.mem_append_left _ b,c,d⟩
    ·rw [Dz.1 he]
     exact ⟨rfl,z,DH _ Df,hz,rfl⟩
   ·rcases BL.1 hy with hy|hy
    ·obtain ⟨e,he,hk⟩:=hE.2 y hy
     exact ⟨e,List.mem_append_left _ he,hk⟩
    ·rw [Dz.1 hy]
     exact ⟨_,DH _ Df,rfl⟩
 ·have he:=Ds h2
  obtain ⟨hv,y,hy,hyl,hyk⟩:=hE.1 e he
  have hm:z∈ks:=by rw [Qvo (h3.symm.trans hyk)];exact hy
  have hj:es[j]? = some e:=by rw [<-Array.getElem?_toList];exact h2
  have hst:(Instr.keyThatStays (kV z) (kV z)).run Tryz.prog w= .ok (kV z) w:=by
   obtain ⟨a0,a1,a2,a3,a4,a5,a6,a7,a8,a9,rfl⟩:=ten hz
   simp [Instr.keyThatStays,Instr.sameBits,kV]
  have hmod:(es.modify j fun e=>{e with key:=kV z,val:= .bool true })=es:=by
   apply Array.ext
   ·simp
   ·intro i hi1 hi2
    rw [Array.getElem_modify]
    split
    ·rename_i hji
     subst hji
     have:es[j]=e:=by
      have:=B7.1 hj
      exact this.2
     rw [this]
     cases e
     simp only at h3 hv
     subst h3 hv
     rfl
    ·rfl
  refine ⟨{w with heap:=w.heap.setIfInBounds bm (.map (es.modify j fun e=>{e with key:=kV z,val:= .bool true }) clk) }, ?_,⟨es,clk,by rw [hmod];simp [hlt],fun e he=> ?_,fun y hy=> ?_⟩,hgr _⟩
  ·simp [Instr.mapUpdate,run_underlying Tryz.underlying144,hg,hc,h1,hs,hj,h3,hst]
  ·obtain ⟨a,y,b,c,d⟩:=hE.1 e he
   exact ⟨a,y,List.mem_append_left _ b,c,d⟩
  ·rcases BL.1 hy with hy|hy
   ·exact hE.2 y hy
   ·rw [Dz.1 hy]
    exact hE.2 z hm
def J0 (s:Ac)(o:Aa):List Int:=o.1::o.2.1::(Eo (QZ s o).1).flatMap fun u=>[u.1,u.2.1]
def Qoy (b a:Ad)(i:Int)(o:Aa):Bool:=(Q9 b i).1.any fun x=>J0 (Q9 b i).2 x==J0 (Q9 a i).2 o
def YP (b a:Ad)(i:Int):List Aa:=(Q9 a i).1.filter fun o=> !Qoy b a i o
def UN (b a:Ad)(i:Int):Bool:=JC b i&&JC a i
theorem Qoz (b a:Ad)(i:Int):(YP b a i).length<=64:=B5 (DG _ _) F3
theorem QSV (s:Ac)(o:Aa):(QZ s o).1=[]∨ ∃ a b c d,(QZ s o).1=[a,b,c,d]:=by
 unfold QZ
 cases Jj s with
 |false=>exact .inl rfl
 |true=>
  cases ine (QS o.2.1).2 0 with
  |true=>exact .inl rfl
  |false=>
   cases (J4 s o.2.1).2 with
   |false=>exact .inl rfl
   |true=>exact .inr ⟨_,_,_,_,rfl⟩
theorem mV_mth (s:Ac)(o:Aa):Value.agg (mV o (QZ s o).1)=kV (J0 s o):=by
 unfold mV kV J0 cU
 rw [BO,BO,List.map_flatMap]
 rfl
theorem QCC (s:Ac)(o:Aa):(J0 s o).length=10:=by
 have h:(Eo (QZ s o).1).length=4:=by simp [Eo]
 have h2:=Qie (Eo (QZ s o).1)
 have h3:((Eo (QZ s o).1).flatMap fun u=>[u.1,u.2.1]).length=(cU (Eo (QZ s o).1)).length:=by
  unfold cU
  rw [List.length_flatMap,List.length_flatMap]
  rfl
 unfold J0
 rw [Br,Br,h3,h2,h]
def EpV (w:World)(s:Ac)(v0 v1 v2 v3 v4 v5 v6 v7 v8:Value):Prop:=
 (∃ (X:Nat->Nat->Prop) (Z:Pl),(∀ b q,X b q->b<w.heap.size)/\C X w Z (V.t Qp s).d (.agg #[v0,v1,v2,v3,v4,v5,v6,v7,v8]))∧
 (v0.oneCell'=true/\v1.oneCell'=true/\v2.oneCell'=true/\v3.oneCell'=true/\v4.oneCell'=true/\v5.oneCell'=true/\v6.oneCell'=true/\v7.oneCell'=true/\v8.oneCell'=true)
theorem EpV.stand {w w':World}{s:Ac}{v0 v1 v2 v3 v4 v5 v6 v7 v8:Value}(h:EpV w s v0 v1 v2 v3 v4 v5 v6 v7 v8)(k:Stand w w'):EpV w' s v0 v1 v2 v3 v4 v5 v6 v7 v8:=by
 obtain ⟨⟨X,Z,hf,hc⟩,h1⟩:=h
 exact ⟨⟨X,Z,fun b q hq=>BS (hf b q hq) k.1,C.ext0 ⟨k.1,fun b o hb hx=>⟨hx,k.2 b o hb⟩⟩ _ _ (fun _ _=>rfl) hc⟩,h1⟩
theorem QCD {w:World}{s:Ac}{o:Aa}{v0 v1 v2 v3 v4 v5 v6 v7 v8:Value}(hs:EpV w s v0 v1 v2 v3 v4 v5 v6 v7 v8)(hl:QY s=true):
  Calls Tryz.prog 78 #[.agg #[v0,v1,v2,v3,v4,v5,v6,v7,v8],ER o] w fun e w'=>e= .returned (kV (J0 s o))/\Below w.heap.size w w':=by
 obtain ⟨o0,o1,o2,o3,o4,o5,o6,o7,o8⟩:=hs.2
 rw [<-mV_mth]
 exact of_any o0 o1 o2 o3 o4 o5 o6 o7 o8 (fun W hW=>by
  obtain ⟨⟨X,Z,hf,hc⟩,_⟩:=hs.stand (Stand.below hW)
  exact QRk hf hc hl) (QSV s o)
theorem QCE {X:Nat->Nat->Prop}{w:World}{Z:Pl}{s:Ac}{u:Value}(h:C X w Z (V.t Qp s).d u): ∃ v0 v1 v2 v3 v4 v5 v6 v7 v8,u= .agg #[v0,v1,v2,v3,v4,v5,v6,v7,v8]∧
  (v0.oneCell'=true/\v1.oneCell'=true/\v2.oneCell'=true/\v3.oneCell'=true/\v4.oneCell'=true/\v5.oneCell'=true/\v6.oneCell'=true/\v7.oneCell'=true/\v8.oneCell'=true):=by
 simp only [V.d] at h
 rw [Ty.d_row Qp _ rfl] at h
 simp only [C] at h
 obtain ⟨us,rfl,h⟩:=h
 have hl:us.length=9:=h.len.trans (by rw [Qp.cells_len];rfl)
 have one: ∀ v∈us,v.oneCell'=true:=Cs.cell1 h (show (Qp.cells s).all D.cell1=true from rfl)
 match us,hl with
 | [v0,v1,v2,v3,v4,v5,v6,v7,v8],_=>exact ⟨v0,v1,v2,v3,v4,v5,v6,v7,v8,rfl,one _ (by simp),one _ (by simp),one _ (by simp),one _ (by simp),one _ (by simp),one _ (by simp),one _ (by simp),one _ (by simp),one _ (by simp)⟩
theorem QSW {X:Nat->Nat->Prop}{w:World}{Z:Pl}{e:Ad}{i:Int}{bv:Value}(hfin: ∀ b q,X b q->b<w.heap.size)(hs:C X w Z (V.t Qo e).d bv)(hok:JC e i=true):
  Calls Tryz.prog 69 #[bv,.int .i64 i] w fun en w'=> ∃ A c v0 v1 v2 v3 v4 v5 v6 v7 v8,en= .returned (.tuple #[.slice A (Q9 e i).1.length c,.agg #[v0,v1,v2,v3,v4,v5,v6,v7,v8]])/\(Q9 e i).1.length<=c/\c<=maxLen∧
   (0<(Q9 e i).1.length→ ∃ b off,A=some ⟨b,off,none⟩/\b<w'.heap.size∧ ∀ j v,(cU (Q9 e i).1)[j]? = some v->w'.cell? ⟨b,off+j,none⟩=some v)/\EpV w' (Q9 e i).2 v0 v1 v2 v3 v4 v5 v6 v7 v8/\Below w.heap.size w w':=by
 have hF:QD IT [.t Qo e,.t tI i] []=some (.tu [.t (.sl Qe) (Q9 e i).1,.t Qp (Q9 e i).2],[]):=by
  unfold IT
  exact EE (a:= .pr Qo (.pr tI .nil)) (x:=(e,(i,()))) (by simp [Ty.args,Ik]) hok
 refine (Uz (by decide) (QnQ.2 _ _ _ _ hF X w Z [bv,.int .i64 i] hfin O0 ⟨bv,_,rfl,hs,.int .i64 i,_,rfl,⟨rfl,rfl⟩,rfl⟩)).mono ?_
 rintro en w' ⟨u,X',Z',rfl,h1,h2⟩
 have h1:C X' w' Z' (.tu [.sl (Q9 e i).1.length ((Q9 e i).1.flatMap Qe.cells),(V.t Qp (Q9 e i).2).d]) u:=h1
 simp only [C,Cs] at h1
 obtain ⟨vs,rfl,u1,us,rfl,⟨A,c,rfl,g1,g2,g3,g4⟩,u2,us2,rfl,hep,rfl⟩:=h1
 obtain ⟨v0,v1,v2,v3,v4,v5,v6,v7,v8,rfl,hone⟩:=QCE hep
 refine ⟨A,c,v0,v1,v2,v3,v4,v5,v6,v7,v8,rfl,g1,g2,fun hp=> ?_,⟨⟨X',Z',h2.fin,hep⟩,hone⟩,O1 h2⟩
 obtain ⟨b,off,vs,rfl,k1,k2⟩:=g4 hp
 rw [Qcj k1] at k2
 exact ⟨b,off,rfl,k2.lt,fun j v hv=>k2.at_ j v hv⟩
theorem QSX {X:Nat->Nat->Prop}{w:World}{Z:Pl}{e:Ad}{i:Int}{bv:Value}(hfin: ∀ b q,X b q->b<w.heap.size)(hs:C X w Z (V.t Qo e).d bv)(hok:JC e i=true):
  Calls Tryz.prog 69 #[bv,.int .i64 i] w fun en w'=> ∃ A c X' Z' v0 v1 v2 v3 v4 v5 v6 v7 v8,en= .returned (.tuple #[.slice A (Q9 e i).1.length c,.agg #[v0,v1,v2,v3,v4,v5,v6,v7,v8]])/\(Q9 e i).1.length<=c/\c<=maxLen∧
   (∀ b q,X' b q->b<w'.heap.size)/\(∀ b q,b<w.heap.size->X b q->X' b q)/\(0<(Q9 e i).1.length→ ∃ b off,A=some ⟨b,off,none⟩/\b<w'.heap.size∧ ¬ X' b off∧ ∀ j v,(cU (Q9 e i).1)[j]? = some v->w'.cell? ⟨b,off+j,none⟩=some v)/\C X' w' Z' (V.t Qp (Q9 e i).2).d (.agg #[v0,v1,v2,v3,v4,v5,v6,v7,v8])/\(v0.oneCell'=true/\v1.oneCell'=true/\v2.oneCell'=true/\v3.oneCell'=true/\v4.oneCell'=true/\v5.oneCell'=true/\v6.oneCell'=true/\v7.oneCell'=true/\v8.oneCell'=true)/\Below w.heap.size w w':=by
 have hF:QD IT [.t Qo e,.t tI i] []=some (.tu [.t (.sl Qe) (Q9 e i).1,.t Qp (Q9 e i).2],[]):=by
  unfold IT
  exact EE (a:= .pr Qo (.pr tI .nil)) (x:=(e,(i,()))) (by simp [Ty.args,Ik]) hok
 refine (Uz (by decide) (QnQ.2 _ _ _ _ hF X w Z [bv,.int .i64 i] hfin O0 ⟨bv,_,rfl,hs,.int .i64 i,_,rfl,⟨rfl,rfl⟩,rfl⟩)).mono ?_
 rintro en w' ⟨u,X',Z',rfl,h1,h2⟩
 have h1:C X' w' Z' (.tu [.sl (Q9 e i).1.length ((Q9 e i).1.flatMap Qe.cells),(V.t Qp (Q9 e i).2).d]) u:=h1
 simp only [C,Cs] at h1
 obtain ⟨vs,rfl,u1,us,rfl,⟨A,c,rfl,g1,g2,g3,g4⟩,u2,us2,rfl,hep,rfl⟩:=h1
 obtain ⟨v0,v1,v2,v3,v4,v5,v6,v7,v8,rfl,hone⟩:=QCE hep
 refine ⟨A,c,X',Z',v0,v1,v2,v3,v4,v5,v6,v7,v8,rfl,g1,g2,h2.fin,fun b q hb hq=>h2.old b q hb (fun i hi=>absurd hi (by simp)) hq,fun hp=> ?_,hep,hone,O1 h2⟩
 obtain ⟨b,off,vs,rfl,k1,k2⟩:=g4 hp
 rw [Qcj k1] at k2
 have nx:=k2.nx 0 (by rw [Qie];omega)
 exact ⟨b,off,rfl,k2.lt,nx,fun j v hv=>k2.at_ j v hv⟩
theorem QCF {X:Nat->Nat->Prop}{w:World}{Z:Pl}{s:Ad}{u:Value}(h:C X w Z (V.t Qo s).d u): ∃ v0 v1 v2,u= .agg #[v0,v1,v2]/\(v0.oneCell'=true/\v1.oneCell'=true/\v2.oneCell'=true):=by
 simp only [V.d] at h
 rw [Ty.d_row Qo _ rfl] at h
 simp only [C] at h
 obtain ⟨us,rfl,h⟩:=h
 have hl:us.length=3:=h.len.trans (by rw [Qo.cells_len];rfl)
 have one: ∀ v∈us,v.oneCell'=true:=fun v hv=>Cs.cell1 h (show (Qo.cells s).all D.cell1=true from rfl) v hv
 match us,hl with
 | [v0,v1,v2],_=>exact ⟨v0,v1,v2,rfl,one _ (by simp),one _ (by simp),one _ (by simp)⟩
theorem QSY:ElemOk Tryz.prog 55 108 2 16:=ElemOk.of (.agg #[.int .i64 0,.int .i64 0]) (by kernel_rfl) (by kernel_rfl) (by kernel_rfl) (by decide)
def MapAt (w:World)(bm:Nat)(ks:List (List Int)):Prop:= ∃ es clk,w.heap[bm]? = some (.map es clk)/\QlB es.toList ks
theorem MapAt.below {w w':World}{bm:Nat}{ks:List (List Int)}(h:MapAt w bm ks)(hb:Below w.heap.size w w'):MapAt w' bm ks:=by
 obtain ⟨es,clk,h1,h2⟩:=h
 exact ⟨es,clk,(hb.block bm (B7.1 h1).1).trans h1,h2⟩
set_option maxHeartbeats 4000000 in
theorem QSZ {X:Nat->Nat->Prop}{w:World}{Z:Pl}{b a:Ad}{i:Int}{u0 u1 u2 t0 t1 t2:Value}(hfin: ∀ b q,X b q->b<w.heap.size)
  (hb:C X w Z (V.t Qo b).d (.agg #[u0,u1,u2])) (ha:C X w Z (V.t Qo a).d (.agg #[t0,t1,t2])) (ou0:u0.oneCell'=true) (ou1:u1.oneCell'=true) (ou2:u2.oneCell'=true) (ot0:t0.oneCell'=true) (ot1:t1.oneCell'=true) (ot2:t2.oneCell'=true)
  (h1:JC b i=true) (h2:JC a i=true):
  Calls Tryz.prog 44 #[.agg #[u0,u1,u2],.agg #[t0,t1,t2],.int .i64 i] w fun en w'=> ∃ sv B,en= .returned sv/\w.heap.size<=B/\w'.ownsRow B 108 2 sv (YP b a i).length (cU (YP b a i))/\Below w.heap.size w w':=by
 have HB:=Lib.hid hb
 have HA:=Lib.hid ha
 have HF:=Lib.hid hfin
 have H1:=Lib.hid h1
 have H2:=Lib.hid h2
 clear hb ha hfin h1 h2
 have hmm:= @run_makeMap Tryz.prog
 go_enter Tryz.func44,Tryz.ntmps44
 go_wp2_with fail
 obtain ⟨Wa,ha⟩: ∃ Wa,Wa=w.alloc (.cells #[u0,u1,u2] 38):=⟨_,rfl⟩
 obtain ⟨Wb,hb⟩: ∃ Wb,Wb=Wa.alloc (.cells #[t0,t1,t2] 38):=⟨_,rfl⟩
 obtain ⟨Wc,hc⟩: ∃ Wc,Wc=Wb.alloc (.map #[] 0):=⟨_,rfl⟩
 obtain ⟨S,hS⟩: ∃ S,S=w.heap.size:=⟨_,rfl⟩
 rw [<-ha, <- hb, <- hc, <- hS]
 have sa:Wa.heap.size=S+1:=by rw [ha,World.size_alloc,hS]
 have sb:Wb.heap.size=S+1+1:=by rw [hb,World.size_alloc,sa]
 have sc:Wc.heap.size=S+1+1+1:=by rw [hc,World.size_alloc,sb]
 have bW:Below w.heap.size w Wc:=by
  rw [hc,hb,ha]
  have e1:=(Below.refl w.heap.size w).alloc (BI _) (.cells #[u0,u1,u2] 38)
  have e2:=e1.alloc e1.size (.cells #[t0,t1,t2] 38)
  exact e2.alloc e2.size _
 have kB:Go.Proofs.YtkmobehaikjdjaaGreat.Blk Wc (S+1) 38 #[t0,t1,t2]:=by
  rw [hc];refine Go.Proofs.YtkmobehaikjdjaaGreat.Blk.alloc ?_ _;rw [hb, <- sa];exact Go.Proofs.YtkmobehaikjdjaaGreat.Blk.new _ _ _
 have mp:MapAt Wc (S+1+1) []:=⟨#[],0,by rw [hc, <- sb];exact heap_alloc_new Wb _,fun e he=>by simp at he,fun z hz=>by simp at hz⟩
 have fX: ∀ b q,X b q->b<Wc.heap.size:=fun b q hq=>BS (HF.out b q hq) bW.size
 clear ha hb hc sa sb
 refine (QSW (X:=X) (Z:=Z) (i:=i) fX (Qci HB.out (Stand.below bW)) H1.out).mono ?_
 rintro en w1 ⟨A,c,v0,v1,v2,v3,v4,v5,v6,v7,v8,rfl,hc1,hc2,hcell,hep,hb1⟩
 have hsz:=hb1.size
 have kB:=kB.ext hb1
 have mp:=mp.below hb1
 have b1:Below S w w1:=hS▸XR bW hb1 (by omega)
 have hln:(Q9 b i).1.length<=64:=F3
 have hel:QY (Q9 b i).2=true:=(Bf.1 (Bf.1 H1.out).2).2
 obtain ⟨l,hl⟩: ∃ l,l=(Q9 b i).1:=⟨_,rfl⟩
 obtain ⟨s,hs⟩: ∃ s,s=(Q9 b i).2:=⟨_,rfl⟩
 rw [<-hl] at hc1 hcell hln ⊢
 rw [<-hs] at hep hel
 have HW:=Lib.hid (show Stand w w1/\S+1+1+1<=w1.heap.size from ⟨(Stand.below bW).trans (Stand.below hb1),by omega⟩)
 obtain ⟨p0,p1,p2,p3,p4,p5,p6,p7,p8⟩:=hep.2
 have HE:=Lib.hid hep
 have HM:=Lib.hid mp
 have HC:=Lib.hid hcell
 have HL:=Lib.hid hl
 have HS:=Lib.hid hs
 have HB1:=Lib.hid b1
 have HSS:=Lib.hid hS
 have HEL:=Lib.hid hel
 have HKB:=Lib.hid kB
 clear bW kB mp fX hb1 hsz b1 hl hs hep hcell hS sc HB hel Wa Wb
 have sv0:=fun a m W=>run_store Tryz.prog W a v0 m p0
 have sv1:=fun a m W=>run_store Tryz.prog W a v1 m p1
 have sv2:=fun a m W=>run_store Tryz.prog W a v2 m p2
 have sv3:=fun a m W=>run_store Tryz.prog W a v3 m p3
 have sv4:=fun a m W=>run_store Tryz.prog W a v4 m p4
 have sv5:=fun a m W=>run_store Tryz.prog W a v5 m p5
 have sv6:=fun a m W=>run_store Tryz.prog W a v6 m p6
 have sv7:=fun a m W=>run_store Tryz.prog W a v7 m p7
 have sv8:=fun a m W=>run_store Tryz.prog W a v8 m p8
 generalize hn:l.length=n at*
 have HN:=Lib.hid hn
 clear hn
 go_wp2_with fail
 clear sv0 sv1 sv2 sv3 sv4 sv5 sv6 sv7 sv8
 obtain ⟨Q,hQ⟩: ∃ Q,Q=w1.heap.size:=⟨_,rfl⟩
 obtain ⟨W2,hW2⟩: ∃ W2,W2=w1.alloc (.cells #[v0,v1,v2,v3,v4,v5,v6,v7,v8] 82):=⟨_,rfl⟩
 rw [<-hQ, <- hW2]
 have b2:Below w1.heap.size w1 W2:=hW2▸(Below.refl _ _).alloc (BI _) _
 have kQ:Go.Proofs.YtkmobehaikjdjaaGreat.Blk W2 Q 82 #[v0,v1,v2,v3,v4,v5,v6,v7,v8]:=by rw [hW2,hQ];exact Go.Proofs.YtkmobehaikjdjaaGreat.Blk.new _ _ _
 have bS:Below S w W2:=XR HB1.out b2 (by have:=HW.out.2;omega)
 have mp:MapAt W2 (S+1+1) []:=HM.out.below b2
 have HE:=Lib.hid (HE.out.stand (Stand.below b2))
 have HB0:=Lib.hid bS
 have HKQ:=Lib.hid kQ
 have HKB:=Lib.hid (HKB.out.ext b2)
 have HW:=Lib.hid (show Stand w W2/\S+1+1+1<=Q/\Q<W2.heap.size from ⟨HW.out.1.trans (Stand.below b2),by have:=HW.out.2;omega,kQ.lt⟩)
 have HC2:=Lib.hid (show 0<n→ ∃ b off,A=some ⟨b,off,none⟩∧ ∀ j v,(cU l)[j]? = some v->W2.cell? ⟨b,off+j,none⟩=some v from fun h=>by
  obtain ⟨b,off,h1,h2,h3⟩:=HC.out h
  exact ⟨b,off,h1,fun j v hv=>(b2.cell (p:=⟨b,off+j,none⟩) h2).trans (h3 j v hv)⟩)
 have HM2:=Lib.hid mp
 clear hW2 b2 kQ bS mp HM HC HB1 hQ
 go_loopw [24] (fun iv wr=> ∃ k:Nat,k<=n/\iv= .int .i64 k/\Stand W2 wr/\Below S w wr/\MapAt wr (S+1+1) ((l.take k).map (J0 s))/\Go.Proofs.YtkmobehaikjdjaaGreat.Blk wr Q 82 #[v0,v1,v2,v3,v4,v5,v6,v7,v8]) (fun iv _=>n-(intOf iv).toNat)
 case atStart=>exact ⟨0,B0 _,rfl,⟨BI _,fun _ _ _=>rfl⟩,HB0.out,by rw [List.take_zero];exact HM2.out,HKQ.out⟩
 case round=>
  obtain ⟨k,hk,rfl,hst,hbl,hmp,hkq⟩:=hrel
  have HKR:=Lib.hid hkq
  clear hkq
  have HST:=Lib.hid hst
  have HBL:=Lib.hid hbl
  have HMP:=Lib.hid hmp
  clear hst hbl hmp
  by_cases hlt:k<n
  ·have hkl:k<l.length:=by rw [HN.out];exact hlt
   obtain ⟨bb,off,rfl,hcs⟩:=HC2.out (by omega)
   obtain ⟨g0,g1⟩:=Qif l k hkl
   obtain ⟨o,ho⟩: ∃ o,o=l[k]:=⟨_,rfl⟩
   rw [<-ho] at g0 g1
   have dz: ∀ j v,W2.cell? ⟨bb,off+j,none⟩=some v->wr.cell? ⟨bb,off+j,none⟩=some v:=fun j v h=>by
    have hb:bb<W2.heap.size:=by
     rcases Dg bb W2.heap.size with h1|h1
     ·exact h1
     ·simp [World.cell?, Array.getElem?_eq_none h1] at h
    exact (HST.out.2 bb _ hb).trans h
   have d0:=dz _ _ (hcs _ _ g0)
   have d1:=dz _ _ (hcs _ _ g1)
   rw [<-DB] at d1
   have yz: ∀ j,wr.cell? ⟨Q,j,none⟩=(#[v0,v1,v2,v3,v4,v5,v6,v7,v8]:Array Value)[j]? :=fun j=>(HST.out.2 Q j HW.out.2.2).trans (HKQ.out.cell j)
   have y0:=yz 0
   have y1:=yz 1
   have y2:=yz 2
   have y3:=yz 3
   have y4:=yz 4
   have y5:=yz 5
   have y6:=yz 6
   have y7:=yz 7
   have y8:=yz 8
   simp only [Do,BZ,BX] at y0 y1 y2 y3 y4 y5 y6 y7 y8
   replace y0:=fun ob=>Lib.cell?_alloc_some ob y0
   replace y1:=fun ob=>Lib.cell?_alloc_some ob y1
   replace y2:=fun ob=>Lib.cell?_alloc_some ob y2
   replace y3:=fun ob=>Lib.cell?_alloc_some ob y3
   replace y4:=fun ob=>Lib.cell?_alloc_some ob y4
   replace y5:=fun ob=>Lib.cell?_alloc_some ob y5
   replace y6:=fun ob=>Lib.cell?_alloc_some ob y6
   replace y7:=fun ob=>Lib.cell?_alloc_some ob y7
   replace y8:=fun ob=>Lib.cell?_alloc_some ob y8
   have HO:=Lib.hid (show l[k]? = some o by rw [ho];exact Bl hkl)
   clear dz yz hcs g0 g1 ho hkl
   go_wp2_with fail
   obtain ⟨W3,hW3⟩: ∃ W3,W3=wr.alloc (.cells #[.int .i64 o.1,.int .i64 o.2.1] 108):=⟨_,rfl⟩
   rw [<-hW3]
   have b3:Below wr.heap.size wr W3:=hW3▸(Below.refl _ _).alloc (BI _) _
   have hep:=HE.out.stand (HST.out.trans (Stand.below b3))
   refine (QCD (o:=o) hep HEL.out).mono ?_
   rintro e w5 ⟨rfl,hb5⟩
   have mp5:=(HMP.out.below b3).below hb5
   obtain ⟨es,clk,m1,m2⟩:=mp5
   obtain ⟨w6,hrun,mp6,hg6⟩:=Q1X w5 (QCC s o) m1 m2
   have st5:Stand W2 w5:=(HST.out.trans (Stand.below b3)).trans (Stand.below hb5)
   have bl5:Below S w w5:=XR (XR HBL.out b3 (by have:=HW.out;have:=HST.out.1;omega)) hb5 (by have:=HW.out;have:=HST.out.1;have:=b3.size;omega)
   have st6:Stand W2 w6:=st5.trans ⟨hg6.size,fun b' o' hb'=>by
    by_cases hbm:b'=S+1+1
    ·subst hbm
     obtain ⟨es',clk',m3,_⟩:=mp6
     simp [World.cell?, m1,m3]
    ·have:=hg6.block b' hb' (fun e=>hbm (by injection e))
     simp [World.cell?, this]⟩
   have bl6:Below S w w6:=Qck bl5 hg6 (by omega) (by have:=HW.out;have:=st5.1;omega)
   have HK6:=Lib.hid (((HKR.out.ext b3).ext hb5).grown hg6 (fun e=>by have:=HW.out;injection e;omega))
   have HS6:=Lib.hid st6
   have HB6:=Lib.hid bl6
   have HM6:=Lib.hid mp6
   clear hW3 b3 hep hb5 m1 m2 mp6 hg6 st5 bl5 st6 bl6 d0 d1 y0 y1 y2 y3 y4 y5 y6 y7 y8
   obtain ⟨kv,hkv⟩: ∃ kv,kv=kV (J0 s o):=⟨_,rfl⟩
   rw [<-hkv] at hrun ⊢
   have HKV:=Lib.hid hkv
   clear hkv
   go_wp2_with fail
   refine ⟨⟨k+1,hlt,by simp,HS6.out,HB6.out, ?_,HK6.out⟩,by simp [intOf];omega⟩
   have e:l.take (k+1)=l.take k++[o]:=by
    rw [List.take_add_one,HO.out]
    rfl
   rw [e,List.map_append]
   exact HM6.out
  ·obtain rfl:k=n:=by omega
   have hlk:l.take k=l:=DD (by rw [HN.out];exact BI _)
   rw [hlk] at HMP
   have xz: ∀ j,wr.cell? ⟨S+1,j,none⟩=(#[t0,t1,t2]:Array Value)[j]? :=fun j=>(HST.out.2 (S+1) j (by have:=HW.out;omega)).trans (HKB.out.cell j)
   have x0:=xz 0
   have x1:=xz 1
   have x2:=xz 2
   simp only [Do,BZ,BX] at x0 x1 x2
   clear xz hlk
   go_wp2_with fail
   have hwS:w.heap.size<=S:=by rw [HSS.out];exact BI _
   have fX2: ∀ b' q,(X b' q∨b'=Q)->b'<wr.heap.size:=fun b' q hq=>by
    have g1:=HW.out
    have g2:=HST.out.1
    rcases hq with hq|rfl
    ·have:=HF.out b' q hq
     omega
    ·omega
   have eX:Ext0 X w (fun b' q=>X b' q∨b'=Q) wr:=⟨B5 HW.out.1.1 HST.out.1,fun b' o hb' hx=>⟨fun h=>by
    rcases h with h|h
    ·exact hx h
    ·have:=HW.out
     omega,(HW.out.1.trans HST.out).2 b' o hb'⟩⟩
   refine (QSX (X:=fun b' q=>X b' q∨b'=Q) (Z:=Z) (i:=i) fX2 (C.ext0 eX _ _ (fun _ _=>rfl) HA.out) H2.out).mono ?_
   rintro en w7 ⟨A2,c2,X2,Z2,z0,z1,z2,z3,z4,z5,z6,z7,z8,rfl,hd1,hd2,hfin2,hold2,hcell2,hep2,hone2,hb7⟩
   have mp7:=HMP.out.below hb7
   have kq7:=HKR.out.ext hb7
   have bl7:Below S w w7:=XR HBL.out hb7 (by have:=HW.out;have:=HST.out.1;omega)
   have xQ: ∀ q,X2 Q q:=fun q=>hold2 Q q (by have:=HW.out;have:=HST.out.1;omega) (.inr rfl)
   have hln2:(Q9 a i).1.length<=64:=F3
   have hel2:QY (Q9 a i).2=true:=(Bf.1 (Bf.1 H2.out).2).2
   obtain ⟨l2,hl2⟩: ∃ l2,l2=(Q9 a i).1:=⟨_,rfl⟩
   obtain ⟨s2,hs2⟩: ∃ s2,s2=(Q9 a i).2:=⟨_,rfl⟩
   rw [<-hl2] at hd1 hcell2 hln2 ⊢
   rw [<-hs2] at hep2 hel2
   obtain ⟨r0,r1,r2,r3,r4,r5,r6,r7,r8⟩:=hone2
   have hQ7:S+1+1+1<=Q/\Q<w7.heap.size:=⟨HW.out.2.1,kq7.lt⟩
   have q0:=kq7.cell 0
   have q1:=kq7.cell 1
   have q2:=kq7.cell 2
   have q3:=kq7.cell 3
   have q4:=kq7.cell 4
   have q5:=kq7.cell 5
   have q6:=kq7.cell 6
   have q7:=kq7.cell 7
   have q8:=kq7.cell 8
   simp only [Do,BZ,BX] at q0 q1 q2 q3 q4 q5 q6 q7 q8
   have qf:=kq7.frozen
   have KQ7:=Lib.hid kq7
   have HX2:=Lib.hid (And.intro hfin2 xQ)
   have HC2':=Lib.hid hcell2
   have HE2:=Lib.hid hep2
   have HO2:=Lib.hid (And.intro r0<|And.intro r1<|And.intro r2<|And.intro r3<|And.intro r4<|And.intro r5<|And.intro r6<|And.intro r7 r8)
   have HM7:=Lib.hid mp7
   have HB7:=Lib.hid bl7
   have HL2:=Lib.hid hl2
   have HS2:=Lib.hid hs2
   have HEL2:=Lib.hid hel2
   have HQ7:=Lib.hid hQ7
   have sv0:=fun a m W=>run_store Tryz.prog W a z0 m r0
   have sv1:=fun a m W=>run_store Tryz.prog W a z1 m r1
   have sv2:=fun a m W=>run_store Tryz.prog W a z2 m r2
   have sv3:=fun a m W=>run_store Tryz.prog W a z3 m r3
   have sv4:=fun a m W=>run_store Tryz.prog W a z4 m r4
   have sv5:=fun a m W=>run_store Tryz.prog W a z5 m r5
   have sv6:=fun a m W=>run_store Tryz.prog W a z6 m r6
   have sv7:=fun a m W=>run_store Tryz.prog W a z7 m r7
   have sv8:=fun a m W=>run_store Tryz.prog W a z8 m r8
   clear x0 x1 x2 fX2 eX hfin2 hold2 hcell2 hep2 hb7 mp7 kq7 bl7 xQ hel2 hl2 hs2 hQ7 hwS hk hlt
   generalize hn2:l2.length=n2 at*
   have HN2:=Lib.hid hn2
   clear hn2
   go_wp2_with fail
   obtain ⟨W8,hW8⟩: ∃ W8,W8=w7.setCells Q 0 [z0,z1,z2,z3,z4,z5,z6,z7,z8]:=⟨_,rfl⟩
   have e8:(((((((((w7.setCell ⟨Q,0,none⟩ z0).setCell ⟨Q,1,none⟩ z1).setCell ⟨Q,2,none⟩ z2).setCell ⟨Q,3,none⟩ z3).setCell ⟨Q,4,none⟩ z4).setCell ⟨Q,5,none⟩ z5).setCell ⟨Q,6,none⟩ z6).setCell ⟨Q,7,none⟩ z7).setCell ⟨Q,8,none⟩ z8)=W8:=by rw [hW8];rfl
   rw [e8]
   have fr8:=GO Q [z0,z1,z2,z3,z4,z5,z6,z7,z8] 0 w7
   rw [<-hW8] at fr8
   have kQ8:Go.Proofs.YtkmobehaikjdjaaGreat.Blk W8 Q 82 #[z0,z1,z2,z3,z4,z5,z6,z7,z8]:=by rw [hW8];exact EV Q 82 (0,0) [z0,z1,z2,z3,z4,z5,z6,z7,z8] 0 w7 _ KQ7.out
   have hp8: ∀ b',b'≠Q->W8.heap[b']? = w7.heap[b']? :=fun b' h=>by rw [hW8];exact GN Q _ 0 w7 b' h
   have mp8:MapAt W8 (S+1+1) (l.map (J0 s)):=by
    obtain ⟨es,clk,m1,m2⟩:=HM7.out
    exact ⟨es,clk,(hp8 _ (by have:=HQ7.out;omega)).trans m1,m2⟩
   have bl8:Below S w W8:=HB7.out.trans ⟨fr8.os,fr8.tape,fr8.output,fr8.size,fun b' hb'=>hp8 b' (by have:=HQ7.out;omega)⟩
   have eX8:Ext0 X2 w7 X2 W8:=⟨fr8.size,fun b' o _ hx=>⟨hx,by
    have hne:b'≠Q:=fun e=>hx (e▸HX2.out.2 o)
    simp [World.cell?, hp8 b' hne]⟩⟩
   have HE8:=Lib.hid (And.intro (fun b' q hq=>BS (HX2.out.1 b' q hq) fr8.size: ∀ b' q,X2 b' q->b'<W8.heap.size) (C.ext0 eX8 _ _ (fun _ _=>rfl) HE2.out))
   have HC8:=Lib.hid (show 0<n2→ ∃ b off,A2=some ⟨b,off,none⟩/\b<W8.heap.size∧ ∀ j v,(cU l2)[j]? = some v->W8.cell? ⟨b,off+j,none⟩=some v from fun h=>by
    obtain ⟨b',off',h1,h2,h3,h4⟩:=HC2'.out h
    have hne:b'≠Q:=fun e=>h3 (e▸HX2.out.2 off')
    exact ⟨b',off',h1,BS h2 fr8.size,fun j v hv=>by
     rw [<-h4 j v hv]
     simp [World.cell?, hp8 b' hne]⟩)
   have HM8:=Lib.hid mp8
   have HB8:=Lib.hid bl8
   have HK8:=Lib.hid kQ8
   have HSZ:=Lib.hid (show S+1+1+1<=W8.heap.size by have:=HQ7.out;have:=fr8.size;omega)
   clear e8 hW8 fr8 hp8 mp8 bl8 eX8 sv0 sv1 sv2 sv3 sv4 sv5 sv6 sv7 sv8 q0 q1 q2 q3 q4 q5 q6 q7 q8 qf r0 r1 r2 r3 r4 r5 r6 r7 r8 kQ8
   obtain ⟨F,hF⟩: ∃ F:Nat->List Aa,F=fun k=>(l2.take k).filter fun o=> !decide (J0 s2 o∈l.map (J0 s)):=⟨_,rfl⟩
   have HFF:=Lib.hid hF
   clear hF
   go_loopw [12,41] (fun sv iv wr=> ∃ k:Nat,k<=n2/\iv= .int .i64 k/\Below W8.heap.size W8 wr/\wr.ownsRow W8.heap.size 108 2 sv (F k).length (cU (F k))) (fun _ iv _=>n2-(intOf iv).toNat)
   case atStart=>exact ⟨0,B0 _,rfl,Below.refl _ _,by rw [HFF.out];exact World.ownsRow_nil _ _ _ _⟩
   case round=>
    obtain ⟨j,hj,rfl,hbl2,hown⟩:=hrel
    obtain ⟨A3,c3,rfl⟩:=QVR hown
    have HBR:=Lib.hid hbl2
    have HOW:=Lib.hid hown
    clear hbl2 hown
    by_cases hlt2:j<n2
    ·have hjl:j<l2.length:=by rw [HN2.out];exact hlt2
     obtain ⟨bb,off,rfl,hbb,hcs⟩:=HC8.out (by omega)
     obtain ⟨g0,g1⟩:=Qif l2 j hjl
     obtain ⟨o,ho⟩: ∃ o,o=l2[j]:=⟨_,rfl⟩
     rw [<-ho] at g0 g1
     have dz: ∀ q v,W8.cell? ⟨bb,off+q,none⟩=some v->wr.cell? ⟨bb,off+q,none⟩=some v:=fun q v h=>(HBR.out.cell (p:=⟨bb,off+q,none⟩) hbb).trans h
     have d0:=dz _ _ (hcs _ _ g0)
     have d1:=dz _ _ (hcs _ _ g1)
     rw [<-DB] at d1
     have kqr:=HK8.out.ext HBR.out
     have y0:=kqr.cell 0
     have y1:=kqr.cell 1
     have y2:=kqr.cell 2
     have y3:=kqr.cell 3
     have y4:=kqr.cell 4
     have y5:=kqr.cell 5
     have y6:=kqr.cell 6
     have y7:=kqr.cell 7
     have y8:=kqr.cell 8
     simp only [Do,BZ,BX] at y0 y1 y2 y3 y4 y5 y6 y7 y8
     replace y0:=fun ob=>Lib.cell?_alloc_some ob y0
     replace y1:=fun ob=>Lib.cell?_alloc_some ob y1
     replace y2:=fun ob=>Lib.cell?_alloc_some ob y2
     replace y3:=fun ob=>Lib.cell?_alloc_some ob y3
     replace y4:=fun ob=>Lib.cell?_alloc_some ob y4
     replace y5:=fun ob=>Lib.cell?_alloc_some ob y5
     replace y6:=fun ob=>Lib.cell?_alloc_some ob y6
     replace y7:=fun ob=>Lib.cell?_alloc_some ob y7
     replace y8:=fun ob=>Lib.cell?_alloc_some ob y8
     have HO:=Lib.hid (show l2[j]? = some o by rw [ho];exact Bl hjl)
     have hm64:(F j).length<=64:=by
      rw [HFF.out]
      have h1:=DG (fun o=> !decide (J0 s2 o∈l.map (J0 s))) (l2.take j)
      rw [B9] at h1
      have h2:=HN2.out
      show ((l2.take j).filter fun o=> !decide (J0 s2 o∈l.map (J0 s))).length<=64
      omega
     clear dz hcs g0 g1 ho hjl kqr
     have HM64:=Lib.hid hm64
     obtain ⟨m,hm⟩: ∃ m,m=(F j).length:=⟨_,rfl⟩
     rw [<-hm] at HOW HM64 ⊢
     have HMM:=Lib.hid hm
     clear hm hm64
     go_wp2_with fail
     obtain ⟨R,hR⟩: ∃ R,R=wr.heap.size:=⟨_,rfl⟩
     obtain ⟨W3,hW3⟩: ∃ W3,W3=wr.alloc (.cells #[.int .i64 o.1,.int .i64 o.2.1] 108):=⟨_,rfl⟩
     rw [<-hW3, <- hR]
     have b3:Below wr.heap.size wr W3:=hW3▸(Below.refl _ _).alloc (BI _) _
     have kR:Go.Proofs.YtkmobehaikjdjaaGreat.Blk W3 R 108 #[.int .i64 o.1,.int .i64 o.2.1]:=by rw [hW3,hR];exact Go.Proofs.YtkmobehaikjdjaaGreat.Blk.new _ _ _
     have b83:Below W8.heap.size W8 W3:=XR HBR.out b3 HBR.out.size
     obtain ⟨q0,q1,q2,q3,q4,q5,q6,q7,q8⟩:=HO2.out
     have hep:EpV W3 s2 z0 z1 z2 z3 z4 z5 z6 z7 z8:=⟨⟨X2,Z2,fun b' q hq=>BS (HE8.out.1 b' q hq) b83.size,C.ext0 (QVD b83) _ _ (fun _ _=>rfl) HE8.out.2⟩,q0,q1,q2,q3,q4,q5,q6,q7,q8⟩
     refine (QCD (o:=o) hep HEL2.out).mono ?_
     rintro e w9 ⟨rfl,hb9⟩
     have b89:Below W8.heap.size W8 w9:=XR b83 hb9 b83.size
     have kR9:=kR.ext hb9
     obtain ⟨es,clk,m1,m2⟩:=HM8.out.below b89
     have hrun:=Q1W w9 (QCC s2 o) m1 m2
     have HOW9:=Lib.hid (Qrj (Qrj HOW.out (Qid b3) (fun _ _ e=>by cases e)) (Qid hb9) (fun _ _ e=>by cases e))
     have HR9:=Lib.hid (show R<w9.heap.size from kR9.lt)
     have HB9:=Lib.hid b89
     have c0:=kR9.cell 0
     have c1:=kR9.cell 1
     simp only [Do,BZ,BX] at c0 c1
     clear hW3 b3 kR b83 hep hb9 b89 kR9 m1 m2 d0 d1 y0 y1 y2 y3 y4 y5 y6 y7 y8 q0 q1 q2 q3 q4 q5 q6 q7 q8 hR
     obtain ⟨kv,hkv⟩: ∃ kv,kv=kV (J0 s2 o):=⟨_,rfl⟩
     rw [<-hkv] at hrun ⊢
     clear hkv
     have hstep:F (j+1)=F j++(if decide (J0 s2 o∈l.map (J0 s))=true then [] else [o]):=by
      rw [HFF.out]
      show (l2.take (j+1)).filter _=_
      rw [List.take_add_one,HO.out,List.filter_append]
      congr 1
      cases h:decide (J0 s2 o∈l.map (J0 s)) with
      |true=>simp [h]
      |false=>simp [h]
     have HST2:=Lib.hid hstep
     clear hstep
     cases hq:decide (J0 s2 o∈l.map (J0 s)) with
     |true=>
      rw [hq] at hrun HST2
      go_wp2_with fail
      have hst:=HST2.out
      simp only [if_true,BH] at hst
      refine ⟨⟨j+1,hlt2,by simp,HB9.out, ?_⟩,by simp [intOf];omega⟩
      rw [hst, <- HMM.out]
      exact HOW9.out
     |false=>
      rw [hq] at hrun HST2
      have hsrc:=Sl.made w9 108 1 2 #[.int .i64 o.1,.int .i64 o.2.1] rfl (by simp [maxLen])
      go_wp2_with (at_builtin;refine QFL QSY rfl _ _ rfl W8.heap.size (.slice A3 m c3) m (cU (F j)) rfl (Qrj HOW9.out (QVL (World.grownBy.refl _ none) _) (fun _ _ e=>by cases e)) _ _ _ _ rfl hsrc (by simp [Value.oneCell']) (by have:=HM64.out;omega) (by omega) (by have:=HB9.out.size;simp;omega) ?_;intro v' w4 hown4 hg4 hat4)
      have hst:=HST2.out
      simp only [BE,Dc] at hst
      have bA:=HB9.out.alloc HB9.out.size (.cells #[.int .i64 o.1,.int .i64 o.2.1] 108)
      refine ⟨⟨j+1,hlt2,by simp,bA.trans ⟨hg4.os,hg4.tape,hg4.output,hg4.size,fun q hq=>hg4.block q (BS hq bA.size) (fun e=>by have:=(HOW9.out.lt _ e.symm).1;omega)⟩, ?_⟩,by simp [intOf];omega⟩
      rw [hst,Bj, <- HMM.out]
      have e2:cU (F j++[o])=cU (F j)++[.int .i64 o.1,.int .i64 o.2.1]:=by
       unfold cU
       rw [DN]
       rfl
      rw [e2]
      exact hown4
    ·obtain rfl:j=n2:=by omega
     have hFe:F j=YP b a i:=by
      rw [HFF.out]
      show (l2.take j).filter _=_
      rw [DD (by rw [HN2.out];exact BI _)]
      unfold YP
      rw [<-HL2.out]
      refine List.filter_congr fun o _=> ?_
      congr 1
      unfold Qoy
      rw [<-HL.out, <- HS.out, <- HS2.out,Dq]
      simp only [Ba,Dd,DI,Dh]
     have HFE:=Lib.hid hFe
     clear hFe
     go_wp2_with fail
     go_ret
     have hz:=HSZ.out
     have hss:=HSS.out
     refine ⟨_,W8.heap.size,rfl,by omega, ?_, ?_⟩
     ·rw [<-HFE.out]
      exact HOW.out
     ·rw [<-hss]
      exact XR HB8.out HBR.out (by omega)
def Qgd:Ent:=Qm (.pr Qo (.pr Qo (.pr tI .nil))) (fun x=>(UN x.1 x.2.1 x.2.2.1)) (fun x=>(.t (.sl Qe) (YP x.1 x.2.1 x.2.2.1)))
theorem QAz:J6 Tryz.prog 44:= .inr ⟨by decide,_,Tryz.func44,by kernel_rfl,by kernel_rfl⟩
theorem QAA {X:Nat->Nat->Prop}{w:World}{Z:Pl}: ∀ l:List Aa,Cs X w Z (l.flatMap Qe.cells) (cU l)
 | []=>rfl
 |x::l=>by
  show Cs X w Z (D.v (.int .i64 x.1)::D.v (.int .i64 x.2.1)::l.flatMap Qe.cells) (.int .i64 x.1:: .int .i64 x.2.1::cU l)
  simp only [Cs]
  exact ⟨_,_,rfl,⟨rfl,rfl⟩,_,_,rfl,⟨rfl,rfl⟩,QAA l⟩
theorem own_c {X:Nat->Nat->Prop}{w:World}{Z:Pl}{B:Nat}{l:List Aa}{sv:Value}(h:w.ownsRow B 108 2 sv l.length (cU l))(hX: ∀ b q,X b q->b<B):C X w Z (V.t (.sl Qe) l).d sv:=by
 obtain ⟨h1,A,c,rfl,h2,h3,h4⟩:=Sl.of_own h
 have hlt:=h.lt
 show C X w Z (.sl l.length (l.flatMap Qe.cells)) _
 simp only [C]
 refine ⟨A,c,rfl,h2,h3,fun h0=> ?_,fun h0=> ?_⟩
 ·have:l=[]:=BJ h0
  rw [this]
  rfl
 ·obtain ⟨b,off,rfl,g1,g2⟩:=h4 h0
  refine ⟨b,off,cU l,rfl,QAA l,g1,fun q _ hq=> ?_,fun j u hu=>g2 j u hu,QFH l⟩
  have:=hX b _ hq
  have:=(hlt b rfl).1
  omega
theorem QAB:QH Tryz.prog 44 (QD Qgd):=by
 unfold Qgd
 refine QpJ (fun x hok X w Z vs hfin hc=> ?_)
 obtain ⟨b,a,i,u⟩:=x
 obtain ⟨h1,h2⟩:=Bf.1 hok
 have hc:Cs X w Z [(V.t Qo b).d,(V.t Qo a).d,.v (.int .i64 i)] vs:=hc
 simp only [Cs] at hc
 obtain ⟨bv,r0,rfl,c0,av,r1,rfl,c1,iv,r2,rfl,c2,rfl⟩:=hc
 simp only [C] at c2
 obtain ⟨rfl,_⟩:=c2
 obtain ⟨u0,u1,u2,rfl,ou0,ou1,ou2⟩:=QCF c0
 obtain ⟨t0,t1,t2,rfl,ot0,ot1,ot2⟩:=QCF c1
 refine (QSZ (i:=i) hfin c0 c1 ou0 ou1 ou2 ot0 ot1 ot2 h1 h2).mono ?_
 rintro en w' ⟨sv,B,rfl,hB,hown,hb⟩
 exact ⟨sv,rfl,own_c hown (fun b q hq=>BS (hfin b q hq) hB),hb⟩
end K
end Go.Proofs.YtkmobehaikjdjaaGreat
