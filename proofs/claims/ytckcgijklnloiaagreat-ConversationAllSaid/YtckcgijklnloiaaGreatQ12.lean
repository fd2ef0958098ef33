import Derived.Test.YtckcgijklnloiaaGreatQ10
import Derived.Test.YtckcgijklnloiaaGreatQ11
set_option linter.unusedSimpArgs false
set_option linter.unusedVariables false
noncomputable section
namespace Go.Proofs.YtckcgijklnloiaaGreat.K.PE
open Go.RowKit
noncomputable section
theorem Qru (a:Int):ine a a=false:=by simp [ine]
theorem QT4:(UJ.all fun s=>decide (s.size<=1000)&&([2,1].all fun a=>Jz (JE s ecV 201 a 901)))=true:=by kernel_rfl
theorem QT5 {e:Endpoint}(h:IE e):mvE e=true:=by
 have hl:=Qlo h
 obtain ⟨d,k,s,rfl,hs,hk⟩:=h
 unfold mvE
 rw [hl,BB]
 exact Bg.1 QT4 s hs
theorem QT6 {e:Endpoint}(h:IE e):Yo 1000 e=true:=by
 have hl:=Qlo h
 obtain ⟨d,k,s,rfl,hs,hk⟩:=h
 have hsu:(FP d).length<=5:=Bv (Qln (p:=fun l=>decide (l.length<=5)) (by decide) d)
 unfold Q2 at hl
 simp only [Bc,Ba] at hl
 unfold Yo
 simp only [Bc,Ba]
 exact ⟨⟨hl.1.1,B4 hsu (by decide),(show 1<=1000 by decide),(show 1<=1000 by decide),(show 2<=1000 by decide)⟩,hl.2⟩
theorem snd_st (d:Qd):Z2 1000 (JD d)=true:=by
 obtain ⟨g1,g2⟩:=QuV d
 have hn:=Vf d
 have hl:(QZ (JD d)).length<=3:=by rw [Qec];omega
 obtain ⟨_,he,_⟩:=QuU d
 have hitm:(Yj (JD d)).all E4=true:=Bg.2 fun i hi=>by
  have h1:=Bg.1 (IA g1).2.1 i hi
  have:=(ZT.1 h1).2.2.2.1
  exact Bd (by omega)
 unfold Ja at g2
 simp only [Bc] at g2
 unfold Z2
 simp only [Bc,Ba]
 exact ⟨Bg.2 fun e he=>QT6 (Qlp d e he),⟨by omega,by omega⟩,g2.2.2,hitm⟩
theorem QFM: ∀ (n:Nat) (d:Qd),dOk d=true->dOk (itZ n d).2=true
 |0,_,h=>h
 |n+1,d,h=>QFM n _ (Qti (s:=YV d sIt) (Qci h))
theorem QT7 {d:Qd}(h:dOk d=true):dOk (Yg d)=true:=by
 have hz:=Qqi (J2 d) 0 (Qg d 2) (QG (n:=2) h)
 have hy:=Qqj (J2 d).length (J2 d).length 0 [] _ hz (B2 _)
 exact QFM _ _ (QG (show dOk (ZI d).2=true from hy.1))
theorem QFN {d:Qd}(h:dOk d=true):G0 (Yg d) (JD d)=true:=by
 have hn:=Vf d
 have hl:(QZ (JD d)).length<=3:=by rw [Qec];omega
 unfold G0
 rw [QT7 h,Bd (show (QZ (JD d)).length<=1000 by omega),BB,BB]
 exact Bg.2 fun e he=>QT5 (Qlp d e he)
def allL (_:List Int)(_ _ _ _:Int):Bool:=true
theorem QT8 (x:Qb):(and (ieq x.1 x.1) (and (ieq x.2.1 x.2.1) true))=true:=(show (x==x)=true from beq_self_eq_true x)
abbrev Qi4:Sh:=⟨[(1,.ty tI),(2,.ty tI),(3,.ty tI),(4,.ty tI),(18,.ptr 18 0),(20,.ty tI),(79,.ty (.sl QF)),(80,.ty tI),(81,.ty tI),(86,.ty (.sl tI)),(87,.ty tI),(88,.ty tI),(101,.ty (.sl Qh)),(102,.ty tI),(103,.ty tI)],[(18,.box QF)]⟩
abbrev Qi5:Sh:=⟨[(10,.ty .bool)],[]⟩
abbrev QcM:Sh:=⟨[(1,.ty tI),(2,.ty tI),(3,.ty tI),(4,.ty tI),(18,.ptr 18 0),(79,.ty (.sl QF)),(80,.ty tI),(81,.ty tI),(86,.ty (.sl tI)),(87,.ty tI),(88,.ty tI)],[(18,.box QF)]⟩
abbrev Qrv:Sh:=⟨[(1,.ty tI),(2,.ty tI),(3,.ty tI),(4,.ty tI),(18,.ptr 18 0),(79,.ty (.sl QF)),(80,.ty tI),(81,.ty tI)],[(18,.box QF)]⟩
abbrev Qi6:Sh:=⟨[(1,.ty tI),(2,.ty tI),(3,.ty tI),(4,.ty tI),(18,.ptr 18 0),(79,.ty (.sl QF)),(80,.ty tI),(81,.ty tI),(219,.ty (.sl tI)),(220,.ty tI),(221,.ty tI)],[(18,.box QF)]⟩
abbrev Qi7:Sh:=⟨[(1,.ty tI),(2,.ty tI),(3,.ty tI),(4,.ty tI),(18,.ptr 18 0),(79,.ty (.sl QF)),(80,.ty tI),(81,.ty tI),(259,.ty (.sl tI)),(260,.ty tI),(261,.ty tI)],[(18,.box QF)]⟩
abbrev QcN:Sh:=⟨[(1,.ty tI),(2,.ty tI),(3,.ty tI),(4,.ty tI),(79,.ty (.sl QF)),(80,.ty tI),(81,.ty tI)],[]⟩
abbrev QFO:Sh:=⟨[],[]⟩
def Qrw:Fg:=Qi4.f
def Qrx:Fg:=QcM.f
def Qry:Fg:=Qi6.f
def Qrz:Fg:=Qi7.f
def QrA:Fg:=QcN.f
def FY:TC:=aF Tryz.f7 [(126,pD [(0,[12]),(1,[]),(2,[58,5058,10058,15058]),(3,[]),(4,[]),(5,[58,70,5058,5070,10058,10070,15058,15070]),(6,[]),(7,[]),(8,[]),(9,[]),(10,[14,5014,10014,15014]),(11,[14]),(12,[])] (.one 0 (.one 1 (.one 2 (.one 3 (.one 4 (.alt 5 (.of [6,7,8,9,10,11,12]) (.of [10,5,6,7,8,9,11,12])))))))),(2042,pL 4 QrA),(32677,.fg QFO.f),(1045706,pL 1 Qrx),(16731301,.fg Qrv.f),(267700838,pL 0 Qrw),(4283213413,.fg QcM.f),(35088084291581,.fg Qi5.f),(2091418,pL 2 Qry),(33462693,.fg Qrv.f),(4283224893,.fg Qi5.f),(2091422,pL 3 Qrz),(33462757,.fg QcN.f),(4283233085,.fg Qi5.f)]
def QFP:TC:=lb 0 FY
def QFQ:TC:=lb 1 FY
def QFR:TC:=lb 2 FY
def QFS:TC:=lb 3 FY
def QFT:TC:=lb 4 FY
def rv_f7:List (RV×Option Ty):=[((.t 10),some .bool)]
def QFU (x1 x2 x3 x4 x20:Int)(x79:List Estate)(x80 x81:Int)(x86:List Int)(x87 x88:Int)(x101:List Qb)(x102 x103:Int)(y18:Estate):VS:=Qi4.st (x1,x2,x3,x4,(),x20,x79,x80,x81,x86,x87,x88,x101,x102,x103,()) (y18,())
def Zw (x10:Bool):VS:=Qi5.st (x10,()) ()
def QcO (x1 x2 x3 x4:Int)(x79:List Estate)(x80 x81:Int)(x86:List Int)(x87 x88:Int)(y18:Estate):VS:=QcM.st (x1,x2,x3,x4,(),x79,x80,x81,x86,x87,x88,()) (y18,())
def Vq (x1 x2 x3 x4:Int)(x79:List Estate)(x80 x81:Int)(y18:Estate):VS:=Qrv.st (x1,x2,x3,x4,(),x79,x80,x81,()) (y18,())
def QFV (x1 x2 x3 x4:Int)(x79:List Estate)(x80 x81:Int)(x219:List Int)(x220 x221:Int)(y18:Estate):VS:=Qi6.st (x1,x2,x3,x4,(),x79,x80,x81,x219,x220,x221,()) (y18,())
def QFW (x1 x2 x3 x4:Int)(x79:List Estate)(x80 x81:Int)(x259:List Int)(x260 x261:Int)(y18:Estate):VS:=Qi7.st (x1,x2,x3,x4,(),x79,x80,x81,x259,x260,x261,()) (y18,())
def QcP (x1 x2 x3 x4:Int)(x79:List Estate)(x80 x81:Int):VS:=QcN.st (x1,x2,x3,x4,x79,x80,x81,()) ()
def QrB  : VS:=QFO.st () ()
def L_f7_0:VS->Option (Bool×List (Bool×Exit×VS)):=mkL Qi4 (fun x y=>(Qz x.2.2.2.2.2.2.2.2.2.2.2.2.1 x.2.2.2.2.2.2.2.2.2.2.2.2.2.1 x.2.2.2.2.2.2.2.2.2.2.2.2.2.2.1&&Ja y.1)) (fun x y=>[((false),.ret,Zw (false)),(true,.exit 4,QcO (x.1) (x.2.1) (x.2.2.1) (x.2.2.2.1) (x.2.2.2.2.2.2.1) (x.2.2.2.2.2.2.2.1) (x.2.2.2.2.2.2.2.2.1) (x.2.2.2.2.2.2.2.2.2.1) (x.2.2.2.2.2.2.2.2.2.2.1) (x.2.2.2.2.2.2.2.2.2.2.2.1) (y.1))])
def L_f7_1:VS->Option (Bool×List (Bool×Exit×VS)):=mkL QcM (fun x y=>(Qz x.2.2.2.2.2.2.2.2.1 x.2.2.2.2.2.2.2.2.2.1 x.2.2.2.2.2.2.2.2.2.2.1&&Ja y.1)) (fun x y=>[((false),.ret,Zw (false)),(true,.exit 2,Vq (x.1) (x.2.1) (x.2.2.1) (x.2.2.2.1) (x.2.2.2.2.2.1) (x.2.2.2.2.2.2.1) (x.2.2.2.2.2.2.2.1) (y.1))])
def L_f7_2:VS->Option (Bool×List (Bool×Exit×VS)):=mkL Qi6 (fun x y=>(Qz x.2.2.2.2.2.2.2.2.1 x.2.2.2.2.2.2.2.2.2.1 x.2.2.2.2.2.2.2.2.2.2.1&&Ja y.1)) (fun x y=>[((false),.ret,Zw (false)),(true,.exit 6,Vq (x.1) (x.2.1) (x.2.2.1) (x.2.2.2.1) (x.2.2.2.2.2.1) (x.2.2.2.2.2.2.1) (x.2.2.2.2.2.2.2.1) (y.1))])
def L_f7_3:VS->Option (Bool×List (Bool×Exit×VS)):=mkL Qi7 (fun x y=>(Qz x.2.2.2.2.2.2.2.2.1 x.2.2.2.2.2.2.2.2.2.1 x.2.2.2.2.2.2.2.2.2.2.1&&Ja y.1)) (fun x y=>[((false),.ret,Zw (false)),(true,.exit 8,QcP (x.1) (x.2.1) (x.2.2.1) (x.2.2.2.1) (x.2.2.2.2.2.1) (x.2.2.2.2.2.2.1) (x.2.2.2.2.2.2.2.1))])
def L_f7_4:VS->Option (Bool×List (Bool×Exit×VS)):=mkL QcN (fun x y=>(Qz x.2.2.2.2.1 x.2.2.2.2.2.1 x.2.2.2.2.2.2.1&&x.2.2.2.2.1.all Ja)) (fun x y=>[((false),.ret,Zw (false)),(true,.exit 0,QrB)])
def Wq:G:=gG 289 [(9,sp_f9),(10,QI4),(11,QBh),(12,Qz4),(13,Qoi),(14,QoQ),(15,Qae),(17,QD1),(18,Qpe),(20,QDI),(22,QIN),(23,QGV),(24,Qzg),(25,QGI),(26,Qd4),(27,QuD),(28,QuF),(29,QDz),(30,QDA),(31,QDO),(32,QA4),(33,QIS),(34,QBW)] (Ls [L_f7_0,L_f7_1,L_f7_2,L_f7_3,L_f7_4])
def Qi8 (x1 x2 x3 x4 x20:Int)(x79:List Estate)(x80 x81:Int)(x86:List Int)(x87 x88:Int)(x101:List Qb)(x102 x103:Int)(y18:Estate):OX:=QB (QD Wq Qrw QFP) (QFU x1 x2 x3 x4 x20 x79 x80 x81 x86 x87 x88 x101 x102 x103 y18)
def QcQ (kk:Int->Int->Int->Int->Int->List Estate->Int->Int->List Int->Int->Int->List Qb->Int->Int->Estate->OX)(x1 x2 x3 x4 x20:Int)(x79:List Estate)(x80 x81:Int)(x86:List Int)(x87 x88:Int)(x101:List Qb)(x102 x103:Int)(y18:Estate):OX:=
 let a1:=lgt Qh x101 (Int.toNat x103)
 let a2:=Ux y18 x20 (a1.1) ((a1.2).1)
 let a3:=ZQ y18 x20 (a1.1)
 let a4:=Jq y18 x20 (a1.1)
 let a5:=XL y18 x20 (a1.1)
 let a6:=IC y18 x20 (a1.1) ((a1.2).1)
 br (ilt x103 x102) (br (cIx x101 x103) (br a3 (br a3 (br a6 (br a6 (br a3 (br a3 (br a3 (br a3 (br (!(and (ieq ((a4.1).1) ((a4.1).1)) (and (ieq (((a4.1).2).1) (((a4.1).2).1)) true))) (some (.ret,Zw false)) (br (ine (a4.2) (a4.2)) (some (.ret,Zw false)) (br (!(and (ieq ((a2.1).1) ((a2.1).1)) (and (ieq (((a2.1).2).1) (((a2.1).2).1)) true))) (some (.ret,Zw false)) (br (ine (a2.2) (a2.2)) (some (.ret,Zw false)) (br (ine ((GT y18 x20 (a1.1)).1) ((GU y18 x20 (a1.1)).1)) (some (.ret,Zw false)) (br (ine ((GT y18 x20 (a1.1)).2) ((GU y18 x20 (a1.1)).2)) (some (.ret,Zw false)) (br (ine (a5.2) (a5.2)) (some (.ret,Zw false)) (br (GP (a5.1) (a5.1)) (br (!(EK (a5.1) (a5.1))) (some (.ret,Zw false)) (kk x1 x2 x3 x4 x20 x79 x80 x81 x86 x87 x88 x101 x102 (Qk .i64 x103 1) y18)) none)))))))) none) none) none) none) none) none) none) none) none) (some (.exit 4,QcO x1 x2 x3 x4 x79 x80 x81 x86 x87 x88 y18))
def QrC (x1 x2 x3 x4 x20:Int)(x79:List Estate)(x80 x81:Int)(x86:List Int)(x87 x88:Int)(x101:List Qb)(x102 x103:Int)(y18:Estate):OX:=br (false) (some (.ret,Zw (false)))<|some (.exit 4,QcO (x1) (x2) (x3) (x4) (x79) (x80) (x81) (x86) (x87) (x88) (y18))
theorem QFX (x1 x2 x3 x4 x20:Int)(x79:List Estate)(x80 x81:Int)(x86:List Int)(x87 x88:Int)(x101:List Qb)(x102 x103:Int)(y18:Estate):Qi8 x1 x2 x3 x4 x20 x79 x80 x81 x86 x87 x88 x101 x102 x103 y18=QcQ Qi8 x1 x2 x3 x4 x20 x79 x80 x81 x86 x87 x88 x101 x102 x103 y18:=lnT (x:=QcQ (fun x1 x2 x3 x4 x20 x79 x80 x81 x86 x87 x88 x101 x102 x103 y18=>some (.normal,QFU x1 x2 x3 x4 x20 x79 x80 x81 x86 x87 x88 x101 x102 x103 y18)) x1 x2 x3 x4 x20 x79 x80 x81 x86 x87 x88 x101 x102 x103 y18) (by simp only [QcQ,nxA];rfl)
def Qi9 (x1 x2 x3 x4:Int)(x79:List Estate)(x80 x81:Int)(x86:List Int)(x87 x88:Int)(y18:Estate):OX:=QB (QD Wq Qrx QFQ) (QcO x1 x2 x3 x4 x79 x80 x81 x86 x87 x88 y18)
def QcR (kk:Int->Int->Int->Int->List Estate->Int->Int->List Int->Int->Int->Estate->OX)(x1 x2 x3 x4:Int)(x79:List Estate)(x80 x81:Int)(x86:List Int)(x87 x88:Int)(y18:Estate):OX:=
 let a1:=((Um x2 1100),((Um x3 1100),()))
 br (ilt x88 x87) (br (cIx x86 x88) (br (WH x2 1100) (br (WH x3 1100) (br (Qz ([(x2,(x3,())),a1,(0,(15,()))]) (Qc ([(x2,(x3,())),a1,(0,(15,()))])) (0:Int)&&Ja y18) (br (false) (some (.ret,Zw (false))) (kk (x1) (x2) (x3) (x4) (x79) (x80) (x81) (x86) (x87) (Qk .i64 (x88) 1) (y18))) none) none) none) none) (some (.exit 2,Vq x1 x2 x3 x4 x79 x80 x81 y18))
def QrD (x1 x2 x3 x4:Int)(x79:List Estate)(x80 x81:Int)(x86:List Int)(x87 x88:Int)(y18:Estate):OX:=br (false) (some (.ret,Zw (false)))<|some (.exit 2,Vq (x1) (x2) (x3) (x4) (x79) (x80) (x81) (y18))
theorem QFY (x1 x2 x3 x4:Int)(x79:List Estate)(x80 x81:Int)(x86:List Int)(x87 x88:Int)(y18:Estate):Qi9 x1 x2 x3 x4 x79 x80 x81 x86 x87 x88 y18=QcR Qi9 x1 x2 x3 x4 x79 x80 x81 x86 x87 x88 y18:=lnT (x:=QcR (fun x1 x2 x3 x4 x79 x80 x81 x86 x87 x88 y18=>some (.normal,QcO x1 x2 x3 x4 x79 x80 x81 x86 x87 x88 y18)) x1 x2 x3 x4 x79 x80 x81 x86 x87 x88 y18) (by simp only [QcR,nxA];rfl)
def Qja (x1 x2 x3 x4:Int)(x79:List Estate)(x80 x81:Int)(x219:List Int)(x220 x221:Int)(y18:Estate):OX:=QB (QD Wq Qry QFR) (QFV x1 x2 x3 x4 x79 x80 x81 x219 x220 x221 y18)
def QcS (kk:Int->Int->Int->Int->List Estate->Int->Int->List Int->Int->Int->Estate->OX)(x1 x2 x3 x4:Int)(x79:List Estate)(x80 x81:Int)(x219:List Int)(x220 x221:Int)(y18:Estate):OX:=
 let a1:=ZU y18 (lgt tI x219 (Int.toNat x221))
 let a2:=Zy y18 (lgt tI x219 (Int.toNat x221))
 br (ilt x221 x220) (br (cIx x219 x221) (br a2 (br a2 (br (ine ((a1.2).2) ((a1.2).2)) (some (.ret,Zw false)) (br (GP (a1.1) (a1.1)) (br (!(EK (a1.1) (a1.1))) (some (.ret,Zw false)) (br (Ee ((a1.2).1) ((a1.2).1)) (br (!(Is ((a1.2).1) ((a1.2).1))) (some (.ret,Zw false)) (kk x1 x2 x3 x4 x79 x80 x81 x219 x220 (Qk .i64 x221 1) y18)) none)) none)) none) none) none) (some (.exit 6,Vq x1 x2 x3 x4 x79 x80 x81 y18))
def QrE (x1 x2 x3 x4:Int)(x79:List Estate)(x80 x81:Int)(x219:List Int)(x220 x221:Int)(y18:Estate):OX:=br (false) (some (.ret,Zw (false)))<|some (.exit 6,Vq (x1) (x2) (x3) (x4) (x79) (x80) (x81) (y18))
theorem QFZ (x1 x2 x3 x4:Int)(x79:List Estate)(x80 x81:Int)(x219:List Int)(x220 x221:Int)(y18:Estate):Qja x1 x2 x3 x4 x79 x80 x81 x219 x220 x221 y18=QcS Qja x1 x2 x3 x4 x79 x80 x81 x219 x220 x221 y18:=lnT (x:=QcS (fun x1 x2 x3 x4 x79 x80 x81 x219 x220 x221 y18=>some (.normal,QFV x1 x2 x3 x4 x79 x80 x81 x219 x220 x221 y18)) x1 x2 x3 x4 x79 x80 x81 x219 x220 x221 y18) (by simp only [QcS,nxA];rfl)
def Qjb (x1 x2 x3 x4:Int)(x79:List Estate)(x80 x81:Int)(x259:List Int)(x260 x261:Int)(y18:Estate):OX:=QB (QD Wq Qrz QFS) (QFW x1 x2 x3 x4 x79 x80 x81 x259 x260 x261 y18)
def QcT (kk:Int->Int->Int->Int->List Estate->Int->Int->List Int->Int->Int->Estate->OX)(x1 x2 x3 x4:Int)(x79:List Estate)(x80 x81:Int)(x259:List Int)(x260 x261:Int)(y18:Estate):OX:=
 let a1:=Xk y18 (lgt tI x259 (Int.toNat x261))
 let a2:=Zy y18 (lgt tI x259 (Int.toNat x261))
 br (ilt x261 x260) (br (cIx x259 x261) (br a2 (br a2 (br (ine (a1.2) (a1.2)) (some (.ret,Zw false)) (br (Ee (a1.1) (a1.1)) (br (!(Is (a1.1) (a1.1))) (some (.ret,Zw false)) (kk x1 x2 x3 x4 x79 x80 x81 x259 x260 (Qk .i64 x261 1) y18)) none)) none) none) none) (some (.exit 8,QcP x1 x2 x3 x4 x79 x80 x81))
def QrF (x1 x2 x3 x4:Int)(x79:List Estate)(x80 x81:Int)(x259:List Int)(x260 x261:Int)(y18:Estate):OX:=br (false) (some (.ret,Zw (false)))<|some (.exit 8,QcP (x1) (x2) (x3) (x4) (x79) (x80) (x81))
theorem QF0 (x1 x2 x3 x4:Int)(x79:List Estate)(x80 x81:Int)(x259:List Int)(x260 x261:Int)(y18:Estate):Qjb x1 x2 x3 x4 x79 x80 x81 x259 x260 x261 y18=QcT Qjb x1 x2 x3 x4 x79 x80 x81 x259 x260 x261 y18:=lnT (x:=QcT (fun x1 x2 x3 x4 x79 x80 x81 x259 x260 x261 y18=>some (.normal,QFW x1 x2 x3 x4 x79 x80 x81 x259 x260 x261 y18)) x1 x2 x3 x4 x79 x80 x81 x259 x260 x261 y18) (by simp only [QcT,nxA];rfl)
def Qjc (x1 x2 x3 x4:Int)(x79:List Estate)(x80 x81:Int):OX:=QB (QD Wq QrA QFT) (QcP x1 x2 x3 x4 x79 x80 x81)
def QcU (kk:Int->Int->Int->Int->List Estate->Int->Int->OX)(x1 x2 x3 x4:Int)(x79:List Estate)(x80 x81:Int):OX:=
 let a1:=lgt QF x79 (Int.toNat x81)
 let a2:=Qk .i64 1 (Um (x4) 22)
 br (ilt x81 x80) (br (cIx x79 x81) (br (Qz ([x1,0,1]) (Qc ([x1,0,1])) (0:Int)&&Ja a1) (br (false) (some (.ret,Zw (false))) (br (WH (x3) 1100) (br (Qz ([(x2),(Um (x3) 1100)]) (Qc ([(x2),(Um (x3) 1100)])) (0:Int)&&Ja a1) (br (false) (some (.ret,Zw (false))) (br (WH (x4) 22) (br (Qz ([(x4),5,a2]) (Qc ([(x4),5,a2])) (0:Int)&&Ja a1) (br (false) (some (.ret,Zw (false))) (kk (x1) (x2) (x3) (x4) (x79) (x80) (Qk .i64 (x81) 1))) none) none)) none) none)) none) none) (some (.exit 0,QrB))
def QrG (x1 x2 x3 x4:Int)(x79:List Estate)(x80 x81:Int):OX:=br (false) (some (.ret,Zw (false)))<|some (.exit 0,QrB)
theorem QF1 (x1 x2 x3 x4:Int)(x79:List Estate)(x80 x81:Int):Qjc x1 x2 x3 x4 x79 x80 x81=QcU Qjc x1 x2 x3 x4 x79 x80 x81:=lnT (x:=QcU (fun x1 x2 x3 x4 x79 x80 x81=>some (.normal,QcP x1 x2 x3 x4 x79 x80 x81)) x1 x2 x3 x4 x79 x80 x81) (by simp only [QcU,nxA];rfl)
def QrH (p0:List Int)(p1 p2 p3 p4:Int):OV:=
 let a3:=JD (Gd p0)
 let a7:=Yg (Gd p0)
 let a1:=((FA a3 (mvV a7 a3) (FZ (mvN a7 a3) (Qc (mvV a7 a3)))).1)
 let a2:=Qc1 (mvN a7 a3) (Qc (mvV a7 a3))
 let a4:=((mkX a2).1,(((mkX a2).2).1,((((mkX a2).2).2).1,())))
 let a5:=((a3.2).1,(((a3.2).2).1,()))
 let a6:=((a1.2).1,(((a1.2).2).1,()))
 br (Qjm (mvN a7 a3) (Qc (mvV a7 a3))) (br (Ok a3 (mvV a7 a3) (FZ (mvN a7 a3) (Qc (mvV a7 a3)))) (br (dOk a2) (br (Qz ([(a3.1,a5),(a1.1,a6),a4]) (Qc ([(a3.1,a5),(a1.1,a6),a4])) (0:Int)&&([(a3.1,a5),(a1.1,a6),a4]).all Ja) (br (false) (some (.t .bool (false),[])) (some (.t .bool Qkv,[]))) none) none) none) none
def QrI (p0:List Int)(p1 p2 p3 p4:Int):OV:=br (!(EI p0)) (some (.t .bool Qkv,[])) (br (dOk (Gd p0)) (br (G0 (Yg (Gd p0)) (JD (Gd p0))) (frk (QrH p0 p1 p2 p3 p4) (QrH p0 p1 p2 p3 p4)) none) none)
theorem e_f7 (p0:List Int)(p1 p2 p3 p4:Int):JR Wq FY rv_f7 false [.t (.sl tI) p0,.t tI p1,.t tI p2,.t tI p3,.t tI p4] []=QrI p0 p1 p2 p3 p4:=by kernel_rfl
theorem gk_f7:GOk Tryz.prog Wq:=Zz _ (gA (gD ms_f9 (gD ms_f10 (gD ms_f11 (gD ms_f12 (gD Qz1 (gD QAX (gD Qd3 (gD ms_f17 (gD QBG (gD ms_f20 (gD ms_f22 (gD ms_f23 (gD ms_f24 (gD ms_f25 (gD Qlg (gD ms_f27 (gD ms_f28 (gD ms_f29 (gD ms_f30 (gD ms_f31 (gD ms_f32 (gD ms_f33 (gD ms_f34 gN))))))))))))))))))))))))
theorem l_f7_0 (x1 x2 x3 x4 x20:Int)(x79:List Estate)(x80 x81:Int)(x86:List Int)(x87 x88:Int)(x101:List Qb)(x102 x103:Int)(y18:Estate)(h:(Qz x101 x102 x103&&Ja y18)=true):Qi8 x1 x2 x3 x4 x20 x79 x80 x81 x86 x87 x88 x101 x102 x103 y18=QrC x1 x2 x3 x4 x20 x79 x80 x81 x86 x87 x88 x101 x102 x103 y18:=by
 obtain ⟨h,hl⟩:=Bf.1 h
 obtain ⟨rfl,h3,k,rfl,hk⟩:=Js h
 clear h
 refine QW x101 (fun k=>Qi8 x1 x2 x3 x4 x20 x79 x80 x81 x86 x87 x88 x101 (x101.length:Int) (k:Int) y18=QrC x1 x2 x3 x4 x20 x79 x80 x81 x86 x87 x88 x101 (x101.length:Int) (k:Int) y18) ?_ ?_ k hk
 ·rw [QFX]
  simp only [QcQ,QrC,QC,BI,BQ,Qi]
 ·intro k hk ih
  rw [QFX]
  have e2: ∀ d,ZQ y18 x20 d=true:=fun _=>hl
  have e3: ∀ d f,IC y18 x20 d f=true:=fun _ _=>hl
  have e4: ∀ d,GP (XL y18 x20 d).1 (XL y18 x20 d).1=true:=fun d=>QHa _ (QVn y18 x20 d)
  simp only [QcQ,QC,QS,hk,Bu,Qe,Bb,QU (show k<4611686018427387904 by omega),e2,e3,e4,QT8,Qru,unt_eq,QG8,BC,Qi]
  exact ih
theorem l_f7_1 (x1 x2 x3 x4:Int)(x79:List Estate)(x80 x81:Int)(x86:List Int)(x87 x88:Int)(y18:Estate)(h:(Qz x86 x87 x88&&Ja y18)=true):Qi9 x1 x2 x3 x4 x79 x80 x81 x86 x87 x88 y18=QrD x1 x2 x3 x4 x79 x80 x81 x86 x87 x88 y18:=by
 obtain ⟨h,hl⟩:=Bf.1 h
 obtain ⟨rfl,h3,k,rfl,hk⟩:=Js h
 clear h
 refine QW x86 (fun k=>Qi9 x1 x2 x3 x4 x79 x80 x81 x86 (x86.length:Int) (k:Int) y18=QrD x1 x2 x3 x4 x79 x80 x81 x86 (x86.length:Int) (k:Int) y18) ?_ ?_ k hk
 ·rw [QFY]
  simp only [QcR,QrD,QC,BI,BQ,Qi]
 ·intro k hk ih
  rw [QFY]
  have e1:WH x2 1100=true:=rfl
  have e2:WH x3 1100=true:=rfl
  have e3: ∀ l:List Qb,l.length<=3->(Qz l (Qc l) (0:Int)&&Ja y18)=true:=fun l h=>by rw [Jy (by omega),hl];rfl
  simp only [QcR,QC,QS,hk,Bu,Qe,Bb,QU (show k<4611686018427387904 by omega),e1,e2,Qi]
  rw [e3 _ (by simp),Qe]
  exact ih
theorem l_f7_2 (x1 x2 x3 x4:Int)(x79:List Estate)(x80 x81:Int)(x219:List Int)(x220 x221:Int)(y18:Estate)(h:(Qz x219 x220 x221&&Ja y18)=true):Qja x1 x2 x3 x4 x79 x80 x81 x219 x220 x221 y18=QrE x1 x2 x3 x4 x79 x80 x81 x219 x220 x221 y18:=by
 obtain ⟨h,hl⟩:=Bf.1 h
 obtain ⟨rfl,h3,k,rfl,hk⟩:=Js h
 clear h
 refine QW x219 (fun k=>Qja x1 x2 x3 x4 x79 x80 x81 x219 (x219.length:Int) (k:Int) y18=QrE x1 x2 x3 x4 x79 x80 x81 x219 (x219.length:Int) (k:Int) y18) ?_ ?_ k hk
 ·rw [QFZ]
  simp only [QcS,QrE,QC,BI,BQ,Qi]
 ·intro k hk ih
  rw [QFZ]
  have e1: ∀ d,Zy y18 d=true:=fun _=>hl
  have e4: ∀ d,GP (ZU y18 d).1 (ZU y18 d).1=true:=fun d=>QHa _ (B4 (QG7 y18 d).1 (by decide))
  have e5: ∀ d,Ee (ZU y18 d).2.1 (ZU y18 d).2.1=true:=fun d=>QHb _ (B4 (QG7 y18 d).2 (by decide))
  simp only [QcS,QC,QS,hk,Bu,Qe,Bb,QU (show k<4611686018427387904 by omega),e1,e4,e5,Qru,QG8,QG9,BC,Qi]
  exact ih
theorem l_f7_3 (x1 x2 x3 x4:Int)(x79:List Estate)(x80 x81:Int)(x259:List Int)(x260 x261:Int)(y18:Estate)(h:(Qz x259 x260 x261&&Ja y18)=true):Qjb x1 x2 x3 x4 x79 x80 x81 x259 x260 x261 y18=QrF x1 x2 x3 x4 x79 x80 x81 x259 x260 x261 y18:=by
 obtain ⟨h,hl⟩:=Bf.1 h
 obtain ⟨rfl,h3,k,rfl,hk⟩:=Js h
 clear h
 refine QW x259 (fun k=>Qjb x1 x2 x3 x4 x79 x80 x81 x259 (x259.length:Int) (k:Int) y18=QrF x1 x2 x3 x4 x79 x80 x81 x259 (x259.length:Int) (k:Int) y18) ?_ ?_ k hk
 ·rw [QF0]
  simp only [QcT,QrF,QC,BI,BQ,Qi]
 ·intro k hk ih
  rw [QF0]
  have e1: ∀ d,Zy y18 d=true:=fun _=>hl
  have e5: ∀ d,Ee (Xk y18 d).1 (Xk y18 d).1=true:=fun d=>QHb _ (B4 (QVo y18 d) (by decide))
  simp only [QcT,QC,QS,hk,Bu,Qe,Bb,QU (show k<4611686018427387904 by omega),e1,e5,Qru,QG9,BC,Qi]
  exact ih
theorem l_f7_4 (x1 x2 x3 x4:Int)(x79:List Estate)(x80 x81:Int)(h:(Qz x79 x80 x81&&x79.all Ja)=true):Qjc x1 x2 x3 x4 x79 x80 x81=QrG x1 x2 x3 x4 x79 x80 x81:=by
 obtain ⟨h,hl⟩:=Bf.1 h
 obtain ⟨rfl,h3,k,rfl,hk⟩:=Js h
 clear h
 refine QW x79 (fun k=>Qjc x1 x2 x3 x4 x79 (x79.length:Int) (k:Int)=QrG x1 x2 x3 x4 x79 (x79.length:Int) (k:Int)) ?_ ?_ k hk
 ·rw [QF1]
  simp only [QcU,QrG,QC,BI,BQ,Qi]
 ·intro k hk ih
  rw [QF1]
  have hy:Ja (lgt QF x79 k)=true:=by
   rw [QX (y:=QF) hk]
   exact Bg.1 hl _ (BA hk)
  have e1:WH x3 1100=true:=rfl
  have e2:WH x4 22=true:=rfl
  have e3: ∀ l:List Int,l.length<=3->(Qz l (Qc l) (0:Int)&&Ja (lgt QF x79 k))=true:=fun l h=>by rw [Jy (by omega),hy];rfl
  simp only [QcU,QC,QS,hk,Bu,Qe,Bb,QU (show k<4611686018427387904 by omega),e1,e2,Qi]
  rw [e3 _ (by simp),Qe,e3 _ (by simp),Qe,e3 _ (by simp),Qe]
  exact ih
theorem QT9:LO Wq Qrw QFP 0:=QN (s:=Qi4) fun x y h _ q=>by simp only [QJ,QK] at q;exact (l_f7_0 x.1 x.2.1 x.2.2.1 x.2.2.2.1 x.2.2.2.2.2.1 x.2.2.2.2.2.2.1 x.2.2.2.2.2.2.2.1 x.2.2.2.2.2.2.2.2.1 x.2.2.2.2.2.2.2.2.2.1 x.2.2.2.2.2.2.2.2.2.2.1 x.2.2.2.2.2.2.2.2.2.2.2.1 x.2.2.2.2.2.2.2.2.2.2.2.2.1 x.2.2.2.2.2.2.2.2.2.2.2.2.2.1 x.2.2.2.2.2.2.2.2.2.2.2.2.2.2.1 y.1 h).trans q
theorem QUa:LO Wq Qrx QFQ 1:=QN (s:=QcM) fun x y h _ q=>by simp only [QJ,QK] at q;exact (l_f7_1 x.1 x.2.1 x.2.2.1 x.2.2.2.1 x.2.2.2.2.2.1 x.2.2.2.2.2.2.1 x.2.2.2.2.2.2.2.1 x.2.2.2.2.2.2.2.2.1 x.2.2.2.2.2.2.2.2.2.1 x.2.2.2.2.2.2.2.2.2.2.1 y.1 h).trans q
theorem QUb:LO Wq Qry QFR 2:=QN (s:=Qi6) fun x y h _ q=>by simp only [QJ,QK] at q;exact (l_f7_2 x.1 x.2.1 x.2.2.1 x.2.2.2.1 x.2.2.2.2.2.1 x.2.2.2.2.2.2.1 x.2.2.2.2.2.2.2.1 x.2.2.2.2.2.2.2.2.1 x.2.2.2.2.2.2.2.2.2.1 x.2.2.2.2.2.2.2.2.2.2.1 y.1 h).trans q
theorem QUc:LO Wq Qrz QFS 3:=QN (s:=Qi7) fun x y h _ q=>by simp only [QJ,QK] at q;exact (l_f7_3 x.1 x.2.1 x.2.2.1 x.2.2.2.1 x.2.2.2.2.2.1 x.2.2.2.2.2.2.1 x.2.2.2.2.2.2.2.1 x.2.2.2.2.2.2.2.2.1 x.2.2.2.2.2.2.2.2.2.1 x.2.2.2.2.2.2.2.2.2.2.1 y.1 h).trans q
theorem QUd:LO Wq QrA QFT 4:=QN (s:=QcN) fun x y h _ q=>by simp only [QJ,QK] at q;exact (l_f7_4 x.1 x.2.1 x.2.2.1 x.2.2.2.1 x.2.2.2.2.1 x.2.2.2.2.2.1 x.2.2.2.2.2.2.1 h).trans q
theorem lk_f7:FY.lok Wq:=by
 repeat (first|exact trivial|exact QT9|exact QUa|exact QUb|exact QUc|exact QUd|refine ⟨?_, ?_⟩)
theorem s_f7 (p0:List Int)(a b c k:Int):QrI p0 a b c k=some (.t .bool (allL p0 a b c k),[]):=by
 unfold QrI
 refine Jp (fun _=>rfl) (fun k1=> ?_)
 have k1:EI p0=true:=by simpa using k1
 have hd:=QPw k1
 refine brY hd (brY (QFN hd) ?_)
 rw [Jt]
 unfold QrH
 generalize Gd p0=d at hd
 have hI:=mvF_I (QFN hd)
 have h1:(mvV (Yg d) (JD d)).length<=7:=hI.1
 have h2:(mvV (Yg d) (JD d)).all WG=true:=hI.2.1
 have h3:dOk (mvN (Yg d) (JD d))=true:=hI.2.2
 have g1:Qjm (mvN (Yg d) (JD d)) (Qc (mvV (Yg d) (JD d)))=true:=Bf.2 ⟨h3,Bd (by simp only [Qc];omega)⟩
 have hs:(FZ (mvN (Yg d) (JD d)) (Qc (mvV (Yg d) (JD d)))).length<=20000:=by
  have:=QGB (Qc (mvV (Yg d) (JD d))).toNat 0 ([],mvN (Yg d) (JD d))
  unfold FZ
  simp only [Qc,Bb,Bw,Nat.zero_add] at this ⊢
  omega
 have g2:Ok (JD d) (mvV (Yg d) (JD d)) (FZ (mvN (Yg d) (JD d)) (Qc (mvV (Yg d) (JD d))))=true:=by
  unfold Ok
  rw [snd_st d,h2,Bd hs]
  rfl
 have g3:dOk (Qc1 (mvN (Yg d) (JD d)) (Qc (mvV (Yg d) (JD d))))=true:=QGC _ _ _ h3
 have l2:=(Qso (QOV g2) (by decide)).1
 have l3:=(mk_ok g3).2
 have l1:=(QuV d).2
 refine brY g1 (brY g2 (brY g3 (brY ?_ ?_)))
 ·exact Bf.2 ⟨Jy (by simp),Bf.2 ⟨l1,Bf.2 ⟨l2,Bf.2 ⟨l3,rfl⟩⟩⟩⟩
 ·rw [Qi]
  rfl
def sp_f7:Ent:=Qq (.pr (.sl tI) (.pr tI (.pr tI (.pr tI (.pr tI .nil))))) (fun x=>true) (fun x=>(.t .bool (allL x.1 x.2.1 x.2.2.1 x.2.2.2.1 x.2.2.2.2.1)))
theorem ms_f7:QQ Tryz.prog 7 (QP sp_f7):=Qu (R:=JR Wq FY rv_f7 false) (mG Tryz.func7 (by kernel_rfl) Tryz.ntmps7 (by kernel_rfl) gk_f7 lk_f7) fun x _=>(e_f7 x.1 x.2.1 x.2.2.1 x.2.2.2.1 x.2.2.2.2.1).trans (s_f7 x.1 x.2.1 x.2.2.1 x.2.2.2.1 x.2.2.2.2.1)
end
end Go.Proofs.YtckcgijklnloiaaGreat.K.PE
namespace Go.Proofs.YtckcgijklnloiaaGreat.K
open Go.RowKit PE
theorem walkConversationAll (z0:(List Int))(z1:Int)(z2:Int)(z3:Int)(z4:Int)(W:World)(v0:Value)(v1:Value)(v2:Value)(v3:Value)(v4:Value)(c0:C noX W (fun _=> .no) (V.t (.sl tI) z0).d v0)(c1:C noX W (fun _=> .no) (V.t tI z1).d v1)(c2:C noX W (fun _=> .no) (V.t tI z2).d v2)(c3:C noX W (fun _=> .no) (V.t tI z3).d v3)(c4:C noX W (fun _=> .no) (V.t tI z4).d v4)(w0:Ty.wf (.sl tI) z0)(w1:Ty.wf tI z1)(w2:Ty.wf tI z2)(w3:Ty.wf tI z3)(w4:Ty.wf tI z4):
  Calls Tryz.prog 7 #[v0,v1,v2,v3,v4] W fun r w'=>r= .returned (.bool true)/\Below W.heap.size W w':=
 QNa (by decide) ms_f7 (args:=[.t (.sl tI) z0,.t tI z1,.t tI z2,.t tI z3,.t tI z4]) (QNb (x:=(z0,z1,z2,z3,z4,())) rfl (rfl)) (by simp only [V.ds,Cs];exact ⟨_,_,rfl,c0,_,_,rfl,c1,_,_,rfl,c2,_,_,rfl,c3,_,_,rfl,c4,rfl⟩)
end Go.Proofs.YtckcgijklnloiaaGreat.K
