import Derived.Test.YtmjnnemhoeolgaaGreatQ7
import Derived.Test.YtmjnnemhoeolgaaGreatQ3
import Derived.Test.YtmjnnemhoeolgaaGreatQ4
import Derived.RangeFuncCalls
import Derived.RangeFuncBound
import Derived.Shelf.RegionOpen
import Derived.OwnWalkIn
import Derived.TacticsInMore
import Derived.LoopNIn
import Derived.LoopIn
set_option linter.unusedSimpArgs false
set_option linter.unusedVariables false
noncomputable section
namespace Go.Proofs.YtmjnnemhoeolgaaGreat.K
open Go.RowKit
noncomputable section
def GM (x:Identity):Identity:=x
abbrev QbC:Sh:=⟨[(2,.ptr 2 0),(3,.ptr 3 0),(12,.ty (.sl QQ)),(13,.ty tI),(14,.ty tI)],[(2,.box QV),(3,.bag [.ty tI,.ty tI,.ty tI,.ms 20303]),(26,.no),(20303,.arr 149 QQ)]⟩
abbrev QFU:Sh:=⟨[(2,.ptr 2 0),(3,.ptr 3 0)],[(2,.box QV),(3,.bag [.ty tI,.ty tI,.ty tI,.ms 20303]),(26,.no),(20303,.arr 149 QQ)]⟩
def Qik:Fg:=QbC.f
def Qre:TC:=aF Tryz.f160 [(58,.nf 3 3 149 20303),(58,.nf 5 12 9 20512),(58,pL 0 Qik),(933,.fg ⟨[(2,none),(3,none)],[(2,some QV),(3,some QV),(26,none),(20303,none)]⟩)]
def Qrf:TC:=lb 0 Qre
def Qrg (x12:List Certificate)(x13 x14:Int)(y2:Identity)(y3_0 y3_1 y3_2:Int)(JT:List Certificate):VS:=QbC.st ((),(),x12,x13,x14,()) (y2,(y3_0,y3_1,y3_2,(),()),(),JT,())
def Qil (y2:Identity)(y3_0 y3_1 y3_2:Int)(JT:List Certificate):VS:=QFU.st ((),(),()) (y2,(y3_0,y3_1,y3_2,(),()),(),JT,())
def QFV:VS->Option (Bool×List (Bool×Exit×VS)):=mkL QbC (fun x y=>(QA x.2.2.1 x.2.2.2.1 x.2.2.2.2.1&&(Js x.2.2.1&&decide (y.2.2.2.1.length<=x.2.2.2.2.1)))) (fun x y=>[(true,.exit 0,Qil (y.1) (y.2.1.1) (y.2.1.2.1) (y.2.1.2.2.1) (y.2.2.2.1++x.2.2.1.drop x.2.2.2.2.1.toNat))])
def Qim:G:=gG 30 [] (Ls [QFV])
def QbD (x12:List Certificate)(x13 x14:Int)(y2:Identity)(y3_0 y3_1 y3_2:Int)(JT:List Certificate):OX:=Qr (Qv Qim Qik Qrf) (Qrg x12 x13 x14 y2 y3_0 y3_1 y3_2 JT)
def Oh (kk:List Certificate->Int->Int->Identity->Int->Int->Int->List Certificate->OX)(x12:List Certificate)(x13 x14:Int)(y2:Identity)(y3_0 y3_1 y3_2:Int)(JT:List Certificate):OX:=
 let a1:=((((lgt QQ x12 (Int.toNat x14)).2).2).2)
 let a2:=((lgt QQ x12 (Int.toNat x14)).1,(((lgt QQ x12 (Int.toNat x14)).2).1,((((lgt QQ x12 (Int.toNat x14)).2).2).1,(((a1.1).1,(((a1.1).2).1,())),((a1.2).1,(((((a1.2).2).1).1,(((((a1.2).2).1).2).1,())),((((a1.2).2).2).1,(((((a1.2).2).2).2).1,((((((a1.2).2).2).2).2).1,(((((((a1.2).2).2).2).2).2).1,((([]:List ByteArray)++((((((((a1.2).2).2).2).2).2).2).1)),(((((((((((a1.2).2).2).2).2).2).2).2).1).1,(((((((((((a1.2).2).2).2).2).2).2).2).1).2).1,())),()))))))))))))
 br (ilt x14 x13) (br (cIx x12 x14) (br (QM ([]:List ByteArray) ((((((((a1.2).2).2).2).2).2).2).1) 16) (br (QM JT ([a2]) 152) (kk x12 x13 (Qg .i64 x14 1) y2 y3_0 y3_1 y3_2 (JT++([a2]))) none) none) none) (some (.exit 0,Qil y2 y3_0 y3_1 y3_2 JT))
def QbE (x12:List Certificate)(x13 x14:Int)(y2:Identity)(y3_0 y3_1 y3_2:Int)(JT:List Certificate):OX:=some (.exit 0,Qil (y2) (y3_0) (y3_1) (y3_2) (JT++x12.drop x14.toNat))
theorem Qrh (x12:List Certificate)(x13 x14:Int)(y2:Identity)(y3_0 y3_1 y3_2:Int)(JT:List Certificate):QbD x12 x13 x14 y2 y3_0 y3_1 y3_2 JT=Oh QbD x12 x13 x14 y2 y3_0 y3_1 y3_2 JT:=lnT (x:=Oh (fun x12 x13 x14 y2 y3_0 y3_1 y3_2 JT=>some (.normal,Qrg x12 x13 x14 y2 y3_0 y3_1 y3_2 JT)) x12 x13 x14 y2 y3_0 y3_1 y3_2 JT) (by simp only [Oh,nxA];rfl)
def Qri (p0:Identity):OV:=br (QA p0.2.2.1 (Qa p0.2.2.1) (0:Int)&&(Js p0.2.2.1&&decide (([]:List Certificate).length<=(0:Int)))) (some (.t QV (((p0.1.1),((p0.1.2.1),())),((p0.2.1),((([]:List Certificate)++p0.2.2.1.drop (0:Int).toNat),()))),[])) none
theorem QFW (x12:List Certificate)(x13 x14:Int)(y2:Identity)(y3_0 y3_1 y3_2:Int)(JT:List Certificate)(h:(QA x12 x13 x14&&(Js x12&&decide (JT.length<=x14)))=true):QbD x12 x13 x14 y2 y3_0 y3_1 y3_2 JT=QbE x12 x13 x14 y2 y3_0 y3_1 y3_2 JT:=by
 simp only [Bb,Ba] at h
 obtain ⟨h0,hc,hl⟩:=h
 obtain ⟨rfl,h3,k,rfl,hk⟩:=JB h0
 clear h0
 revert JT
 refine QP x12 (fun k=> ∀ (JT:List Certificate),(JT.length:Int)<=(k:Int)->QbD x12 (x12.length:Int) (k:Int) y2 y3_0 y3_1 y3_2 JT=QbE x12 (x12.length:Int) (k:Int) y2 y3_0 y3_1 y3_2 JT) ?_ ?_ k hk
 ·intro JT _
  rw [Qrh]
  simp only [Oh,QbE,Qz,BT,B0,Qf,Bc,BK,BQ]
 ·intro k hk ih JT hl
  rw [Qrh]
  have c1:QM ([]:List ByteArray) (Qw x12[k]) 16=true:=Jk (by decide) (by have:=Qbr (QjG hc hk);simp only [BB];omega)
  have c2: ∀ v,QM JT [v] 152=true:=fun v=>Jk (by omega) (by simp only [Bq];omega)
  simp only [Oh,Qz,QJ,hk,Bt,Qb,Bc,QO (show k<4611686018427387904 by omega),QL (y:=QQ) hk]
  refine brY c1 (brY (Jk (by omega) (by simp only [Bq];omega)) ?_)
  refine Eq.trans (ih (JT++[x12[k]]) (by simp only [Bm,Bq];omega)) ?_
  simp only [QbE,Bc,Bi hk,BU,BN]
theorem QFX:LO Qim Qik Qrf 0:=QH (s:=QbC) fun x y h _ q=>by simp only [QE,QF] at q;exact (QFW x.2.2.1 x.2.2.2.1 x.2.2.2.2.1 y.1 y.2.1.1 y.2.1.2.1 y.2.1.2.2.1 y.2.2.2.1 h).trans q
theorem s_f160 (x:Identity)(h:Jo x=true):Qri x=some (.t QV (GM x),[]):=by
 have h:Js x.2.2.1=true:=h
 unfold Qri
 refine brY ?_ rfl
 rw [JC (OA h),h,BA,BA]
 exact Be (BV _)
def Qin:Ent:=Qi (.pr QV .nil) (fun x=>(Jo x.1)) (fun x=>(.t QV (GM x.1)))
theorem Qrj:EM 160 Qin:=mS (lk:=lkL (lkc QFX lkn)) Qim Qre [((.c 2 true 4),some QV)] false (gB gN) fun m=>Qm m fun x hok=>kT (s_f160 x.1 hok)
def JU (x:Endpoint):Endpoint:=x
abbrev QbF:Sh:=⟨[(2,.ptr 2 0),(3,.ptr 3 0),(21,.ty (.sl QV)),(22,.ty tI),(23,.ty tI)],[(2,.box Qo),(3,.bag [.ty .str,.ty tI,.ty tI,.ms 9,.ty .bool,.ms 20305,.ms 12,.ms 15,.ty .bool]),(9,.arr 3 tI),(12,.arr 3 tI),(15,.arr 3 tI),(32,.no),(20303,.no),(20305,.arr 67 QV),(20306,.no),(20307,.no)]⟩
abbrev QFY:Sh:=⟨[(2,.ptr 2 0),(3,.ptr 3 0)],[(2,.box Qo),(3,.bag [.ty .str,.ty tI,.ty tI,.ms 9,.ty .bool,.ms 20305,.ms 12,.ms 15,.ty .bool]),(9,.arr 3 tI),(12,.arr 3 tI),(15,.arr 3 tI),(32,.no),(20303,.no),(20305,.arr 67 QV),(20306,.no),(20307,.no)]⟩
def Qio:Fg:=QbF.f
def Qrk:TC:=aF Tryz.f120 [(14,pD [(0,[1]),(1,[1]),(2,[9,5009,10009,15009]),(3,[1]),(4,[1]),(5,[12,5012,10012,15012]),(6,[1]),(7,[1]),(8,[15,5015,10015,15015]),(9,[3,9,12,15,32,20303,20305,20306,20307]),(10,[2,3,9,12,15,32,20303,20305,20306,20307]),(11,[3,9,12,15,32,20303,20305,20306,20307]),(12,[2,3,9,12,15,32,20303,20305,20306,20307]),(13,[3,9,12,15,32,20303,20305,20306,20307]),(14,[2,3,9,12,15,32,20303,20305,20306,20307])] (.one 0 (.one 1 (.one 3 (.one 4 (.one 6 (.one 7 (.one 2 (.alt 5 (.alt 8 (.of [9,10,11,12,13,14]) (.of [9,8,10,11,12,13,14])) (.of [9,5,8,10,11,12,13,14])))))))))),(250,.nf 3 7 3 20307),(250,.nf 3 6 3 20306),(250,.nf 3 3 3 20303),(250,.nf 3 5 67 20305),(250,pL 0 Qio),(4005,.fg ⟨[(2,none),(3,none)],[(2,some Qo),(3,some Qo),(9,none),(12,none),(15,none),(32,none),(20303,none),(20305,none),(20306,none),(20307,none)]⟩),(16025,pD [(0,[3,9,12,15,32,20303,20305,20306,20307]),(1,[3,9,12,15,32,20303,20305,20306,20307]),(2,[5]),(3,[]),(4,[]),(5,[2,3,9,12,15,32,5032,10032,15032,20303,20305,20306,20307]),(6,[3,9,12,15,32,20303,20305,20306,20307]),(7,[2,3,9,12,15,32,20303,20305,20306,20307])] (.of [0,1,2,3,4,5,6,7]))]
def Qrl:TC:=lb 0 Qrk
def Qrm (x21:List Identity)(x22 x23:Int)(y2:Endpoint)(y3_0:ByteArray)(y3_1 y3_2:Int)(y3_4 y3_8:Bool)(y9 y12 y15:List Int)(J1:List Identity):VS:=QbF.st ((),(),x21,x22,x23,()) (y2,(y3_0,y3_1,y3_2,(),y3_4,(),(),(),y3_8,()),y9,y12,y15,(),(),J1,(),(),())
def Qip (y2:Endpoint)(y3_0:ByteArray)(y3_1 y3_2:Int)(y3_4 y3_8:Bool)(y9 y12 y15:List Int)(J1:List Identity):VS:=QFY.st ((),(),()) (y2,(y3_0,y3_1,y3_2,(),y3_4,(),(),(),y3_8,()),y9,y12,y15,(),(),J1,(),(),())
def QFZ:VS->Option (Bool×List (Bool×Exit×VS)):=mkL QbF (fun x y=>(QA x.2.2.1 x.2.2.2.1 x.2.2.2.2.1&&(x.2.2.1.all Jo&&decide (y.2.2.2.2.2.2.2.1.length<=x.2.2.2.2.1)))) (fun x y=>[(true,.exit 0,Qip (y.1) (y.2.1.1) (y.2.1.2.1) (y.2.1.2.2.1) (y.2.1.2.2.2.2.1) (y.2.1.2.2.2.2.2.2.2.2.1) (y.2.2.1) (y.2.2.2.1) (y.2.2.2.2.1) (y.2.2.2.2.2.2.2.1++x.2.2.1.drop x.2.2.2.2.1.toNat))])
def Qiq:G:=gG 36 [(160,Qin)] (Ls [QFZ])
def QbG (x21:List Identity)(x22 x23:Int)(y2:Endpoint)(y3_0:ByteArray)(y3_1 y3_2:Int)(y3_4 y3_8:Bool)(y9 y12 y15:List Int)(J1:List Identity):OX:=Qr (Qv Qiq Qio Qrl) (Qrm x21 x22 x23 y2 y3_0 y3_1 y3_2 y3_4 y3_8 y9 y12 y15 J1)
def Oi (kk:List Identity->Int->Int->Endpoint->ByteArray->Int->Int->Bool->Bool->List Int->List Int->List Int->List Identity->OX)(x21:List Identity)(x22 x23:Int)(y2:Endpoint)(y3_0:ByteArray)(y3_1 y3_2:Int)(y3_4 y3_8:Bool)(y9 y12 y15:List Int)(J1:List Identity):OX:=
 let a1:=GM (lgt QV x21 (Int.toNat x23))
 let a2:=(((a1.1).1,(((a1.1).2).1,())),((a1.2).1,(((a1.2).2).1,())))
 br (ilt x23 x22) (br (cIx x21 x23) (br (Jo (lgt QV x21 (Int.toNat x23))) (br (QM J1 ([a2]) 48) (kk x21 x22 (Qg .i64 x23 1) y2 y3_0 y3_1 y3_2 y3_4 y3_8 y9 y12 y15 (J1++([a2]))) none) none) none) (some (.exit 0,Qip y2 y3_0 y3_1 y3_2 y3_4 y3_8 y9 y12 y15 J1))
def QbH (x21:List Identity)(x22 x23:Int)(y2:Endpoint)(y3_0:ByteArray)(y3_1 y3_2:Int)(y3_4 y3_8:Bool)(y9 y12 y15:List Int)(J1:List Identity):OX:=some (.exit 0,Qip (y2) (y3_0) (y3_1) (y3_2) (y3_4) (y3_8) (y9) (y12) (y15) (J1++x21.drop x23.toNat))
theorem Qrn (x21:List Identity)(x22 x23:Int)(y2:Endpoint)(y3_0:ByteArray)(y3_1 y3_2:Int)(y3_4 y3_8:Bool)(y9 y12 y15:List Int)(J1:List Identity):QbG x21 x22 x23 y2 y3_0 y3_1 y3_2 y3_4 y3_8 y9 y12 y15 J1=Oi QbG x21 x22 x23 y2 y3_0 y3_1 y3_2 y3_4 y3_8 y9 y12 y15 J1:=lnT (x:=Oi (fun x21 x22 x23 y2 y3_0 y3_1 y3_2 y3_4 y3_8 y9 y12 y15 J1=>some (.normal,Qrm x21 x22 x23 y2 y3_0 y3_1 y3_2 y3_4 y3_8 y9 y12 y15 J1)) x21 x22 x23 y2 y3_0 y3_1 y3_2 y3_4 y3_8 y9 y12 y15 J1) (by simp only [Oi,nxA];rfl)
def QbI (p0:Endpoint):OV:=br (QM ([]:List Int) p0.2.2.2.2.2.2.2.1 8) (br (QA p0.2.2.2.2.2.1 (Qa p0.2.2.2.2.2.1) (0:Int)&&(p0.2.2.2.2.2.1.all Jo&&decide (([]:List Identity).length<=(0:Int)))) (some (.t Qo ((p0.1),((p0.2.1),((p0.2.2.1),((([]:List Int)++p0.2.2.2.1),((p0.2.2.2.2.1),((([]:List Identity)++p0.2.2.2.2.2.1.drop (0:Int).toNat),((([]:List Int)++p0.2.2.2.2.2.2.1),((([]:List Int)++p0.2.2.2.2.2.2.2.1),((p0.2.2.2.2.2.2.2.2.1),()))))))))),[])) none) none
def Qro (p0:Endpoint):OV:=
 let a1:=(QM ([]:List Int) p0.2.2.2.2.2.2.1 8)
 br (QM ([]:List Int) p0.2.2.2.1 8) (frk (br a1 (frk (QbI p0) (QbI p0)) none) (br a1 (QbI p0) none)) none
theorem QF0 (x21:List Identity)(x22 x23:Int)(y2:Endpoint)(y3_0:ByteArray)(y3_1 y3_2:Int)(y3_4 y3_8:Bool)(y9 y12 y15:List Int)(J1:List Identity)(h:(QA x21 x22 x23&&(x21.all Jo&&decide (J1.length<=x23)))=true):QbG x21 x22 x23 y2 y3_0 y3_1 y3_2 y3_4 y3_8 y9 y12 y15 J1=QbH x21 x22 x23 y2 y3_0 y3_1 y3_2 y3_4 y3_8 y9 y12 y15 J1:=by
 simp only [Bb,Ba] at h
 obtain ⟨h0,hc,hl⟩:=h
 obtain ⟨rfl,h3,k,rfl,hk⟩:=JB h0
 clear h0
 revert J1
 refine QP x21 (fun k=> ∀ (J1:List Identity),(J1.length:Int)<=(k:Int)->QbG x21 (x21.length:Int) (k:Int) y2 y3_0 y3_1 y3_2 y3_4 y3_8 y9 y12 y15 J1=QbH x21 (x21.length:Int) (k:Int) y2 y3_0 y3_1 y3_2 y3_4 y3_8 y9 y12 y15 J1) ?_ ?_ k hk
 ·intro J1 _
  rw [Qrn]
  simp only [Oi,QbH,Qz,BT,B0,Qf,Bc,BK,BQ]
 ·intro k hk ih J1 hl
  rw [Qrn]
  have c1:Jo x21[k]=true:=Bf.1 hc _ (Bw hk)
  simp only [Oi,Qz,QJ,hk,Bt,Qb,Bc,QO (show k<4611686018427387904 by omega),QL (y:=QV) hk,c1]
  refine brY (Jk (by omega) (by simp only [Bq];omega)) ?_
  refine Eq.trans (ih (J1++[x21[k]]) (by simp only [Bm,Bq];omega)) ?_
  simp only [QbH,Bc,Bi hk,BU,BN]
theorem QF1:LO Qiq Qio Qrl 0:=QH (s:=QbF) fun x y h _ q=>by simp only [QE,QF] at q;exact (QF0 x.2.2.1 x.2.2.2.1 x.2.2.2.2.1 y.1 y.2.1.1 y.2.1.2.1 y.2.1.2.2.1 y.2.1.2.2.2.2.1 y.2.1.2.2.2.2.2.2.2.2.1 y.2.2.1 y.2.2.2.1 y.2.2.2.2.1 y.2.2.2.2.2.2.2.1 h).trans q
theorem s_f120 (x:Endpoint)(h:QS x=true):Qro x=some (.t Qo (JU x),[]):=by
 obtain ⟨_,h1,h2,h3,h4,h5⟩:=XT h
 have c1:QM ([]:List Int) (Qq x) 8=true:=Jk (by decide) (by simp only [BB];omega)
 have c2:QM ([]:List Int) (Q7 x) 8=true:=Jk (by decide) (by simp only [BB];omega)
 have c3:QM ([]:List Int) (Ja x) 8=true:=Jk (by decide) (by simp only [BB];omega)
 simp only [Qro,QbI,Yk,Yk]
 refine brY c1 (brY c2 (brY c3 (brY ?_ rfl)))
 rw [JC h2,h5,BA,BA]
 exact Be (BV _)
def Qir:Ent:=Qi (.pr Qo .nil) (fun x=>(QS x.1)) (fun x=>(.t Qo (JU x.1)))
theorem Qrp:EM 120 Qir:=mS (lk:=lkL (lkc QF1 lkn)) Qiq Qrk [((.c 2 true 9),some Qo)] false (gB (gD Qrj gN)) fun m=>Qm m fun x hok=>kT (s_f120 x.1 hok)
def Wk (x:Estate):Estate:=x
def GN (i:Item):Bool:=decide (i.2.2.2.1.length<=1000)
def QbJ (x:Estate):Bool:=JN x&&(ZB x).all GN
abbrev QbK:Sh:=⟨[(1,.ptr 1 0),(2,.ptr 2 0),(3,.ptr 3 0),(13,.ty (.sl Qo)),(14,.ty tI),(15,.ty tI)],[(1,.box Qx),(2,.box Qx),(3,.bag [.ms 20300,.ms 10,.ms 20302]),(10,.arr 47 Qd),(24,.no),(42,.no),(20300,.arr 61 Qo),(20302,.arr 106 Jl)]⟩
abbrev QF2:Sh:=⟨[(1,.ptr 1 0),(2,.ptr 2 0),(3,.ptr 3 0)],[(1,.box Qx),(2,.box Qx),(3,.bag [.ms 20300,.ms 10,.ms 20302]),(10,.arr 47 Qd),(24,.no),(42,.no),(20300,.arr 61 Qo),(20302,.arr 106 Jl)]⟩
abbrev QbL:Sh:=⟨[(2,.ptr 2 0),(3,.ptr 3 0),(28,.ty (.sl Jl)),(29,.ty tI),(30,.ty tI)],[(2,.box Qx),(3,.bag [.ms 20300,.ms 10,.ms 20302]),(10,.arr 47 Qd),(24,.no),(42,.no),(20300,.arr 61 Qo),(20302,.arr 106 Jl)]⟩
abbrev QF3:Sh:=⟨[(2,.ptr 2 0),(3,.ptr 3 0)],[(2,.box Qx),(3,.bag [.ms 20300,.ms 10,.ms 20302]),(10,.arr 47 Qd),(24,.no),(42,.no),(20300,.arr 61 Qo),(20302,.arr 106 Jl)]⟩
def Qis:Fg:=QbK.f
def Qit:Fg:=QbL.f
def Qiu:TC:=aF Tryz.f71 [(58,.nf 3 2 106 20302),(58,.nf 3 0 61 20300),(58,pL 0 Qis),(933,.fg ⟨[(1,none),(2,none),(3,none)],[(1,some Qx),(2,some Qx),(3,some Qx),(10,none),(24,none),(42,none),(20300,none),(20302,none)]⟩),(3737,pD [(0,[3,10,24,42,20300,20302]),(1,[3,10,24,42,20300,20302]),(2,[5]),(3,[]),(4,[]),(5,[2,3,10,24,42,5024,10024,15024,20300,20302]),(6,[3,10,24,42,20300,20302]),(7,[2,3,10,24,42,20300,20302])] (.of [0,1,2,3,4,5,6,7])),(122,.nf 3 0 61 20300),(122,.nf 3 2 106 20302),(122,.nf 7 3 153 20703),(122,pL 1 Qit),(1957,.fg ⟨[(2,none),(3,none)],[(2,some Qx),(3,some Qx),(10,none),(24,none),(42,none),(20300,none),(20302,none)]⟩)]
def Qrq:TC:=lb 0 Qiu
def Qrr:TC:=lb 1 Qiu
def Qrs (x13:List Endpoint)(x14 x15:Int)(y1 y2:Estate)(y10:List Keep)(Qk:List Endpoint)(Ql:List Item):VS:=QbK.st ((),(),(),x13,x14,x15,()) (y1,y2,((),(),(),()),y10,(),(),Qk,Ql,())
def Qiv (y1 y2:Estate)(y10:List Keep)(Qk:List Endpoint)(Ql:List Item):VS:=QF2.st ((),(),(),()) (y1,y2,((),(),(),()),y10,(),(),Qk,Ql,())
def Qrt (x28:List Item)(x29 x30:Int)(y2:Estate)(y10:List Keep)(Qk:List Endpoint)(Ql:List Item):VS:=QbL.st ((),(),x28,x29,x30,()) (y2,((),(),(),()),y10,(),(),Qk,Ql,())
def Qiw (y2:Estate)(y10:List Keep)(Qk:List Endpoint)(Ql:List Item):VS:=QF3.st ((),(),()) (y2,((),(),(),()),y10,(),(),Qk,Ql,())
def QF4:VS->Option (Bool×List (Bool×Exit×VS)):=mkL QbK (fun x y=>(QA x.2.2.2.1 x.2.2.2.2.1 x.2.2.2.2.2.1&&(x.2.2.2.1.all QS&&decide (y.2.2.2.2.2.2.1.length<=x.2.2.2.2.2.1)))) (fun x y=>[(true,.exit 0,Qiv (y.1) (y.2.1) (y.2.2.2.1) (y.2.2.2.2.2.2.1++x.2.2.2.1.drop x.2.2.2.2.2.1.toNat) (y.2.2.2.2.2.2.2.1))])
def QF5:VS->Option (Bool×List (Bool×Exit×VS)):=mkL QbL (fun x y=>(QA x.2.2.1 x.2.2.2.1 x.2.2.2.2.1&&(x.2.2.1.all GN&&decide (y.2.2.2.2.2.2.1.length<=x.2.2.2.2.1)))) (fun x y=>[(true,.exit 2,Qiw (y.1) (y.2.2.1) (y.2.2.2.2.2.1) (y.2.2.2.2.2.2.1++x.2.2.1.drop x.2.2.2.2.1.toNat))])
def Oj:G:=gG 46 [(120,Qir)] (Ls [QF4,QF5])
def QbM (x13:List Endpoint)(x14 x15:Int)(y1 y2:Estate)(y10:List Keep)(Qk:List Endpoint)(Ql:List Item):OX:=Qr (Qv Oj Qis Qrq) (Qrs x13 x14 x15 y1 y2 y10 Qk Ql)
def Ok (kk:List Endpoint->Int->Int->Estate->Estate->List Keep->List Endpoint->List Item->OX)(x13:List Endpoint)(x14 x15:Int)(y1 y2:Estate)(y10:List Keep)(Qk:List Endpoint)(Ql:List Item):OX:=
 let a1:=JU (lgt Qo x13 (Int.toNat x15))
 let a2:=((a1.2).1,(((a1.2).2).1,((((a1.2).2).2).1,(((((a1.2).2).2).2).1,((((((a1.2).2).2).2).2).1,(((((((a1.2).2).2).2).2).2).1,((((((((a1.2).2).2).2).2).2).2).1,(((((((((a1.2).2).2).2).2).2).2).2).1,()))))))))
 br (ilt x15 x14) (br (cIx x13 x15) (br (QS (lgt Qo x13 (Int.toNat x15))) (br (QM Qk ([(a1.1,a2)]) 144) (kk x13 x14 (Qg .i64 x15 1) y1 y2 y10 (Qk++([(a1.1,a2)])) Ql) none) none) none) (some (.exit 0,Qiv y1 y2 y10 Qk Ql))
def QbN (x13:List Endpoint)(x14 x15:Int)(y1 y2:Estate)(y10:List Keep)(Qk:List Endpoint)(Ql:List Item):OX:=some (.exit 0,Qiv (y1) (y2) (y10) (Qk++x13.drop x15.toNat) (Ql))
theorem Qru (x13:List Endpoint)(x14 x15:Int)(y1 y2:Estate)(y10:List Keep)(Qk:List Endpoint)(Ql:List Item):QbM x13 x14 x15 y1 y2 y10 Qk Ql=Ok QbM x13 x14 x15 y1 y2 y10 Qk Ql:=lnT (x:=Ok (fun x13 x14 x15 y1 y2 y10 Qk Ql=>some (.normal,Qrs x13 x14 x15 y1 y2 y10 Qk Ql)) x13 x14 x15 y1 y2 y10 Qk Ql) (by simp only [Ok,nxA];rfl)
def QbO (x28:List Item)(x29 x30:Int)(y2:Estate)(y10:List Keep)(Qk:List Endpoint)(Ql:List Item):OX:=Qr (Qv Oj Qit Qrr) (Qrt x28 x29 x30 y2 y10 Qk Ql)
def Ol (kk:List Item->Int->Int->Estate->List Keep->List Endpoint->List Item->OX)(x28:List Item)(x29 x30:Int)(y2:Estate)(y10:List Keep)(Qk:List Endpoint)(Ql:List Item):OX:=
 let a1:=lgt Jl x28 (Int.toNat x30)
 let a2:=(((a1.2).2).2)
 br (ilt x30 x29) (br (cIx x28 x30) (br (QM ([]:List Link) (a2.1) 24) (br (QM Ql ([(a1.1,((a1.2).1,(((a1.2).2).1,((([]:List Link)++(a2.1)),((a2.2).1,())))))]) 64) (kk x28 x29 (Qg .i64 x30 1) y2 y10 Qk (Ql++([(a1.1,((a1.2).1,(((a1.2).2).1,((([]:List Link)++(a2.1)),((a2.2).1,())))))]))) none) none) none) (some (.exit 2,Qiw y2 y10 Qk Ql))
def QbP (x28:List Item)(x29 x30:Int)(y2:Estate)(y10:List Keep)(Qk:List Endpoint)(Ql:List Item):OX:=some (.exit 2,Qiw (y2) (y10) (Qk) (Ql++x28.drop x30.toNat))
theorem Qrv (x28:List Item)(x29 x30:Int)(y2:Estate)(y10:List Keep)(Qk:List Endpoint)(Ql:List Item):QbO x28 x29 x30 y2 y10 Qk Ql=Ol QbO x28 x29 x30 y2 y10 Qk Ql:=lnT (x:=Ol (fun x28 x29 x30 y2 y10 Qk Ql=>some (.normal,Qrt x28 x29 x30 y2 y10 Qk Ql)) x28 x29 x30 y2 y10 Qk Ql) (by simp only [Ol,nxA];rfl)
def r_f71 (p0:Estate):OV:=
 let a1:=((((p0).2).2).1)
 br (QM ([]:List Keep) p0.2.1 16) (br (QA p0.1 (Qa p0.1) (0:Int)&&(p0.1.all QS&&decide (([]:List Endpoint).length<=(0:Int)))) (br (QA a1 (Qa a1) (0:Int)&&(a1.all GN&&decide (([]:List Item).length<=(0:Int)))) (some (.ag [(.ms 50000),(.ms 50001),(.ms 50002)],[.arr 61 Qo (([]:List Endpoint)++p0.1.drop (0:Int).toNat),.arr 47 Qd (([]:List Keep)++p0.2.1),.arr 106 Jl (([]:List Item)++a1.drop (0:Int).toNat)])) none) none) none
theorem QF6 (x13:List Endpoint)(x14 x15:Int)(y1 y2:Estate)(y10:List Keep)(Qk:List Endpoint)(Ql:List Item)(h:(QA x13 x14 x15&&(x13.all QS&&decide (Qk.length<=x15)))=true):QbM x13 x14 x15 y1 y2 y10 Qk Ql=QbN x13 x14 x15 y1 y2 y10 Qk Ql:=by
 simp only [Bb,Ba] at h
 obtain ⟨h0,hc,hl⟩:=h
 obtain ⟨rfl,h3,k,rfl,hk⟩:=JB h0
 clear h0
 revert Qk
 refine QP x13 (fun k=> ∀ (Qk:List Endpoint),(Qk.length:Int)<=(k:Int)->QbM x13 (x13.length:Int) (k:Int) y1 y2 y10 Qk Ql=QbN x13 (x13.length:Int) (k:Int) y1 y2 y10 Qk Ql) ?_ ?_ k hk
 ·intro Qk _
  rw [Qru]
  simp only [Ok,QbN,Qz,BT,B0,Qf,Bc,BK,BQ]
 ·intro k hk ih Qk hl
  rw [Qru]
  have c1:QS x13[k]=true:=Bf.1 hc _ (Bw hk)
  simp only [Ok,Qz,QJ,hk,Bt,Qb,Bc,QO (show k<4611686018427387904 by omega),QL (y:=Qo) hk,c1]
  refine brY (Jk (by omega) (by simp only [Bq];omega)) ?_
  refine Eq.trans (ih (Qk++[x13[k]]) (by simp only [Bm,Bq];omega)) ?_
  simp only [QbN,Bc,Bi hk,BU,BN]
theorem QF7 (x28:List Item)(x29 x30:Int)(y2:Estate)(y10:List Keep)(Qk:List Endpoint)(Ql:List Item)(h:(QA x28 x29 x30&&(x28.all GN&&decide (Ql.length<=x30)))=true):QbO x28 x29 x30 y2 y10 Qk Ql=QbP x28 x29 x30 y2 y10 Qk Ql:=by
 simp only [Bb,Ba] at h
 obtain ⟨h0,hc,hl⟩:=h
 obtain ⟨rfl,h3,k,rfl,hk⟩:=JB h0
 clear h0
 revert Ql
 refine QP x28 (fun k=> ∀ (Ql:List Item),(Ql.length:Int)<=(k:Int)->QbO x28 (x28.length:Int) (k:Int) y2 y10 Qk Ql=QbP x28 (x28.length:Int) (k:Int) y2 y10 Qk Ql) ?_ ?_ k hk
 ·intro Ql _
  rw [Qrv]
  simp only [Ol,QbP,Qz,BT,B0,Qf,Bc,BK,BQ]
 ·intro k hk ih Ql hl
  rw [Qrv]
  have c1:x28[k].2.2.2.1.length<=1000:=Bx (Bf.1 hc _ (Bw hk))
  simp only [Ol,Qz,QJ,hk,Bt,Qb,Bc,QO (show k<4611686018427387904 by omega),QL (y:=Jl) hk]
  refine brY (Jk (by decide) (by simp only [BB];omega)) (brY (Jk (by omega) (by simp only [Bq];omega)) ?_)
  refine Eq.trans (ih (Ql++[x28[k]]) (by simp only [Bm,Bq];omega)) ?_
  simp only [QbP,Bc,Bi hk,BU,BN]
theorem QF8:LO Oj Qis Qrq 0:=QH (s:=QbK) fun x y h _ q=>by simp only [QE,QF] at q;exact (QF6 x.2.2.2.1 x.2.2.2.2.1 x.2.2.2.2.2.1 y.1 y.2.1 y.2.2.2.1 y.2.2.2.2.2.2.1 y.2.2.2.2.2.2.2.1 h).trans q
theorem QF9:LO Oj Qit Qrr 1:=QH (s:=QbL) fun x y h _ q=>by simp only [QE,QF] at q;exact (QF7 x.2.2.1 x.2.2.2.1 x.2.2.2.2.1 y.1 y.2.2.1 y.2.2.2.2.2.1 y.2.2.2.2.2.2.1 h).trans q
theorem s_f71 (x:Estate)(h:QbJ x=true):r_f71 x=some (.ag [.ms 50000,.ms 50001,.ms 50002],[.arr 61 Qo (Wk x).1,.arr 47 Qd (Wk x).2.1,.arr 106 Jl (Wk x).2.2.1]):=by
 obtain ⟨h,h6⟩:=Bg.1 h
 simp only [JN,Bb,Ba] at h
 obtain ⟨⟨h1,h2⟩,h3,h4⟩:=h
 have h5:=QEv h4
 unfold r_f71
 have hx:x.2.1.length<=99999:=h2
 refine brY (Jk (by decide) (by simp only [BB];omega)) (brY ?_ (brY ?_ rfl))
 ·rw [JC (show (Qt x).length<=100000 by omega),h3,BA,BA]
  exact Be (BV _)
 ·rw [JC h5,h6,BA,BA]
  exact Be (BV _)
def Qrw:Ent:=Uk (.pr Qx .nil) (fun x=>(QbJ x.1)) (fun x=>(.ag [(.ms 50000),(.ms 50001),(.ms 50002)])) (fun x=>[.arr 61 Qo ((Wk x.1).1),.arr 47 Qd (((Wk x.1).2).1),.arr 106 Jl ((((Wk x.1).2).2).1)])
theorem ms_f71:EM 71 Qrw:=mS (lk:=lkL (lkc QF8 (lkc QF9 lkn))) Oj Qiu [((.c 2 true 3),none)] true (gB (gD Qrp gN)) fun m=>Qkh m fun x hok=>kT (s_f71 x.1 hok)
end
end Go.Proofs.YtmjnnemhoeolgaaGreat.K
noncomputable section
namespace Go.Proofs.YtmjnnemhoeolgaaGreat.K
open Go.RowKit
noncomputable section
def noAn (e:Endpoint):Endpoint:=(e.1,(e.2.1,(e.2.2.1,(e.2.2.2.1,(e.2.2.2.2.1,(e.2.2.2.2.2.1,(([]:List Int),e.2.2.2.2.2.2.2)))))))
def an (b:Bool)(e:Endpoint):Endpoint:=bif b then noAn e else e
theorem Qe7 (d:Dice){j:Nat}(hj:j<(Qt (QD d)).length):GL (Jb (Qt (QD d)) j):=by
 rw [show Jb (Qt (QD d)) j=(Qt (QD d))[j] by simp only [Jb,Bk,Bh hj,BH]]
 exact Qqx d _ (Bw hj)
end
end Go.Proofs.YtmjnnemhoeolgaaGreat.K
noncomputable section
namespace Go.Proofs.YtmjnnemhoeolgaaGreat.K.PE
open Go.RowKit
noncomputable section
attribute [local irreducible] epV epN
open Classical in
end
end Go.Proofs.YtmjnnemhoeolgaaGreat.K.PE
namespace Go.Proofs.YtmjnnemhoeolgaaGreat.K
open Go.RowKit PE
end Go.Proofs.YtmjnnemhoeolgaaGreat.K
noncomputable section
namespace Go.Proofs.YtmjnnemhoeolgaaGreat.K
open Go.RowKit
noncomputable section
theorem brF {c v:Bool}{X:OV}(h:X=some (.t .bool v,[])):br c (some (.t .bool false,[])) X=some (.t .bool (!c&&v),[]):=by
 subst h
 cases c<;>rfl
def Uh (a b:List ByteArray)(k:Nat):Bool:=(List.range' k (a.length-k)).all fun j=> !sne (a.getD j ByteArray.empty) (b.getD j ByteArray.empty)
def GW (a b:Certificate):Bool:=
 !ine a.1 b.1&&(!sne a.2.1 b.2.1&&(!sne a.2.2.1 b.2.2.1&&(!(!(and (ieq a.2.2.2.1.1 b.2.2.2.1.1) (and (ieq a.2.2.2.1.2.1 b.2.2.2.1.2.1) true)))&&(!ine a.2.2.2.2.1 b.2.2.2.2.1&&(!(!(and (ieq a.2.2.2.2.2.1.1 b.2.2.2.2.2.1.1) (and (ieq a.2.2.2.2.2.1.2.1 b.2.2.2.2.2.1.2.1) true)))&&
 (!ine a.2.2.2.2.2.2.1 b.2.2.2.2.2.2.1&&(!ine a.2.2.2.2.2.2.2.1 b.2.2.2.2.2.2.2.1&&(!Gg a.2.2.2.2.2.2.2.2.1 b.2.2.2.2.2.2.2.2.1&&(!ine a.2.2.2.2.2.2.2.2.2.1 b.2.2.2.2.2.2.2.2.2.1&&(!(!(and (ieq a.2.2.2.2.2.2.2.2.2.2.2.1.1 b.2.2.2.2.2.2.2.2.2.2.2.1.1) (and (ieq a.2.2.2.2.2.2.2.2.2.2.2.1.2.1 b.2.2.2.2.2.2.2.2.2.2.2.1.2.1) true)))&&
 (!ine (Qa (Qw a)) (Qa (Qw b))&&Uh (Qw a) (Qw b) 0)))))))))))
def Qce (a _b:Certificate):Bool:=decide ((Qw a).length<=100000)
abbrev Qcf:Sh:=⟨[(2,.ptr 2 0),(3,.ptr 3 0),(92,.ty tI),(93,.ty tI)],[(2,.box QQ),(3,.box QQ)]⟩
abbrev Qjr:Sh:=⟨[(4,.ty .bool)],[]⟩
abbrev Ee:Sh:=⟨[],[]⟩
def Qjs:Fg:=Qcf.f
def QsW:TC:=aF Tryz.f213 [(58,pL 0 Qjs),(933,.fg Ee.f),(7474,pD [(0,[2]),(1,[2]),(2,[]),(3,[]),(4,[]),(5,[3]),(6,[3]),(7,[]),(8,[]),(9,[]),(10,[])] (.of [0,1,2,3,4,5,6,7,8,9,10])),(29901,.fg Qjr.f)]
def QsX:TC:=lb 0 QsW
def QsY (x92 x93:Int)(y2 y3:Certificate):VS:=Qcf.st ((),(),x92,x93,()) (y2,y3,())
def Ef (x4:Bool):VS:=Qjr.st (x4,()) ()
def Qjt  : VS:=Ee.st () ()
def QHl:VS->Option (Bool×List (Bool×Exit×VS)):=mkL Qcf (fun x y=>(decide (x.2.2.1=(Qw y.1).length/\0<=x.2.2.2.1/\x.2.2.2.1<=x.2.2.1/\(Qw y.1).length=(Qw y.2.1).length/\x.2.2.1<=100000))) (fun x y=>[((!Uh (Qw y.1) (Qw y.2.1) x.2.2.2.1.toNat),.ret,Ef (false)),(true,.exit 0,Qjt)])
def Qju:G:=gG 108 [] (Ls [QHl])
def Qcg (x92 x93:Int)(y2 y3:Certificate):OX:=Qr (Qv Qju Qjs QsX) (QsY x92 x93 y2 y3)
def Ow (kk:Int->Int->Certificate->Certificate->OX)(x92 x93:Int)(y2 y3:Certificate):OX:=br (ilt x93 x92) (br (cIx y2.2.2.2.2.2.2.2.2.2.2.1 x93) (br (cIx y3.2.2.2.2.2.2.2.2.2.2.1 x93) (br (sne (lgt .str y2.2.2.2.2.2.2.2.2.2.2.1 (Int.toNat x93)) (lgt .str y3.2.2.2.2.2.2.2.2.2.2.1 (Int.toNat x93))) (some (.ret,Ef false)) (kk x92 (Qg .i64 x93 1) y2 y3)) none) none) (some (.exit 0,Qjt))
def Qch (x92 x93:Int)(y2 y3:Certificate):OX:=br (!Uh (Qw y2) (Qw y3) x93.toNat) (some (.ret,Ef (false)))<|some (.exit 0,Qjt)
theorem QsZ (x92 x93:Int)(y2 y3:Certificate):Qcg x92 x93 y2 y3=Ow Qcg x92 x93 y2 y3:=lnT (x:=Ow (fun x92 x93 y2 y3=>some (.normal,QsY x92 x93 y2 y3)) x92 x93 y2 y3) (by simp only [Ow,nxA];rfl)
def Qs0 (p0 p1:Certificate):OV:=
 let a1:=Qa p0.2.2.2.2.2.2.2.2.2.2.1
 br (ine p0.1 p1.1) (some (.t .bool false,[])) (br (sne p0.2.1 p1.2.1) (some (.t .bool false,[])) (br (sne p0.2.2.1 p1.2.2.1) (some (.t .bool false,[])) (br (!(and (ieq p0.2.2.2.1.1 p1.2.2.2.1.1) (and (ieq p0.2.2.2.1.2.1 p1.2.2.2.1.2.1) true))) (some (.t .bool false,[])) (br (ine p0.2.2.2.2.1 p1.2.2.2.2.1) (some (.t .bool false,[])) (br (!(and (ieq p0.2.2.2.2.2.1.1 p1.2.2.2.2.2.1.1) (and (ieq p0.2.2.2.2.2.1.2.1 p1.2.2.2.2.2.1.2.1) true))) (some (.t .bool false,[])) (br (ine p0.2.2.2.2.2.2.1 p1.2.2.2.2.2.2.1) (some (.t .bool false,[])) (br (ine p0.2.2.2.2.2.2.2.1 p1.2.2.2.2.2.2.2.1) (some (.t .bool false,[])) (br (Gg p0.2.2.2.2.2.2.2.2.1 p1.2.2.2.2.2.2.2.2.1) (some (.t .bool false,[])) (br (ine p0.2.2.2.2.2.2.2.2.2.1 p1.2.2.2.2.2.2.2.2.2.1) (some (.t .bool false,[])) (br (!(and (ieq p0.2.2.2.2.2.2.2.2.2.2.2.1.1 p1.2.2.2.2.2.2.2.2.2.2.2.1.1) (and (ieq p0.2.2.2.2.2.2.2.2.2.2.2.1.2.1 p1.2.2.2.2.2.2.2.2.2.2.2.1.2.1) true))) (some (.t .bool false,[])) (br (ine a1 (Qa p1.2.2.2.2.2.2.2.2.2.2.1)) (some (.t .bool false,[])) (br (decide (a1=(Qw p0).length/\0<=(0:Int)/\(0:Int)<=a1/\(Qw p0).length=(Qw p1).length/\a1<=100000)) (br (!Uh (Qw p0) (Qw p1) (0:Int).toNat) (some (.t .bool (false),[])) (some (.t .bool true,[]))) none))))))))))))
theorem QHm (x92 x93:Int)(y2 y3:Certificate)(h:(decide (x92=(Qw y2).length/\0<=x93/\x93<=x92/\(Qw y2).length=(Qw y3).length/\x92<=100000))=true):Qcg x92 x93 y2 y3=Qch x92 x93 y2 y3:=by
 obtain ⟨rfl,h0,h1,h2,h3⟩:=Bx h
 obtain ⟨k,rfl⟩:=Bo h0
 refine QP (Qw y2) (fun k=>Qcg ((Qw y2).length:Int) (k:Int) y2 y3=Qch ((Qw y2).length:Int) (k:Int) y2 y3) ?_ ?_ k (by omega)
 ·rw [QsZ]
  simp only [Ow,Qch,Qz,BT,B0,Qf,Bc,Uh,DV]
  rfl
 ·intro k hk ih
  rw [QsZ]
  have hk2:k<(Qw y3).length:=by omega
  have e1:cIx (Qw y2) (k:Int)=true:=by rw [QJ];exact Be hk
  have e2:cIx (Qw y3) (k:Int)=true:=by rw [QJ];exact Be hk2
  have hs:Uh (Qw y2) (Qw y3) k=(!sne ((Qw y2).getD k ByteArray.empty) ((Qw y3).getD k ByteArray.empty)&&Uh (Qw y2) (Qw y3) (k+1)):=by
   have:(Qw y2).length-k=((Qw y2).length-(k+1))+1:=by omega
   unfold Uh
   rw [this,Dr,BW]
  simp only [Ow,Qz,hk,Bt,Qb,Bc,QO (show k<4611686018427387904 by omega),ih]
  refine brY e1 (brY e2 ?_)
  simp only [Qch,Bc,hs]
  show br (sne ((Qw y2).getD k ByteArray.empty) ((Qw y3).getD k ByteArray.empty)) _ _=_
  cases sne ((Qw y2).getD k ByteArray.empty) ((Qw y3).getD k ByteArray.empty)<;>rfl
theorem QHn:LO Qju Qjs QsX 0:=QH (s:=Qcf) fun x y h _ q=>by simp only [QE,QF] at q;exact (QHm x.2.2.1 x.2.2.2.1 y.1 y.2.1 h).trans q
theorem s_f213 (a b:Certificate)(h:Qce a b=true):Qs0 a b=some (.t .bool (GW a b),[]):=by
 have h:(Qw a).length<=100000:=Bx h
 unfold Qs0
 refine brF (brF (brF (brF (brF (brF (brF (brF (brF (brF (brF ?_))))))))))
 refine QX (fun g=> ?_) (fun g=> ?_)
 ·have g:ine (Qa (Qw a)) (Qa (Qw b))=true:=g
  rw [g]
  rfl
 ·have g:ine (Qa (Qw a)) (Qa (Qw b))=false:=g
  rw [g]
  have gl:(Qw a).length=(Qw b).length:=by
   simp only [ine,Qa,bne_eq_false_iff_eq] at g
   omega
  refine brY (Be ⟨rfl,BV _,by simp only [Qa];omega,gl,by show ((Qw a).length:Int)<=100000;omega⟩) ?_
  rw [Br]
  cases Uh (Qw a) (Qw b) 0<;>rfl
def Qs1:Ent:=Qi (.pr QQ (.pr QQ .nil)) (fun x=>(Qce x.1 x.2.1)) (fun x=>(.t .bool (GW x.1 x.2.1)))
theorem QHo:EM 213 Qs1:=mS (lk:=lkL (lkc QHn lkn)) Qju QsW [((.t 4),some .bool)] false (gB gN) fun m=>Qm m fun x hok=>kT (s_f213 x.1 x.2.1 hok)
def Ui (a b:List Certificate)(k:Nat):Bool:=(List.range' k (a.length-k)).all fun j=>GW (cAt a j) (cAt b j)
def Gc (a b:Identity):Bool:= !(!(and (ieq a.1.1 b.1.1) (and (ieq a.1.2.1 b.1.2.1) true)))&&(!ine a.2.1 b.2.1&&(!ine (Qa a.2.2.1) (Qa b.2.2.1)&&Ui a.2.2.1 b.2.2.1 0))
def Qjv (a b:Identity):Bool:=Jo a&&Jo b
abbrev Qci:Sh:=⟨[(2,.ptr 2 0),(3,.ptr 3 0),(29,.ty tI),(30,.ty tI)],[(2,.box QV),(3,.box QV)]⟩
def Qjw:Fg:=Qci.f
def Qs2:TC:=aF Tryz.f193 [(58,pL 0 Qjw),(933,.fg Ee.f),(7474,pD [(0,[2]),(1,[2]),(2,[]),(3,[]),(4,[]),(5,[3]),(6,[3]),(7,[]),(8,[]),(9,[]),(10,[]),(11,[])] (.of [0,1,2,3,4,5,6,7,8,9,10,11])),(29901,.fg Qjr.f)]
def Qs3:TC:=lb 0 Qs2
def Qs4 (x29 x30:Int)(y2 y3:Identity):VS:=Qci.st ((),(),x29,x30,()) (y2,y3,())
def Qjx  : VS:=Ee.st () ()
def QHp:VS->Option (Bool×List (Bool×Exit×VS)):=mkL Qci (fun x y=>(decide (x.2.2.1=y.1.2.2.1.length/\0<=x.2.2.2.1/\x.2.2.2.1<=x.2.2.1/\y.1.2.2.1.length=y.2.1.2.2.1.length/\x.2.2.1<=100000)&&(Js y.1.2.2.1&&Js y.2.1.2.2.1))) (fun x y=>[((!Ui y.1.2.2.1 y.2.1.2.2.1 x.2.2.2.1.toNat),.ret,Ef (false)),(true,.exit 0,Qjx)])
def Qjy:G:=gG 46 [(213,Qs1)] (Ls [QHp])
def Qcj (x29 x30:Int)(y2 y3:Identity):OX:=Qr (Qv Qjy Qjw Qs3) (Qs4 x29 x30 y2 y3)
def Ox (kk:Int->Int->Identity->Identity->OX)(x29 x30:Int)(y2 y3:Identity):OX:=
 let a1:=lgt QQ y2.2.2.1 (Int.toNat x30)
 let a2:=lgt QQ y3.2.2.1 (Int.toNat x30)
 br (ilt x30 x29) (br (cIx y2.2.2.1 x30) (br (cIx y3.2.2.1 x30) (br (Qce a1 a2) (br (!(GW a1 a2)) (some (.ret,Ef false)) (kk x29 (Qg .i64 x30 1) y2 y3)) none) none) none) (some (.exit 0,Qjx))
def Qck (x29 x30:Int)(y2 y3:Identity):OX:=br (!Ui y2.2.2.1 y3.2.2.1 x30.toNat) (some (.ret,Ef (false)))<|some (.exit 0,Qjx)
theorem Qs5 (x29 x30:Int)(y2 y3:Identity):Qcj x29 x30 y2 y3=Ox Qcj x29 x30 y2 y3:=lnT (x:=Ox (fun x29 x30 y2 y3=>some (.normal,Qs4 x29 x30 y2 y3)) x29 x30 y2 y3) (by simp only [Ox,nxA];rfl)
def Qs6 (p0 p1:Identity):OV:=
 let a1:=Qa p0.2.2.1
 br (!(and (ieq p0.1.1 p1.1.1) (and (ieq p0.1.2.1 p1.1.2.1) true))) (some (.t .bool false,[])) (br (ine p0.2.1 p1.2.1) (some (.t .bool false,[])) (br (ine a1 (Qa p1.2.2.1)) (some (.t .bool false,[])) (br (decide (a1=p0.2.2.1.length/\0<=(0:Int)/\(0:Int)<=a1/\p0.2.2.1.length=p1.2.2.1.length/\a1<=100000)&&(Js p0.2.2.1&&Js p1.2.2.1)) (br (!Ui p0.2.2.1 p1.2.2.1 (0:Int).toNat) (some (.t .bool (false),[])) (some (.t .bool true,[]))) none)))
theorem QHq (x29 x30:Int)(y2 y3:Identity)(h:(decide (x29=y2.2.2.1.length/\0<=x30/\x30<=x29/\y2.2.2.1.length=y3.2.2.1.length/\x29<=100000)&&(Js y2.2.2.1&&Js y3.2.2.1))=true):Qcj x29 x30 y2 y3=Qck x29 x30 y2 y3:=by
 simp only [Bb,Ba] at h
 obtain ⟨⟨rfl,h0,h1,h2,h3⟩,hc,hc2⟩:=h
 obtain ⟨k,rfl⟩:=Bo h0
 refine QP y2.2.2.1 (fun k=>Qcj (y2.2.2.1.length:Int) (k:Int) y2 y3=Qck (y2.2.2.1.length:Int) (k:Int) y2 y3) ?_ ?_ k (by omega)
 ·rw [Qs5]
  simp only [Ox,Qck,Qz,BT,B0,Qf,Bc,Ui,DV]
  rfl
 ·intro k hk ih
  rw [Qs5]
  have hk2:k<y3.2.2.1.length:=by omega
  have hs:Ui y2.2.2.1 y3.2.2.1 k=(GW (cAt y2.2.2.1 k) (cAt y3.2.2.1 k)&&Ui y2.2.2.1 y3.2.2.1 (k+1)):=by
   have:y2.2.2.1.length-k=(y2.2.2.1.length-(k+1))+1:=by omega
   unfold Ui
   rw [this,Dr,BW]
  have hq:Qce (cAt y2.2.2.1 k) (cAt y3.2.2.1 k)=true:=by
   rw [QjH hk]
   exact Be (Qbr (QjG hc hk))
  simp only [Ox,Qz,QJ,hk,hk2,Bt,Qb,Bc,QO (show k<4611686018427387904 by omega),ih]
  refine brY hq ?_
  simp only [Qck,Bc,hs]
  show br (!GW (cAt y2.2.2.1 k) (cAt y3.2.2.1 k)) _ _=_
  cases GW (cAt y2.2.2.1 k) (cAt y3.2.2.1 k)<;>rfl
theorem QHr:LO Qjy Qjw Qs3 0:=QH (s:=Qci) fun x y h _ q=>by simp only [QE,QF] at q;exact (QHq x.2.2.1 x.2.2.2.1 y.1 y.2.1 h).trans q
theorem s_f193 (a b:Identity)(h:Qjv a b=true):Qs6 a b=some (.t .bool (Gc a b),[]):=by
 obtain ⟨ha,hb⟩:=Bg.1 h
 have ha:Js a.2.2.1=true:=ha
 have hb:Js b.2.2.1=true:=hb
 have hl:=OA ha
 unfold Qs6
 refine brF (brF ?_)
 refine QX (fun g=> ?_) (fun g=> ?_)
 ·rw [g]
  rfl
 ·rw [g]
  have gl:a.2.2.1.length=b.2.2.1.length:=by
   simp only [ine,Qa,bne_eq_false_iff_eq] at g
   omega
  refine brY ?_ ?_
  ·rw [ha,hb,Be ⟨rfl,BV _,by simp only [Qa];omega,gl,by simp only [Qa];omega⟩]
   rfl
  ·rw [Br]
   cases Ui a.2.2.1 b.2.2.1 0<;>rfl
def Qs7:Ent:=Qi (.pr QV (.pr QV .nil)) (fun x=>(Qjv x.1 x.2.1)) (fun x=>(.t .bool (Gc x.1 x.2.1)))
theorem QHs:EM 193 Qs7:=mS (lk:=lkL (lkc QHr lkn)) Qjy Qs2 [((.t 4),some .bool)] false (gB (gD QHo gN)) fun m=>Qm m fun x hok=>kT (s_f193 x.1 x.2.1 hok)
def ZG (l:List Int)(n:Int):Int:=match Qs (fun y=>ieq y n) l with|some k=>(k:Int)|none=> -1
abbrev Qcl:Sh:=⟨[(1,.ty tI),(7,.ty (.sl tI)),(8,.ty tI),(9,.ty tI)],[]⟩
abbrev Qs8:Sh:=⟨[(4,.ty tI)],[]⟩
def Qjz:Fg:=Qcl.f
def Qs9:TC:=aF Tryz.f155 [(26,pL 0 Qjz),(421,.fg Ee.f),(13517,.fg Qs8.f)]
def Qta:TC:=lb 0 Qs9
def Qtb (x1:Int)(x7:List Int)(x8 x9:Int):VS:=Qcl.st (x1,x7,x8,x9,()) ()
def QjA (x4:Int):VS:=Qs8.st (x4,()) ()
def QjB  : VS:=Ee.st () ()
def QHt:VS->Option (Bool×List (Bool×Exit×VS)):=mkL Qcl (fun x y=>(QA x.2.1 x.2.2.1 x.2.2.2.1)) (fun x y=>[(((Qs (fun y=>ieq y x.1) (x.2.1.drop x.2.2.2.1.toNat)).isSome),.ret,QjA (x.2.2.2.1+((Qs (fun y=>ieq y x.1) (x.2.1.drop x.2.2.2.1.toNat)).getD 0:Nat))),(true,.exit 0,QjB)])
def QjC:G:=gG 19 [] (Ls [QHt])
def Qcm (x1:Int)(x7:List Int)(x8 x9:Int):OX:=Qr (Qv QjC Qjz Qta) (Qtb x1 x7 x8 x9)
def Oy (kk:Int->List Int->Int->Int->OX)(x1:Int)(x7:List Int)(x8 x9:Int):OX:=br (ilt x9 x8) (br (cIx x7 x9) (br (ieq (lgt tI x7 (Int.toNat x9)) x1) (some (.ret,QjA x9)) (kk x1 x7 x8 (Qg .i64 x9 1))) none) (some (.exit 0,QjB))
def Qcn (x1:Int)(x7:List Int)(x8 x9:Int):OX:=br ((Qs (fun y=>ieq y x1) (x7.drop x9.toNat)).isSome) (some (.ret,QjA (x9+((Qs (fun y=>ieq y x1) (x7.drop x9.toNat)).getD 0:Nat))))<|some (.exit 0,QjB)
theorem Qtc (x1:Int)(x7:List Int)(x8 x9:Int):Qcm x1 x7 x8 x9=Oy Qcm x1 x7 x8 x9:=lnT (x:=Oy (fun x1 x7 x8 x9=>some (.normal,Qtb x1 x7 x8 x9)) x1 x7 x8 x9) (by simp only [Oy,nxA];rfl)
def Qtd (p0:List Int)(p1:Int):OV:=
 let a1:=(p0.drop (0:Int).toNat)
 br (QA p0 (Qa p0) (0:Int)) (br ((Qs (fun y=>ieq y p1) a1).isSome) (some (.t tI ((0:Int)+((Qs (fun y=>ieq y p1) a1).getD 0:Nat)),[])) (some (.t tI (-1),[]))) none
theorem QHu (x1:Int)(x7:List Int)(x8 x9:Int)(h:(QA x7 x8 x9)=true):Qcm x1 x7 x8 x9=Qcn x1 x7 x8 x9:=by
 obtain ⟨rfl,h3,k,rfl,hk⟩:=JB h
 clear h
 refine QP x7 (fun k=>Qcm x1 x7 (x7.length:Int) (k:Int)=Qcn x1 x7 (x7.length:Int) (k:Int)) ?_ ?_ k hk
 ·rw [Qtc]
  simp [Oy,Qcn,Qz,Qf,Qs]
 ·intro k hk ih
  rw [Qtc]
  simp only [Oy,Qz,QJ,hk,Bt,Qb,Bc,QO (show k<4611686018427387904 by omega),ih,QL (y:=tI) hk]
  simp only [Qcn,Bc,Bi hk,Qs]
  cases h:(ieq x7[k] x1) with
  |true=>simp [Qb]
  |false=>
   simp only [Qf,BF,Dd]
   cases hq:Qs (fun y=>ieq y x1) (x7.drop (k+1)) with
   |none=>rfl
   |some j=>
    simp only [B3,B7,BH,Qb]
    congr 3
    omega
theorem QHv:LO QjC Qjz Qta 0:=QH (s:=Qcl) fun x y h _ q=>by simp only [QE,QF] at q;exact (QHu x.1 x.2.1 x.2.2.1 x.2.2.2.1 h).trans q
theorem s_f155 (l:List Int)(n:Int)(h:Jc l n=true):Qtd l n=some (.t tI (ZG l n),[]):=by
 have hl:l.length<=100000:=Bx h
 simp only [Qtd,JC hl,Qb,Br,By,ZG]
 cases Qs (fun y=>ieq y n) l<;>simp [Qb,Qf]
def QjD:Ent:=Qi (.pr (.sl tI) (.pr tI .nil)) (fun x=>(Jc x.1 x.2.1)) (fun x=>(.t tI (ZG x.1 x.2.1)))
theorem Qte:EM 155 QjD:=mS (lk:=lkL (lkc QHv lkn)) QjC Qs9 [((.t 4),some tI)] false (gB gN) fun m=>Qm m fun x hok=>kT (s_f155 x.1 x.2.1 hok)
def Eg (b:Bool):Int:=bif b then 1 else 0
def QHw:TC:=aF Tryz.f194 []
def g_f194:G:=gG 4 [] (fun _ _=>none)
def Qtf (p0:Bool):OV:=br (p0) (some (.t tI 1,[])) (some (.t tI 0,[]))
theorem s_f194 (b:Bool):Qtf b=some (.t tI (Eg b),[]):=by
 simp only [Qtf]
 cases b<;>rfl
def Qtg:Ent:=Qi (.pr .bool .nil) (fun x=>true) (fun x=>(.t tI (Eg x.1)))
theorem QHx:EM 194 Qtg:=mS g_f194 QHw [((.t 2),some tI)] false (gB gN) fun m=>Qm m fun x _=>kT (s_f194 x.1)
def Uj (e:Endpoint)(k:Int):Int×Bool:=bif ieq k 3 then (e.2.2.1,true) else bif ieq k 4 then (e.2.1,true) else bif ieq k 11 then (Eg e.2.2.2.2.2.2.2.2.1,true) else bif ieq k 12 then (Eg e.2.2.2.2.1,true) else (0,false)
def QHy:TC:=aF Tryz.f156 []
def g_f156:G:=gG 25 [(194,Qtg)] (fun _ _=>none)
def Qth (p0:Endpoint)(p1:Int):OV:=br (ieq p1 3) (some (.tu [(.t tI p0.2.2.1),(.t .bool true)],[])) (br (ieq p1 4) (some (.tu [(.t tI p0.2.1),(.t .bool true)],[])) (br (ieq p1 11) (some (.tu [(.t tI (Eg p0.2.2.2.2.2.2.2.2.1)),(.t .bool true)],[])) (br (ieq p1 12) (some (.tu [(.t tI (Eg p0.2.2.2.2.1)),(.t .bool true)],[])) (some (.tu [(.t tI 0),(.t .bool false)],[])))))
theorem s_f156 (e:Endpoint)(k:Int):Qth e k=some (.tu [.t tI (Uj e k).1,.t .bool (Uj e k).2],[]):=by
 simp only [Qth]
 unfold Uj
 cases ieq k 3<;>cases ieq k 4<;>cases ieq k 11<;>cases ieq k 12<;>rfl
def Qti:Ent:=Qi (.pr Qo (.pr tI .nil)) (fun x=>true) (fun x=>(.tu [(.t tI ((Uj x.1 x.2.1).1)),(.t .bool ((Uj x.1 x.2.1).2))]))
theorem QHz:EM 156 Qti:=mS g_f156 QHy [((.t 4),some tI),((.t 5),some .bool)] false (gB (gD QHx gN)) fun m=>Qm m fun x _=>kT (s_f156 x.1 x.2.1)
def ZH (e:Endpoint)(k:Int):List Int×Bool×Bool:=
 bif ieq k 1||ieq k 2 then (Qq e,ieq k 1,true) else bif ieq k 7||ieq k 8 then (Q7 e,ieq k 7,true) else bif ieq k 9||ieq k 10 then (Ja e,ieq k 9,true) else ([],false,false)
def QHA:TC:=aF Tryz.f154 []
def g_f154:G:=gG 29 [] (fun _ _=>none)
def QjE (p0:Endpoint)(p1:Int):OV:=br (ieq p1 9) (br (ieq p1 9) (some (.tu [(.t (.sl tI) p0.2.2.2.2.2.2.2.1),(.t .bool (ieq p1 9)),(.t .bool true)],[])) (some (.tu [(.t (.sl tI) ([]:List Int)),(.t .bool false),(.t .bool false)],[]))) (br (ieq p1 10) (some (.tu [(.t (.sl tI) p0.2.2.2.2.2.2.2.1),(.t .bool (ieq p1 9)),(.t .bool true)],[])) (some (.tu [(.t (.sl tI) ([]:List Int)),(.t .bool false),(.t .bool false)],[])))
def QjF (p0:Endpoint)(p1:Int):OV:=br (ieq p1 7) (br (ieq p1 7) (some (.tu [(.t (.sl tI) p0.2.2.2.2.2.2.1),(.t .bool (ieq p1 7)),(.t .bool true)],[])) (QjE p0 p1)) (br (ieq p1 8) (some (.tu [(.t (.sl tI) p0.2.2.2.2.2.2.1),(.t .bool (ieq p1 7)),(.t .bool true)],[])) (QjE p0 p1))
def Qtj (p0:Endpoint)(p1:Int):OV:=br (ieq p1 1) (br (ieq p1 1) (some (.tu [(.t (.sl tI) p0.2.2.2.1),(.t .bool (ieq p1 1)),(.t .bool true)],[])) (QjF p0 p1)) (br (ieq p1 2) (some (.tu [(.t (.sl tI) p0.2.2.2.1),(.t .bool (ieq p1 1)),(.t .bool true)],[])) (QjF p0 p1))
theorem s_f154 (e:Endpoint)(k:Int):Qtj e k=some (.tu [.t (.sl tI) (ZH e k).1,.t .bool (ZH e k).2.1,.t .bool (ZH e k).2.2],[]):=by
 simp only [Qtj,QjF,QjE]
 unfold ZH
 cases ieq k 1<;>cases ieq k 2<;>cases ieq k 7<;>cases ieq k 8<;>cases ieq k 9<;>cases ieq k 10<;>rfl
def Qtk:Ent:=Qi (.pr Qo (.pr tI .nil)) (fun x=>true) (fun x=>(.tu [(.t (.sl tI) ((ZH x.1 x.2.1).1)),(.t .bool (((ZH x.1 x.2.1).2).1)),(.t .bool (((ZH x.1 x.2.1).2).2))]))
theorem QHB:EM 154 Qtk:=mS g_f154 QHA [((.t 4),some (.sl tI)),((.t 5),some .bool),((.t 6),some .bool)] false (gB gN) fun m=>Qm m fun x _=>kT (s_f154 x.1 x.2.1)
end
end Go.Proofs.YtmjnnemhoeolgaaGreat.K
noncomputable section
namespace Go.Proofs.YtmjnnemhoeolgaaGreat.K
open Go.RowKit
noncomputable section
theorem WM {y:Ty}{l:List y.T}{a:Int}(h0:0<=a)(h1:a<=l.length):(lsl l 0 a).length=a.toNat:=by
 simp only [lsl,Db,Ds,Br]
 omega
theorem WN {y:Ty}{l:List y.T}{a:Int}(h0:0<=a)(h1:a<=l.length):(lsl l a (l.length:Int)).length=l.length-a.toNat:=by
 simp only [lsl,Db,Ds,Bc]
 omega
def UB (l:List Int)(a n:Int):List Int:=((([]:List Int)++(lsl l 0 a))++([n]))++(lsl l a ((List.length l:Nat):Int))
def QdS (l:List Int)(a _n:Int):Bool:=decide (0<=a/\a<=l.length/\l.length<=100000)
theorem QwF {l:List Int}{a n:Int}(h0:0<=a)(h1:a<=l.length):(UB l a n).length=l.length+1:=by
 have e1:=WM (y:=tI) (l:=l) h0 h1
 have e2:=WN (y:=tI) (l:=l) h0 h1
 unfold UB
 simp only [Bm,BB,Bq]
 omega
def QKW:TC:=aF Tryz.f158 []
def g_f158:G:=gG 21 [] (fun _ _=>none)
def QwG (p0:List Int)(p1 p2:Int):OV:=
 let a1:=(List.length p0:Nat)
 br (cSl p0 0 p1 (a1:Int)) (br (QM ([]:List Int) (lsl p0 0 p1) 8) (br (QM (([]:List Int)++(lsl p0 0 p1)) ([p2]) 8) (br (cSl p0 p1 (a1:Int) (a1:Int)) (br (QM ((([]:List Int)++(lsl p0 0 p1))++([p2])) (lsl p0 p1 (a1:Int)) 8) (some (.t (.sl tI) (((([]:List Int)++(lsl p0 0 p1))++([p2]))++(lsl p0 p1 (a1:Int))),[])) none) none) none) none) none
theorem s_f158 (l:List Int)(a n:Int)(h:QdS l a n=true):QwG l a n=some (.t (.sl tI) (UB l a n),[]):=by
 obtain ⟨h0,h1,h2⟩:=Bx h
 have e1:=WM (y:=tI) (l:=l) h0 h1
 have e2:=WN (y:=tI) (l:=l) h0 h1
 simp only [QwG]
 refine brY (Be ⟨by omega,by omega,by omega,by omega⟩) (brY (Jk (by decide) (by simp only [BB];omega)) (brY (Jk (by decide) (by simp only [Bm,BB,Bq];omega)) (brY (Be ⟨by omega,by omega,by omega,by omega⟩) (brY (Jk (by decide) (by simp only [Bm,BB,Bq];omega)) rfl))))
def Qly:Ent:=Qi (.pr (.sl tI) (.pr tI (.pr tI .nil))) (fun x=>(QdS x.1 x.2.1 x.2.2.1)) (fun x=>(.t (.sl tI) (UB x.1 x.2.1 x.2.2.1)))
theorem QwH:EM 158 Qly:=mS g_f158 QKW [((.t 6),some (.sl tI))] false (gB gN) fun m=>Qm m fun x hok=>kT (s_f158 x.1 x.2.1 x.2.2.1 hok)
def woF (l:List Int)(a:Int):List Int:=(([]:List Int)++(lsl l 0 a))++(lsl l (Qg .i64 a 1) ((List.length l:Nat):Int))
def Gk (l:List Int)(a:Int):Bool:=decide (0<=a/\a<l.length/\l.length<=100000)
theorem Qlz {l:List Int}{a:Int}(h:Gk l a=true):(woF l a).length+1=l.length:=by
 obtain ⟨h0,h1,h2⟩:=Bx h
 have e0:Qg .i64 a 1=a+1:=J6 (by omega)
 have e1:=WM (y:=tI) (l:=l) (a:=a) h0 (by omega)
 have e2:=WN (y:=tI) (l:=l) (a:=a+1) (by omega) (by omega)
 unfold woF
 rw [e0]
 simp only [Bm,BB]
 omega
def QKX:TC:=aF Tryz.f159 []
def g_f159:G:=gG 16 [] (fun _ _=>none)
def QwI (p0:List Int)(p1:Int):OV:=
 let a1:=(List.length p0:Nat)
 let a2:=(lsl p0 (Qg .i64 p1 1) (a1:Int))
 br (cSl p0 0 p1 (a1:Int)) (br (QM ([]:List Int) (lsl p0 0 p1) 8) (br (cSl p0 (Qg .i64 p1 1) (a1:Int) (a1:Int)) (br (QM (([]:List Int)++(lsl p0 0 p1)) a2 8) (some (.t (.sl tI) ((([]:List Int)++(lsl p0 0 p1))++a2),[])) none) none) none) none
theorem s_f159 (l:List Int)(a:Int)(h:Gk l a=true):QwI l a=some (.t (.sl tI) (woF l a),[]):=by
 obtain ⟨h0,h1,h2⟩:=Bx h
 have e0:Qg .i64 a 1=a+1:=J6 (by omega)
 have e1:=WM (y:=tI) (l:=l) (a:=a) h0 (by omega)
 have e2:=WN (y:=tI) (l:=l) (a:=a+1) (by omega) (by omega)
 unfold woF
 simp only [QwI,e0]
 refine brY (Be ⟨by omega,by omega,by omega,by omega⟩) (brY (Jk (by decide) (by simp only [BB];omega)) (brY (Be ⟨by omega,by omega,by omega,by omega⟩) (brY (Jk (by decide) (by simp only [Bm,BB];omega)) rfl)))
def QwJ:Ent:=Qi (.pr (.sl tI) (.pr tI .nil)) (fun x=>(Gk x.1 x.2.1)) (fun x=>(.t (.sl tI) (woF x.1 x.2.1)))
theorem QKY:EM 159 QwJ:=mS g_f159 QKX [((.t 4),some (.sl tI))] false (gB gN) fun m=>Qm m fun x hok=>kT (s_f159 x.1 x.2.1 hok)
def XV (n:Int):List Int->Nat
 | []=>0
 |x::r=>bif ilt x n then XV n r+1 else 0
theorem QlA (n:Int): ∀ l:List Int,XV n l<=l.length
 | []=>BL _
 |x::r=>by
  have:=QlA n r
  unfold XV
  cases ilt x n<;>simp only [B2,BM,Bv]<;>omega
def Fi (l:List Int)(n:Int):List Int:=UB l (XV n l) n
abbrev Vf:Sh:=⟨[(0,.ty (.sl tI)),(1,.ty tI),(5,.ty tI)],[]⟩
def QlB:Fg:=Vf.f
def QwK:TC:=aF Tryz.f161 [(28,pL 0 QlB),(451,.fg Vf.f)]
def QwL:TC:=lb 0 QwK
def E1 (x0:List Int)(x1 x5:Int):VS:=Vf.st (x0,x1,x5,()) ()
def QKZ:VS->Option (Bool×List (Bool×Exit×VS)):=mkL Vf (fun x y=>(decide (0<=x.2.2.1/\x.2.2.1<=x.1.length/\x.1.length<=100000))) (fun x y=>[(true,.exit 0,E1 (x.1) (x.2.1) (x.2.2.1+XV x.2.1 (x.1.drop x.2.2.1.toNat)))])
def QlC:G:=gG 24 [(158,Qly)] (Ls [QKZ])
def QdT (x0:List Int)(x1 x5:Int):OX:=Qr (Qv QlC QlB QwL) (E1 x0 x1 x5)
def Vg (kk:List Int->Int->Int->OX)(x0:List Int)(x1 x5:Int):OX:=br (ilt x5 (Qa x0)) (br (cIx x0 x5) (br (ilt (lgt tI x0 (Int.toNat x5)) x1) (kk x0 x1 (Qg .i64 x5 1)) (some (.exit 0,E1 x0 x1 x5))) none) (some (.exit 0,E1 x0 x1 x5))
def QdU (x0:List Int)(x1 x5:Int):OX:=some (.exit 0,E1 (x0) (x1) (x5+XV x1 (x0.drop x5.toNat)))
theorem QwM (x0:List Int)(x1 x5:Int):QdT x0 x1 x5=Vg QdT x0 x1 x5:=lnT (x:=Vg (fun x0 x1 x5=>some (.normal,E1 x0 x1 x5)) x0 x1 x5) (by simp only [Vg,nxA];rfl)
def QwN (p0:List Int)(p1:Int):OV:=
 let a1:=(p0.drop (0:Int).toNat)
 br (decide (0<=(0:Int)/\(0:Int)<=p0.length/\p0.length<=100000)) (br (QdS (p0) ((0:Int)+XV p1 a1) (p1)) (some (.t (.sl tI) (UB (p0) ((0:Int)+XV p1 a1) (p1)),[])) none) none
theorem QK0 (x0:List Int)(x1 x5:Int)(h:(decide (0<=x5/\x5<=x0.length/\x0.length<=100000))=true):QdT x0 x1 x5=QdU x0 x1 x5:=by
 obtain ⟨h0,h1,h2⟩:=Bx h
 obtain ⟨k,rfl⟩:=Bo h0
 refine QP x0 (fun k=>QdT x0 x1 (k:Int)=QdU x0 x1 (k:Int)) ?_ ?_ k (by omega)
 ·rw [QwM]
  simp only [Vg,QdU,Qa,Qz,BT,B0,Qf,Bc,BK,XV,Int.natCast_zero,Int.add_zero]
 ·intro k hk ih
  rw [QwM]
  simp only [Vg,Qa,Qz,QJ,hk,Bt,Qb,Bc,QO (show k<4611686018427387904 by omega),ih,QL (y:=tI) hk]
  simp only [QdU,Bc,Bi hk,XV]
  cases ilt x0[k] x1 with
  |false=>simp only [Qf,BM,Int.natCast_zero,Int.add_zero]
  |true=>simp only [Qb,B2,Int.natCast_add,Int.natCast_one,show (k:Int)+1+(XV x1 (x0.drop (k+1)):Int)=k+(XV x1 (x0.drop (k+1))+1) by omega]
theorem QK1:LO QlC QlB QwL 0:=QH (s:=Vf) fun x y h _ q=>by simp only [QE,QF] at q;exact (QK0 x.1 x.2.1 x.2.2.1 h).trans q
theorem s_f161 (l:List Int)(n:Int)(h:Jc l n=true):QwN l n=some (.t (.sl tI) (Fi l n),[]):=by
 have hl:l.length<=100000:=Bx h
 have hz:=QlA n l
 simp only [QwN,Br,By,Int.zero_add]
 exact brY (Be ⟨by omega,by omega,hl⟩) (brY (Be ⟨by omega,by omega,hl⟩) rfl)
def QwO:Ent:=Qi (.pr (.sl tI) (.pr tI .nil)) (fun x=>(Jc x.1 x.2.1)) (fun x=>(.t (.sl tI) (Fi x.1 x.2.1)))
theorem QK2:EM 161 QwO:=mS (lk:=lkL (lkc QK1 lkn)) QlC QwK [((.t 4),some (.sl tI))] false (gB (gD QwH gN)) fun m=>Qm m fun x hok=>kT (s_f161 x.1 x.2.1 hok)
def Xe (id:Int):List Identity->Int->Int×Int->Int×Int
 | [],_,p=>p
 |x::r,i,p=>Xe id r (i+1) (bif ieq x.2.1 id then (p.1+1,bif ieq p.1 0 then i else p.2) else p)
def JQ (e:Endpoint)(id:Int):Int×Int:=Xe id (Qp e) 0 (0, -1)
theorem QlD (id:Int): ∀ (l:List Identity) (i:Int) (p:Int×Int),0<=i->0<=p.1->(0<p.1->0<=p.2/\p.2<i)->0<=(Xe id l i p).1/\(0<(Xe id l i p).1->0<=(Xe id l i p).2/\(Xe id l i p).2<i+l.length)
 | [],i,p,h0,h1,h2=>⟨h1,fun h=>by have:=h2 h;simp only [Xe,BB];omega⟩
 |x::r,i,p,h0,h1,h2=>by
  unfold Xe
  have e:i+((x::r).length:Int)=i+1+r.length:=by simp only [Bv];omega
  rw [e]
  cases hq:ieq x.2.1 id with
  |false=>exact QlD id r (i+1) p (by omega) h1 (fun h=>by have:=h2 h;omega)
  |true=>
   refine QlD id r (i+1) _ (by omega) (by simp only [B2];omega) (fun _=> ?_)
   simp only [B2]
   cases hz:ieq p.1 0 with
   |true=>simp only [B2];omega
   |false=>
    have:0<p.1:=by simp only [ZV,Bn] at hz;omega
    have:=h2 this
    simp only [BM]
    omega
abbrev QdV:Sh:=⟨[(1,.ty tI),(6,.ty tI),(7,.ty tI),(11,.ty (.sl QV)),(12,.ty tI),(13,.ty tI)],[]⟩
abbrev QwP:Sh:=⟨[(6,.ty tI),(7,.ty tI)],[]⟩
def QlE:Fg:=QdV.f
def QwQ:TC:=aF Tryz.f157 [(58,pL 0 QlE),(933,.fg QwP.f)]
def QwR:TC:=lb 0 QwQ
def QwS (x1 x6 x7:Int)(x11:List Identity)(x12 x13:Int):VS:=QdV.st (x1,x6,x7,x11,x12,x13,()) ()
def QlF (x6 x7:Int):VS:=QwP.st (x6,x7,()) ()
def QK3:VS->Option (Bool×List (Bool×Exit×VS)):=mkL QdV (fun x y=>(QA x.2.2.2.1 x.2.2.2.2.1 x.2.2.2.2.2.1&&decide (0<=x.2.1/\x.2.1<=x.2.2.2.2.2.1))) (fun x y=>[(true,.exit 0,QlF ((Xe x.1 (x.2.2.2.1.drop x.2.2.2.2.2.1.toNat) x.2.2.2.2.2.1 (x.2.1,x.2.2.1)).1) ((Xe x.1 (x.2.2.2.1.drop x.2.2.2.2.2.1.toNat) x.2.2.2.2.2.1 (x.2.1,x.2.2.1)).2))])
def QlG:G:=gG 30 [] (Ls [QK3])
def QdW (x1 x6 x7:Int)(x11:List Identity)(x12 x13:Int):OX:=Qr (Qv QlG QlE QwR) (QwS x1 x6 x7 x11 x12 x13)
def Vh (kk:Int->Int->Int->List Identity->Int->Int->OX)(x1 x6 x7:Int)(x11:List Identity)(x12 x13:Int):OX:=
 let a1:=Qg .i64 x13 1
 br (ilt x13 x12) (br (cIx x11 x13) (br (ieq (((lgt QV x11 (Int.toNat x13)).2).1) x1) (br (ieq x6 0) (kk x1 (Qg .i64 x6 1) x13 x11 x12 a1) (kk x1 (Qg .i64 x6 1) x7 x11 x12 a1)) (kk x1 x6 x7 x11 x12 a1)) none) (some (.exit 0,QlF x6 x7))
def QdX (x1 x6 x7:Int)(x11:List Identity)(x12 x13:Int):OX:=
 let a1:=(Xe x1 (x11.drop x13.toNat) x13 (x6,x7))
 some (.exit 0,QlF (a1.1) (a1.2))
theorem QwT (x1 x6 x7:Int)(x11:List Identity)(x12 x13:Int):QdW x1 x6 x7 x11 x12 x13=Vh QdW x1 x6 x7 x11 x12 x13:=lnT (x:=Vh (fun x1 x6 x7 x11 x12 x13=>some (.normal,QwS x1 x6 x7 x11 x12 x13)) x1 x6 x7 x11 x12 x13) (by simp only [Vh,nxA];rfl)
def QwU (p0:Endpoint)(p1:Int):OV:=
 let a1:=(Xe p1 (p0.2.2.2.2.2.1.drop (0:Int).toNat) (0:Int) ((0:Int),(-1)))
 br (QA p0.2.2.2.2.2.1 (Qa p0.2.2.2.2.2.1) (0:Int)&&decide (0<=(0:Int)/\(0:Int)<=(0:Int))) (some (.tu [(.t tI (a1.1)),(.t tI (a1.2))],[])) none
theorem QK4 (x1 x6 x7:Int)(x11:List Identity)(x12 x13:Int)(h:(QA x11 x12 x13&&decide (0<=x6/\x6<=x13))=true):QdW x1 x6 x7 x11 x12 x13=QdX x1 x6 x7 x11 x12 x13:=by
 simp only [Bb,Ba] at h
 obtain ⟨h,g0,g1⟩:=h
 obtain ⟨rfl,h3,k,rfl,hk⟩:=JB h
 clear h
 revert x6 x7
 refine QP x11 (fun k=> ∀ x6 x7:Int,0<=x6->x6<=(k:Int)->QdW x1 x6 x7 x11 (x11.length:Int) (k:Int)=QdX x1 x6 x7 x11 (x11.length:Int) (k:Int)) ?_ ?_ k hk
 ·intro x6 x7 _ _
  rw [QwT]
  simp only [Vh,QdX,Qz,BT,B0,Qf,Bc,BK,Xe]
 ·intro k hk ih x6 x7 g0 g1
  rw [QwT]
  have e1:Qg .i64 x6 1=x6+1:=J6 (by omega)
  simp only [Vh,Qz,QJ,hk,Bt,Qb,Bc,QO (show k<4611686018427387904 by omega),e1,QL (y:=QV) hk]
  rw [ih (x6+1) (k:Int) (by omega) (by omega),ih (x6+1) x7 (by omega) (by omega),ih x6 x7 g0 (by omega)]
  simp only [QdX,Bc,Bi hk,Xe,Int.natCast_add,Int.natCast_one]
  cases ieq x11[k].2.1 x1<;>cases ieq x6 0<;>rfl
theorem QK5:LO QlG QlE QwR 0:=QH (s:=QdV) fun x y h _ q=>by simp only [QE,QF] at q;exact (QK4 x.1 x.2.1 x.2.2.1 x.2.2.2.1 x.2.2.2.2.1 x.2.2.2.2.2.1 h).trans q
theorem s_f157 (e:Endpoint)(id:Int)(h:Zk e id=true):QwU e id=some (.tu [.t tI (JQ e id).1,.t tI (JQ e id).2],[]):=by
 have hl:(Qp e).length<=100000:=Bx h
 simp only [QwU,Br,By]
 refine brY ?_ rfl
 rw [JC hl,BA]
 exact Be ⟨BV _,BV _⟩
def QlH:Ent:=Qi (.pr Qo (.pr tI .nil)) (fun x=>(Zk x.1 x.2.1)) (fun x=>(.tu [(.t tI ((JQ x.1 x.2.1).1)),(.t tI ((JQ x.1 x.2.1).2))]))
theorem QwV:EM 157 QlH:=mS (lk:=lkL (lkc QK5 lkn)) QlG QwQ [((.t 4),some tI),((.t 5),some tI)] false (gB gN) fun m=>Qm m fun x hok=>kT (s_f157 x.1 x.2.1 hok)
def UC:Identity:=((0,(0,())),(0,(([]:List Certificate),())))
abbrev QZ (c:Change):Int:=c.2.1
abbrev Jf (c:Change):Int:=c.2.2.1
abbrev Yg (c:Change):Int:=c.2.2.2.1
abbrev Zn (c:Change):Identity:=c.2.2.2.2.1
def fmC (c:Change):Bool:=bif ieq (QZ c) 1 then Gc (Zn c) UC else bif ieq (QZ c) 5 then ieq (Jf c) 0 else ige (QZ c) 1&&(ile (QZ c) 12&&(Gc (Zn c) UC&&ieq (Yg c) 0))
def QlI (c:Change):Bool:=Jo (Zn c)
def QK6:TC:=aF Tryz.f153 []
def g_f153:G:=gG 34 [(193,Qs7)] (fun _ _=>none)
def QwW (p0:Change):OV:=
 let a1:=(Gc p0.2.2.2.2.1 ((0,(0,())),(0,(([]:List Certificate),()))))
 br (Qjv p0.2.2.2.2.1 ((0,(0,())),(0,(([]:List Certificate),())))) (br (ieq p0.2.1 1) (some (.t .bool a1,[])) (br (ieq p0.2.1 5) (some (.t .bool (ieq p0.2.2.1 0),[])) (br (ige p0.2.1 1) (br (ile p0.2.1 12) (br a1 (some (.t .bool (ieq p0.2.2.2.1 0),[])) (some (.t .bool false,[]))) (some (.t .bool false,[]))) (some (.t .bool false,[]))))) none
theorem s_f153 (c:Change)(h:QlI c=true):QwW c=some (.t .bool (fmC c),[]):=by
 have h:Jo (Zn c)=true:=h
 simp only [QwW]
 refine brY (Bg.2 ⟨h,(show Jo UC=true from rfl)⟩) ?_
 unfold fmC
 show br (ieq (QZ c) 1) (some (V.t .bool (Gc (Zn c) UC),([]:List VO))) (br (ieq (QZ c) 5) (some (V.t .bool (ieq (Jf c) 0),([]:List VO))) (br (ige (QZ c) 1) (br (ile (QZ c) 12) (br (Gc (Zn c) UC) (some (V.t .bool (ieq (Yg c) 0),([]:List VO))) (some (V.t .bool false,([]:List VO)))) (some (V.t .bool false,([]:List VO)))) (some (V.t .bool false,([]:List VO)))))=_
 cases ieq (QZ c) 1<;>cases ieq (QZ c) 5<;>cases ige (QZ c) 1<;>cases ile (QZ c) 12<;>cases Gc (Zn c) UC<;>rfl
def QwX:Ent:=Qi (.pr Zo .nil) (fun x=>(QlI x.1)) (fun x=>(.t .bool (fmC x.1)))
theorem QK7:EM 153 QwX:=mS g_f153 QK6 [((.t 2),some .bool)] false (gB (gD QHs gN)) fun m=>Qm m fun x hok=>kT (s_f153 x.1 hok)
end
end Go.Proofs.YtmjnnemhoeolgaaGreat.K
noncomputable section
namespace Go.Proofs.YtmjnnemhoeolgaaGreat.K
open Go.RowKit
noncomputable section
def Z1 (n:Nat)(e:Endpoint):Bool:=(Jg e.1&&decide ((Qq e).length<=n/\(Qp e).length<=n/\(Q7 e).length<=n/\(Ja e).length<=n))&&(Qp e).all Jo
theorem Qc4 {n:Nat}{e:Endpoint}(h:Z1 n e=true):Jg e.1=true/\((Qq e).length<=n/\(Qp e).length<=n/\(Q7 e).length<=n/\(Ja e).length<=n)/\(Qp e).all Jo=true:=by
 simp only [Z1,Bb,Ba] at h
 exact ⟨h.1.1,h.1.2,h.2⟩
theorem EA {n:Nat}{e:Endpoint}(h:Z1 n e=true)(hn:n<=100000):QS e=true:=by
 obtain ⟨h1,⟨h2,h3,h4,h5⟩,h6⟩:=Qc4 h
 unfold QS
 simp only [Bb,Ba]
 exact ⟨⟨h1,by omega,by omega,by omega,by omega⟩,h6⟩
theorem QkB {n m:Nat}{e:Endpoint}(h:Z1 n e=true)(hn:n<=m):Z1 m e=true:=by
 obtain ⟨h1,⟨h2,h3,h4,h5⟩,h6⟩:=Qc4 h
 unfold Z1
 simp only [Bb,Ba]
 exact ⟨⟨h1,by omega,by omega,by omega,by omega⟩,h6⟩
def EB (e:Endpoint)(c:Change):Int:=bif ieq (QZ c) 6 then (bif ieq (JQ e (Jf c)).1 0 then 41 else bif igt (JQ e (Jf c)).1 1 then 5 else 0) else 0
def EC (e:Endpoint)(c:Change):Int:=bif ieq (QZ c) 5 then (bif igt (JQ e (Zn c).2.1).1 0 then 41 else EB e c) else EB e c
def G9 (e:Endpoint)(c:Change):Int:=bif (Uj e (QZ c)).2 then (bif ieq (Uj e (QZ c)).1 (Jf c) then 41 else EC e c) else EC e c
def XQ (e:Endpoint)(c:Change):Int:=bif (ZH e (QZ c)).2.2 then (bif QcV (ige (ZG (ZH e (QZ c)).1 (Jf c)) 0) (ZH e (QZ c)).2.1 then 41 else G9 e c) else G9 e c
def OQ (e:Endpoint)(c:Change):Int:=bif ine (Jf c) 0 then (bif ine (Jf c) 1 then 2 else XQ e c) else XQ e c
def Zh (e:Endpoint)(c:Change):Int:=
 bif ine (JZ e) 0 then 19 else bif !fmC c then 40 else
 bif ieq (QZ c) 1 then (bif ilt (Yg c) 0 then 2 else bif igt (Yg c) (Qa (Qq e)) then 2 else XQ e c) else
 bif ieq (QZ c) 5 then (bif ilt (Yg c) 0 then 2 else bif igt (Yg c) (Qa (Qp e)) then 2 else XQ e c) else
 bif ieq (QZ c) 11 then OQ e c else bif ieq (QZ c) 12 then OQ e c else XQ e c
def QkC (e:Endpoint)(c:Change):Bool:=QS e&&Jo (Zn c)
def QIY:TC:=aF Tryz.f118 []
def g_f118:G:=gG 118 [(61,Fm),(153,QwX),(154,Qtk),(155,QjD),(156,Qti),(157,QlH)] (fun _ _=>none)
def Qc5 (p0:Endpoint)(p1:Change):OV:=br (ieq p1.2.1 6) (br (Zk p0 p1.2.2.1) (br (ieq ((JQ p0 p1.2.2.1).1) 0) (some (.t tI 41,[])) (br (igt ((JQ p0 p1.2.2.1).1) 1) (some (.t tI 5,[])) (some (.t tI 0,[])))) none) (some (.t tI 0,[]))
def Qc6 (p0:Endpoint)(p1:Change):OV:=br (ieq p1.2.1 5) (br (Zk p0 p1.2.2.2.2.1.2.1) (br (igt ((JQ p0 p1.2.2.2.2.1.2.1).1) 0) (some (.t tI 41,[])) (Qc5 p0 p1)) none) (Qc5 p0 p1)
def Qc7 (p0:Endpoint)(p1:Change):OV:=br ((Uj p0 p1.2.1).2) (br (ieq ((Uj p0 p1.2.1).1) p1.2.2.1) (some (.t tI 41,[])) (Qc6 p0 p1)) (Qc6 p0 p1)
def Ur (p0:Endpoint)(p1:Change):OV:=
 let a1:=ZH p0 p1.2.1
 br ((a1.2).2) (br (Jc (a1.1) p1.2.2.1) (br (QcV (ige (ZG (a1.1) p1.2.2.1) 0) ((a1.2).1)) (some (.t tI 41,[])) (Qc7 p0 p1)) none) (Qc7 p0 p1)
def OR (p0:Endpoint)(p1:Change):OV:=br (ine p1.2.2.1 0) (br (ine p1.2.2.1 1) (some (.t tI 2,[])) (Ur p0 p1)) (Ur p0 p1)
def Qu3 (p0:Endpoint)(p1:Change):OV:=br (QS p0) (br (ine (JZ p0) 0) (some (.t tI 19,[])) (br (QlI p1) (br (!(fmC p1)) (some (.t tI 40,[])) (br (ieq p1.2.1 1) (br (ilt p1.2.2.2.1 0) (some (.t tI 2,[])) (br (igt p1.2.2.2.1 (Qa p0.2.2.2.1)) (some (.t tI 2,[])) (Ur p0 p1))) (br (ieq p1.2.1 5) (br (ilt p1.2.2.2.1 0) (some (.t tI 2,[])) (br (igt p1.2.2.2.1 (Qa p0.2.2.2.2.2.1)) (some (.t tI 2,[])) (Ur p0 p1))) (br (ieq p1.2.1 11) (br (ieq p1.2.1 11) (OR p0 p1) (Ur p0 p1)) (br (ieq p1.2.1 12) (OR p0 p1) (Ur p0 p1)))))) none)) none
theorem brC {c:Bool}{x y:Int}{A B:OV}(h1:A=some (.t tI x,[]))(h2:B=some (.t tI y,[])):br c A B=some (.t tI (bif c then x else y),[]):=by
 subst h1 h2
 cases c<;>rfl
theorem s_f118 (e:Endpoint)(c:Change)(h:QkC e c=true):Qu3 e c=some (.t tI (Zh e c),[]):=by
 obtain ⟨h1,h2⟩:=Bg.1 h
 have hb:=(XT h1).2
 have hk: ∀ n,Zk e n=true:=fun n=>Be hb.2.1
 have hl: ∀ k n,Jc (ZH e k).1 n=true:=fun k n=>by
  have:(ZH e k).1.length<=100000:=by
   unfold ZH
   cases ieq k 1||ieq k 2 with
   |true=>exact hb.1
   |false=>
    cases ieq k 7||ieq k 8 with
    |true=>exact hb.2.2.1
    |false=>
     cases ieq k 9||ieq k 10 with
     |true=>exact hb.2.2.2.1
     |false=>exact BX _
  exact Be this
 have g4:Qc5 e c=some (.t tI (EB e c),[]):=by
  unfold Qc5 EB
  exact brC (brY (hk _) (brC rfl (brC rfl rfl))) rfl
 have g3:Qc6 e c=some (.t tI (EC e c),[]):=by
  unfold Qc6 EC
  exact brC (brY (hk _) (brC rfl g4)) g4
 have g2:Qc7 e c=some (.t tI (G9 e c),[]):=by
  unfold Qc7 G9
  exact brC (brC rfl g3) g3
 have g1:Ur e c=some (.t tI (XQ e c),[]):=by
  unfold Ur XQ
  exact brC (brY (hl _ _) (brC rfl g2)) g2
 have g5:OR e c=some (.t tI (OQ e c),[]):=by
  unfold OR OQ
  exact brC (brC rfl g1) g1
 unfold Qu3 Zh
 refine brY h1 (brC rfl (brY h2 (brC rfl (brC (brC rfl (brC rfl g1)) (brC (brC rfl (brC rfl g1)) ?_)))))
 cases h11:ieq (QZ c) 11 with
 |true=>exact g5
 |false=>exact (brC g5 g1:br (ieq (QZ c) 12) (OR e c) (Ur e c)=some (.t tI (bif ieq (QZ c) 12 then OQ e c else XQ e c),[]))
def Qu4:Ent:=Qi (.pr Qo (.pr Zo .nil)) (fun x=>(QkC x.1 x.2.1)) (fun x=>(.t tI (Zh x.1 x.2.1)))
theorem QIZ:EM 118 Qu4:=mS g_f118 QIY [((.t 4),some tI)] false (gB (gD Ia (gD QK7 (gD QHB (gD Qte (gD QHz (gD QwV gN))))))) fun m=>Qm m fun x hok=>kT (s_f118 x.1 x.2.1 hok)
theorem Xa {b:Bool}{x y:Int}(hx:x≠0)(h:(bif b then x else y)=0):b=false/\y=0:=by
 cases b with
 |true=>exact absurd h hx
 |false=>exact ⟨rfl,h⟩
theorem QI0 {b:Bool}(h:QcV b false=false):b=true:=by
 cases b with
 |true=>rfl
 |false=>exact absurd h (by decide)
theorem plc_in {l:List Int}{n:Int}(h:ige (ZG l n) 0=true)(hl:l.length<=100000):Gk l (ZG l n)=true:=by
 unfold ZG at h ⊢
 cases hq:Qs (fun y=>ieq y n) l with
 |none=>rw [hq] at h;exact absurd (show ige (-1) 0=true from h) (by decide)
 |some k=>
  obtain ⟨hk,_⟩:=E4 hq
  exact Be ⟨by show (0:Int)<=(k:Int);omega,by show (k:Int)<(l.length:Int);omega,hl⟩
theorem alw_1 {e:Endpoint}{c:Change}(h:Zh e c=0)(hk:QZ c=1):0<=Yg c/\Yg c<=(Qq e).length:=by
 unfold Zh at h
 obtain ⟨h1,h⟩:=Xa (by decide) h
 obtain ⟨h2,h⟩:=Xa (by decide) h
 rw [hk] at h
 simp only [show ieq (1:Int) 1=true from rfl,B2] at h
 obtain ⟨h3,h⟩:=Xa (by decide) h
 obtain ⟨h4,_⟩:=Xa (by decide) h
 simp only [ilt,igt,Qa,Bn] at h3 h4
 omega
theorem alw_5 {e:Endpoint}{c:Change}(h:Zh e c=0)(hk:QZ c=5):0<=Yg c/\Yg c<=(Qp e).length:=by
 unfold Zh at h
 obtain ⟨h1,h⟩:=Xa (by decide) h
 obtain ⟨h2,h⟩:=Xa (by decide) h
 rw [hk] at h
 simp only [show ieq (5:Int) 1=false from rfl,show ieq (5:Int) 5=true from rfl,B2,BM] at h
 obtain ⟨h3,h⟩:=Xa (by decide) h
 obtain ⟨h4,_⟩:=Xa (by decide) h
 simp only [ilt,igt,Qa,Bn] at h3 h4
 omega
theorem ED {e:Endpoint}{c:Change}(h:Zh e c=0){k:Int}(hk:QZ c=k)(hd:k=2∨k=8∨k=10)(hl:(ZH e k).1.length<=100000):Gk (ZH e k).1 (ZG (ZH e k).1 (Jf c))=true:=by
 unfold Zh at h
 obtain ⟨h1,h⟩:=Xa (by decide) h
 obtain ⟨h2,h⟩:=Xa (by decide) h
 rw [hk] at h
 have h:XQ e c=0:=by rcases hd with rfl|rfl|rfl<;>exact h
 unfold XQ at h
 rw [hk] at h
 have h5:(ZH e k).2.2=true/\(ZH e k).2.1=false:=by rcases hd with rfl|rfl|rfl<;>exact ⟨rfl,rfl⟩
 rw [h5.1,h5.2] at h
 obtain ⟨h6,_⟩:=Xa (by decide) (show (bif QcV (ige (ZG (ZH e k).1 (Jf c)) 0) false then 41 else G9 e c)=0 from h)
 exact plc_in (QI0 h6) hl
theorem alw_6 {e:Endpoint}{c:Change}(h:Zh e c=0)(hk:QZ c=6):0<=(JQ e (Jf c)).2/\(JQ e (Jf c)).2<(Qp e).length:=by
 unfold Zh at h
 obtain ⟨h1,h⟩:=Xa (by decide) h
 obtain ⟨h2,h⟩:=Xa (by decide) h
 rw [hk] at h
 have h:XQ e c=0:=h
 unfold XQ at h
 rw [hk] at h
 have h:G9 e c=0:=h
 unfold G9 at h
 rw [hk] at h
 have h:EC e c=0:=h
 unfold EC at h
 rw [hk] at h
 have h:EB e c=0:=h
 unfold EB at h
 rw [hk] at h
 obtain ⟨h3,_⟩:=Xa (by decide) (show (bif ieq (JQ e (Jf c)).1 0 then 41 else bif igt (JQ e (Jf c)).1 1 then 5 else 0)=0 from h)
 have:=QlD (Jf c) (Qp e) 0 (0, -1) (BV _) (BV _) (fun h=>absurd h (by decide))
 have h4:0<(JQ e (Jf c)).1:=by
  simp only [ZV,Bn] at h3
  have:=this.1
  unfold JQ at h3 ⊢
  omega
 have h5:=this.2 h4
 rw [Int.zero_add] at h5
 exact h5
end
end Go.Proofs.YtmjnnemhoeolgaaGreat.K
noncomputable section
namespace Go.Proofs.YtmjnnemhoeolgaaGreat.K
open Go.RowKit
noncomputable section
def suE (e:Endpoint)(l:List Int):Endpoint:=(e.1,(e.2.1,(e.2.2.1,(l,e.2.2.2.2))))
def idE (e:Endpoint)(l:List Identity):Endpoint:=(e.1,(e.2.1,(e.2.2.1,(e.2.2.2.1,(e.2.2.2.2.1,(l,e.2.2.2.2.2.2))))))
def anE (e:Endpoint)(l:List Int):Endpoint:=(e.1,(e.2.1,(e.2.2.1,(e.2.2.2.1,(e.2.2.2.2.1,(e.2.2.2.2.2.1,(l,e.2.2.2.2.2.2.2)))))))
def hsE (e:Endpoint)(l:List Int):Endpoint:=(e.1,(e.2.1,(e.2.2.1,(e.2.2.2.1,(e.2.2.2.2.1,(e.2.2.2.2.2.1,(e.2.2.2.2.2.2.1,(l,e.2.2.2.2.2.2.2.2))))))))
def adI (e:Endpoint)(c:Change):List Identity:=((([]:List Identity)++(lsl (Qp e) 0 (Yg c)))++([Zn c]))++(lsl (Qp e) (Yg c) ((List.length (Qp e):Nat):Int))
def drI (e:Endpoint)(c:Change):List Identity:=(([]:List Identity)++(lsl (Qp e) 0 (JQ e (Jf c)).2))++(lsl (Qp e) (Qg .i64 (JQ e (Jf c)).2 1) ((List.length (Qp e):Nat):Int))
def Yb (e:Endpoint)(c:Change):Endpoint:=
 bif ieq (QZ c) 1 then suE e (UB (Qq e) (Yg c) (Jf c)) else bif ieq (QZ c) 2 then suE e (woF (Qq e) (ZG (Qq e) (Jf c))) else
 bif ieq (QZ c) 3 then (e.1,(e.2.1,(Jf c,e.2.2.2))) else bif ieq (QZ c) 4 then (e.1,(Jf c,e.2.2)) else
 bif ieq (QZ c) 5 then idE e (adI e c) else bif ieq (QZ c) 6 then idE e (drI e c) else
 bif ieq (QZ c) 7 then anE e (Fi (Q7 e) (Jf c)) else bif ieq (QZ c) 8 then anE e (woF (Q7 e) (ZG (Q7 e) (Jf c))) else
 bif ieq (QZ c) 9 then hsE e (Fi (Ja e) (Jf c)) else bif ieq (QZ c) 10 then hsE e (woF (Ja e) (ZG (Ja e) (Jf c))) else
 bif ieq (QZ c) 11 then (e.1,(e.2.1,(e.2.2.1,(e.2.2.2.1,(e.2.2.2.2.1,(e.2.2.2.2.2.1,(e.2.2.2.2.2.2.1,(e.2.2.2.2.2.2.2.1,(ieq (Jf c) 1,()))))))))) else
 bif ieq (QZ c) 12 then (e.1,(e.2.1,(e.2.2.1,(e.2.2.2.1,(ieq (Jf c) 1,e.2.2.2.2.2))))) else e
def Qbz (e:Endpoint)(c:Change):Bool:=(QS e&&Jo (Zn c))&&ieq (Zh e c) 0
def QFL:TC:=aF Tryz.f119 [(942,pD [(0,[2]),(1,[2]),(2,[2]),(3,[2]),(4,[3]),(5,[3]),(6,[]),(7,[]),(8,[5,52,58,65,80,87]),(9,[4,5,52,58,65,80,87])] (.of [0,1,2,3,4,5,6,7,8,9])),(3866622,pD [(0,[2]),(1,[2]),(2,[2]),(3,[2]),(4,[3]),(5,[3]),(6,[]),(7,[]),(8,[5,52,58,65,80,87]),(9,[4,5,52,58,65,80,87])] (.of [0,1,2,3,4,5,6,7,8,9])),(61865982,pD [(0,[2]),(1,[2]),(2,[2]),(3,[2]),(4,[3]),(5,[3]),(6,[]),(7,[]),(8,[5,52,58,65,80,87]),(9,[4,5,52,58,65,80,87])] (.of [0,1,2,3,4,5,6,7,8,9]))]
def g_f119:G:=gG 140 [(120,Qir),(155,QjD),(157,QlH),(158,Qly),(159,QwJ),(160,Qin),(161,QwO)] (fun _ _=>none)
def Qq5 (p0:Endpoint)(p1:Change):OV:=
 let a2:=(((JU p0).2).2)
 let a1:=((a2.2).2)
 let a3:=((((GM p1.2.2.2.2.1).1).1,((((GM p1.2.2.2.2.1).1).2).1,())),(((GM p1.2.2.2.2.1).2).1,((((GM p1.2.2.2.2.1).2).2).1,())))
 let a4:=(List.length ((a1.2).1):Nat)
 let a5:=((JQ p0 p1.2.2.1).2)
 let a6:=lsl ((a1.2).1) 0 p1.2.2.2.1
 let a7:=(((a1.2).2).2)
 let a8:=(lsl ((a1.2).1) (Qg .i64 a5 1) (a4:Int))
 let a9:=lsl ((a1.2).1) 0 a5
 let a10:=(lsl ((a1.2).1) p1.2.2.2.1 (a4:Int))
 let a11:=(((a1.2).2).1,(a7.1,((a7.2).1,())))
 let a12:=Jc p0.2.2.2.2.2.2.2.1 p1.2.2.1
 let a13:=Jc p0.2.2.2.2.2.2.1 p1.2.2.1
 let a14:=ZG p0.2.2.2.2.2.2.2.1 p1.2.2.1
 let a15:=ZG p0.2.2.2.2.2.2.1 p1.2.2.1
 let a16:=ZG p0.2.2.2.1 p1.2.2.1
 br (QS p0) (br (ieq p1.2.1 1) (br (QdS p0.2.2.2.1 p1.2.2.2.1 p1.2.2.1) (some (.t Qo ((JU p0).1,(((JU p0).2).1,(a2.1,((UB p0.2.2.2.1 p1.2.2.2.1 p1.2.2.1),(a2.2).2)))),[])) none) (br (ieq p1.2.1 2) (br (Jc p0.2.2.2.1 p1.2.2.1) (br (Gk p0.2.2.2.1 a16) (some (.t Qo ((JU p0).1,(((JU p0).2).1,(a2.1,((woF p0.2.2.2.1 a16),(a2.2).2)))),[])) none) none) (br (ieq p1.2.1 3) (some (.t Qo ((JU p0).1,(((JU p0).2).1,(p1.2.2.1,a2.2))),[])) (br (ieq p1.2.1 4) (some (.t Qo ((JU p0).1,(p1.2.2.1,((JU p0).2).2)),[])) (br (ieq p1.2.1 5) (br (cSl ((a1.2).1) 0 p1.2.2.2.1 (a4:Int)) (br (QM ([]:List Identity) a6 48) (br (Jo p1.2.2.2.2.1) (br (QM (([]:List Identity)++a6) ([a3]) 48) (br (cSl ((a1.2).1) p1.2.2.2.1 (a4:Int) (a4:Int)) (br (QM ((([]:List Identity)++a6)++([a3])) a10 48) (some (.t Qo ((JU p0).1,(((JU p0).2).1,(a2.1,((a2.2).1,(a1.1,((((([]:List Identity)++a6)++([a3]))++a10),a11)))))),[])) none) none) none) none) none) none) (br (ieq p1.2.1 6) (br (Zk p0 p1.2.2.1) (br (cSl ((a1.2).1) 0 a5 (a4:Int)) (br (QM ([]:List Identity) a9 48) (br (cSl ((a1.2).1) (Qg .i64 a5 1) (a4:Int) (a4:Int)) (br (QM (([]:List Identity)++a9) a8 48) (some (.t Qo ((JU p0).1,(((JU p0).2).1,(a2.1,((a2.2).1,(a1.1,(((([]:List Identity)++a9)++a8),a11)))))),[])) none) none) none) none) none) (br (ieq p1.2.1 7) (br a13 (some (.t Qo ((JU p0).1,(((JU p0).2).1,(a2.1,((a2.2).1,(a1.1,((a1.2).1,((Fi p0.2.2.2.2.2.2.1 p1.2.2.1),((a1.2).2).2))))))),[])) none) (br (ieq p1.2.1 8) (br a13 (br (Gk p0.2.2.2.2.2.2.1 a15) (some (.t Qo ((JU p0).1,(((JU p0).2).1,(a2.1,((a2.2).1,(a1.1,((a1.2).1,((woF p0.2.2.2.2.2.2.1 a15),((a1.2).2).2))))))),[])) none) none) (br (ieq p1.2.1 9) (br a12 (some (.t Qo ((JU p0).1,(((JU p0).2).1,(a2.1,((a2.2).1,(a1.1,((a1.2).1,(((a1.2).2).1,((Fi p0.2.2.2.2.2.2.2.1 p1.2.2.1),a7.2)))))))),[])) none) (br (ieq p1.2.1 10) (br a12 (br (Gk p0.2.2.2.2.2.2.2.1 a14) (some (.t Qo ((JU p0).1,(((JU p0).2).1,(a2.1,((a2.2).1,(a1.1,((a1.2).1,(((a1.2).2).1,((woF p0.2.2.2.2.2.2.2.1 a14),a7.2)))))))),[])) none) none) (br (ieq p1.2.1 11) (some (.t Qo ((JU p0).1,(((JU p0).2).1,(a2.1,((a2.2).1,(a1.1,((a1.2).1,(((a1.2).2).1,(a7.1,((ieq p1.2.2.1 1),(a7.2).2))))))))),[])) (br (ieq p1.2.1 12) (some (.t Qo ((JU p0).1,(((JU p0).2).1,(a2.1,((a2.2).1,((ieq p1.2.2.1 1),a1.2))))),[])) (some (.t Qo (JU p0),[])))))))))))))) none
theorem brE {c:Bool}{x y:Endpoint}{A B:OV}(h1:c=true->A=some (.t Qo x,[]))(h2:B=some (.t Qo y,[])):br c A B=some (.t Qo (bif c then x else y),[]):=by
 cases c with
 |true=>exact h1 rfl
 |false=>exact h2
theorem Og {l1 l2:List Identity}(h1:l1.length<=300000)(h2:l2.length<=300000):QM l1 l2 48=true:=Jk (by decide) (by omega)
theorem Y4 {a b:Int}(h:ieq a b=true):a=b:=by
 simpa [ZV] using h
theorem s_f119 (e:Endpoint)(c:Change)(h:Qbz e c=true):Qq5 e c=some (.t Qo (Yb e c),[]):=by
 obtain ⟨h,hz⟩:=Bg.1 h
 obtain ⟨h1,h2⟩:=Bg.1 h
 have hz:Zh e c=0:=Y4 hz
 obtain ⟨b1,b2,b3,b4,b5⟩:=(XT h1).2
 unfold Qq5 Yb
 refine brY h1 (brE (fun g=> ?_) (brE (fun g=> ?_) (brE (fun _=>rfl) (brE (fun _=>rfl) (brE (fun g=> ?_) (brE (fun g=> ?_) (brE (fun _=> ?_) (brE (fun g=> ?_) (brE (fun _=> ?_) (brE (fun g=> ?_) (brE (fun _=>rfl) (brE (fun _=>rfl) rfl))))))))))))
 ·obtain ⟨p1,p2⟩:=alw_1 hz (Y4 g)
  exact brY (Be ⟨p1,p2,b1⟩) rfl
 ·exact brY (Be b1) (brY (ED hz (Y4 g) (.inl rfl) b1) rfl)
 ·obtain ⟨p1,p2⟩:=alw_5 hz (Y4 g)
  have e1:=WM (y:=QV) (l:=Qp e) p1 p2
  have e2:=WN (y:=QV) (l:=Qp e) p1 p2
  have a1:(lsl (Qp e) 0 (Yg c)).length<=300000:=by omega
  have a2:(lsl (Qp e) (Yg c) ((List.length (Qp e):Nat):Int)).length<=300000:=by omega
  have a3:(([]:List Identity)++lsl (Qp e) 0 (Yg c)).length<=300000:=a1
  have a4:((([]:List Identity)++lsl (Qp e) 0 (Yg c))++[Zn c]).length<=300000:=by
   rw [Bm,BP,Bq]
   omega
  exact brY (Be ⟨BV 0,p1,p2,BV _⟩) (brY (Og (show 0<=300000 by decide) a1) (brY h2 (brY (Og a3 (show 1<=300000 by decide)) (brY (Be ⟨p1,p2,BV _,BV _⟩) (brY (Og a4 a2) rfl)))))
 ·obtain ⟨p1,p2⟩:=alw_6 hz (Y4 g)
  have e0:Qg .i64 (JQ e (Jf c)).2 1=(JQ e (Jf c)).2+1:=J6 (by omega)
  have e1:=WM (y:=QV) (l:=Qp e) p1 (by omega)
  have e2:=WN (y:=QV) (l:=Qp e) (a:=(JQ e (Jf c)).2+1) (by omega) (by omega)
  have a1:(lsl (Qp e) 0 (JQ e (Jf c)).2).length<=300000:=by omega
  have a2:(lsl (Qp e) (Qg .i64 (JQ e (Jf c)).2 1) ((List.length (Qp e):Nat):Int)).length<=300000:=by rw [e0];omega
  have a3:(([]:List Identity)++lsl (Qp e) 0 (JQ e (Jf c)).2).length<=300000:=a1
  have q:cSl (Qp e) (Qg .i64 (JQ e (Jf c)).2 1) ((List.length (Qp e):Nat):Int) ((List.length (Qp e):Nat):Int)=true:=by
   rw [e0]
   exact Be ⟨by omega,by omega,BV _,BV _⟩
  exact brY (Be b2) (brY (Be ⟨BV 0,p1,(show (JQ e (Jf c)).2<=((Qp e).length:Int) by omega),BV _⟩) (brY (Og (show 0<=300000 by decide) a1) (brY q (brY (Og a3 a2) rfl))))
 ·exact brY (Be b3) rfl
 ·exact brY (Be b3) (brY (ED hz (Y4 g) (.inr (.inl rfl)) b3) rfl)
 ·exact brY (Be b4) rfl
 ·exact brY (Be b4) (brY (ED hz (Y4 g) (.inr (.inr rfl)) b4) rfl)
def Qq6:Ent:=Qi (.pr Qo (.pr Zo .nil)) (fun x=>(Qbz x.1 x.2.1)) (fun x=>(.t Qo (Yb x.1 x.2.1)))
theorem QFM:EM 119 Qq6:=mS g_f119 QFL [((.c 4 true 9),some Qo)] false (gB (gD Qrp (gD Qte (gD QwV (gD QwH (gD QKY (gD Qrj (gD QK2 gN)))))))) fun m=>Qm m fun x hok=>kT (s_f119 x.1 x.2.1 hok)
theorem Qq7 {l:List Int}{n:Int}:(Fi l n).length=l.length+1:=by
 have:=QlA n l
 exact QwF (by omega) (by omega)
theorem QbA {p:Identity->Bool}{l:List Identity}(h:l.all p=true)(a b:Int):(lsl l a b).all p=true:=by
 rw [Bf] at h ⊢
 exact fun x hx=>h x (DU (Du hx))
theorem Qq8 {n:Nat}{e:Endpoint}{c:Change}(h:Z1 n e=true)(hn:n<=90000)(hi:Jo (Zn c)=true)(hz:Zh e c=0):Z1 (n+1) (Yb e c)=true:=by
 obtain ⟨h1,⟨h2,h3,h4,h5⟩,h6⟩:=Qc4 h
 have hm:=QkB h (Nat.le_succ n)
 have mk: ∀ x:Endpoint,x.1=e.1->(Qq x).length<=n+1->(Qp x).length<=n+1->(Q7 x).length<=n+1->(Ja x).length<=n+1->(Qp x).all Jo=true->Z1 (n+1) x=true:=fun x g0 g1 g2 g3 g4 g5=>by
  unfold Z1
  rw [g0]
  simp only [Bb,Ba]
  exact ⟨⟨h1,g1,g2,g3,g4⟩,g5⟩
 unfold Yb
 cases g1:ieq (QZ c) 1 with
 |true=>
  obtain ⟨p1,p2⟩:=alw_1 hz (Y4 g1)
  have:=QwF (l:=Qq e) (n:=Jf c) p1 p2
  exact mk _ rfl (by show (UB (Qq e) (Yg c) (Jf c)).length<=n+1;omega) (by show (Qp e).length<=n+1;omega) (by show (Q7 e).length<=n+1;omega) (by show (Ja e).length<=n+1;omega) h6
 |false=>
  cases g2:ieq (QZ c) 2 with
  |true=>
   have:=Qlz (ED hz (Y4 g2) (.inl rfl) (show (Qq e).length<=100000 by omega))
   have this:(woF (Qq e) (ZG (Qq e) (Jf c))).length+1=(Qq e).length:=this
   exact mk _ rfl (by show (woF (Qq e) (ZG (Qq e) (Jf c))).length<=n+1;omega) (by show (Qp e).length<=n+1;omega) (by show (Q7 e).length<=n+1;omega) (by show (Ja e).length<=n+1;omega) h6
  |false=>
   cases ieq (QZ c) 3 with
   |true=>exact hm
   |false=>
    cases ieq (QZ c) 4 with
    |true=>exact hm
    |false=>
     cases g5:ieq (QZ c) 5 with
     |true=>
      obtain ⟨p1,p2⟩:=alw_5 hz (Y4 g5)
      have e1:=WM (y:=QV) (l:=Qp e) p1 p2
      have e2:=WN (y:=QV) (l:=Qp e) p1 p2
      have hal:(adI e c).length=(Qp e).length+1:=by
       unfold adI
       rw [Bm,Bm,BP,Bq]
       omega
      refine mk _ rfl (by show (Qq e).length<=n+1;omega) (by show (adI e c).length<=n+1;omega) (by show (Q7 e).length<=n+1;omega) (by show (Ja e).length<=n+1;omega) ?_
      show (adI e c).all Jo=true
      unfold adI
      rw [DI,DI,BP,QbA h6,QbA h6]
      simp only [BW,Dy,hi,BZ]
     |false=>
      cases g6:ieq (QZ c) 6 with
      |true=>
       obtain ⟨p1,p2⟩:=alw_6 hz (Y4 g6)
       have e0:Qg .i64 (JQ e (Jf c)).2 1=(JQ e (Jf c)).2+1:=J6 (by omega)
       have e1:=WM (y:=QV) (l:=Qp e) p1 (by omega)
       have e2:=WN (y:=QV) (l:=Qp e) (a:=(JQ e (Jf c)).2+1) (by omega) (by omega)
       have hal:(drI e c).length<=(Qp e).length:=by
        unfold drI
        rw [e0,Bm,BP]
        omega
       refine mk _ rfl (by show (Qq e).length<=n+1;omega) (by show (drI e c).length<=n+1;omega) (by show (Q7 e).length<=n+1;omega) (by show (Ja e).length<=n+1;omega) ?_
       show (drI e c).all Jo=true
       unfold drI
       rw [DI,BP,QbA h6,QbA h6]
       rfl
      |false=>
       have fin: ∀ l m:List Int,l.length<=n+1->m.length<=n+1->Z1 (n+1) (anE e l)=true/\Z1 (n+1) (hsE e m)=true:=fun l m hl hm=>⟨mk _ rfl (by show (Qq e).length<=n+1;omega) (by show (Qp e).length<=n+1;omega) hl (by show (Ja e).length<=n+1;omega) h6,mk _ rfl (by show (Qq e).length<=n+1;omega) (by show (Qp e).length<=n+1;omega) (by show (Q7 e).length<=n+1;omega) hm h6⟩
       cases ieq (QZ c) 7 with
       |true=>exact (fin _ [] (by rw [Qq7];omega) (BX _)).1
       |false=>
        cases g8:ieq (QZ c) 8 with
        |true=>
         have:=Qlz (ED hz (Y4 g8) (.inr (.inl rfl)) (show (Q7 e).length<=100000 by omega))
         have this:(woF (Q7 e) (ZG (Q7 e) (Jf c))).length+1=(Q7 e).length:=this
         exact (fin _ [] (by omega) (BX _)).1
        |false=>
         cases ieq (QZ c) 9 with
         |true=>exact (fin [] _ (BX _) (by rw [Qq7];omega)).2
         |false=>
          cases g10:ieq (QZ c) 10 with
          |true=>
           have:=Qlz (ED hz (Y4 g10) (.inr (.inr rfl)) (show (Ja e).length<=100000 by omega))
           have this:(woF (Ja e) (ZG (Ja e) (Jf c))).length+1=(Ja e).length:=this
           exact (fin [] _ (BX _) (by omega)).2
          |false=>
           cases ieq (QZ c) 11 with
           |true=>exact hm
           |false=>
            cases ieq (QZ c) 12 with
            |true=>exact hm
            |false=>exact hm
def ZC (e:Endpoint)(c:Change):Endpoint×Int:=bif ine (Zh e c) 0 then (zEp,Zh e c) else bif ine (JZ (Yb e c)) 0 then (zEp,18) else (Yb e c,0)
def QbB (e:Endpoint)(c:Change):Bool:=Z1 80000 e&&Jo (Zn c)
def tc_f70:TC:=aF Tryz.f70 []
def g_f70:G:=gG 23 [(61,Fm),(118,Qu4),(119,Qq6)] (fun _ _=>none)
def r_f70 (p0:Endpoint)(p1:Change):OV:=br (QkC p0 p1) (br (ine (Zh p0 p1) 0) (some (.tu [(.t Qo ((ByteArray.mk #[]),(0,(0,(([]:List Int),(false,(([]:List Identity),(([]:List Int),(([]:List Int),(false,())))))))))),(.t tI (Zh p0 p1))],[])) (br (Qbz p0 p1) (br (QS (Yb p0 p1)) (br (ine (JZ (Yb p0 p1)) 0) (some (.tu [(.t Qo ((ByteArray.mk #[]),(0,(0,(([]:List Int),(false,(([]:List Identity),(([]:List Int),(([]:List Int),(false,())))))))))),(.t tI 18)],[])) (some (.tu [(.t Qo (Yb p0 p1)),(.t tI 0)],[]))) none) none)) none
theorem s_f70 (e:Endpoint)(c:Change)(h:QbB e c=true):r_f70 e c=some (.tu [.t Qo (ZC e c).1,.t tI (ZC e c).2],[]):=by
 obtain ⟨hb,hi⟩:=Bg.1 h
 have hl:=EA hb (by decide)
 unfold r_f70 ZC
 refine brY (Bg.2 ⟨hl,hi⟩) ?_
 cases hz:ine (Zh e c) 0 with
 |true=>rfl
 |false=>
  have hz0:Zh e c=0:=Vd hz
  have hq:Qbz e c=true:=Bg.2 ⟨Bg.2 ⟨hl,hi⟩,by rw [hz0];rfl⟩
  rw [Qf]
  refine brY hq (brY (EA (Qq8 hb (by decide) hi hz0) (by decide)) ?_)
  cases ine (JZ (Yb e c)) 0<;>rfl
def Qq9:Ent:=Qi (.pr Qo (.pr Zo .nil)) (fun x=>(QbB x.1 x.2.1)) (fun x=>(.tu [(.t Qo ((ZC x.1 x.2.1).1)),(.t tI ((ZC x.1 x.2.1).2))]))
theorem ms_f70:EM 70 Qq9:=mS g_f70 tc_f70 [((.c 4 true 9),some Qo),((.t 5),some tI)] false (gB (gD Ia (gD QIZ (gD QFM gN)))) fun m=>Qm m fun x hok=>kT (s_f70 x.1 x.2.1 hok)
theorem QFN {n:Nat}{e:Endpoint}{c:Change}(h:Z1 n e=true)(hn:n<=80000)(hi:Jo (Zn c)=true)(hz:(ZC e c).2=0):Z1 (n+1) (ZC e c).1=true:=by
 unfold ZC at hz ⊢
 cases h1:ine (Zh e c) 0 with
 |true=>
  rw [h1] at hz
  have:Zh e c=0:=hz
  rw [this] at h1
  exact absurd h1 (by decide)
 |false=>
  cases h2:ine (JZ (Yb e c)) 0 with
  |true=>
   rw [h1,h2] at hz
   exact absurd (show (18:Int)=0 from hz) (by decide)
  |false=>exact Qq8 h (by omega) hi (Vd h1)
end
end Go.Proofs.YtmjnnemhoeolgaaGreat.K
noncomputable section
namespace Go.Proofs.YtmjnnemhoeolgaaGreat.K
open Go.RowKit
noncomputable section
def vsOk (l:List Int)(n:Int)(k:Nat):Bool:= !ilt (l.getD k 0) 0&&(!ige (l.getD k 0) n&&(decide (k=0)|| !ige (l.getD (k-1) 0) (l.getD k 0)))
def vsUp (l:List Int)(n:Int)(k:Nat):Bool:=(List.range' k (l.length-k)).all (vsOk l n)
def vstF (l:List Int)(n:Int):Bool:=vsUp l n 0
theorem vs_in {l:List Int}{n:Int}(h:vstF l n=true): ∀ x∈l,0<=x/\x<n:=fun x hx=>by
 obtain ⟨k,hk⟩:=DD.1 hx
 obtain ⟨hk1,rfl⟩:=BG.1 hk
 unfold vstF vsUp at h
 rw [Bf] at h
 have:=h k (by rw [List.mem_range'];exact ⟨k,by omega,by omega⟩)
 unfold vsOk at this
 rw [show l.getD k 0=l[k] by simp only [Bk,Bh hk1,BH]] at this
 simp only [Bb,Bu,ilt,ige,Bn] at this
 omega
abbrev zX:Estate:=(([]:List Endpoint),(([]:List Keep),(([]:List Item),())))
def YI (n:Nat)(x:Estate):Bool:=(Qt x).all (Z1 n)&&(decide ((Qt x).length<=1000/\(Q9 x).length<=1000)&&(Ym (ZB x)&&(ZB x).all GN))
theorem Fh {n:Nat}{x:Estate}(h:YI n x=true):(Qt x).all (Z1 n)=true/\((Qt x).length<=1000/\(Q9 x).length<=1000)/\Ym (ZB x)=true/\(ZB x).all GN=true:=by
 simp only [YI,Bb,Ba] at h
 exact ⟨h.1,h.2.1,h.2.2.1,h.2.2.2⟩
theorem Qlw {n:Nat}{x:Estate}(h:YI n x=true)(hn:n<=90000):JN x=true/\QbJ x=true:=by
 obtain ⟨h1,⟨h2,h3⟩,h4,h5⟩:=Fh h
 have:JN x=true:=by
  unfold JN
  simp only [Bb,Ba]
  exact ⟨⟨by omega,by omega⟩,Bf.2 fun e he=>EA (Bf.1 h1 e he) (by omega),h4⟩
 exact ⟨this,Bg.2 ⟨this,h5⟩⟩
def XU (x:Estate)(c:Change):Estate×Int:=
 bif ilt c.1 0 then (zX,40) else bif ige c.1 (Qa (Qt x)) then (zX,40) else
 bif ine (ZC (Jb (Qt x) c.1.toNat) c).2 0 then (zX,(ZC (Jb (Qt x) c.1.toNat) c).2) else (((Qt x).set c.1.toNat (ZC (Jb (Qt x) c.1.toNat) c).1,(Q9 x,(ZB x,()))),0)
def UA (x:Estate)(c:Change):Bool:=YI 80000 x&&Jo (Zn c)
theorem QdP {p:Endpoint->Bool}{l:List Endpoint}(h:l.all p=true){k:Nat}(hk:k<l.length):p (Jb l k)=true:=by
 rw [show Jb l k=l[k] by simp only [Jb,Bk,Bh hk,BH]]
 exact Bf.1 h _ (Bw hk)
def tc_f43:TC:=aF Tryz.f43 [(14,pD [(0,[2]),(1,[2]),(2,[3]),(3,[3]),(4,[]),(5,[]),(6,[3]),(7,[]),(8,[]),(9,[]),(10,[]),(11,[6,5006,10006,15006]),(12,[6]),(13,[])] (.of [0,1,2,3,4,5,6,7,8,9,10,11,12,13]))]
def g_f43:G:=gG 45 [(70,Qq9),(71,Qrw)] (fun _ _=>none)
def r_f43 (p0:Estate)(p1:Change):OV:=
 let a1:=lgt Qo p0.1 (Int.toNat p1.1)
 br (ilt p1.1 0) (some (.tu [(.t Qx (([]:List Endpoint),(([]:List Keep),(([]:List Item),())))),(.t tI 40)],[])) (br (ige p1.1 (Qa p0.1)) (some (.tu [(.t Qx (([]:List Endpoint),(([]:List Keep),(([]:List Item),())))),(.t tI 40)],[])) (br (cIx p0.1 p1.1) (br (QbB a1 p1) (br (ine ((ZC a1 p1).2) 0) (some (.tu [(.t Qx (([]:List Endpoint),(([]:List Keep),(([]:List Item),())))),(.t tI ((ZC a1 p1).2))],[])) (br (QbJ p0) (br (cIx ((Wk p0).1) p1.1) (br (cLd ((Wk p0).1) (Int.toNat p1.1)) (some (.tu [(.t Qx ((List.set ((Wk p0).1) (Int.toNat p1.1) ((ZC a1 p1).1)),(((Wk p0).2).1,((((Wk p0).2).2).1,())))),(.t tI 0)],[])) none) none) none)) none) none))
theorem s_f43 (x:Estate)(c:Change)(h:UA x c=true):r_f43 x c=some (.tu [.t Qx (XU x c).1,.t tI (XU x c).2],[]):=by
 obtain ⟨hb,hi⟩:=Bg.1 h
 obtain ⟨_,hcp⟩:=Qlw hb (by decide)
 unfold r_f43 XU
 cases h1:ilt c.1 0 with
 |true=>rfl
 |false=>
  cases h2:ige c.1 (Qa (Qt x)) with
  |true=>rfl
  |false=>
   simp only [ilt,ige,Qa,Bn] at h1 h2
   have hix:cIx (Qt x) c.1=true:=Be ⟨by omega,by omega⟩
   have hk:c.1.toNat<(Qt x).length:=by omega
   have ha:QbB (Jb (Qt x) c.1.toNat) c=true:=Bg.2 ⟨QdP (Fh hb).1 hk,hi⟩
   rw [Qf,Qf]
   refine brY hix (brY ha ?_)
   cases h3:ine (ZC (Jb (Qt x) c.1.toNat) c).2 0 with
   |true=>rfl
   |false=>
    rw [Qf]
    exact brY hcp (brY hix (brY (Be hk) rfl))
def QwD:Ent:=Qi (.pr Qx (.pr Zo .nil)) (fun x=>(UA x.1 x.2.1)) (fun x=>(.tu [(.t Qx ((XU x.1 x.2.1).1)),(.t tI ((XU x.1 x.2.1).2))]))
theorem ms_f43:EM 43 QwD:=mS g_f43 tc_f43 [((.c 4 true 3),some Qx),((.t 5),some tI)] false (gB (gD ms_f70 (gD ms_f71 gN))) fun m=>Qm m fun x hok=>kT (s_f43 x.1 x.2.1 hok)
end
end Go.Proofs.YtmjnnemhoeolgaaGreat.K
noncomputable section
namespace Go.Proofs.YtmjnnemhoeolgaaGreat.K
open Go.RowKit
noncomputable section
theorem QmL {n m:Nat}{x:Estate}(h:YI n x=true)(hn:n<=m):YI m x=true:=by
 obtain ⟨h1,h2,h3,h4⟩:=Fh h
 unfold YI
 simp only [Bb,Ba]
 exact ⟨Bf.2 fun e he=>QkB (Bf.1 h1 e he) hn,h2,h3,h4⟩
theorem QmM (n:Nat):YI n zX=true:=rfl
theorem QMF {n:Nat}{x:Estate}{c:Change}(h:YI n x=true)(hn:n<=80000)(hi:Jo (Zn c)=true):YI (n+1) (XU x c).1=true:=by
 unfold XU
 cases h1:ilt c.1 0 with
 |true=>exact QmM _
 |false=>
  cases h2:ige c.1 (Qa (Qt x)) with
  |true=>exact QmM _
  |false=>
   cases h3:ine (ZC (Jb (Qt x) c.1.toNat) c).2 0 with
   |true=>exact QmM _
   |false=>
    simp only [ilt,ige,Qa,Bn] at h1 h2
    have hk:c.1.toNat<(Qt x).length:=by omega
    obtain ⟨g1,g2,g3,g4⟩:=Fh h
    have ha:=QFN (QdP g1 hk) hn hi (Vd h3)
    show YI (n+1) ((Qt x).set c.1.toNat (ZC (Jb (Qt x) c.1.toNat) c).1,(Q9 x,(ZB x,())))=true
    unfold YI
    simp only [Bb,Ba]
    refine ⟨Bf.2 fun e he=> ?_,⟨?_,g2.2⟩,g3,g4⟩
    ·rcases List.mem_or_eq_of_mem_set he with he|rfl
     ·exact QkB (Bf.1 g1 e he) (Nat.le_succ n)
     ·exact ha
    ·show ((Qt x).set c.1.toNat (ZC (Jb (Qt x) c.1.toNat) c).1).length<=1000
     rw [List.length_set]
     exact g2.1
end
end Go.Proofs.YtmjnnemhoeolgaaGreat.K
noncomputable section
namespace Go.Proofs.YtmjnnemhoeolgaaGreat.K
open Go.RowKit
def U5 (r:Rule)(u:Keep)(p:Int):Bool:=(r.Alg==0||r.Alg==u.1)&&(r.Purpose==0||r.Purpose==p)&&(r.Below==0||(decide (u.2.1 > 0)&&decide (u.2.1<r.Below)))
def Qie (r:Rule)(day:Int):Bool:=decide (r.From<=day)&&decide (day<r.To)
def Wj (r:Rule)(u:Keep)(p day:Int):Bool:=U5 r u p&&Qie r day
def QFQ:TC:=aF Tryz.f205 []
def g_f205:G:=gG 43 [] (fun _ _=>none)
def Qif (p0:Rule)(p1:Keep)(p2:Int):OV:=br (ieq p0.2.2.1 0) (some (.t .bool true,[])) (br (igt p1.2.1 0) (some (.t .bool (ilt p1.2.1 p0.2.2.1),[])) (some (.t .bool false,[])))
def Qig (p0:Rule)(p1:Keep)(p2:Int):OV:=br (ine p0.2.2.2.1 0) (br (ine p0.2.2.2.1 p2) (some (.t .bool false,[])) (Qif p0 p1 p2)) (Qif p0 p1 p2)
def Qra (p0:Rule)(p1:Keep)(p2:Int):OV:=br (ine p0.2.1 0) (br (ine p0.2.1 p1.1) (some (.t .bool false,[])) (Qig p0 p1 p2)) (Qig p0 p1 p2)
theorem s_f205 (p0:Rule)(p1:Keep)(p2:Int):Qra p0 p1 p2=some (.t .bool (U5 p0 p1 p2),[]):=by
 simp only [Qra,Qig,Qif]
 repeat' (refine QX ?_ ?_<;>intro _)
 all_goals (simp_all [U5,Estate.Endpoints,Estate.Edges,Estate.Items,Policy.Rules,Policy.Keeps,Dice.L,Dice.At,Keep.Client,Keep.Server,Endpoint.Name,Endpoint.Least,Endpoint.Most,Endpoint.Suites,Endpoint.OwnOrder,Endpoint.Identities,Endpoint.Anchors,Endpoint.Hashes,Endpoint.Fallback,Identity.Key,Identity.KeyId,Identity.Chain,Change.Endpoint,Change.Kind,Change.Number,Change.At,Change.Identity,Rule.Allow,Rule.Alg,Rule.Below,Rule.Purpose,Rule.From,Rule.To,Rules.p,Rules.l,Rules.o,Rules.day,Way.Outcome,Way.Most,Way.Suites,Item.Name,Item.Kind,Item.Purpose,Item.Links,Item.Until,Exception.Use,Exception.Purpose,Exception.Endpoint,Exception.Days,Exception.Seals,Method.outcome,Method.uses,Suite.Code,Suite.Name,Suite.Exchange,Suite.Sign,Suite.Cipher,Suite.Mac,Suite.Least,Suite.Most,Certificate.Serial,Certificate.Issuer,Certificate.Subject,Certificate.Key,Certificate.KeyId,Certificate.Hash,Certificate.From,Certificate.To,Certificate.Authority,Certificate.Path,Certificate.Names,Certificate.Seal,Link.Use,Link.Day,Talk.server,Talk.version,Talk.suites,Symbol.name,Symbol.kind,Row.name,Row.kind,Row.way,Row.sizes,Row.strengths]<;>omega)
def Qrb:Ent:=Qi (.pr Ju (.pr Qd (.pr tI .nil))) (fun x=>true) (fun x=>(.t .bool (U5 x.1 x.2.1 x.2.2.1)))
theorem QFR:EM 205 Qrb:=mS g_f205 QFQ [((.t 6),some .bool)] false (gB gN) fun m=>Qm m fun x _=>kT (s_f205 x.1 x.2.1 x.2.2.1)
def QFS:TC:=aF Tryz.f183 []
def g_f183:G:=gG 59 [] (fun _ _=>none)
def Qih (p0:Rule)(p1:Keep)(p2 p3:Int):OV:=br (ige p3 p0.2.2.2.2.1) (some (.t .bool (ilt p3 p0.2.2.2.2.2.1),[])) (some (.t .bool false,[]))
def Qii (p0:Rule)(p1:Keep)(p2 p3:Int):OV:=br (ieq p0.2.2.2.1 0) (Qih p0 p1 p2 p3) (br (ieq p0.2.2.2.1 p2) (Qih p0 p1 p2 p3) (some (.t .bool false,[])))
def Qij (p0:Rule)(p1:Keep)(p2 p3:Int):OV:=br (ieq p0.2.2.1 0) (Qii p0 p1 p2 p3) (br (igt p1.2.1 0) (br (ilt p1.2.1 p0.2.2.1) (Qii p0 p1 p2 p3) (some (.t .bool false,[]))) (some (.t .bool false,[])))
def Qrc (p0:Rule)(p1:Keep)(p2 p3:Int):OV:=br (ieq p0.2.1 0) (Qij p0 p1 p2 p3) (br (ieq p0.2.1 p1.1) (Qij p0 p1 p2 p3) (some (.t .bool false,[])))
theorem s_f183 (p0:Rule)(p1:Keep)(p2 p3:Int):Qrc p0 p1 p2 p3=some (.t .bool (Wj p0 p1 p2 p3),[]):=by
 simp only [Qrc,Qij,Qii,Qih]
 repeat' (refine QX ?_ ?_<;>intro _)
 all_goals (simp_all [Wj,U5,Qie,Estate.Endpoints,Estate.Edges,Estate.Items,Policy.Rules,Policy.Keeps,Dice.L,Dice.At,Keep.Client,Keep.Server,Endpoint.Name,Endpoint.Least,Endpoint.Most,Endpoint.Suites,Endpoint.OwnOrder,Endpoint.Identities,Endpoint.Anchors,Endpoint.Hashes,Endpoint.Fallback,Identity.Key,Identity.KeyId,Identity.Chain,Change.Endpoint,Change.Kind,Change.Number,Change.At,Change.Identity,Rule.Allow,Rule.Alg,Rule.Below,Rule.Purpose,Rule.From,Rule.To,Rules.p,Rules.l,Rules.o,Rules.day,Way.Outcome,Way.Most,Way.Suites,Item.Name,Item.Kind,Item.Purpose,Item.Links,Item.Until,Exception.Use,Exception.Purpose,Exception.Endpoint,Exception.Days,Exception.Seals,Method.outcome,Method.uses,Suite.Code,Suite.Name,Suite.Exchange,Suite.Sign,Suite.Cipher,Suite.Mac,Suite.Least,Suite.Most,Certificate.Serial,Certificate.Issuer,Certificate.Subject,Certificate.Key,Certificate.KeyId,Certificate.Hash,Certificate.From,Certificate.To,Certificate.Authority,Certificate.Path,Certificate.Names,Certificate.Seal,Link.Use,Link.Day,Talk.server,Talk.version,Talk.suites,Symbol.name,Symbol.kind,Row.name,Row.kind,Row.way,Row.sizes,Row.strengths]<;>omega)
def Qrd:Ent:=Qi (.pr Ju (.pr Qd (.pr tI (.pr tI .nil)))) (fun x=>true) (fun x=>(.t .bool (Wj x.1 x.2.1 x.2.2.1 x.2.2.2.1)))
theorem QFT:EM 183 Qrd:=mS g_f183 QFS [((.t 8),some .bool)] false (gB gN) fun m=>Qm m fun x _=>kT (s_f183 x.1 x.2.1 x.2.2.1 x.2.2.2.1)
def same (a b:List Keep):Bool:=a==b
end Go.Proofs.YtmjnnemhoeolgaaGreat.K
noncomputable section
namespace Go.Proofs.YtmjnnemhoeolgaaGreat.K
open Go.RowKit
def YF (r:Rule):Bool:=decide (0<=r.Alg/\r.Alg<=22/\0<=r.Below/\r.Below<=16384/\0<=r.Purpose/\r.Purpose<=4/\0<=r.From/\r.From<r.To/\r.To<=40001)
def YT (k:Keep):Bool:=decide (1<=k.1/\k.1<=4/\0<=k.2.1/\k.2.1<=40000)
def ZJ (r:Rule):Bool:= !YF r
def ZK (k:Keep):Bool:= !YT k
def tc_f90:TC:=aF Tryz.f90 []
def g_f90:G:=gG 48 [] (fun _ _=>none)
def r_f90 (p0:Rule):OV:=br (ige p0.2.1 0) (br (ile p0.2.1 22) (br (ige p0.2.2.1 0) (br (ile p0.2.2.1 16384) (br (ige p0.2.2.2.1 0) (br (ile p0.2.2.2.1 4) (br (ige p0.2.2.2.2.1 0) (br (ilt p0.2.2.2.2.1 p0.2.2.2.2.2.1) (some (.t .bool (ile p0.2.2.2.2.2.1 40001),[])) (some (.t .bool false,[]))) (some (.t .bool false,[]))) (some (.t .bool false,[]))) (some (.t .bool false,[]))) (some (.t .bool false,[]))) (some (.t .bool false,[]))) (some (.t .bool false,[]))) (some (.t .bool false,[]))
theorem s_f90 (r:Rule):r_f90 r=some (.t .bool (YF r),[]):=by
 simp only [r_f90]
 repeat' (refine QX ?_ ?_<;>intro _)
 all_goals simp only [ige,ile,ilt,Ba,Bn,Estate.Endpoints,Estate.Edges,Estate.Items,Policy.Rules,Policy.Keeps,Dice.L,Dice.At,Keep.Client,Keep.Server,Endpoint.Name,Endpoint.Least,Endpoint.Most,Endpoint.Suites,Endpoint.OwnOrder,Endpoint.Identities,Endpoint.Anchors,Endpoint.Hashes,Endpoint.Fallback,Identity.Key,Identity.KeyId,Identity.Chain,Change.Endpoint,Change.Kind,Change.Number,Change.At,Change.Identity,Rule.Allow,Rule.Alg,Rule.Below,Rule.Purpose,Rule.From,Rule.To,Rules.p,Rules.l,Rules.o,Rules.day,Way.Outcome,Way.Most,Way.Suites,Item.Name,Item.Kind,Item.Purpose,Item.Links,Item.Until,Exception.Use,Exception.Purpose,Exception.Endpoint,Exception.Days,Exception.Seals,Method.outcome,Method.uses,Suite.Code,Suite.Name,Suite.Exchange,Suite.Sign,Suite.Cipher,Suite.Mac,Suite.Least,Suite.Most,Certificate.Serial,Certificate.Issuer,Certificate.Subject,Certificate.Key,Certificate.KeyId,Certificate.Hash,Certificate.From,Certificate.To,Certificate.Authority,Certificate.Path,Certificate.Names,Certificate.Seal,Link.Use,Link.Day,Talk.server,Talk.version,Talk.suites,Symbol.name,Symbol.kind,Row.name,Row.kind,Row.way,Row.sizes,Row.strengths] at*
 all_goals (apply U6;unfold YF;rw [Dq];simp only [ige,ile,ilt,Ba,Estate.Endpoints,Estate.Edges,Estate.Items,Policy.Rules,Policy.Keeps,Dice.L,Dice.At,Keep.Client,Keep.Server,Endpoint.Name,Endpoint.Least,Endpoint.Most,Endpoint.Suites,Endpoint.OwnOrder,Endpoint.Identities,Endpoint.Anchors,Endpoint.Hashes,Endpoint.Fallback,Identity.Key,Identity.KeyId,Identity.Chain,Change.Endpoint,Change.Kind,Change.Number,Change.At,Change.Identity,Rule.Allow,Rule.Alg,Rule.Below,Rule.Purpose,Rule.From,Rule.To,Rules.p,Rules.l,Rules.o,Rules.day,Way.Outcome,Way.Most,Way.Suites,Item.Name,Item.Kind,Item.Purpose,Item.Links,Item.Until,Exception.Use,Exception.Purpose,Exception.Endpoint,Exception.Days,Exception.Seals,Method.outcome,Method.uses,Suite.Code,Suite.Name,Suite.Exchange,Suite.Sign,Suite.Cipher,Suite.Mac,Suite.Least,Suite.Most,Certificate.Serial,Certificate.Issuer,Certificate.Subject,Certificate.Key,Certificate.KeyId,Certificate.Hash,Certificate.From,Certificate.To,Certificate.Authority,Certificate.Path,Certificate.Names,Certificate.Seal,Link.Use,Link.Day,Talk.server,Talk.version,Talk.suites,Symbol.name,Symbol.kind,Row.name,Row.kind,Row.way,Row.sizes,Row.strengths,BF,false_iff];omega)
def Qu5:Ent:=Qi (.pr Ju .nil) (fun x=>true) (fun x=>(.t .bool (YF x.1)))
theorem ms_f90:EM 90 Qu5:=mS g_f90 tc_f90 [((.t 2),some .bool)] false (gB gN) fun m=>Qm m fun x _=>kT (s_f90 x.1)
def tc_f93:TC:=aF Tryz.f93 []
def g_f93:G:=gG 21 [] (fun _ _=>none)
def r_f93 (p0:Keep):OV:=br (ige p0.1 1) (br (ile p0.1 4) (br (ige p0.2.1 0) (some (.t .bool (ile p0.2.1 40000),[])) (some (.t .bool false,[]))) (some (.t .bool false,[]))) (some (.t .bool false,[]))
theorem s_f93 (r:Keep):r_f93 r=some (.t .bool (YT r),[]):=by
 simp only [r_f93]
 repeat' (refine QX ?_ ?_<;>intro _)
 all_goals simp only [ige,ile,ilt,Ba,Bn,Estate.Endpoints,Estate.Edges,Estate.Items,Policy.Rules,Policy.Keeps,Dice.L,Dice.At,Keep.Client,Keep.Server,Endpoint.Name,Endpoint.Least,Endpoint.Most,Endpoint.Suites,Endpoint.OwnOrder,Endpoint.Identities,Endpoint.Anchors,Endpoint.Hashes,Endpoint.Fallback,Identity.Key,Identity.KeyId,Identity.Chain,Change.Endpoint,Change.Kind,Change.Number,Change.At,Change.Identity,Rule.Allow,Rule.Alg,Rule.Below,Rule.Purpose,Rule.From,Rule.To,Rules.p,Rules.l,Rules.o,Rules.day,Way.Outcome,Way.Most,Way.Suites,Item.Name,Item.Kind,Item.Purpose,Item.Links,Item.Until,Exception.Use,Exception.Purpose,Exception.Endpoint,Exception.Days,Exception.Seals,Method.outcome,Method.uses,Suite.Code,Suite.Name,Suite.Exchange,Suite.Sign,Suite.Cipher,Suite.Mac,Suite.Least,Suite.Most,Certificate.Serial,Certificate.Issuer,Certificate.Subject,Certificate.Key,Certificate.KeyId,Certificate.Hash,Certificate.From,Certificate.To,Certificate.Authority,Certificate.Path,Certificate.Names,Certificate.Seal,Link.Use,Link.Day,Talk.server,Talk.version,Talk.suites,Symbol.name,Symbol.kind,Row.name,Row.kind,Row.way,Row.sizes,Row.strengths] at*
 all_goals (apply U6;unfold YT;rw [Dq];simp only [ige,ile,ilt,Ba,Estate.Endpoints,Estate.Edges,Estate.Items,Policy.Rules,Policy.Keeps,Dice.L,Dice.At,Keep.Client,Keep.Server,Endpoint.Name,Endpoint.Least,Endpoint.Most,Endpoint.Suites,Endpoint.OwnOrder,Endpoint.Identities,Endpoint.Anchors,Endpoint.Hashes,Endpoint.Fallback,Identity.Key,Identity.KeyId,Identity.Chain,Change.Endpoint,Change.Kind,Change.Number,Change.At,Change.Identity,Rule.Allow,Rule.Alg,Rule.Below,Rule.Purpose,Rule.From,Rule.To,Rules.p,Rules.l,Rules.o,Rules.day,Way.Outcome,Way.Most,Way.Suites,Item.Name,Item.Kind,Item.Purpose,Item.Links,Item.Until,Exception.Use,Exception.Purpose,Exception.Endpoint,Exception.Days,Exception.Seals,Method.outcome,Method.uses,Suite.Code,Suite.Name,Suite.Exchange,Suite.Sign,Suite.Cipher,Suite.Mac,Suite.Least,Suite.Most,Certificate.Serial,Certificate.Issuer,Certificate.Subject,Certificate.Key,Certificate.KeyId,Certificate.Hash,Certificate.From,Certificate.To,Certificate.Authority,Certificate.Path,Certificate.Names,Certificate.Seal,Link.Use,Link.Day,Talk.server,Talk.version,Talk.suites,Symbol.name,Symbol.kind,Row.name,Row.kind,Row.way,Row.sizes,Row.strengths,BF,false_iff];omega)
def Qu6:Ent:=Qi (.pr Qd .nil) (fun x=>true) (fun x=>(.t .bool (YT x.1)))
theorem ms_f93:EM 93 Qu6:=mS g_f93 tc_f93 [((.t 2),some .bool)] false (gB gN) fun m=>Qm m fun x _=>kT (s_f93 x.1)
def QI1:TC:=aF Tryz.f208 []
def g_f208:G:=gG 48 [] (fun _ _=>none)
def Qu7 (p0:Rule):OV:=br (ige p0.2.1 0) (br (ile p0.2.1 22) (br (ige p0.2.2.1 0) (br (ile p0.2.2.1 16384) (br (ige p0.2.2.2.1 0) (br (ile p0.2.2.2.1 4) (br (ige p0.2.2.2.2.1 0) (br (ilt p0.2.2.2.2.1 p0.2.2.2.2.2.1) (some (.t .bool (ile p0.2.2.2.2.2.1 40001),[])) (some (.t .bool false,[]))) (some (.t .bool false,[]))) (some (.t .bool false,[]))) (some (.t .bool false,[]))) (some (.t .bool false,[]))) (some (.t .bool false,[]))) (some (.t .bool false,[]))) (some (.t .bool false,[]))
theorem s_f208 (r:Rule):Qu7 r=some (.t .bool (YF r),[]):=by
 simp only [Qu7]
 repeat' (refine QX ?_ ?_<;>intro _)
 all_goals simp only [ige,ile,ilt,Ba,Bn,Estate.Endpoints,Estate.Edges,Estate.Items,Policy.Rules,Policy.Keeps,Dice.L,Dice.At,Keep.Client,Keep.Server,Endpoint.Name,Endpoint.Least,Endpoint.Most,Endpoint.Suites,Endpoint.OwnOrder,Endpoint.Identities,Endpoint.Anchors,Endpoint.Hashes,Endpoint.Fallback,Identity.Key,Identity.KeyId,Identity.Chain,Change.Endpoint,Change.Kind,Change.Number,Change.At,Change.Identity,Rule.Allow,Rule.Alg,Rule.Below,Rule.Purpose,Rule.From,Rule.To,Rules.p,Rules.l,Rules.o,Rules.day,Way.Outcome,Way.Most,Way.Suites,Item.Name,Item.Kind,Item.Purpose,Item.Links,Item.Until,Exception.Use,Exception.Purpose,Exception.Endpoint,Exception.Days,Exception.Seals,Method.outcome,Method.uses,Suite.Code,Suite.Name,Suite.Exchange,Suite.Sign,Suite.Cipher,Suite.Mac,Suite.Least,Suite.Most,Certificate.Serial,Certificate.Issuer,Certificate.Subject,Certificate.Key,Certificate.KeyId,Certificate.Hash,Certificate.From,Certificate.To,Certificate.Authority,Certificate.Path,Certificate.Names,Certificate.Seal,Link.Use,Link.Day,Talk.server,Talk.version,Talk.suites,Symbol.name,Symbol.kind,Row.name,Row.kind,Row.way,Row.sizes,Row.strengths] at*
 all_goals (apply U6;unfold YF;rw [Dq];simp only [ige,ile,ilt,Ba,Estate.Endpoints,Estate.Edges,Estate.Items,Policy.Rules,Policy.Keeps,Dice.L,Dice.At,Keep.Client,Keep.Server,Endpoint.Name,Endpoint.Least,Endpoint.Most,Endpoint.Suites,Endpoint.OwnOrder,Endpoint.Identities,Endpoint.Anchors,Endpoint.Hashes,Endpoint.Fallback,Identity.Key,Identity.KeyId,Identity.Chain,Change.Endpoint,Change.Kind,Change.Number,Change.At,Change.Identity,Rule.Allow,Rule.Alg,Rule.Below,Rule.Purpose,Rule.From,Rule.To,Rules.p,Rules.l,Rules.o,Rules.day,Way.Outcome,Way.Most,Way.Suites,Item.Name,Item.Kind,Item.Purpose,Item.Links,Item.Until,Exception.Use,Exception.Purpose,Exception.Endpoint,Exception.Days,Exception.Seals,Method.outcome,Method.uses,Suite.Code,Suite.Name,Suite.Exchange,Suite.Sign,Suite.Cipher,Suite.Mac,Suite.Least,Suite.Most,Certificate.Serial,Certificate.Issuer,Certificate.Subject,Certificate.Key,Certificate.KeyId,Certificate.Hash,Certificate.From,Certificate.To,Certificate.Authority,Certificate.Path,Certificate.Names,Certificate.Seal,Link.Use,Link.Day,Talk.server,Talk.version,Talk.suites,Symbol.name,Symbol.kind,Row.name,Row.kind,Row.way,Row.sizes,Row.strengths,BF,false_iff];omega)
def Qu8:Ent:=Qi (.pr Ju .nil) (fun x=>true) (fun x=>(.t .bool (YF x.1)))
theorem QI2:EM 208 Qu8:=mS g_f208 QI1 [((.t 2),some .bool)] false (gB gN) fun m=>Qm m fun x _=>kT (s_f208 x.1)
def QI3:TC:=aF Tryz.f209 []
def g_f209:G:=gG 21 [] (fun _ _=>none)
def Qu9 (p0:Keep):OV:=br (ige p0.1 1) (br (ile p0.1 4) (br (ige p0.2.1 0) (some (.t .bool (ile p0.2.1 40000),[])) (some (.t .bool false,[]))) (some (.t .bool false,[]))) (some (.t .bool false,[]))
theorem s_f209 (r:Keep):Qu9 r=some (.t .bool (YT r),[]):=by
 simp only [Qu9]
 repeat' (refine QX ?_ ?_<;>intro _)
 all_goals simp only [ige,ile,ilt,Ba,Bn,Estate.Endpoints,Estate.Edges,Estate.Items,Policy.Rules,Policy.Keeps,Dice.L,Dice.At,Keep.Client,Keep.Server,Endpoint.Name,Endpoint.Least,Endpoint.Most,Endpoint.Suites,Endpoint.OwnOrder,Endpoint.Identities,Endpoint.Anchors,Endpoint.Hashes,Endpoint.Fallback,Identity.Key,Identity.KeyId,Identity.Chain,Change.Endpoint,Change.Kind,Change.Number,Change.At,Change.Identity,Rule.Allow,Rule.Alg,Rule.Below,Rule.Purpose,Rule.From,Rule.To,Rules.p,Rules.l,Rules.o,Rules.day,Way.Outcome,Way.Most,Way.Suites,Item.Name,Item.Kind,Item.Purpose,Item.Links,Item.Until,Exception.Use,Exception.Purpose,Exception.Endpoint,Exception.Days,Exception.Seals,Method.outcome,Method.uses,Suite.Code,Suite.Name,Suite.Exchange,Suite.Sign,Suite.Cipher,Suite.Mac,Suite.Least,Suite.Most,Certificate.Serial,Certificate.Issuer,Certificate.Subject,Certificate.Key,Certificate.KeyId,Certificate.Hash,Certificate.From,Certificate.To,Certificate.Authority,Certificate.Path,Certificate.Names,Certificate.Seal,Link.Use,Link.Day,Talk.server,Talk.version,Talk.suites,Symbol.name,Symbol.kind,Row.name,Row.kind,Row.way,Row.sizes,Row.strengths] at*
 all_goals (apply U6;unfold YT;rw [Dq];simp only [ige,ile,ilt,Ba,Estate.Endpoints,Estate.Edges,Estate.Items,Policy.Rules,Policy.Keeps,Dice.L,Dice.At,Keep.Client,Keep.Server,Endpoint.Name,Endpoint.Least,Endpoint.Most,Endpoint.Suites,Endpoint.OwnOrder,Endpoint.Identities,Endpoint.Anchors,Endpoint.Hashes,Endpoint.Fallback,Identity.Key,Identity.KeyId,Identity.Chain,Change.Endpoint,Change.Kind,Change.Number,Change.At,Change.Identity,Rule.Allow,Rule.Alg,Rule.Below,Rule.Purpose,Rule.From,Rule.To,Rules.p,Rules.l,Rules.o,Rules.day,Way.Outcome,Way.Most,Way.Suites,Item.Name,Item.Kind,Item.Purpose,Item.Links,Item.Until,Exception.Use,Exception.Purpose,Exception.Endpoint,Exception.Days,Exception.Seals,Method.outcome,Method.uses,Suite.Code,Suite.Name,Suite.Exchange,Suite.Sign,Suite.Cipher,Suite.Mac,Suite.Least,Suite.Most,Certificate.Serial,Certificate.Issuer,Certificate.Subject,Certificate.Key,Certificate.KeyId,Certificate.Hash,Certificate.From,Certificate.To,Certificate.Authority,Certificate.Path,Certificate.Names,Certificate.Seal,Link.Use,Link.Day,Talk.server,Talk.version,Talk.suites,Symbol.name,Symbol.kind,Row.name,Row.kind,Row.way,Row.sizes,Row.strengths,BF,false_iff];omega)
def Qva:Ent:=Qi (.pr Qd .nil) (fun x=>true) (fun x=>(.t .bool (YT x.1)))
theorem QI4:EM 209 Qva:=mS g_f209 QI3 [((.t 2),some .bool)] false (gB gN) fun m=>Qm m fun x _=>kT (s_f209 x.1)
def tc_f89:TC:=aF Tryz.f89 []
def g_f89:G:=gG 6 [(90,Qu5)] (fun _ _=>none)
def r_f89 (p0:Rule):OV:=some (.t .bool (!(YF p0)),[])
theorem s_f89 (r:Rule):r_f89 r=some (.t .bool (ZJ r),[]):=rfl
def Qvb:Ent:=Qi (.pr Ju .nil) (fun x=>true) (fun x=>(.t .bool (ZJ x.1)))
theorem ms_f89:EM 89 Qvb:=mS g_f89 tc_f89 [((.t 2),some .bool)] false (gB (gD ms_f90 gN)) fun m=>Qm m fun x _=>kT (s_f89 x.1)
def tc_f92:TC:=aF Tryz.f92 []
def g_f92:G:=gG 6 [(93,Qu6)] (fun _ _=>none)
def r_f92 (p0:Keep):OV:=some (.t .bool (!(YT p0)),[])
theorem s_f92 (r:Keep):r_f92 r=some (.t .bool (ZK r),[]):=rfl
def Qvc:Ent:=Qi (.pr Qd .nil) (fun x=>true) (fun x=>(.t .bool (ZK x.1)))
theorem ms_f92:EM 92 Qvc:=mS g_f92 tc_f92 [((.t 2),some .bool)] false (gB (gD ms_f93 gN)) fun m=>Qm m fun x _=>kT (s_f92 x.1)
def Zi {α:Type}(m:α->Bool):List α->Option Nat
 | []=>none
 |a::l=>if m a then some 0 else (Zi m l).map (· + 1)
theorem Qc8 {α:Type}{m:α->Bool}: ∀ {l:List α},Zi m l=none↔l.any m=false
 | []=>by simp [Zi]
 |a::l=>by
  have ih:=Qc8 (m:=m) (l:=l)
  unfold Zi
  cases h:m a with
  |true=>simp [h]
  |false=>simpa [h] using ih
theorem Qvd {α:Type}{m:α->Bool}{l:List α}{k:Nat}(h:Zi m l=some k):l.any m=true:=by
 cases hq:l.any m with
 |true=>rfl
 |false=>rw [Qc8.2 hq] at h;cases h
def ZL {α:Type}(l:List α):Bool:=decide (l.length<=100000)
def OS (l:List Rule):Int:=match Zi ZJ l with|some k=>(k:Int)|none=> -1
def OT (l:List Keep):Int:=match Zi ZK l with|some k=>(k:Int)|none=> -1
abbrev Qc9:Sh:=⟨[(0,.ty (.sl Ju)),(1,.cf 89),(7,.ty tI),(8,.ty tI)],[]⟩
abbrev QkD:Sh:=⟨[(4,.ty tI)],[]⟩
abbrev EE:Sh:=⟨[],[]⟩
def QkE:Fg:=Qc9.f
def Qve:TC:=aF Tryz.f130 [(26,pL 0 QkE),(421,.fg EE.f),(13517,.fg QkD.f)]
def Qvf:TC:=lb 0 Qve
def Qvg (x0:List Rule)(x7 x8:Int):VS:=Qc9.st (x0,(),x7,x8,()) ()
def EF (x4:Int):VS:=QkD.st (x4,()) ()
def QkF  : VS:=EE.st () ()
def QI5:VS->Option (Bool×List (Bool×Exit×VS)):=mkL Qc9 (fun x y=>(QA x.1 x.2.2.1 x.2.2.2.1)) (fun x y=>[(((Zi ZJ (x.1.drop x.2.2.2.1.toNat)).isSome),.ret,EF (x.2.2.2.1+((Zi ZJ (x.1.drop x.2.2.2.1.toNat)).getD 0:Nat))),(true,.exit 0,QkF)])
def QkG:G:=gG 19 [(89,Qvb)] (Ls [QI5])
def Qda (x0:List Rule)(x7 x8:Int):OX:=Qr (Qv QkG QkE Qvf) (Qvg x0 x7 x8)
def OU (kk:List Rule->Int->Int->OX)(x0:List Rule)(x7 x8:Int):OX:=br (ilt x8 x7) (br (cIx x0 x8) (br (ZJ (lgt Ju x0 (Int.toNat x8))) (some (.ret,EF x8)) (kk x0 x7 (Qg .i64 x8 1))) none) (some (.exit 0,QkF))
def Qdb (x0:List Rule)(x7 x8:Int):OX:=
 let a1:=Zi ZJ (x0.drop x8.toNat)
 br (a1.isSome) (some (.ret,EF (x8+(a1.getD 0:Nat))))<|some (.exit 0,QkF)
theorem Qvh (x0:List Rule)(x7 x8:Int):Qda x0 x7 x8=OU Qda x0 x7 x8:=lnT (x:=OU (fun x0 x7 x8=>some (.normal,Qvg x0 x7 x8)) x0 x7 x8) (by simp only [OU,nxA];rfl)
def Qvi (p0:List Rule):OV:=
 let a1:=(Zi ZJ (p0.drop (0:Int).toNat))
 br (QA p0 (Qa p0) (0:Int)) (br (a1.isSome) (some (.t tI ((0:Int)+(a1.getD 0:Nat)),[])) (some (.t tI (-1),[]))) none
theorem QI6 (x0:List Rule)(x7 x8:Int)(h:(QA x0 x7 x8)=true):Qda x0 x7 x8=Qdb x0 x7 x8:=by
 obtain ⟨rfl,h3,k,rfl,hk⟩:=JB h
 clear h
 refine QP x0 (fun k=>Qda x0 (x0.length:Int) (k:Int)=Qdb x0 (x0.length:Int) (k:Int)) ?_ ?_ k hk
 ·rw [Qvh]
  simp [OU,Qdb,Qz,Qf,Zi]
 ·intro k hk ih
  rw [Qvh]
  simp only [OU,Qz,QJ,hk,Bt,Qb,Bc,QO (show k<4611686018427387904 by omega),ih,QL (y:=Ju) hk]
  simp only [Qdb,Bc,Bi hk,Zi]
  cases h:ZJ x0[k] with
  |true=>simp [Qb]
  |false=>
   simp only [Qf,BF,Dd]
   cases hq:Zi ZJ (x0.drop (k+1)) with
   |none=>rfl
   |some j=>
    simp only [B3,B7,BH,Qb]
    congr 3
    omega
theorem QI7:LO QkG QkE Qvf 0:=QH (s:=Qc9) fun x y h _ q=>by simp only [QE,QF] at q;exact (QI6 x.1 x.2.2.1 x.2.2.2.1 h).trans q
theorem QI8 (l:List Rule)(h:ZL l=true):Qvi l=some (.t tI (OS l),[]):=by
 simp only [ZL,Ba] at h
 simp only [Qvi,JC h,Qb,Br,By,OS]
 cases Zi ZJ l<;>simp [Qb,Qf]
def Qvj:Ent:=Ye [.ty (.sl Ju),.cf 89] [] (fun x d=>(ZL x.1)) (fun x d=>(.t tI (OS x.1)))
theorem QI9:EM 130 Qvj:=mS (lk:=lkL (lkc QI7 lkn)) QkG Qve [((.t 4),some tI)] false (gB (gD ms_f89 gN)) fun m=>ZZ m fun x d hok=>kT (QI8 x.1 hok)
def EG (l:List Rule):Bool:=l.any ZJ
def QJa:TC:=aF Tryz.f88 []
def QJb:G:=gG 9 [(130,Qvj)] (fun _ _=>none)
def Qvk (p0:List Rule):OV:=br (ZL p0) (some (.t .bool (ige (OS p0) 0),[])) none
theorem QJc (l:List Rule)(h:ZL l=true):Qvk l=some (.t .bool (EG l),[]):=by
 simp only [Qvk,h,Qb]
 congr 3
 unfold OS EG
 cases hq:Zi ZJ l with
 |none=>rw [Qc8.1 hq];rfl
 |some k=>rw [Qvd hq];simp only [ige,Ba];omega
def Qvl:Ent:=Ye [.ty (.sl Ju),.cf 89] [] (fun x d=>(ZL x.1)) (fun x d=>(.t .bool (EG x.1)))
theorem QJd:EM 88 Qvl:=mS QJb QJa [((.t 4),some .bool)] false (gB (gD QI9 gN)) fun m=>ZZ m fun x d hok=>kT (QJc x.1 hok)
abbrev Qdc:Sh:=⟨[(0,.ty (.sl Qd)),(1,.cf 92),(7,.ty tI),(8,.ty tI)],[]⟩
def QkH:Fg:=Qdc.f
def Qvm:TC:=aF Tryz.f131 [(26,pL 0 QkH),(421,.fg EE.f),(13517,.fg QkD.f)]
def Qvn:TC:=lb 0 Qvm
def Qvo (x0:List Keep)(x7 x8:Int):VS:=Qdc.st (x0,(),x7,x8,()) ()
def QkI  : VS:=EE.st () ()
def QJe:VS->Option (Bool×List (Bool×Exit×VS)):=mkL Qdc (fun x y=>(QA x.1 x.2.2.1 x.2.2.2.1)) (fun x y=>[(((Zi ZK (x.1.drop x.2.2.2.1.toNat)).isSome),.ret,EF (x.2.2.2.1+((Zi ZK (x.1.drop x.2.2.2.1.toNat)).getD 0:Nat))),(true,.exit 0,QkI)])
def QkJ:G:=gG 19 [(92,Qvc)] (Ls [QJe])
def Qdd (x0:List Keep)(x7 x8:Int):OX:=Qr (Qv QkJ QkH Qvn) (Qvo x0 x7 x8)
def OW (kk:List Keep->Int->Int->OX)(x0:List Keep)(x7 x8:Int):OX:=br (ilt x8 x7) (br (cIx x0 x8) (br (ZK (lgt Qd x0 (Int.toNat x8))) (some (.ret,EF x8)) (kk x0 x7 (Qg .i64 x8 1))) none) (some (.exit 0,QkI))
def Qde (x0:List Keep)(x7 x8:Int):OX:=
 let a1:=Zi ZK (x0.drop x8.toNat)
 br (a1.isSome) (some (.ret,EF (x8+(a1.getD 0:Nat))))<|some (.exit 0,QkI)
theorem Qvp (x0:List Keep)(x7 x8:Int):Qdd x0 x7 x8=OW Qdd x0 x7 x8:=lnT (x:=OW (fun x0 x7 x8=>some (.normal,Qvo x0 x7 x8)) x0 x7 x8) (by simp only [OW,nxA];rfl)
def Qvq (p0:List Keep):OV:=
 let a1:=(Zi ZK (p0.drop (0:Int).toNat))
 br (QA p0 (Qa p0) (0:Int)) (br (a1.isSome) (some (.t tI ((0:Int)+(a1.getD 0:Nat)),[])) (some (.t tI (-1),[]))) none
theorem QJf (x0:List Keep)(x7 x8:Int)(h:(QA x0 x7 x8)=true):Qdd x0 x7 x8=Qde x0 x7 x8:=by
 obtain ⟨rfl,h3,k,rfl,hk⟩:=JB h
 clear h
 refine QP x0 (fun k=>Qdd x0 (x0.length:Int) (k:Int)=Qde x0 (x0.length:Int) (k:Int)) ?_ ?_ k hk
 ·rw [Qvp]
  simp [OW,Qde,Qz,Qf,Zi]
 ·intro k hk ih
  rw [Qvp]
  simp only [OW,Qz,QJ,hk,Bt,Qb,Bc,QO (show k<4611686018427387904 by omega),ih,QL (y:=Qd) hk]
  simp only [Qde,Bc,Bi hk,Zi]
  cases h:ZK x0[k] with
  |true=>simp [Qb]
  |false=>
   simp only [Qf,BF,Dd]
   cases hq:Zi ZK (x0.drop (k+1)) with
   |none=>rfl
   |some j=>
    simp only [B3,B7,BH,Qb]
    congr 3
    omega
theorem QJg:LO QkJ QkH Qvn 0:=QH (s:=Qdc) fun x y h _ q=>by simp only [QE,QF] at q;exact (QJf x.1 x.2.2.1 x.2.2.2.1 h).trans q
theorem QJh (l:List Keep)(h:ZL l=true):Qvq l=some (.t tI (OT l),[]):=by
 simp only [ZL,Ba] at h
 simp only [Qvq,JC h,Qb,Br,By,OT]
 cases Zi ZK l<;>simp [Qb,Qf]
def Qvr:Ent:=Ye [.ty (.sl Qd),.cf 92] [] (fun x d=>(ZL x.1)) (fun x d=>(.t tI (OT x.1)))
theorem QJi:EM 131 Qvr:=mS (lk:=lkL (lkc QJg lkn)) QkJ Qvm [((.t 4),some tI)] false (gB (gD ms_f92 gN)) fun m=>ZZ m fun x d hok=>kT (QJh x.1 hok)
def EH (l:List Keep):Bool:=l.any ZK
def QJj:TC:=aF Tryz.f91 []
def QJk:G:=gG 9 [(131,Qvr)] (fun _ _=>none)
def Qvs (p0:List Keep):OV:=br (ZL p0) (some (.t .bool (ige (OT p0) 0),[])) none
theorem QJl (l:List Keep)(h:ZL l=true):Qvs l=some (.t .bool (EH l),[]):=by
 simp only [Qvs,h,Qb]
 congr 3
 unfold OT EH
 cases hq:Zi ZK l with
 |none=>rw [Qc8.1 hq];rfl
 |some k=>rw [Qvd hq];simp only [ige,Ba];omega
def Qvt:Ent:=Ye [.ty (.sl Qd),.cf 92] [] (fun x d=>(ZL x.1)) (fun x d=>(.t .bool (EH x.1)))
theorem QJm:EM 91 Qvt:=mS QJk QJj [((.t 4),some .bool)] false (gB (gD QJi gN)) fun m=>ZZ m fun x d hok=>kT (QJl x.1 hok)
theorem Qdf {α:Type}{l:List α}:igt (Qa l) 60= !decide (l.length<=60):=by
 have:igt (Qa l) 60=decide (60<l.length):=QGl
 rw [this]
 by_cases h:l.length<=60
 ·rw [Be h,BC,Bn];omega
 ·rw [Bl h,Dx,Ba];omega
def YU (y:Policy):Bool:=y.1.all YF&&y.2.1.all YT&&decide (y.1.length<=60/\y.2.1.length<=60)
def ZM (y:Policy):Int:=if YU y then 0 else 25
def J4 (y:Policy):Bool:=ZL y.1&&ZL y.2.1
def tc_f51:TC:=aF Tryz.f51 []
def g_f51:G:=gG 25 [(88,Qvl),(91,Qvt)] (fun _ _=>none)
def r_f51 (p0:Policy):OV:=br (ZL p0.1) (br (EG p0.1) (some (.t tI 25,[])) (br (ZL p0.2.1) (br (EH p0.2.1) (some (.t tI 25,[])) (br (igt (Qa p0.1) 60) (some (.t tI 25,[])) (br (igt (Qa p0.2.1) 60) (some (.t tI 25,[])) (some (.t tI 0,[]))))) none)) none
theorem s_f51 (y:Policy)(h:J4 y=true):r_f51 y=some (.t tI (ZM y),[]):=by
 simp only [J4,Bb] at h
 simp only [r_f51,h.1,h.2,Qb]
 have e1:EG y.1= !y.1.all YF:=by simp [EG,List.any_eq_not_all_not,ZJ]
 have e2:EH y.2.1= !y.2.1.all YT:=by simp [EH,List.any_eq_not_all_not,ZK]
 rw [e1,e2]
 unfold ZM YU
 rw [Qdf,Qdf]
 by_cases h1:y.1.length<=60<;>by_cases h2:y.2.1.length<=60<;>cases y.1.all YF<;>cases y.2.1.all YT<;>simp [Qb,Qf,h1,h2]
def QkK:Ent:=Qi (.pr Jz .nil) (fun x=>(J4 x.1)) (fun x=>(.t tI (ZM x.1)))
theorem Qvu:EM 51 QkK:=mS g_f51 tc_f51 [((.t 2),some tI)] false (gB (gD QJd (gD QJm gN))) fun m=>Qm m fun x hok=>kT (s_f51 x.1 hok)
abbrev Qdg:Sh:=⟨[(1,.ptr 1 0),(3,.ty tI)],[(1,.box Jz)]⟩
abbrev QkL:Sh:=⟨[(2,.ty tI)],[]⟩
abbrev Qvv:Sh:=⟨[(1,.ptr 1 0)],[(1,.box Jz)]⟩
abbrev Qdh:Sh:=⟨[(1,.ptr 1 0),(4,.ty tI)],[(1,.box Jz)]⟩
def QkM:Fg:=Qdg.f
def QkN:Fg:=Qdh.f
def QkO:TC:=aF Tryz.f182 [(58,pL 0 QkM),(931,.fg Qvv.f),(7461,.fg QkL.f),(122,pL 1 QkN),(1955,.fg EE.f),(15653,.fg QkL.f)]
def Qvw:TC:=lb 0 QkO
def Qvx:TC:=lb 1 QkO
def Qvy (x3:Int)(y1:Policy):VS:=Qdg.st ((),x3,()) (y1,())
def EI (x2:Int):VS:=QkL.st (x2,()) ()
def QkP (y1:Policy):VS:=Qvv.st ((),()) (y1,())
def Qvz (x4:Int)(y1:Policy):VS:=Qdh.st ((),x4,()) (y1,())
def QkQ  : VS:=EE.st () ()
def QJn:VS->Option (Bool×List (Bool×Exit×VS)):=mkL Qdg (fun x y=>(decide (0<=x.2.1/\x.2.1<=y.1.1.length/\y.1.1.length<=100000))) (fun x y=>[(((y.1.1.drop x.2.1.toNat).any ZJ),.ret,EI (25)),(true,.exit 0,QkP (y.1))])
def QJo:VS->Option (Bool×List (Bool×Exit×VS)):=mkL Qdh (fun x y=>(decide (0<=x.2.1/\x.2.1<=y.1.2.1.length/\y.1.2.1.length<=100000))) (fun x y=>[(((y.1.2.1.drop x.2.1.toNat).any ZK),.ret,EI (25)),(true,.exit 2,QkQ)])
def OY:G:=gG 43 [(208,Qu8),(209,Qva)] (Ls [QJn,QJo])
def Qdi (x3:Int)(y1:Policy):OX:=Qr (Qv OY QkM Qvw) (Qvy x3 y1)
def OZ (kk:Int->Policy->OX)(x3:Int)(y1:Policy):OX:=br (ilt x3 (Qa y1.1)) (br (cIx y1.1 x3) (br (!(YF (lgt Ju y1.1 (Int.toNat x3)))) (some (.ret,EI 25)) (kk (Qg .i64 x3 1) y1)) none) (some (.exit 0,QkP y1))
def Qdj (x3:Int)(y1:Policy):OX:=br ((y1.1.drop x3.toNat).any ZJ) (some (.ret,EI (25)))<|some (.exit 0,QkP (y1))
theorem QvA (x3:Int)(y1:Policy):Qdi x3 y1=OZ Qdi x3 y1:=lnT (x:=OZ (fun x3 y1=>some (.normal,Qvy x3 y1)) x3 y1) (by simp only [OZ,nxA];rfl)
def Qdk (x4:Int)(y1:Policy):OX:=Qr (Qv OY QkN Qvx) (Qvz x4 y1)
def O0 (kk:Int->Policy->OX)(x4:Int)(y1:Policy):OX:=br (ilt x4 (Qa y1.2.1)) (br (cIx y1.2.1 x4) (br (!(YT (lgt Qd y1.2.1 (Int.toNat x4)))) (some (.ret,EI 25)) (kk (Qg .i64 x4 1) y1)) none) (some (.exit 2,QkQ))
def Qdl (x4:Int)(y1:Policy):OX:=br ((y1.2.1.drop x4.toNat).any ZK) (some (.ret,EI (25)))<|some (.exit 2,QkQ)
theorem QvB (x4:Int)(y1:Policy):Qdk x4 y1=O0 Qdk x4 y1:=lnT (x:=O0 (fun x4 y1=>some (.normal,Qvz x4 y1)) x4 y1) (by simp only [O0,nxA];rfl)
def QvC (p0:Policy):OV:=br (igt (Qa p0.1) 60) (some (.t tI 25,[])) (br (igt (Qa p0.2.1) 60) (some (.t tI 25,[])) (br (decide (0<=(0:Int)/\(0:Int)<=p0.1.length/\p0.1.length<=100000)) (br ((p0.1.drop (0:Int).toNat).any ZJ) (some (.t tI (25),[])) (br (decide (0<=(0:Int)/\(0:Int)<=(p0).2.1.length/\(p0).2.1.length<=100000)) (br (((p0).2.1.drop (0:Int).toNat).any ZK) (some (.t tI (25),[])) (some (.t tI 0,[]))) none)) none))
theorem QJp (x3:Int)(y1:Policy)(h:(decide (0<=x3/\x3<=y1.1.length/\y1.1.length<=100000))=true):Qdi x3 y1=Qdj x3 y1:=by
 simp only [Ba] at h
 obtain ⟨h1,h2,h3⟩:=h
 obtain ⟨k,rfl⟩:=Bo h1
 refine QP y1.1 (fun k=>Qdi (k:Int) y1=Qdj (k:Int) y1) ?_ ?_ k (by omega)
 ·rw [QvA]
  simp [OZ,Qdj,Qz,Qa,Qf]
 ·intro k hk ih
  rw [QvA]
  simp only [OZ,Qz,Qa,QJ,hk,Bt,Qb,Bc,QO (show k<4611686018427387904 by omega),ih,QL (y:=Ju) hk]
  simp only [Qdj,Bc,Bi hk,List.any_cons,ZJ]
  cases YF y1.1[k]<;>simp [Qb,Qf]
theorem QJq (x4:Int)(y1:Policy)(h:(decide (0<=x4/\x4<=y1.2.1.length/\y1.2.1.length<=100000))=true):Qdk x4 y1=Qdl x4 y1:=by
 simp only [Ba] at h
 obtain ⟨h1,h2,h3⟩:=h
 obtain ⟨k,rfl⟩:=Bo h1
 refine QP y1.2.1 (fun k=>Qdk (k:Int) y1=Qdl (k:Int) y1) ?_ ?_ k (by omega)
 ·rw [QvB]
  simp [O0,Qdl,Qz,Qa,Qf]
 ·intro k hk ih
  rw [QvB]
  simp only [O0,Qz,Qa,QJ,hk,Bt,Qb,Bc,QO (show k<4611686018427387904 by omega),ih,QL (y:=Qd) hk]
  simp only [Qdl,Bc,Bi hk,List.any_cons,ZK]
  cases YT y1.2.1[k]<;>simp [Qb,Qf]
theorem QJr:LO OY QkM Qvw 0:=QH (s:=Qdg) fun x y h _ q=>by simp only [QE,QF] at q;exact (QJp x.2.1 y.1 h).trans q
theorem QJs:LO OY QkN Qvx 1:=QH (s:=Qdh) fun x y h _ q=>by simp only [QE,QF] at q;exact (QJq x.2.1 y.1 h).trans q
theorem s_f182 (y:Policy)(h:J4 y=true):QvC y=some (.t tI (ZM y),[]):=by
 simp only [J4,ZL,Bb,Ba] at h
 have g1:decide ((0:Int)<=0/\(0:Int)<=y.1.length/\y.1.length<=100000)=true:=by simp [h.1]
 have g2:decide ((0:Int)<=0/\(0:Int)<=y.2.1.length/\y.2.1.length<=100000)=true:=by simp [h.2]
 simp only [QvC,g1,g2,Qb,Br,By]
 have e1:y.1.any ZJ= !y.1.all YF:=by simp [List.any_eq_not_all_not,ZJ]
 have e2:y.2.1.any ZK= !y.2.1.all YT:=by simp [List.any_eq_not_all_not,ZK]
 rw [e1,e2]
 unfold ZM YU
 rw [Qdf,Qdf]
 by_cases h1:y.1.length<=60<;>by_cases h2:y.2.1.length<=60<;>cases y.1.all YF<;>cases y.2.1.all YT<;>simp [Qb,Qf,h1,h2]
def QvD:Ent:=Qi (.pr Jz .nil) (fun x=>(J4 x.1)) (fun x=>(.t tI (ZM x.1)))
theorem QJt:EM 182 QvD:=mS (lk:=lkL (lkc QJr (lkc QJs lkn))) OY QkO [((.t 2),some tI)] false (gB (gD QI2 (gD QI4 gN))) fun m=>Qm m fun x hok=>kT (s_f182 x.1 hok)
end Go.Proofs.YtmjnnemhoeolgaaGreat.K
noncomputable section
namespace Go.Proofs.YtmjnnemhoeolgaaGreat.K
open Go.RowKit
def Xn {α:Type}(l:List α):List (Int×(α×Unit)):=(l.zipIdx.map fun p=>((p.2:Int),(p.1,()))).reverse
def Qp0:Itr:=F7 [.ptr 50000 0] [(.sl Ju)] (.pr tI (.pr Ju .nil)) (fun d=>true) (fun d=>(Xn d.1))
def QSr:TC:=aF Tryz.f204 []
def g_f204:G:=gG 4 [] (fun _ _=>none)
def r_f204 (p0:List Rule):OV:=some (.fn 226 [(.ptr 50000 0)],[.box (.t (.sl Ju) p0)])
def QEi:Ent:=Uk (.pr (.sl Ju) .nil) (fun _=>true) (fun x=> .fn 226 [.ptr 50000 0]) (fun x=>[.box (.t (.sl Ju) x.1)])
theorem QSs:EM 204 QEi:=mS g_f204 QSr [((.t 2),none)] true (gB gN) fun m=>Qkh m fun x _=>by kernel_rfl
end Go.Proofs.YtmjnnemhoeolgaaGreat.K
noncomputable section
namespace Go.Proofs.YtmjnnemhoeolgaaGreat.K
open Go.RowKit Go.Shelf
attribute [local go_sem] Oper.semAt_some
def Xd (vs:List Value)(sz:Nat):Nat->List (Array Value)
 |0=>[]
 |k+1=> #[.int .i64 (k:Int),.agg ((vs.drop (k*sz)).take sz).toArray]::Xd vs sz k
theorem QKO (vs:List Value)(sz:Nat): ∀ n k,k<n->(Xd vs sz n).drop k=Xd vs sz (n-k)
 |0,k,h=>by omega
 |n+1,0,_=>rfl
 |n+1,k+1,h=>by
  rw [Xd,List.drop_succ_cons,QKO vs sz n k (by omega)]
  congr 1
  omega
theorem w64 (m:Nat)(h:m<=maxLen):wrap64 ((m:Int)-1)=(m:Int)-1:=by
 simp only [maxLen] at h
 unfold wrap64
 omega
set_option maxRecDepth 100000 in
set_option maxHeartbeats 1000000 in
theorem QKP (Bs b0 off c n:Nat)(A:Option Addr)(vs:List Value)(Xf:Nat->Nat->Prop)(w:World)(hnc:n<=c)(hcm:c<=maxLen)
  (hBs:w.cell? ⟨Bs,0,none⟩=some (.slice A n c)) (hBl:Bs<w.heap.size) (hBx: ∀ q, ¬ Xf Bs q)
  (hA:0<n->A=some ⟨b0,off,none⟩/\vs.length=n*6/\b0<w.heap.size/\(∀ j,j<vs.length→ ¬ Xf b0 (off+j))∧ ∀ j v,vs[j]? = some v->w.cell? ⟨b0,off+j,none⟩=some v):
  GB Tryz.prog 226 [.pointer (some ⟨Bs,0,none⟩)] (Xd vs 6 n) Xf w:=by
 intro l J Jx W hJ hJx hK hY h0 _
 have HA:=Lib.hid hA
 clear hA
 refine callsIn_of_wp (F:=Fw none) Tryz.func226 rfl trivial ?_ rfl
 simp only [Tryz.ntmps226,List.size_toArray,Bv,BB,Nat.reduceAdd,Nat.reduceSub,Array.replicate_succ,Array.replicate_zero,List.push_toArray,List.append_toArray,BP,DB]
 have hb0:W.cell? ⟨Bs,0,none⟩=some (.slice A n c):=((hK _ W h0).2 Bs 0 hBl (hBx 0)).trans hBs
 gi_wp2
 gi_loopw [3] (fun i wr=> ∃ k:Nat,k<=n/\i= .int .i64 ((k:Int)-1)/\J (Xd vs 6 k) wr)
  (fun i _=>(intOf i+1).toNat)
 case atStart=>exact ⟨n,BL _,congrArg (Value.int .i64) (w64 n (by omega)),h0⟩
 case round=>
  obtain ⟨k,hk,rfl,hJs⟩:=hrel
  have hbx:wr.cell? ⟨Bs,0,none⟩=some (.slice A n c):=((hK _ wr hJs).2 Bs 0 hBl (hBx 0)).trans hBs
  cases k with
  |zero=>
   gi_wp2
   go_end0
   exact ⟨⟨_,rfl⟩,.inl hJs⟩
  |succ q=>
   obtain ⟨rfl,hvl,hbl,hnx,hcl⟩:=HA.out (by omega)
   obtain ⟨fn,tmps,assign,body,hy,hR⟩:=hY _ _ wr hJs
   have cel: ∀ i,i<6→ ∃ v,vs[q*6+i]? = some v/\wr.cell? ⟨b0,off+(q*6+i),none⟩=some v:=by
    intro i hi
    have hlt:q*6+i<vs.length:=by omega
    exact ⟨_,Bh hlt,((hK _ wr hJs).2 b0 _ hbl (hnx _ hlt)).trans (hcl _ _ (Bh hlt))⟩
   obtain ⟨v0,e0,c0⟩:=cel 0 (by omega)
   obtain ⟨v1,e1,c1⟩:=cel 1 (by omega)
   obtain ⟨v2,e2,c2⟩:=cel 2 (by omega)
   obtain ⟨v3,e3,c3⟩:=cel 3 (by omega)
   obtain ⟨v4,e4,c4⟩:=cel 4 (by omega)
   obtain ⟨v5,e5,c5⟩:=cel 5 (by omega)
   rw [DP] at e0 c0
   rw [←DG] at c1 c2 c3 c4 c5
   have hag:((vs.drop (q*6)).take 6)=[v0,v1,v2,v3,v4,v5]:=by
    apply List.ext_getElem?
    intro i
    rcases De i 6 with hi|hi
    ·rw [List.getElem?_take_of_lt hi,Dk]
     rcases i with _|_|_|_|_|_|i
     ·rw [DP,e0];rfl
     ·rw [e1];rfl
     ·rw [e2];rfl
     ·rw [e3];rfl
     ·rw [e4];rfl
     ·rw [e5];rfl
     ·omega
    ·rw [List.getElem?_take_eq_none hi,DS (by simpa using hi)]
   rw [hag] at hy
   have q1:((q+1:Nat):Int)-1=(q:Int):=by omega
   rw [q1]
   clear hnx hcl cel hY
   gi_wp2
   refine hR.mono ?_
   rintro e W3 (⟨rfl,hJ3⟩|⟨rfl,hJx3⟩)
   ·gi_wp2
    go_roundw
    case rel=>exact ⟨q,by omega,congrArg (Value.int .i64) (w64 q (by omega)),hJ3⟩
    case measure=>simp [intOf,w64 q (by omega)]
   ·gi_wp2
    refine bodyPost_ret (results_none rfl _ _ _) rfl ?_
    exact ⟨⟨_,rfl⟩,.inr hJx3⟩
theorem Qlt (vs:List Value)(sz:Nat): ∀ n,(Xd vs sz n).length=n
 |0=>rfl
 |n+1=>by rw [Xd,Bv,Qlt vs sz n]
theorem QwA (vs:List Value)(sz:Nat): ∀ n i,i<n->(Xd vs sz n)[i]? = some #[.int .i64 ((n-1-i:Nat):Int),.agg ((vs.drop ((n-1-i)*sz)).take sz).toArray]
 |0,i,h=>by omega
 |n+1,0,_=>by simp [Xd]
 |n+1,i+1,h=>by
  rw [Xd,BY,QwA vs sz n i (by omega)]
  have:n-1-i=n+1-1-(i+1):=by omega
  rw [this]
theorem QKQ {α:Type}(l:List α)(i:Nat)(h:i<l.length):(Xn l)[i]? = some (((l.length-1-i:Nat):Int),(l[l.length-1-i]'(by omega),())):=by
 unfold Xn
 rw [List.getElem?_reverse (by simpa using h)]
 simp
theorem QKR {P:Program}{gf:FuncId}{y:Ty}{sz:Nat}(hgf:gf<1000000)(hrow:y.row=true)(hsz:y.sz=sz)(eg: ∀ args w,(callFunc gf args).run P w= .ok (.enter gf args) w)
  (hw: ∀ (Bs b0 off c n:Nat) (A:Option Addr) (vs:List Value) (Xf:Nat->Nat->Prop) (w:World),n<=c->c<=maxLen->w.cell? ⟨Bs,0,none⟩=some (.slice A n c)->Bs<w.heap.size->(∀ q, ¬ Xf Bs q)→
   (0<n->A=some ⟨b0,off,none⟩/\vs.length=n*sz/\b0<w.heap.size/\(∀ j,j<vs.length→ ¬ Xf b0 (off+j))∧ ∀ j v,vs[j]? = some v->w.cell? ⟨b0,off+j,none⟩=some v)->GB P gf [.pointer (some ⟨Bs,0,none⟩)] (Xd vs sz n) Xf w):
  Iters P gf (F7 [.ptr 50000 0] [.sl y] (.pr (.int .i64) (.pr y .nil)) (fun _=>true) (fun d=>Xn d.1)):=by
 refine Iters.weak hgf eg fun caps objs yr rows h X w σ lb hfin hl hc=> ?_
 unfold F7 at h
 split at h
 ·rename_i x d hx hd
  simp only [Bd,Bp,true_and] at h
  cases h
  have hcaps:=Ev hx
  subst hcaps
  cases objs with
  |nil=>simp [ZY] at hd
  |cons o os=>
   cases o with
   |box cv=>
    cases os with
    |cons o2 os=>simp [ZY] at hd
    |nil=>
     simp only [ZY] at hd
     split at hd
     ·rename_i l u hl1 _
      simp only [Bd] at hd
      subst hd
      have hcv:=SV.rd_mk (s:= .ty (.sl y)) (v:=cv) (x:=l) (by simpa [OM,Ty.row] using hl1)
      subst hcv
      obtain ⟨⟨Bs,ty,us,h1,h2,h3,h4⟩,_⟩:=hl.at_ 0 _ rfl
      have h3':Cs X w σ [.sl (List.length l) (List.flatMap y.cells l)] us:=h3
      obtain ⟨uv,rfl,h5⟩:=h3'.one
      simp only [C] at h5
      obtain ⟨A,c,rfl,g1,g2,g3,g4⟩:=h5
      simp only [Ge,SV.mk,V.ds,V.d,Cs,C] at hc
      obtain ⟨p,ps,rfl,⟨b',e1,rfl⟩,rfl⟩:=hc
      have h1:σ 50000= .box Bs:=h1
      rw [h1] at e1
      injection e1 with e1
      subst e1
      have hcell:w.cell? ⟨Bs,0,none⟩=some (.slice A (List.length l) c):=by simp [World.cell?, h2]
      have hBl:=(B1.1 h2).1
      have hBx: ∀ q, ¬ (X Bs q∧ ∀ j,j<[VO.box ((SV.ty (.sl y)).mk l)].length->(σ (50000+j)).blk≠some Bs):=fun q hq=>hq.2 0 (by simp) (by rw [h1];rfl)
      rcases DT (List.length l) with h0|hp
      ·have hl0:l=[]:=BD h0
       subst hl0
       exact ⟨Xd [] sz 0,⟨rfl,fun i r v hr=>by simp [Xn] at hr⟩,hw Bs 0 0 c 0 A [] _ w g1 g2 hcell hBl hBx (fun h=>absurd h (by omega))⟩
      ·obtain ⟨b0,off,vs,rfl,g5,g6⟩:=g4 hp
       have hvl:=g5.len
       rw [Uv,hsz] at hvl
       refine ⟨Xd vs sz (List.length l),⟨by rw [Qlt];simp [Xn],fun i r v hr hv=> ?_⟩,hw Bs b0 off c (List.length l) _ vs _ w g1 g2 hcell hBl hBx (fun _=>⟨rfl,hvl,g6.lt,fun j hj hx=>g6.nx j hj hx.1,fun j v hv=>g6.at_ j v hv⟩)⟩
       have hi:i<List.length l:=by
        have:=(BG.1 hv).1
        rwa [Qlt] at this
       rw [QKQ _ _ hi] at hr
       rw [QwA _ _ _ _ hi] at hv
       injection hr with hr
       injection hv with hv
       subst hr hv
       simp only [Ty.canon,V.ds,V.d,Cs]
       refine ⟨_,_,rfl,(by simp only [Ty.d,C];exact ⟨trivial,rfl⟩),_,_,rfl, ?_,rfl⟩
       rw [Ty.d_row _ _ hrow]
       simp only [C]
       refine ⟨_,rfl, ?_⟩
       have k1:=(g5.drop_ ((List.length l-1-i)*y.sz))
       rw [Fc,Bi (by omega),BO] at k1
       have k2:=k1.take_ y.sz
       rw [List.take_left' (y.cells_len _),hsz] at k2
       exact k2
     ·cases hd
   |no=>simp [ZY] at hd
   |arr e t l=>simp [ZY] at hd
 ·cases h
theorem QKS:Iters Tryz.prog 226 Qp0:=
 QKR (y:=Ju) (sz:=6) (by decide) rfl rfl (enters_of Tryz.func226 (by kernel_rfl) rfl) QKP
end Go.Proofs.YtmjnnemhoeolgaaGreat.K
