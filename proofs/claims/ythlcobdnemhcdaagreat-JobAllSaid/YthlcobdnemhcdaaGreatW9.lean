import Derived.Test.YthlcobdnemhcdaaGreatW8
import Derived.Test.YthlcobdnemhcdaaGreatW3
import Derived.Test.YthlcobdnemhcdaaGreatW7
import Derived.RangeFuncCalls
import Derived.RangeFuncBound
import Derived.Shelf.RegionOpen
import Derived.OwnWalkIn
import Derived.TacticsInMore
import Derived.LoopNIn
import Derived.LoopIn
set_option linter.unusedSimpArgs false
set_option linter.unusedVariables false
noncomputable section
namespace Go.Proofs.YthlcobdnemhcdaaGreat.K
open Go.RowKit
noncomputable section
theorem QwR {α:Type}{l:List α}{k:Nat}(hk:k<l.length):l.set k l[k]=l:=List.set_getElem_self hk
abbrev Qeg:Sh:=⟨[(1,.ptr 1 0),(2,.ptr 2 0),(10,.ms 7),(11,.ty tI),(12,.ty tI)],[(1,.bag [.ty tI,.ty tI,.ty tI,.ms 7]),(2,.box QX),(7,.arr 204 QP),(5007,.no),(10007,.no),(15007,.no)]⟩
abbrev QLx:Sh:=⟨[(1,.ptr 1 0),(2,.ptr 2 0)],[(1,.bag [.ty tI,.ty tI,.ty tI,.ms 7]),(2,.box QX),(7,.arr 204 QP),(5007,.no),(10007,.no),(15007,.no)]⟩
def Qmm:Fg:=Qeg.f
def QwS:TC:=aF Tryz.f142 [(58,pL 0 Qmm),(933,.fg ⟨[(1,none),(2,none)],[(1,some QX),(2,some QX),(7,none),(5007,none),(10007,none),(15007,none)]⟩),(3737,pD [(0,[1,7,5007,10007,15007]),(1,[1,7,5007,10007,15007]),(2,[]),(3,[4]),(4,[4]),(5,[]),(6,[7,5007,10007,15007]),(7,[7,5007,10007,15007]),(8,[1,2,7,5007,10007,15007])] (.of [0,1,2,3,4,5,6,7,8]))]
def QwT:TC:=lb 0 QwS
def QwU (x11 x12 y1_0 y1_1 y1_2:Int)(y2:Identity)(y7:List Certificate):VS:=Qeg.st ((),(),(),x11,x12,()) ((y1_0,y1_1,y1_2,(),()),y2,y7,(),(),(),())
def Qmn (y1_0 y1_1 y1_2:Int)(y2:Identity)(y7:List Certificate):VS:=QLx.st ((),(),()) ((y1_0,y1_1,y1_2,(),()),y2,y7,(),(),(),())
def QLy:VS->Option (Bool×List (Bool×Exit×VS)):=mkL Qeg (fun x y=>(decide (0<=x.2.2.2.2.1/\x.2.2.2.2.1<=x.2.2.2.1/\x.2.2.2.1=(y.2.2.1.length:Int))&&JJ y.2.2.1)) (fun x y=>[(true,.exit 0,Qmn (y.1.1) (y.1.2.1) (y.1.2.2.1) (y.2.1) (y.2.2.1))])
def Qmo:G:=gG 27 [(194,QDD),(195,QDF)] (Ls [QLy])
def Qag (x11 x12 y1_0 y1_1 y1_2:Int)(y2:Identity)(y7:List Certificate):OX:=Qx (QA Qmo Qmm QwT) (QwU x11 x12 y1_0 y1_1 y1_2 y2 y7)
def Qah (kk:Int->Int->Int->Int->Int->Identity->List Certificate->OX)(x11 x12 y1_0 y1_1 y1_2:Int)(y2:Identity)(y7:List Certificate):OX:=
 let a3:=Int.toNat x12
 let a5:=lgt QP y7 a3
 let a1:=((a5.2).2)
 let a2:=(((((a1.2).2).2).2).2)
 let a4:=(((a2.2).2).2)
 br (ilt x12 x11) (br (cIx y7 x12) (br (cLd y7 a3) (br (Uw (a4.1)) (br (cIx y7 x12) (br (cLd y7 a3) (kk x11 (Qj .i64 x12 1) y1_0 y1_1 y1_2 y2 (List.set y7 a3 (a5.1,((a5.2).1,(a1.1,((a1.2).1,(((a1.2).2).1,((((a1.2).2).2).1,(((((a1.2).2).2).2).1,(a2.1,((a2.2).1,(((a2.2).2).1,((QDE (a4.1)),a4.2))))))))))))) none) none) none) none) none) (some (.exit 0,Qmn y1_0 y1_1 y1_2 y2 y7))
def Qeh (x11 x12 y1_0 y1_1 y1_2:Int)(y2:Identity)(y7:List Certificate):OX:=some (.exit 0,Qmn (y1_0) (y1_1) (y1_2) (y2) (y7))
theorem QwV (x11 x12 y1_0 y1_1 y1_2:Int)(y2:Identity)(y7:List Certificate):Qag x11 x12 y1_0 y1_1 y1_2 y2 y7=Qah Qag x11 x12 y1_0 y1_1 y1_2 y2 y7:=lnT (x:=Qah (fun x11 x12 y1_0 y1_1 y1_2 y2 y7=>some (.normal,QwU x11 x12 y1_0 y1_1 y1_2 y2 y7)) x11 x12 y1_0 y1_1 y1_2 y2 y7) (by simp only [Qah,nxA];rfl)
def QwW (p0:Identity):OV:=
 let a1:=QDC p0.2.2.1
 br (Uw p0.2.2.1) (br (decide (0<=(0:Int)/\(0:Int)<=(Qc a1)/\(Qc a1)=(a1.length:Int))&&JJ a1) (some (.t QX (((p0.1.1),((p0.1.2.1),())),((p0.2.1),(a1,()))),[])) none) none
theorem QLz (x11 x12 y1_0 y1_1 y1_2:Int)(y2:Identity)(y7:List Certificate)(h:(decide (0<=x12/\x12<=x11/\x11=(y7.length:Int))&&JJ y7)=true):Qag x11 x12 y1_0 y1_1 y1_2 y2 y7=Qeh x11 x12 y1_0 y1_1 y1_2 y2 y7:=by
 simp only [Bc,Ba] at h
 obtain ⟨⟨h0,h1,rfl⟩,hc⟩:=h
 obtain ⟨k,rfl⟩:=Bl h0
 have hl:=QcQ hc
 refine QQ y7 (fun k=>Qag (y7.length:Int) (k:Int) y1_0 y1_1 y1_2 y2 y7=Qeh (y7.length:Int) (k:Int) y1_0 y1_1 y1_2 y2 y7) ?_ ?_ k (by omega)
 ·rw [QwV]
  simp only [Qah,Qeh,Qy,BN,BM,Qi]
 ·intro k hk ih
  rw [QwV]
  have c1:Uw (Q0 y7[k])=true:=Be (by have:=QcJ (QjN hc hk);omega)
  have c2:cLd y7 k=true:=by simp only [cLd,Ba];exact hk
  simp only [Qah,Qy,QK,hk,Bo,Qf,Bb,QO (show k<4611686018427387904 by omega),QL (y:=QP) hk,c2]
  refine brY c1 ?_
  show Qag (y7.length:Int) ((k+1:Nat):Int) y1_0 y1_1 y1_2 y2 (y7.set k y7[k])=_
  rw [QwR hk,ih]
  simp only [Qeh]
theorem QLA:LO Qmo Qmm QwT 0:=QI (s:=Qeg) fun x y h _ q=>by simp only [QG,QH] at q;exact (QLz x.2.2.2.1 x.2.2.2.2.1 y.1.1 y.1.2.1 y.1.2.2.1 y.2.1 y.2.2.1 h).trans q
theorem s_f142 (x:Identity)(h:J0 x=true):QwW x=some (.t QX (Ob x),[]):=by
 have h:JJ x.2.2.1=true:=h
 have hl:=QcQ h
 unfold QwW
 refine brY (Be hl) (brY ?_ rfl)
 refine Bf.2 ⟨Be ⟨B1 0, ?_,rfl⟩,h⟩
 simp only [Qc]
 omega
def QwX:Ent:=Qo (.pr QX .nil) (fun x=>(J0 x.1)) (fun x=>(.t QX (Ob x.1)))
theorem QLB:EM 142 QwX:=mS (lk:=lkL (lkc QLA lkn)) Qmo QwS [((.c 2 true 4),some QX)] false (gB (gC QSa QSd (gC QSe QSh gN))) fun m=>Qs m fun x hok=>kT (s_f142 x.1 hok)
abbrev Qei:Sh:=⟨[(1,.ptr 1 0),(2,.ptr 2 0),(22,.ms 16),(23,.ty tI),(24,.ty tI)],[(1,.bag [.ty .str,.ty tI,.ty tI,.ty (.sl tI),.ty .bool,.ms 16,.ty (.sl tI),.ty (.sl tI),.ty .bool]),(2,.box QC),(16,.arr 126 QX),(5016,.no),(10016,.no),(15016,.no)]⟩
abbrev QLC:Sh:=⟨[(1,.ptr 1 0),(2,.ptr 2 0)],[(1,.bag [.ty .str,.ty tI,.ty tI,.ty (.sl tI),.ty .bool,.ms 16,.ty (.sl tI),.ty (.sl tI),.ty .bool]),(2,.box QC),(16,.arr 126 QX),(5016,.no),(10016,.no),(15016,.no)]⟩
def Qmp:Fg:=Qei.f
def QwY:TC:=aF Tryz.f89 [(6,.fz [16,5016,10016,15016]),(6,pD [(0,[1]),(1,[1]),(2,[]),(3,[1]),(4,[1]),(5,[]),(6,[1]),(7,[1]),(8,[]),(9,[1]),(10,[1]),(11,[16,5016,10016,15016]),(12,[1]),(13,[1,2,16,5016,10016,15016]),(14,[1]),(15,[1,2,16,5016,10016,15016]),(16,[1]),(17,[1,2,16,5016,10016,15016]),(18,[1]),(19,[1,2,16,5016,10016,15016])] (.of [0,1,2,3,4,5,6,7,8,9,10,12,11,13,14,15,16,17,18,19])),(58,pL 0 Qmp),(933,.fg ⟨[(1,none),(2,none)],[(1,some QC),(2,some QC),(16,none),(5016,none),(10016,none),(15016,none)]⟩),(3737,pD [(0,[1,16,5016,10016,15016]),(1,[1,16,5016,10016,15016]),(2,[]),(3,[4]),(4,[]),(5,[16,5016,10016,15016]),(6,[1,2,16,5016,10016,15016])] (.of [0,1,2,3,4,5,6]))]
def QwZ:TC:=lb 0 QwY
def Qw0 (x23 x24:Int)(y1_0:ByteArray)(y1_1 y1_2:Int)(y1_3:List Int)(y1_4:Bool)(y1_6 y1_7:List Int)(y1_8:Bool)(y2:Endpoint)(y16:List Identity):VS:=Qei.st ((),(),(),x23,x24,()) ((y1_0,y1_1,y1_2,y1_3,y1_4,(),y1_6,y1_7,y1_8,()),y2,y16,(),(),(),())
def Qmq (y1_0:ByteArray)(y1_1 y1_2:Int)(y1_3:List Int)(y1_4:Bool)(y1_6 y1_7:List Int)(y1_8:Bool)(y2:Endpoint)(y16:List Identity):VS:=QLC.st ((),(),()) ((y1_0,y1_1,y1_2,y1_3,y1_4,(),y1_6,y1_7,y1_8,()),y2,y16,(),(),(),())
def QLD:VS->Option (Bool×List (Bool×Exit×VS)):=mkL Qei (fun x y=>(decide (0<=x.2.2.2.2.1/\x.2.2.2.2.1<=x.2.2.2.1/\x.2.2.2.1=(y.2.2.1.length:Int)/\y.2.2.1.length<=100000)&&y.2.2.1.all J0)) (fun x y=>[(true,.exit 0,Qmq (y.1.1) (y.1.2.1) (y.1.2.2.1) (y.1.2.2.2.1) (y.1.2.2.2.2.1) (y.1.2.2.2.2.2.2.1) (y.1.2.2.2.2.2.2.2.1) (y.1.2.2.2.2.2.2.2.2.1) (y.2.1) (y.2.2.1))])
def Qmr:G:=gG 37 [(140,QDG),(141,QDB),(142,QwX)] (Ls [QLD])
def Qai (x23 x24:Int)(y1_0:ByteArray)(y1_1 y1_2:Int)(y1_3:List Int)(y1_4:Bool)(y1_6 y1_7:List Int)(y1_8:Bool)(y2:Endpoint)(y16:List Identity):OX:=Qx (QA Qmr Qmp QwZ) (Qw0 x23 x24 y1_0 y1_1 y1_2 y1_3 y1_4 y1_6 y1_7 y1_8 y2 y16)
def Qaj (kk:Int->Int->ByteArray->Int->Int->List Int->Bool->List Int->List Int->Bool->Endpoint->List Identity->OX)(x23 x24:Int)(y1_0:ByteArray)(y1_1 y1_2:Int)(y1_3:List Int)(y1_4:Bool)(y1_6 y1_7:List Int)(y1_8:Bool)(y2:Endpoint)(y16:List Identity):OX:=
 let a1:=Int.toNat x24
 let a2:=lgt QX y16 a1
 br (ilt x24 x23) (br (cIx y16 x24) (br (cLd y16 a1) (br (J0 a2) (br (cIx y16 x24) (br (cLd y16 a1) (kk x23 (Qj .i64 x24 1) y1_0 y1_1 y1_2 y1_3 y1_4 y1_6 y1_7 y1_8 y2 (List.set y16 a1 (Ob a2))) none) none) none) none) none) (some (.exit 0,Qmq y1_0 y1_1 y1_2 y1_3 y1_4 y1_6 y1_7 y1_8 y2 y16))
def Qej (x23 x24:Int)(y1_0:ByteArray)(y1_1 y1_2:Int)(y1_3:List Int)(y1_4:Bool)(y1_6 y1_7:List Int)(y1_8:Bool)(y2:Endpoint)(y16:List Identity):OX:=some (.exit 0,Qmq (y1_0) (y1_1) (y1_2) (y1_3) (y1_4) (y1_6) (y1_7) (y1_8) (y2) (y16))
theorem Qw1 (x23 x24:Int)(y1_0:ByteArray)(y1_1 y1_2:Int)(y1_3:List Int)(y1_4:Bool)(y1_6 y1_7:List Int)(y1_8:Bool)(y2:Endpoint)(y16:List Identity):Qai x23 x24 y1_0 y1_1 y1_2 y1_3 y1_4 y1_6 y1_7 y1_8 y2 y16=Qaj Qai x23 x24 y1_0 y1_1 y1_2 y1_3 y1_4 y1_6 y1_7 y1_8 y2 y16:=lnT (x:=Qaj (fun x23 x24 y1_0 y1_1 y1_2 y1_3 y1_4 y1_6 y1_7 y1_8 y2 y16=>some (.normal,Qw0 x23 x24 y1_0 y1_1 y1_2 y1_3 y1_4 y1_6 y1_7 y1_8 y2 y16)) x23 x24 y1_0 y1_1 y1_2 y1_3 y1_4 y1_6 y1_7 y1_8 y2 y16) (by simp only [Qaj,nxA];rfl)
def r_f89 (p0:Endpoint):OV:=
 let a1:=QDA p0.2.2.2.2.2.1
 br (Uw p0.2.2.2.1) (br (Uw p0.2.2.2.2.2.2.1) (br (Uw p0.2.2.2.2.2.2.2.1) (br (Uw p0.2.2.2.2.2.1) (br (decide (0<=(0:Int)/\(0:Int)<=(Qc a1)/\(Qc a1)=(a1.length:Int)/\a1.length<=100000)&&a1.all J0) (some (.t QC ((p0.1),((p0.2.1),((p0.2.2.1),((Qhu p0.2.2.2.1),((p0.2.2.2.2.1),(a1,((Qhu p0.2.2.2.2.2.2.1),((Qhu p0.2.2.2.2.2.2.2.1),((p0.2.2.2.2.2.2.2.2.1),()))))))))),[])) none) none) none) none) none
theorem QLE (x23 x24:Int)(y1_0:ByteArray)(y1_1 y1_2:Int)(y1_3:List Int)(y1_4:Bool)(y1_6 y1_7:List Int)(y1_8:Bool)(y2:Endpoint)(y16:List Identity)(h:(decide (0<=x24/\x24<=x23/\x23=(y16.length:Int)/\y16.length<=100000)&&y16.all J0)=true):Qai x23 x24 y1_0 y1_1 y1_2 y1_3 y1_4 y1_6 y1_7 y1_8 y2 y16=Qej x23 x24 y1_0 y1_1 y1_2 y1_3 y1_4 y1_6 y1_7 y1_8 y2 y16:=by
 simp only [Bc,Ba] at h
 obtain ⟨⟨h0,h1,rfl,hl⟩,hc⟩:=h
 obtain ⟨k,rfl⟩:=Bl h0
 refine QQ y16 (fun k=>Qai (y16.length:Int) (k:Int) y1_0 y1_1 y1_2 y1_3 y1_4 y1_6 y1_7 y1_8 y2 y16=Qej (y16.length:Int) (k:Int) y1_0 y1_1 y1_2 y1_3 y1_4 y1_6 y1_7 y1_8 y2 y16) ?_ ?_ k (by omega)
 ·rw [Qw1]
  simp only [Qaj,Qej,Qy,BN,BM,Qi]
 ·intro k hk ih
  rw [Qw1]
  have c1:J0 y16[k]=true:=Bi.1 hc _ (Bw hk)
  have c2:cLd y16 k=true:=by simp only [cLd,Ba];exact hk
  simp only [Qaj,Qy,QK,hk,Bo,Qf,Bb,QO (show k<4611686018427387904 by omega),QL (y:=QX) hk,c2,c1]
  show Qai (y16.length:Int) ((k+1:Nat):Int) y1_0 y1_1 y1_2 y1_3 y1_4 y1_6 y1_7 y1_8 y2 (y16.set k y16[k])=_
  rw [QwR hk,ih]
  simp only [Qej]
theorem QLF:LO Qmr Qmp QwZ 0:=QI (s:=Qei) fun x y h _ q=>by simp only [QG,QH] at q;exact (QLE x.2.2.2.1 x.2.2.2.2.1 y.1.1 y.1.2.1 y.1.2.2.1 y.1.2.2.2.1 y.1.2.2.2.2.1 y.1.2.2.2.2.2.2.1 y.1.2.2.2.2.2.2.2.1 y.1.2.2.2.2.2.2.2.2.1 y.2.1 y.2.2.1 h).trans q
theorem s_f89 (x:Endpoint)(h:Jd x=true):r_f89 x=some (.t QC (FC x),[]):=by
 obtain ⟨_,h1,h2,h3,h4,h5⟩:=Qy2 h
 unfold r_f89
 refine brY (Be (show (JM x).length<=100000 by omega)) (brY (Be (show (JF x).length<=100000 by omega)) (brY (Be (show (JR x).length<=100000 by omega)) (brY (Be (show (Jl x).length<=100000 by omega)) (brY ?_ rfl))))
 refine Bf.2 ⟨Be ⟨B1 0, ?_,rfl, ?_⟩,h5⟩
 ·simp only [Qc]
  omega
 ·exact h2
def Qms:Ent:=Qo (.pr QC .nil) (fun x=>(Jd x.1)) (fun x=>(.t QC (FC x.1)))
theorem Qw2:EM 89 Qms:=mS (lk:=lkL (lkc QLF lkn)) Qmr QwY [((.c 2 true 9),some QC)] false (gB (gC QSi QSl (gC QR6 QR9 (gD QLB gN)))) fun m=>Qs m fun x hok=>kT (s_f89 x.1 hok)
def QKN:List DO:=dT Tryz.f51 5
abbrev Gn:Sh:=⟨[(1,.ptr 1 0),(2,.ptr 2 0),(3,.ptr 3 0),(14,.ty (.sl QC)),(15,.ty tI),(16,.ty tI)],[(1,.box Qm),(2,.box Qm),(3,.bag [.ms 20300,.ms 8,.ms 20302]),(8,.arr 113 Qk),(11,.no),(25,.no),(44,.no),(20300,.arr 111 QC),(20302,.arr 62 Qp)]⟩
abbrev Qlv:Sh:=⟨[(1,.ptr 1 0),(2,.ptr 2 0),(3,.ptr 3 0)],[(1,.box Qm),(2,.box Qm),(3,.bag [.ms 20300,.ms 8,.ms 20302]),(8,.arr 113 Qk),(11,.no),(25,.no),(44,.no),(20300,.arr 111 QC),(20302,.arr 62 Qp)]⟩
abbrev Gp:Sh:=⟨[(2,.ptr 2 0),(3,.ptr 3 0),(29,.ty (.sl Qp)),(30,.ty tI),(31,.ty tI)],[(2,.box Qm),(3,.bag [.ms 20300,.ms 8,.ms 20302]),(8,.arr 113 Qk),(11,.no),(25,.no),(44,.no),(20300,.arr 111 QC),(20302,.arr 62 Qp)]⟩
abbrev Qlw:Sh:=⟨[(2,.ptr 2 0),(3,.ptr 3 0)],[(2,.box Qm),(3,.bag [.ms 20300,.ms 8,.ms 20302]),(8,.arr 113 Qk),(11,.no),(25,.no),(44,.no),(20300,.arr 111 QC),(20302,.arr 62 Qp)]⟩
def Fh:Fg:=Gn.f
def Fi:Fg:=Gp.f
def XR:TC:=aF Tryz.f51 [(58,.nf 3 2 62 20302),(58,.nf 3 0 111 20300),(58,pL 0 Fh),(933,.fg ⟨[(1,none),(2,none),(3,none)],[(1,some Qm),(2,some Qm),(3,some Qm),(8,none),(11,none),(25,none),(44,none),(20300,none),(20302,none)]⟩),(3737,pD [(0,[3,8,11,25,44,20300,20302]),(1,[3,8,11,25,44,20300,20302]),(2,[5]),(3,[]),(4,[]),(5,[2,3,8,11,25,44,5025,10025,15025,20300,20302]),(6,[3,8,11,25,44,20300,20302]),(7,[2,3,8,11,25,44,20300,20302])] (.of [0,1,2,3,4,5,6,7])),(122,.nf 3 0 111 20300),(122,.nf 3 2 62 20302),(122,.nf 7 3 45 20703),(122,pL 1 Fi),(1957,.fg ⟨[(2,none),(3,none)],[(2,some Qm),(3,some Qm),(8,none),(11,none),(25,none),(44,none),(20300,none),(20302,none)]⟩)]
def IA:TC:=lb 0 XR
def IB:TC:=lb 1 XR
def Ef:List (RV×Option Ty):=[((.c 2 true 3),none)]
def IC (x14:List Endpoint)(x15 x16:Int)(y1 y2:Estate)(y8:List Keep)(Qb:List Endpoint)(Qd:List Item):VS:=Gn.st ((),(),(),x14,x15,x16,()) (y1,y2,((),(),(),()),y8,(),(),(),Qb,Qd,())
def Fj (y1 y2:Estate)(y8:List Keep)(Qb:List Endpoint)(Qd:List Item):VS:=Qlv.st ((),(),(),()) (y1,y2,((),(),(),()),y8,(),(),(),Qb,Qd,())
def ID (x29:List Item)(x30 x31:Int)(y2:Estate)(y8:List Keep)(Qb:List Endpoint)(Qd:List Item):VS:=Gp.st ((),(),x29,x30,x31,()) (y2,((),(),(),()),y8,(),(),(),Qb,Qd,())
def Fk (y2:Estate)(y8:List Keep)(Qb:List Endpoint)(Qd:List Item):VS:=Qlw.st ((),(),()) (y2,((),(),(),()),y8,(),(),(),Qb,Qd,())
def Qlx:VS->Option (Bool×List (Bool×Exit×VS)):=mkL Gn (fun x y=>(QD x.2.2.2.1 x.2.2.2.2.1 x.2.2.2.2.2.1&&(x.2.2.2.1.all Jd&&decide (y.2.2.2.2.2.2.2.1.length<=x.2.2.2.2.2.1)))) (fun x y=>[(true,.exit 0,Fj (y.1) (y.2.1) (y.2.2.2.1) (y.2.2.2.2.2.2.2.1++x.2.2.2.1.drop x.2.2.2.2.2.1.toNat) (y.2.2.2.2.2.2.2.2.1))])
def Qly:VS->Option (Bool×List (Bool×Exit×VS)):=mkL Gp (fun x y=>(QD x.2.2.1 x.2.2.2.1 x.2.2.2.2.1&&(x.2.2.1.all XC&&decide (y.2.2.2.2.2.2.2.1.length<=x.2.2.2.2.1)))) (fun x y=>[(true,.exit 2,Fk (y.1) (y.2.2.1) (y.2.2.2.2.2.2.1) (y.2.2.2.2.2.2.2.1++x.2.2.1.drop x.2.2.2.2.1.toNat))])
def Ye:G:=⟨TYs,[8,35],48,EL [(89,Qms)],keeps,(Ls [Qlx,Qly]),IL [],RL []⟩
def Gq (x14:List Endpoint)(x15 x16:Int)(y1 y2:Estate)(y8:List Keep)(Qb:List Endpoint)(Qd:List Item):OX:=Qx (QA Ye Fh IA) (IC x14 x15 x16 y1 y2 y8 Qb Qd)
def UG (kk:List Endpoint->Int->Int->Estate->Estate->List Keep->List Endpoint->List Item->OX)(x14:List Endpoint)(x15 x16:Int)(y1 y2:Estate)(y8:List Keep)(Qb:List Endpoint)(Qd:List Item):OX:=
 let a1:=FC (lgt QC x14 (Int.toNat x16))
 let a2:=((a1.2).1,(((a1.2).2).1,((((a1.2).2).2).1,(((((a1.2).2).2).2).1,((((((a1.2).2).2).2).2).1,(((((((a1.2).2).2).2).2).2).1,((((((((a1.2).2).2).2).2).2).2).1,(((((((((a1.2).2).2).2).2).2).2).2).1,()))))))))
 br (ilt x16 x15) (br (cIx x14 x16) (br (Jd (lgt QC x14 (Int.toNat x16))) (br (Qq Qb ([(a1.1,a2)]) 144) (kk x14 x15 (Qj .i64 x16 1) y1 y2 y8 (Qb++([(a1.1,a2)])) Qd) none) none) none) (some (.exit 0,Fj y1 y2 y8 Qb Qd))
def Gr (x14:List Endpoint)(x15 x16:Int)(y1 y2:Estate)(y8:List Keep)(Qb:List Endpoint)(Qd:List Item):OX:=some (.exit 0,Fj (y1) (y2) (y8) (Qb++x14.drop x16.toNat) (Qd))
theorem VW (x14:List Endpoint)(x15 x16:Int)(y1 y2:Estate)(y8:List Keep)(Qb:List Endpoint)(Qd:List Item):Gq x14 x15 x16 y1 y2 y8 Qb Qd=UG Gq x14 x15 x16 y1 y2 y8 Qb Qd:=lnT (x:=UG (fun x14 x15 x16 y1 y2 y8 Qb Qd=>some (.normal,IC x14 x15 x16 y1 y2 y8 Qb Qd)) x14 x15 x16 y1 y2 y8 Qb Qd) (by simp only [UG,nxA];rfl)
def Gs (x29:List Item)(x30 x31:Int)(y2:Estate)(y8:List Keep)(Qb:List Endpoint)(Qd:List Item):OX:=Qx (QA Ye Fi IB) (ID x29 x30 x31 y2 y8 Qb Qd)
def UH (kk:List Item->Int->Int->Estate->List Keep->List Endpoint->List Item->OX)(x29:List Item)(x30 x31:Int)(y2:Estate)(y8:List Keep)(Qb:List Endpoint)(Qd:List Item):OX:=
 let a1:=lgt Qp x29 (Int.toNat x31)
 let a2:=(((a1.2).2).2)
 br (ilt x31 x30) (br (cIx x29 x31) (br (Qq ([]:List Link) (a2.1) 24) (br (Qq Qd ([(a1.1,((a1.2).1,(((a1.2).2).1,((([]:List Link)++(a2.1)),((a2.2).1,())))))]) 64) (kk x29 x30 (Qj .i64 x31 1) y2 y8 Qb (Qd++([(a1.1,((a1.2).1,(((a1.2).2).1,((([]:List Link)++(a2.1)),((a2.2).1,())))))]))) none) none) none) (some (.exit 2,Fk y2 y8 Qb Qd))
def Gt (x29:List Item)(x30 x31:Int)(y2:Estate)(y8:List Keep)(Qb:List Endpoint)(Qd:List Item):OX:=some (.exit 2,Fk (y2) (y8) (Qb) (Qd++x29.drop x31.toNat))
theorem VX (x29:List Item)(x30 x31:Int)(y2:Estate)(y8:List Keep)(Qb:List Endpoint)(Qd:List Item):Gs x29 x30 x31 y2 y8 Qb Qd=UH Gs x29 x30 x31 y2 y8 Qb Qd:=lnT (x:=UH (fun x29 x30 x31 y2 y8 Qb Qd=>some (.normal,ID x29 x30 x31 y2 y8 Qb Qd)) x29 x30 x31 y2 y8 Qb Qd) (by simp only [UH,nxA];rfl)
def Eg (p0:Estate):OV:=
 let a1:=((((p0).2).2).1)
 br (Qq ([]:List Keep) p0.2.1 16) (br (QD p0.1 (Qc p0.1) (0:Int)&&(p0.1.all Jd&&decide (([]:List Endpoint).length<=(0:Int)))) (br (QD a1 (Qc a1) (0:Int)&&(a1.all XC&&decide (([]:List Item).length<=(0:Int)))) (some (.ag [(.ms 50000),(.ms 50001),(.ms 50002)],[.arr 111 QC (([]:List Endpoint)++p0.1.drop (0:Int).toNat),.arr 113 Qk (([]:List Keep)++p0.2.1),.arr 62 Qp (([]:List Item)++a1.drop (0:Int).toNat)])) none) none) none
theorem Qlz (p0:Estate):QS Ye XR Ef true [.t Qm p0] []=Eg p0:=by kernel_rfl
theorem ok_f51:Option.map (trC Tryz.prog) Tryz.f51.body=some XR.er:=by kernel_rfl
theorem QKQ:XV Tryz.prog Tryz.f51.results.toList=some (Ef.map Prod.fst):=by kernel_rfl
theorem Qv2:Ja Tryz.prog 51:= .inr ⟨by decide,_,Tryz.func51,by kernel_rfl,by kernel_rfl⟩
theorem QlA:GOk Tryz.prog Ye:=Jp _ (gA (gD Qw2 gN))
theorem QlB (x14:List Endpoint)(x15 x16:Int)(y1 y2:Estate)(y8:List Keep)(Qb:List Endpoint)(Qd:List Item)(h:(QD x14 x15 x16&&(x14.all Jd&&decide (Qb.length<=x16)))=true):Gq x14 x15 x16 y1 y2 y8 Qb Qd=Gr x14 x15 x16 y1 y2 y8 Qb Qd:=by
 simp only [Bc,Ba] at h
 obtain ⟨h0,hc,hl⟩:=h
 obtain ⟨rfl,h3,k,rfl,hk⟩:=JG h0
 clear h0
 revert Qb
 refine QQ x14 (fun k=> ∀ (Qb:List Endpoint),(Qb.length:Int)<=(k:Int)->Gq x14 (x14.length:Int) (k:Int) y1 y2 y8 Qb Qd=Gr x14 (x14.length:Int) (k:Int) y1 y2 y8 Qb Qd) ?_ ?_ k hk
 ·intro Qb _
  rw [VW]
  simp only [UG,Gr,Qy,BN,BM,Qi,Bb,BS,BL]
 ·intro k hk ih Qb hl
  rw [VW]
  have c1:Jd x14[k]=true:=Bi.1 hc _ (Bw hk)
  simp only [UG,Qy,QK,hk,Bo,Qf,Bb,QO (show k<4611686018427387904 by omega),QL (y:=QC) hk,c1]
  refine brY (Q1 (by omega) (by simp only [Bh];omega)) ?_
  refine Eq.trans (ih (Qb++[x14[k]]) (by simp only [Bm,Bh];omega)) ?_
  simp only [Gr,Bb,Bg hk,BI,BH]
theorem QlC (x29:List Item)(x30 x31:Int)(y2:Estate)(y8:List Keep)(Qb:List Endpoint)(Qd:List Item)(h:(QD x29 x30 x31&&(x29.all XC&&decide (Qd.length<=x31)))=true):Gs x29 x30 x31 y2 y8 Qb Qd=Gt x29 x30 x31 y2 y8 Qb Qd:=by
 simp only [Bc,Ba] at h
 obtain ⟨h0,hc,hl⟩:=h
 obtain ⟨rfl,h3,k,rfl,hk⟩:=JG h0
 clear h0
 revert Qd
 refine QQ x29 (fun k=> ∀ (Qd:List Item),(Qd.length:Int)<=(k:Int)->Gs x29 (x29.length:Int) (k:Int) y2 y8 Qb Qd=Gt x29 (x29.length:Int) (k:Int) y2 y8 Qb Qd) ?_ ?_ k hk
 ·intro Qd _
  rw [VX]
  simp only [UH,Gt,Qy,BN,BM,Qi,Bb,BS,BL]
 ·intro k hk ih Qd hl
  rw [VX]
  have c1:x29[k].2.2.2.1.length<=1000:=BD (Bi.1 hc _ (Bw hk))
  simp only [UH,Qy,QK,hk,Bo,Qf,Bb,QO (show k<4611686018427387904 by omega),QL (y:=Qp) hk]
  refine brY (Q1 (by decide) (by simp only [Bv];omega)) (brY (Q1 (by omega) (by simp only [Bh];omega)) ?_)
  refine Eq.trans (ih (Qd++[x29[k]]) (by simp only [Bm,Bh];omega)) ?_
  simp only [Gt,Bb,Bg hk,BI,BH]
theorem QlD:LO Ye Fh IA 0:=QI (s:=Gn) fun x y h _ q=>by simp only [QG,QH] at q;exact (QlB x.2.2.2.1 x.2.2.2.2.1 x.2.2.2.2.2.1 y.1 y.2.1 y.2.2.2.1 y.2.2.2.2.2.2.2.1 y.2.2.2.2.2.2.2.2.1 h).trans q
theorem QlE:LO Ye Fi IB 1:=QI (s:=Gp) fun x y h _ q=>by simp only [QG,QH] at q;exact (QlC x.2.2.1 x.2.2.2.1 x.2.2.2.2.1 y.1 y.2.2.1 y.2.2.2.2.2.2.1 y.2.2.2.2.2.2.2.1 h).trans q
theorem QlF:XR.lok Ye:=by
 repeat (first|exact trivial|exact QlD|exact QlE|refine ⟨?_, ?_⟩)
theorem QlG (x:Estate)(h:JE x=true):Eg x=some (.ag [.ms 50000,.ms 50001,.ms 50002],[.arr 111 QC (Zp x).1,.arr 113 Qk (Zp x).2.1,.arr 62 Qp (Zp x).2.2.1]):=by
 obtain ⟨h,h6⟩:=Bf.1 h
 simp only [ZC,Bc,Ba] at h
 obtain ⟨⟨h1,h2⟩,h3,h4⟩:=h
 have h5:=F1 h4
 unfold Eg
 have hx:x.2.1.length<=99999:=h2
 refine brY (Q1 (by decide) (by simp only [Bv];omega)) (brY ?_ (brY ?_ rfl))
 ·rw [JH (show (JN x).length<=100000 by omega),h3,Bu,Bu]
  exact Be (B1 _)
 ·rw [JH h5,h6,Bu,Bu]
  exact Be (B1 _)
def IE:Ent:=XW (.pr Qm .nil) (fun x=>(JE x.1)) (fun x=>(.ag [(.ms 50000),(.ms 50001),(.ms 50002)])) (fun x=>[.arr 111 QC ((Zp x.1).1),.arr 113 Qk (((Zp x.1).2).1),.arr 62 Qp ((((Zp x.1).2).2).1)])
theorem QlH:Qu Tryz.prog 51 (Qv IE):=QeD (R:=QS Ye XR Ef true) (mG Tryz.func51 (by kernel_rfl) Tryz.ntmps51 (by kernel_rfl) QlA QlF) fun x hok=>(Qlz x.1).trans (QlG x.1 hok)
end
end Go.Proofs.YthlcobdnemhcdaaGreat.K
noncomputable section
namespace Go.Proofs.YthlcobdnemhcdaaGreat.K.PJ
open Go.RowKit
noncomputable section
def QKN:List DO:=dT Tryz.f51 5
abbrev Gn:Sh:=⟨[(1,.ptr 1 0),(2,.ptr 2 0),(3,.ptr 3 0),(14,.ty (.sl QC)),(15,.ty tI),(16,.ty tI)],[(1,.box Qm),(2,.box Qm),(3,.bag [.ms 20300,.ms 8,.ms 20302]),(8,.arr 113 Qk),(11,.no),(25,.no),(44,.no),(20300,.arr 111 QC),(20302,.arr 62 Qp)]⟩
abbrev Qlv:Sh:=⟨[(1,.ptr 1 0),(2,.ptr 2 0),(3,.ptr 3 0)],[(1,.box Qm),(2,.box Qm),(3,.bag [.ms 20300,.ms 8,.ms 20302]),(8,.arr 113 Qk),(11,.no),(25,.no),(44,.no),(20300,.arr 111 QC),(20302,.arr 62 Qp)]⟩
abbrev Gp:Sh:=⟨[(2,.ptr 2 0),(3,.ptr 3 0),(29,.ty (.sl Qp)),(30,.ty tI),(31,.ty tI)],[(2,.box Qm),(3,.bag [.ms 20300,.ms 8,.ms 20302]),(8,.arr 113 Qk),(11,.no),(25,.no),(44,.no),(20300,.arr 111 QC),(20302,.arr 62 Qp)]⟩
abbrev Qlw:Sh:=⟨[(2,.ptr 2 0),(3,.ptr 3 0)],[(2,.box Qm),(3,.bag [.ms 20300,.ms 8,.ms 20302]),(8,.arr 113 Qk),(11,.no),(25,.no),(44,.no),(20300,.arr 111 QC),(20302,.arr 62 Qp)]⟩
def Fh:Fg:=Gn.f
def Fi:Fg:=Gp.f
def XR:TC:=aF Tryz.f51 [(58,.nf 3 2 62 20302),(58,.nf 3 0 111 20300),(58,pL 0 Fh),(933,.fg ⟨[(1,none),(2,none),(3,none)],[(1,some Qm),(2,some Qm),(3,some Qm),(8,none),(11,none),(25,none),(44,none),(20300,none),(20302,none)]⟩),(3737,pD [(0,[3,8,11,25,44,20300,20302]),(1,[3,8,11,25,44,20300,20302]),(2,[5]),(3,[]),(4,[]),(5,[2,3,8,11,25,44,5025,10025,15025,20300,20302]),(6,[3,8,11,25,44,20300,20302]),(7,[2,3,8,11,25,44,20300,20302])] (.of [0,1,2,3,4,5,6,7])),(122,.nf 3 0 111 20300),(122,.nf 3 2 62 20302),(122,.nf 7 3 45 20703),(122,pL 1 Fi),(1957,.fg ⟨[(2,none),(3,none)],[(2,some Qm),(3,some Qm),(8,none),(11,none),(25,none),(44,none),(20300,none),(20302,none)]⟩)]
def IA:TC:=lb 0 XR
def IB:TC:=lb 1 XR
def Ef:List (RV×Option Ty):=[((.c 2 true 3),some Qm)]
def IC (x14:List Endpoint)(x15 x16:Int)(y1 y2:Estate)(y8:List Keep)(Qb:List Endpoint)(Qd:List Item):VS:=Gn.st ((),(),(),x14,x15,x16,()) (y1,y2,((),(),(),()),y8,(),(),(),Qb,Qd,())
def Fj (y1 y2:Estate)(y8:List Keep)(Qb:List Endpoint)(Qd:List Item):VS:=Qlv.st ((),(),(),()) (y1,y2,((),(),(),()),y8,(),(),(),Qb,Qd,())
def ID (x29:List Item)(x30 x31:Int)(y2:Estate)(y8:List Keep)(Qb:List Endpoint)(Qd:List Item):VS:=Gp.st ((),(),x29,x30,x31,()) (y2,((),(),(),()),y8,(),(),(),Qb,Qd,())
def Fk (y2:Estate)(y8:List Keep)(Qb:List Endpoint)(Qd:List Item):VS:=Qlw.st ((),(),()) (y2,((),(),(),()),y8,(),(),(),Qb,Qd,())
def Qlx:VS->Option (Bool×List (Bool×Exit×VS)):=mkL Gn (fun x y=>(QD x.2.2.2.1 x.2.2.2.2.1 x.2.2.2.2.2.1&&(x.2.2.2.1.all Jd&&decide (y.2.2.2.2.2.2.2.1.length<=x.2.2.2.2.2.1)))) (fun x y=>[(true,.exit 0,Fj (y.1) (y.2.1) (y.2.2.2.1) (y.2.2.2.2.2.2.2.1++x.2.2.2.1.drop x.2.2.2.2.2.1.toNat) (y.2.2.2.2.2.2.2.2.1))])
def Qly:VS->Option (Bool×List (Bool×Exit×VS)):=mkL Gp (fun x y=>(QD x.2.2.1 x.2.2.2.1 x.2.2.2.2.1&&(x.2.2.1.all XC&&decide (y.2.2.2.2.2.2.2.1.length<=x.2.2.2.2.1)))) (fun x y=>[(true,.exit 2,Fk (y.1) (y.2.2.1) (y.2.2.2.2.2.2.1) (y.2.2.2.2.2.2.2.1++x.2.2.1.drop x.2.2.2.2.1.toNat))])
def Ye:G:=⟨TYs,[8,35],48,EL [(89,Qms)],keeps,(Ls [Qlx,Qly]),IL [],RL []⟩
def Qv0 (x14:List Endpoint)(x15 x16:Int)(y1 y2:Estate)(y8:List Keep)(Qb:List Endpoint)(Qd:List Item):OX:=
 let a1:=FC (lgt QC x14 (Int.toNat x16))
 let a2:=((a1.2).1,(((a1.2).2).1,((((a1.2).2).2).1,(((((a1.2).2).2).2).1,((((((a1.2).2).2).2).2).1,(((((((a1.2).2).2).2).2).2).1,((((((((a1.2).2).2).2).2).2).2).1,(((((((((a1.2).2).2).2).2).2).2).2).1,()))))))))
 br (ilt x16 x15) (br (cIx x14 x16) (br (Jd (lgt QC x14 (Int.toNat x16))) (br (Qq Qb ([(a1.1,a2)]) 144) (some (.normal,IC x14 x15 (Qj .i64 x16 1) y1 y2 y8 (Qb++([(a1.1,a2)])) Qd)) none) none) none) (some (.exit 0,Fj y1 y2 y8 Qb Qd))
def Gq (x14:List Endpoint)(x15 x16:Int)(y1 y2:Estate)(y8:List Keep)(Qb:List Endpoint)(Qd:List Item):OX:=Qx (QA Ye Fh IA) (IC x14 x15 x16 y1 y2 y8 Qb Qd)
def UG (x14:List Endpoint)(x15 x16:Int)(y1 y2:Estate)(y8:List Keep)(Qb:List Endpoint)(Qd:List Item):OX:=
 let a1:=FC (lgt QC x14 (Int.toNat x16))
 let a2:=((a1.2).1,(((a1.2).2).1,((((a1.2).2).2).1,(((((a1.2).2).2).2).1,((((((a1.2).2).2).2).2).1,(((((((a1.2).2).2).2).2).2).1,((((((((a1.2).2).2).2).2).2).2).1,(((((((((a1.2).2).2).2).2).2).2).2).1,()))))))))
 br (ilt x16 x15) (br (cIx x14 x16) (br (Jd (lgt QC x14 (Int.toNat x16))) (br (Qq Qb ([(a1.1,a2)]) 144) (Gq x14 x15 (Qj .i64 x16 1) y1 y2 y8 (Qb++([(a1.1,a2)])) Qd) none) none) none) (some (.exit 0,Fj y1 y2 y8 Qb Qd))
def Gr (x14:List Endpoint)(x15 x16:Int)(y1 y2:Estate)(y8:List Keep)(Qb:List Endpoint)(Qd:List Item):OX:=some (.exit 0,Fj (y1) (y2) (y8) (Qb++x14.drop x16.toNat) (Qd))
theorem QKO (x14:List Endpoint)(x15 x16:Int)(y1 y2:Estate)(y8:List Keep)(Qb:List Endpoint)(Qd:List Item):QA Ye Fh IA (IC x14 x15 x16 y1 y2 y8 Qb Qd)=Qv0 x14 x15 x16 y1 y2 y8 Qb Qd:=by kernel_rfl
theorem VW (x14:List Endpoint)(x15 x16:Int)(y1 y2:Estate)(y8:List Keep)(Qb:List Endpoint)(Qd:List Item):Gq x14 x15 x16 y1 y2 y8 Qb Qd=UG x14 x15 x16 y1 y2 y8 Qb Qd:=(Ft _ _).trans (by
 rw [QKO]
 simp only [Qv0,UG,Xy,XX,XY,XZ,X5]
 rfl)
def Qv1 (x29:List Item)(x30 x31:Int)(y2:Estate)(y8:List Keep)(Qb:List Endpoint)(Qd:List Item):OX:=
 let a1:=lgt Qp x29 (Int.toNat x31)
 let a2:=(((a1.2).2).2)
 br (ilt x31 x30) (br (cIx x29 x31) (br (Qq ([]:List Link) (a2.1) 24) (br (Qq Qd ([(a1.1,((a1.2).1,(((a1.2).2).1,((([]:List Link)++(a2.1)),((a2.2).1,())))))]) 64) (some (.normal,ID x29 x30 (Qj .i64 x31 1) y2 y8 Qb (Qd++([(a1.1,((a1.2).1,(((a1.2).2).1,((([]:List Link)++(a2.1)),((a2.2).1,())))))])))) none) none) none) (some (.exit 2,Fk y2 y8 Qb Qd))
def Gs (x29:List Item)(x30 x31:Int)(y2:Estate)(y8:List Keep)(Qb:List Endpoint)(Qd:List Item):OX:=Qx (QA Ye Fi IB) (ID x29 x30 x31 y2 y8 Qb Qd)
def UH (x29:List Item)(x30 x31:Int)(y2:Estate)(y8:List Keep)(Qb:List Endpoint)(Qd:List Item):OX:=
 let a1:=lgt Qp x29 (Int.toNat x31)
 let a2:=(((a1.2).2).2)
 br (ilt x31 x30) (br (cIx x29 x31) (br (Qq ([]:List Link) (a2.1) 24) (br (Qq Qd ([(a1.1,((a1.2).1,(((a1.2).2).1,((([]:List Link)++(a2.1)),((a2.2).1,())))))]) 64) (Gs x29 x30 (Qj .i64 x31 1) y2 y8 Qb (Qd++([(a1.1,((a1.2).1,(((a1.2).2).1,((([]:List Link)++(a2.1)),((a2.2).1,())))))]))) none) none) none) (some (.exit 2,Fk y2 y8 Qb Qd))
def Gt (x29:List Item)(x30 x31:Int)(y2:Estate)(y8:List Keep)(Qb:List Endpoint)(Qd:List Item):OX:=some (.exit 2,Fk (y2) (y8) (Qb) (Qd++x29.drop x31.toNat))
theorem QKP (x29:List Item)(x30 x31:Int)(y2:Estate)(y8:List Keep)(Qb:List Endpoint)(Qd:List Item):QA Ye Fi IB (ID x29 x30 x31 y2 y8 Qb Qd)=Qv1 x29 x30 x31 y2 y8 Qb Qd:=by kernel_rfl
theorem VX (x29:List Item)(x30 x31:Int)(y2:Estate)(y8:List Keep)(Qb:List Endpoint)(Qd:List Item):Gs x29 x30 x31 y2 y8 Qb Qd=UH x29 x30 x31 y2 y8 Qb Qd:=(Ft _ _).trans (by
 rw [QKP]
 simp only [Qv1,UH,Xy,XX,XY,XZ,X5]
 rfl)
def Eg (p0:Estate):OV:=
 let a1:=((((p0).2).2).1)
 br (Qq ([]:List Keep) p0.2.1 16) (br (QD p0.1 (Qc p0.1) (0:Int)&&(p0.1.all Jd&&decide (([]:List Endpoint).length<=(0:Int)))) (br (QD a1 (Qc a1) (0:Int)&&(a1.all XC&&decide (([]:List Item).length<=(0:Int)))) (some (.t Qm ((([]:List Endpoint)++p0.1.drop (0:Int).toNat),((([]:List Keep)++p0.2.1),((([]:List Item)++a1.drop (0:Int).toNat),()))),[])) none) none) none
theorem Qlz (p0:Estate):QS Ye XR Ef false [.t Qm p0] []=Eg p0:=by kernel_rfl
theorem ok_f51:Option.map (trC Tryz.prog) Tryz.f51.body=some XR.er:=by kernel_rfl
theorem QKQ:XV Tryz.prog Tryz.f51.results.toList=some (Ef.map Prod.fst):=by kernel_rfl
theorem Qv2:Ja Tryz.prog 51:= .inr ⟨by decide,_,Tryz.func51,by kernel_rfl,by kernel_rfl⟩
theorem QlA:GOk Tryz.prog Ye:=Jp _ (gA (gD Qw2 gN))
theorem QlB (x14:List Endpoint)(x15 x16:Int)(y1 y2:Estate)(y8:List Keep)(Qb:List Endpoint)(Qd:List Item)(h:(QD x14 x15 x16&&(x14.all Jd&&decide (Qb.length<=x16)))=true):Gq x14 x15 x16 y1 y2 y8 Qb Qd=Gr x14 x15 x16 y1 y2 y8 Qb Qd:=by
 simp only [Bc,Ba] at h
 obtain ⟨h0,hc,hl⟩:=h
 obtain ⟨rfl,h3,k,rfl,hk⟩:=JG h0
 clear h0
 revert Qb
 refine QQ x14 (fun k=> ∀ (Qb:List Endpoint),(Qb.length:Int)<=(k:Int)->Gq x14 (x14.length:Int) (k:Int) y1 y2 y8 Qb Qd=Gr x14 (x14.length:Int) (k:Int) y1 y2 y8 Qb Qd) ?_ ?_ k hk
 ·intro Qb _
  rw [VW]
  simp only [UG,Gr,Qy,BN,BM,Qi,Bb,BS,BL]
 ·intro k hk ih Qb hl
  rw [VW]
  have c1:Jd x14[k]=true:=Bi.1 hc _ (Bw hk)
  simp only [UG,Qy,QK,hk,Bo,Qf,Bb,QO (show k<4611686018427387904 by omega),QL (y:=QC) hk,c1]
  refine brY (Q1 (by omega) (by simp only [Bh];omega)) ?_
  refine Eq.trans (ih (Qb++[x14[k]]) (by simp only [Bm,Bh];omega)) ?_
  simp only [Gr,Bb,Bg hk,BI,BH]
theorem QlC (x29:List Item)(x30 x31:Int)(y2:Estate)(y8:List Keep)(Qb:List Endpoint)(Qd:List Item)(h:(QD x29 x30 x31&&(x29.all XC&&decide (Qd.length<=x31)))=true):Gs x29 x30 x31 y2 y8 Qb Qd=Gt x29 x30 x31 y2 y8 Qb Qd:=by
 simp only [Bc,Ba] at h
 obtain ⟨h0,hc,hl⟩:=h
 obtain ⟨rfl,h3,k,rfl,hk⟩:=JG h0
 clear h0
 revert Qd
 refine QQ x29 (fun k=> ∀ (Qd:List Item),(Qd.length:Int)<=(k:Int)->Gs x29 (x29.length:Int) (k:Int) y2 y8 Qb Qd=Gt x29 (x29.length:Int) (k:Int) y2 y8 Qb Qd) ?_ ?_ k hk
 ·intro Qd _
  rw [VX]
  simp only [UH,Gt,Qy,BN,BM,Qi,Bb,BS,BL]
 ·intro k hk ih Qd hl
  rw [VX]
  have c1:x29[k].2.2.2.1.length<=1000:=BD (Bi.1 hc _ (Bw hk))
  simp only [UH,Qy,QK,hk,Bo,Qf,Bb,QO (show k<4611686018427387904 by omega),QL (y:=Qp) hk]
  refine brY (Q1 (by decide) (by simp only [Bv];omega)) (brY (Q1 (by omega) (by simp only [Bh];omega)) ?_)
  refine Eq.trans (ih (Qd++[x29[k]]) (by simp only [Bm,Bh];omega)) ?_
  simp only [Gt,Bb,Bg hk,BI,BH]
theorem QlD:LO Ye Fh IA 0:=QI (s:=Gn) fun x y h _ q=>by simp only [QG,QH] at q;exact (QlB x.2.2.2.1 x.2.2.2.2.1 x.2.2.2.2.2.1 y.1 y.2.1 y.2.2.2.1 y.2.2.2.2.2.2.2.1 y.2.2.2.2.2.2.2.2.1 h).trans q
theorem QlE:LO Ye Fi IB 1:=QI (s:=Gp) fun x y h _ q=>by simp only [QG,QH] at q;exact (QlC x.2.2.1 x.2.2.2.1 x.2.2.2.2.1 y.1 y.2.2.1 y.2.2.2.2.2.2.1 y.2.2.2.2.2.2.2.1 h).trans q
theorem QlF:XR.lok Ye:=by
 repeat (first|exact trivial|exact QlD|exact QlE|refine ⟨?_, ?_⟩)
theorem QlG (x:Estate)(h:JE x=true):Eg x=some (.t Qm (Zp x),[]):=by
 obtain ⟨h,h6⟩:=Bf.1 h
 simp only [ZC,Bc,Ba] at h
 obtain ⟨⟨h1,h2⟩,h3,h4⟩:=h
 have h5:=F1 h4
 unfold Eg
 have hx:x.2.1.length<=99999:=h2
 refine brY (Q1 (by decide) (by simp only [Bv];omega)) (brY ?_ (brY ?_ rfl))
 ·rw [JH (show (JN x).length<=100000 by omega),h3,Bu,Bu]
  exact Be (B1 _)
 ·rw [JH h5,h6,Bu,Bu]
  exact Be (B1 _)
def IE:Ent:=Qo (.pr Qm .nil) (fun x=>(JE x.1)) (fun x=>(.t Qm (Zp x.1)))
theorem QlH:Qu Tryz.prog 51 (Qv IE):=Qs (R:=QS Ye XR Ef false) (mG Tryz.func51 (by kernel_rfl) Tryz.ntmps51 (by kernel_rfl) QlA QlF) fun x hok=>(Qlz x.1).trans (QlG x.1 hok)
theorem copyMeets {w:World}{X:Nat->Nat->Prop}{e:Estate}{u:Value}(hfin: ∀ b q,X b q->b<w.heap.size)(hs:C X w Q3 (V.t Qm e).d u)(h:JE e=true):
  Calls Tryz.prog 51 #[u] w fun en w'=> ∃ v X' σ',en= .returned v/\C X' w' σ' (V.t Qm e).d v/\Ends X w Q3 0 X' w' σ' []:=by
 have hF:Qv IE [.t Qm e] []=some (.t Qm (Zp e),[]):=by
  unfold IE
  exact QmQ (a:= .pr Qm .nil) (x:=(e,())) (by simp [Ty.args,Qq3]) h
 refine (U5 (by decide) (QlH _ _ _ _ hF X w Q3 [u] hfin QhN ⟨u,_,rfl,hs,rfl⟩)).mono ?_
 rintro en w' ⟨v,X',σ',rfl,h1,h2⟩
 exact ⟨v,X',σ',rfl,h1,h2⟩
end
end Go.Proofs.YthlcobdnemhcdaaGreat.K.PJ
noncomputable section
namespace Go.Proofs.YthlcobdnemhcdaaGreat.K
open Go.RowKit
def XD {α:Type}(l:List α):List (Int×(α×Unit)):=(l.zipIdx.map fun p=>((p.2:Int),(p.1,()))).reverse
def Qov:Itr:=IG [.ptr 50000 0] [(.sl Q4)] (.pr tI (.pr Q4 .nil)) (fun d=>true) (fun d=>(XD d.1))
def QOh:TC:=aF Tryz.f151 []
def g_f151:G:=gG 4 [] (fun _ _=>none)
def r_f151 (p0:List Rule):OV:=some (.fn 203 [(.ptr 50000 0)],[.box (.t (.sl Q4) p0)])
def Qz4:Ent:=XW (.pr (.sl Q4) .nil) (fun _=>true) (fun x=> .fn 203 [.ptr 50000 0]) (fun x=>[.box (.t (.sl Q4) x.1)])
theorem QOi:EM 151 Qz4:=mS g_f151 QOh [((.t 2),none)] true (gB gN) fun m=>QeD m fun x _=>by kernel_rfl
end Go.Proofs.YthlcobdnemhcdaaGreat.K
noncomputable section
namespace Go.Proofs.YthlcobdnemhcdaaGreat.K
open Go.RowKit Go.Shelf
attribute [local go_sem] Oper.semAt_some
def Xu (vs:List Value)(sz:Nat):Nat->List (Array Value)
 |0=>[]
 |k+1=> #[.int .i64 (k:Int),.agg ((vs.drop (k*sz)).take sz).toArray]::Xu vs sz k
theorem QLK (vs:List Value)(sz:Nat): ∀ n k,k<n->(Xu vs sz n).drop k=Xu vs sz (n-k)
 |0,k,h=>by omega
 |n+1,0,_=>rfl
 |n+1,k+1,h=>by
  rw [Xu,List.drop_succ_cons,QLK vs sz n k (by omega)]
  congr 1
  omega
theorem w64 (m:Nat)(h:m<=maxLen):wrap64 ((m:Int)-1)=(m:Int)-1:=by
 simp only [maxLen] at h
 unfold wrap64
 omega
set_option maxRecDepth 100000 in
set_option maxHeartbeats 1000000 in
theorem QLL (Bs b0 off c n:Nat)(A:Option Addr)(vs:List Value)(Xf:Nat->Nat->Prop)(w:World)(hnc:n<=c)(hcm:c<=maxLen)
  (hBs:w.cell? ⟨Bs,0,none⟩=some (.slice A n c)) (hBl:Bs<w.heap.size) (hBx: ∀ q, ¬ Xf Bs q)
  (hA:0<n->A=some ⟨b0,off,none⟩/\vs.length=n*6/\b0<w.heap.size/\(∀ j,j<vs.length→ ¬ Xf b0 (off+j))∧ ∀ j v,vs[j]? = some v->w.cell? ⟨b0,off+j,none⟩=some v):
  OT Tryz.prog 203 [.pointer (some ⟨Bs,0,none⟩)] (Xu vs 6 n) Xf w:=by
 intro l J Jx W hJ hJx hK hY h0 _
 have HA:=Lib.hid hA
 clear hA
 refine callsIn_of_wp (F:=Fw none) Tryz.func203 rfl trivial ?_ rfl
 simp only [Tryz.ntmps203,DA,Br,Bv,Nat.reduceAdd,Nat.reduceSub,Array.replicate_succ,Array.replicate_zero,List.push_toArray,List.append_toArray,BV,Dt]
 have hb0:W.cell? ⟨Bs,0,none⟩=some (.slice A n c):=((hK _ W h0).2 Bs 0 hBl (hBx 0)).trans hBs
 gi_wp2
 gi_loopw [3] (fun i wr=> ∃ k:Nat,k<=n/\i= .int .i64 ((k:Int)-1)/\J (Xu vs 6 k) wr)
  (fun i _=>(intOf i+1).toNat)
 case atStart=>exact ⟨n,BB _,congrArg (Value.int .i64) (w64 n (by omega)),h0⟩
 case round=>
  obtain ⟨k,hk,rfl,hJs⟩:=hrel
  have hbx:wr.cell? ⟨Bs,0,none⟩=some (.slice A n c):=((hK _ wr hJs).2 Bs 0 hBl (hBx 0)).trans hBs
  cases k with
  |zero=>
   gi_wp2
   go_end0
   exact ⟨⟨_,rfl⟩,.inl hJs⟩
  |succ q=>
   obtain ⟨rfl,hvl,hbl,hnx,hcl⟩:=HA.out (by omega)
   obtain ⟨fn,tmps,assign,body,hy,hR⟩:=hY _ _ wr hJs
   have cel: ∀ i,i<6→ ∃ v,vs[q*6+i]? = some v/\wr.cell? ⟨b0,off+(q*6+i),none⟩=some v:=by
    intro i hi
    have hlt:q*6+i<vs.length:=by omega
    exact ⟨_,Bk hlt,((hK _ wr hJs).2 b0 _ hbl (hnx _ hlt)).trans (hcl _ _ (Bk hlt))⟩
   obtain ⟨v0,e0,c0⟩:=cel 0 (by omega)
   obtain ⟨v1,e1,c1⟩:=cel 1 (by omega)
   obtain ⟨v2,e2,c2⟩:=cel 2 (by omega)
   obtain ⟨v3,e3,c3⟩:=cel 3 (by omega)
   obtain ⟨v4,e4,c4⟩:=cel 4 (by omega)
   obtain ⟨v5,e5,c5⟩:=cel 5 (by omega)
   rw [DM] at e0 c0
   rw [←DP] at c1 c2 c3 c4 c5
   have hag:((vs.drop (q*6)).take 6)=[v0,v1,v2,v3,v4,v5]:=by
    apply List.ext_getElem?
    intro i
    rcases Di i 6 with hi|hi
    ·rw [DT hi,Dl]
     rcases i with _|_|_|_|_|_|i
     ·rw [DM,e0];rfl
     ·rw [e1];rfl
     ·rw [e2];rfl
     ·rw [e3];rfl
     ·rw [e4];rfl
     ·rw [e5];rfl
     ·omega
    ·rw [List.getElem?_take_eq_none hi,DG (by simpa using hi)]
   rw [hag] at hy
   have q1:((q+1:Nat):Int)-1=(q:Int):=by omega
   rw [q1]
   clear hnx hcl cel hY
   gi_wp2
   refine hR.mono ?_
   rintro e W3 (⟨rfl,hJ3⟩|⟨rfl,hJx3⟩)
   ·gi_wp2
    go_roundw
    case rel=>exact ⟨q,by omega,congrArg (Value.int .i64) (w64 q (by omega)),hJ3⟩
    case measure=>simp [intOf,w64 q (by omega)]
   ·gi_wp2
    refine bodyPost_ret (results_none rfl _ _ _) rfl ?_
    exact ⟨⟨_,rfl⟩,.inr hJx3⟩
theorem Qmt (vs:List Value)(sz:Nat): ∀ n,(Xu vs sz n).length=n
 |0=>rfl
 |n+1=>by rw [Xu,Br,Qmt vs sz n]
theorem Qxa (vs:List Value)(sz:Nat): ∀ n i,i<n->(Xu vs sz n)[i]? = some #[.int .i64 ((n-1-i:Nat):Int),.agg ((vs.drop ((n-1-i)*sz)).take sz).toArray]
 |0,i,h=>by omega
 |n+1,0,_=>by simp [Xu]
 |n+1,i+1,h=>by
  rw [Xu,B5,Qxa vs sz n i (by omega)]
  have:n-1-i=n+1-1-(i+1):=by omega
  rw [this]
theorem QLM {α:Type}(l:List α)(i:Nat)(h:i<l.length):(XD l)[i]? = some (((l.length-1-i:Nat):Int),(l[l.length-1-i]'(by omega),())):=by
 unfold XD
 rw [List.getElem?_reverse (by simpa using h)]
 simp
theorem QLN {P:Program}{gf:FuncId}{y:Ty}{sz:Nat}(hgf:gf<1000000)(hrow:y.row=true)(hsz:y.sz=sz)(eg: ∀ args w,(callFunc gf args).run P w= .ok (.enter gf args) w)
  (hw: ∀ (Bs b0 off c n:Nat) (A:Option Addr) (vs:List Value) (Xf:Nat->Nat->Prop) (w:World),n<=c->c<=maxLen->w.cell? ⟨Bs,0,none⟩=some (.slice A n c)->Bs<w.heap.size->(∀ q, ¬ Xf Bs q)→
   (0<n->A=some ⟨b0,off,none⟩/\vs.length=n*sz/\b0<w.heap.size/\(∀ j,j<vs.length→ ¬ Xf b0 (off+j))∧ ∀ j v,vs[j]? = some v->w.cell? ⟨b0,off+j,none⟩=some v)->OT P gf [.pointer (some ⟨Bs,0,none⟩)] (Xu vs sz n) Xf w):
  Iters P gf (IG [.ptr 50000 0] [.sl y] (.pr (.int .i64) (.pr y .nil)) (fun _=>true) (fun d=>XD d.1)):=by
 refine Iters.weak hgf eg fun caps objs yr rows h X w σ lb hfin hl hc=> ?_
 unfold IG at h
 split at h
 ·rename_i x d hx hd
  simp only [Bd,Bp,true_and] at h
  cases h
  have hcaps:=Qao hx
  subst hcaps
  cases objs with
  |nil=>simp [Xz] at hd
  |cons o os=>
   cases o with
   |box cv=>
    cases os with
    |cons o2 os=>simp [Xz] at hd
    |nil=>
     simp only [Xz] at hd
     split at hd
     ·rename_i l u hl1 _
      simp only [Bd] at hd
      subst hd
      have hcv:=SV.rd_mk (s:= .ty (.sl y)) (v:=cv) (x:=l) (by simpa [QeI,Ty.row] using hl1)
      subst hcv
      obtain ⟨⟨Bs,ty,us,h1,h2,h3,h4⟩,_⟩:=hl.at_ 0 _ rfl
      have h3':Cs X w σ [.sl (List.length l) (List.flatMap y.cells l)] us:=h3
      obtain ⟨uv,rfl,h5⟩:=h3'.one
      simp only [C] at h5
      obtain ⟨A,c,rfl,g1,g2,g3,g4⟩:=h5
      simp only [Er,SV.mk,V.ds,V.d,Cs,C] at hc
      obtain ⟨p,ps,rfl,⟨b',e1,rfl⟩,rfl⟩:=hc
      have h1:σ 50000= .box Bs:=h1
      rw [h1] at e1
      injection e1 with e1
      subst e1
      have hcell:w.cell? ⟨Bs,0,none⟩=some (.slice A (List.length l) c):=by simp [World.cell?, h2]
      have hBl:=(BY.1 h2).1
      have hBx: ∀ q, ¬ (X Bs q∧ ∀ j,j<[VO.box ((SV.ty (.sl y)).mk l)].length->(σ (50000+j)).blk≠some Bs):=fun q hq=>hq.2 0 (by simp) (by rw [h1];rfl)
      rcases DY (List.length l) with h0|hp
      ·have hl0:l=[]:=BC h0
       subst hl0
       exact ⟨Xu [] sz 0,⟨rfl,fun i r v hr=>by simp [XD] at hr⟩,hw Bs 0 0 c 0 A [] _ w g1 g2 hcell hBl hBx (fun h=>absurd h (by omega))⟩
      ·obtain ⟨b0,off,vs,rfl,g5,g6⟩:=g4 hp
       have hvl:=g5.len
       rw [UX,hsz] at hvl
       refine ⟨Xu vs sz (List.length l),⟨by rw [Qmt];simp [XD],fun i r v hr hv=> ?_⟩,hw Bs b0 off c (List.length l) _ vs _ w g1 g2 hcell hBl hBx (fun _=>⟨rfl,hvl,g6.lt,fun j hj hx=>g6.nx j hj hx.1,fun j v hv=>g6.at_ j v hv⟩)⟩
       have hi:i<List.length l:=by
        have:=(BJ.1 hv).1
        rwa [Qmt] at this
       rw [QLM _ _ hi] at hr
       rw [Qxa _ _ _ _ hi] at hv
       injection hr with hr
       injection hv with hv
       subst hr hv
       simp only [Ty.canon,V.ds,V.d,Cs]
       refine ⟨_,_,rfl,(by simp only [Ty.d,C];exact ⟨trivial,rfl⟩),_,_,rfl, ?_,rfl⟩
       rw [Ty.d_row _ _ hrow]
       simp only [C]
       refine ⟨_,rfl, ?_⟩
       have k1:=(g5.drop_ ((List.length l-1-i)*y.sz))
       rw [EJ,Bg (by omega),BU] at k1
       have k2:=k1.take_ y.sz
       rw [List.take_left' (y.cells_len _),hsz] at k2
       exact k2
     ·cases hd
   |no=>simp [Xz] at hd
   |arr e t l=>simp [Xz] at hd
 ·cases h
theorem QLO:Iters Tryz.prog 203 Qov:=
 QLN (y:=Q4) (sz:=6) (by decide) rfl rfl (enters_of Tryz.func203 (by kernel_rfl) rfl) QLL
end Go.Proofs.YthlcobdnemhcdaaGreat.K
noncomputable section
namespace Go.Proofs.YthlcobdnemhcdaaGreat.K
open Go.RowKit
def IM (zs:List (Int×(Rule×Unit)))(u:Keep)(p d:Int):Option Int:=(zs.find? fun z=>Uc z.2.1 u p d).map (·.1)
def Qae (zs:List (Int×(Rule×Unit)))(u:Keep)(p d _x:Int):Bool:=(IM zs u p d).isSome
def Qaf (zs:List (Int×(Rule×Unit)))(u:Keep)(p d _x:Int):Int:=(IM zs u p d).getD 0
def Z3 (y:Policy)(u:Keep)(p d:Int):Int:=(IM (XD y.1) u p d).getD (-1)
abbrev Qec:Sh:=⟨[(5,.ptr 60000 0),(6,.ptr 60001 0),(7,.ptr 60002 0),(8,.ptr 60003 0)],[(60000,.box Qk),(60001,.box tI),(60002,.box tI),(60003,.bag [.ty tI])]⟩
def Fo:Fg:=Qec.f
def Qed:TC:=(.sq (.reg (rT Tryz.f96 2)) (.reg (rT Tryz.f96 3)))
def Qee:TC:=(.bk 1 (.sq (.reg (rT Tryz.f96 4)) (.cd (.t 31) (.sq (.reg (rT Tryz.f96 5)) (.fg ⟨[],[(60000,some Qk),(60001,some tI),(60002,some tI),(60003,none)]⟩ .rt)) .sk)))
def tc_f96:TC:=(.sq (.reg (rT Tryz.f96 0)) (.sq (.sq (.reg (rT Tryz.f96 1)) (.bk 0 (.rf 0 Fo (.t 13) (.pr tI (.pr Q4 .nil)) [14,15] [5,6,7,8] Qed Qee))) (.sq (.reg (rT Tryz.f96 6)) .rt)))
def Wx (JW:Keep)(JX JI Zl:Int):VS:=Qec.st ((),(),(),(),()) (JW,JX,JI,(Zl,()),())
def Qef:VS->List (Ty.T (.pr tI (.pr Q4 .nil)))->Option (Bool×List (Bool×Exit×VS)):=mkR Qec (fun zs x y=>true) (fun zs x y=>[((Qae zs y.1 y.2.1 y.2.2.1 y.2.2.2.1.1),.ret,Wx (y.1) (y.2.1) (y.2.2.1) (Qaf zs y.1 y.2.1 y.2.2.1 y.2.2.2.1.1)),(true,.normal,Wx (y.1) (y.2.1) (y.2.2.1) (y.2.2.2.1.1))])
def IN:G:=⟨TYs,[],33,EL [(151,Qz4),(152,QvE)],keeps,(Ls [fun _=>none]),IL [(203,Qov)],(RL [⟨(.pr tI (.pr Q4 .nil)),Qef⟩])⟩
def QwO (z:(Int×(Rule×Unit)))(JW:Keep)(JX JI Zl:Int):OX:=br (Ff z.2.1 JW JX) (br (ile z.2.1.2.2.2.2.1 JI) (br (ilt JI z.2.1.2.2.2.2.2.1) (some (.ret,Wx JW JX JI z.1)) (some (.normal,Wx JW JX JI Zl))) (some (.normal,Wx JW JX JI Zl))) (some (.normal,Wx JW JX JI Zl))
def IO (zs:List (Int×(Rule×Unit)))(JW:Keep)(JX JI Zl:Int):OX:=WR (FX IN Fo (.pr tI (.pr Q4 .nil)) [14,15] Qed Qee) zs (Wx JW JX JI Zl)
def Qmk (z:(Int×(Rule×Unit)))(zs:List (Int×(Rule×Unit)))(JW:Keep)(JX JI Zl:Int):OX:=br (Ff z.2.1 JW JX) (br (ile z.2.1.2.2.2.2.1 JI) (br (ilt JI z.2.1.2.2.2.2.2.1) (some (.ret,Wx JW JX JI z.1)) (IO zs JW JX JI Zl)) (IO zs JW JX JI Zl)) (IO zs JW JX JI Zl)
def QwP (zs:List (Int×(Rule×Unit)))(JW:Keep)(JX JI Zl:Int):OX:=br (Qae zs JW JX JI Zl) (some (.ret,Wx (JW) (JX) (JI) (Qaf zs JW JX JI Zl)))<|some (.normal,Wx (JW) (JX) (JI) (Zl))
theorem QLs (z:(Int×(Rule×Unit)))(JW:Keep)(JX JI Zl:Int):FX IN Fo (.pr tI (.pr Q4 .nil)) [14,15] Qed Qee z (Wx JW JX JI Zl)=QwO z JW JX JI Zl:=by kernel_rfl
theorem QLt (JW:Keep)(JX:Int)(JI:Int)(Zl:Int):IO [] JW JX JI Zl=some (.normal,Wx JW JX JI Zl):=rfl
theorem QLu (z:(Int×(Rule×Unit)))(zs:List (Int×(Rule×Unit)))(JW:Keep)(JX JI Zl:Int):IO (z::zs) JW JX JI Zl=Qmk z zs JW JX JI Zl:=(QMl _ _ _ _).trans (by
 rw [QLs]
 simp only [QwO,Qmk,Xy,XX,XY,XZ,X5]
 rfl)
def r_f96 (p0:Policy)(p1:Keep)(p2 p3:Int):OV:=br (Qae (XD p0.1) p1 p2 p3 0) (some (.t tI (Qaf (XD p0.1) p1 p2 p3 0),[])) (some (.t tI (-1),[]))
theorem QLv (zs:List (Int×(Rule×Unit)))(JW:Keep)(JX JI Zl:Int)(h:true=true):IO zs JW JX JI Zl=QwP zs JW JX JI Zl:=by
 clear h
 induction zs with
 |nil=>
  rw [QLt]
  rfl
 |cons z zs ih=>
  rw [QLu]
  simp only [Qmk,ih,QwP,Qae,Qaf,IM,List.find?_cons,Uc,Qle,ile,ilt,Estate.Endpoints,Estate.Edges,Estate.Items,Policy.Rules,Policy.Keeps,Keep.Alg,Keep.Bits,Link.Use,Link.Day,Job.Item,Job.Link,Item.Name,Item.Kind,Item.Purpose,Item.Links,Item.Until,Rule.Allow,Rule.Alg,Rule.Below,Rule.Purpose,Rule.From,Rule.To,Exception.Use,Exception.Purpose,Exception.Endpoint,Exception.Days,Exception.Seals,Dice.L,Dice.At,Endpoint.Name,Endpoint.Least,Endpoint.Most,Endpoint.Suites,Endpoint.OwnOrder,Endpoint.Identities,Endpoint.Anchors,Endpoint.Hashes,Endpoint.Fallback,Identity.Key,Identity.KeyId,Identity.Chain,Change.Endpoint,Change.Kind,Change.Number,Change.At,Change.Identity,Rules.p,Rules.l,Rules.o,Rules.day,Method.outcome,Method.uses,Certificate.Serial,Certificate.Issuer,Certificate.Subject,Certificate.Key,Certificate.KeyId,Certificate.Hash,Certificate.From,Certificate.To,Certificate.Authority,Certificate.Path,Certificate.Names,Certificate.Seal,LinkX.day,LinkX.fall,LinkX.falls,Suite.Code,Suite.Name,Suite.Exchange,Suite.Sign,Suite.Cipher,Suite.Mac,Suite.Least,Suite.Most,Row.name,Row.kind,Row.way,Row.sizes,Row.strengths,Talk.server,Talk.version,Talk.suites,Symbol.name,Symbol.kind]
  cases h1:Ff z.2.1 JW JX<;>cases h2:decide (z.2.1.2.2.2.2.1<=JI)<;>cases h3:decide (JI<z.2.1.2.2.2.2.2.1)<;>simp [Qf,Qi]
theorem QLw: ∀ S (rows:List (Ty.T (.pr tI (.pr Q4 .nil)))) l p,IN.R 0 (fgt Fo S) (.pr tI (.pr Q4 .nil)) rows=some (true,l)->YU l=some p->WR (FX IN Fo (.pr tI (.pr Q4 .nil)) [14,15] Qed Qee) rows (fgt Fo S)=some p:=by
 intro S rows l p hR hp
 rw [show IN.R 0 (fgt Fo S) (.pr tI (.pr Q4 .nil)) rows=Qef (fgt Fo S) rows from RL_at (l:=[⟨(.pr tI (.pr Q4 .nil)),Qef⟩]) (j:=0) (F:=Qef) rfl _ _] at hR
 refine QMk (s:=Qec) ⟨by decide,by decide⟩ (by kernel_rfl) (fun zs x y hok p hp=> ?_) S rows l p hR hp
 simp only [QG,QH] at hp
 exact (QLv zs y.1 y.2.1 y.2.2.1 y.2.2.2.1.1 (by first|rfl|simpa using hok)).trans hp
theorem s_f96 (p0:Policy)(p1:Keep)(p2 p3:Int):r_f96 p0 p1 p2 p3=some (.t tI (Z3 p0 p1 p2 p3),[]):=by
 simp only [r_f96,Z3,Qae,Qaf]
 cases IM (XD p0.1) p1 p2 p3<;>simp [Qf,Qi]
def Qml:Ent:=Qo (.pr QE (.pr Qk (.pr tI (.pr tI .nil)))) (fun x=>true) (fun x=>(.t tI (Z3 x.1 x.2.1 x.2.2.1 x.2.2.2.1)))
theorem QwQ:EM 96 Qml:=mS (lk:=(by repeat first|exact trivial|exact QLw|constructor)) IN tc_f96 [((.c 8 false 1),some tI)] false (Jp _ (gA (gD QOi (gD QKw gN)))
 [(203,Qov)] (by
 intro p hp
 simp only [BA,BQ,Dd] at hp
 rcases hp with rfl
 ·exact QLO)) fun m=>Qs m fun x _=>kT (s_f96 x.1 x.2.1 x.2.2.1 x.2.2.2.1)
end Go.Proofs.YthlcobdnemhcdaaGreat.K
noncomputable section
namespace Go.Proofs.YthlcobdnemhcdaaGreat.K
open Go.RowKit
def ZV {α:Type}(m:α->Bool):List α->Option Nat
 | []=>none
 |a::l=>match ZV m l with
  |some k=>some (k+1)
  |none=>if m a then some 0 else none
theorem Qm8 {α:Type}{m:α->Bool}{l2:List α}: ∀ l1:List α,ZV m (l1++l2)=match ZV m l2 with|some k=>some (l1.length+k)|none=>ZV m l1
 | []=>by
  simp only [BV,Bv,DS]
  cases ZV m l2<;>rfl
 |a::l1=>by
  simp only [Dt,ZV,Qm8 l1,Br]
  cases ZV m l2 with
  |none=>rfl
  |some k=>simp only [Bd];omega
theorem Qyf {α:Type}{m:α->Bool}: ∀ {l:List α},ZV m l=none↔ ∀ a,a∈l->m a=false
 | []=>by simp [ZV]
 |a::l=>by
  have ih:=Qyf (m:=m) (l:=l)
  simp only [ZV]
  cases h:ZV m l with
  |some k=>
   have: ¬ ∀ a,a∈l->m a=false:=fun g=>by rw [ih.2 g] at h;cases h
   simp only [BA,forall_eq_or_imp,reduceCtorEq,false_iff,not_and]
   exact fun _=>this
  |none=>
   have g:=ih.1 h
   cases hm:m a<;>simp_all
theorem Qm9 {α:Type}{m:α->Bool}: ∀ {l:List α} {k:Nat},ZV m l=some k↔ ∃ h:k<l.length,m l[k]=true∧ ∀ j (hj:j<l.length),k<j->m l[j]=false
 | [],k=>by simp [ZV]
 |a::l,k=>by
  have ih:= @Qm9 α m l
  simp only [ZV]
  cases h:ZV m l with
  |some i=>
   obtain ⟨h1,h2,h3⟩:=ih.1 h
   simp only [Bd]
   constructor
   ·rintro rfl
    refine ⟨by simp;omega,by simpa using h2,fun j hj hk=> ?_⟩
    cases j with
    |zero=>omega
    |succ j=>simpa using h3 j (by simpa using hj) (by omega)
   ·rintro ⟨g1,g2,g3⟩
    cases k with
    |zero=>
     have:=g3 (i+1) (by simp;omega) (by omega)
     simp [h2] at this
    |succ k=>
     have g1':k<l.length:=by simpa using g1
     simp only [DF] at g2
     have:ZV m l=some k:=ih.2 ⟨g1',g2,fun j hj hk=>by have:=g3 (j+1) (by rw [Br];omega) (by omega);rwa [DF] at this⟩
     rw [this] at h
     injection h with h
     omega
  |none=>
   have g:=Qyf.1 h
   cases hm:m a with
   |true=>
    simp only [if_true,Bd]
    constructor
    ·rintro rfl
     refine ⟨by simp,by simpa using hm,fun j hj hk=> ?_⟩
     cases j with
     |zero=>omega
     |succ j=>simp only [DF];exact g _ (Bw _)
    ·rintro ⟨g1,g2,g3⟩
     cases k with
     |zero=>rfl
     |succ k=>
      simp only [DF] at g2
      rw [g _ (Bw _)] at g2
      cases g2
   |false=>
    simp only [BK,Dc,reduceCtorEq,false_iff]
    rintro ⟨g1,g2,g3⟩
    cases k with
    |zero=>simp [hm] at g2
    |succ k=>
     simp only [DF] at g2
     rw [g _ (Bw _)] at g2
     cases g2
theorem QMM {α:Type}(l:List α)(a:α):XD (l++[a])=((l.length:Int),(a,()))::XD l:=by
 unfold XD
 simp [List.zipIdx_append]
theorem QMN {α:Type}{P:List α->Prop}(h0:P [])(h1: ∀ l a,P l->P (l++[a]))(l:List α):P l:=by
 have: ∀ r:List α,P r.reverse:=by
  intro r
  induction r with
  |nil=>exact h0
  |cons a r ih=>rw [List.reverse_cons];exact h1 _ _ ih
 have h:=this l.reverse
 rwa [List.reverse_reverse] at h
theorem QMO {α:Type}{m:α->Bool}(l:List α):((XD l).find? fun z=>m z.2.1).map (·.1)=(ZV m l).map fun k:Nat=>(k:Int):=by
 induction l using QMN with
 |h0=>rfl
 |h1 l a ih=>
  rw [QMM,List.find?_cons,Qm8]
  simp only [ZV]
  cases hm:m a
  ·simpa using ih
  ·simp
def X9 (rs:List Rule)(u:Keep)(p d:Int):Option Nat:=ZV (fun r=>Uc r u p d) rs
theorem Qna {y:Policy}{u:Keep}{p d:Int}:Z3 y u p d=match X9 y.1 u p d with|some k=>(k:Int)|none=> -1:=by
 unfold Z3 IM X9
 rw [QMO (m:=fun r=>Uc r u p d)]
 cases ZV (fun r=>Uc r u p d) y.1<;>rfl
theorem QMP {y:Policy}{u:Keep}{p d:Int}: -1<=Z3 y u p d/\Z3 y u p d<y.1.length:=by
 rw [Qna]
 cases h:X9 y.1 u p d with
 |none=>simp only;omega
 |some k=>
  obtain ⟨h1,_⟩:=Qm9.1 h
  simp only
  omega
def allL (rs:List Rule)(u:Keep)(p d:Int):Bool:=match X9 rs u p d with
 |some k=>(rs[k]?.map fun r:Rule=>r.1).getD true
 |none=>true
def Yp (y:Policy)(u:Keep)(p d:Int):Bool:=allL y.1 u p d
def asc (l:List Int):Prop:=l.Pairwise (· < ·)
theorem Qyg: ∀ {a b:List Int},asc a->asc b->(∀ x,x∈a↔x∈b)->a=b
 | [],[],_,_,_=>rfl
 | [],y::b,_,_,h=>absurd ((h y).2 (by simp)) (by simp)
 |x::a,[],_,_,h=>absurd ((h x).1 (by simp)) (by simp)
 |x::a,y::b,ha,hb,h=>by
  obtain ⟨ha1,ha2⟩:=DR.1 ha
  obtain ⟨hb1,hb2⟩:=DR.1 hb
  have e:x=y:=by
   rcases BA.1 ((h x).1 (by simp)) with e|e
   ·exact e
   ·rcases BA.1 ((h y).2 (by simp)) with e'|e'
    ·exact e'.symm
    ·have:=ha1 y e'
     have:=hb1 x e
     omega
  subst e
  rw [Qyg ha2 hb2 fun z=> ?_]
  constructor
  ·intro hz
   have:=ha1 z hz
   rcases BA.1 ((h z).1 (by simp [hz])) with e|e
   ·omega
   ·exact e
  ·intro hz
   have:=hb1 z hz
   rcases BA.1 ((h z).2 (by simp [hz])) with e|e
   ·omega
   ·exact e
theorem Qyh {d:Array Int}(hs:d.toList.Pairwise (· ≤ ·)): ∀ m,m<=d.size->asc (Lib.compactUpTo d m)/\(∀ x,x∈Lib.compactUpTo d m↔x∈d.toList.take m)/\(0<m→ ∀ x,x∈Lib.compactUpTo d m->x<=d[m-1]!)
 |0,_=>⟨List.Pairwise.nil,fun x=>by simp [Lib.compactUpTo],fun h=>absurd h (by omega)⟩
 |m+1,hm=>by
  obtain ⟨h1,h2,h3⟩:=Qyh hs m (by omega)
  rw [Lib.compactUpTo_succ]
  have hsz:m<d.size:=by omega
  have hle:m<d.toList.length:=by simpa using hsz
  have et:d.toList.take (m+1)=d.toList.take m++[d.toList[m]]:=List.take_succ_eq_append_getElem hle
  have eg:d[m]! = d.toList[m]:=by simp [hsz]
  have hle2: ∀ x,x∈d.toList.take m->x<=d[m]! :=by
   intro x hx
   rw [eg]
   obtain ⟨i,hi,rfl⟩:=List.getElem_of_mem hx
   have hi':i<m:=by rw [B4] at hi;omega
   rw [List.getElem_take]
   exact (List.pairwise_iff_getElem.1 hs) i m (by omega) hle hi'
  by_cases hk:Lib.keeps d m=true
  ·rw [if_pos hk]
   have hlt: ∀ x,x∈Lib.compactUpTo d m->x<d[m]! :=by
    intro x hx
    have h4:0<m:=by
     rcases DY m with rfl|h
     ·simp [Lib.compactUpTo] at hx
     ·exact h
    have h5:=h3 h4 x hx
    simp only [Lib.keeps,Ba] at hk
    have h6:d[m-1]! ≤ d[m]! :=hle2 _ (by
     have e:d[m-1]! = d.toList[m-1]:=by simp [show m-1<d.size by omega]
     rw [e,List.mem_take_iff_getElem]
     exact ⟨m-1,by omega,rfl⟩)
    rcases hk with hk|hk
    ·omega
    ·omega
   refine ⟨?_,fun x=> ?_,fun _ x hx=> ?_⟩
   ·refine DJ.2 ⟨h1,DD _ _,fun a ha b hb=> ?_⟩
    rw [BX.1 hb]
    exact hlt a ha
   ·rw [et,BE,BE,h2 x,eg]
   ·rw [DZ]
    rcases BE.1 hx with hx|hx
    ·exact Int.le_of_lt (hlt x hx)
    ·rw [BX.1 hx]
     exact B1 _
  ·have hk':Lib.keeps d m=false:=by simpa using hk
   rw [hk']
   simp only [BK,Dc,BL]
   simp only [Lib.keeps,Bn,not_or,Decidable.not_not] at hk'
   have h4:0<m:=by omega
   have e:d[m-1]! = d.toList[m-1]:=by simp [show m-1<d.size by omega]
   refine ⟨h1,fun x=> ?_,fun _ x hx=> ?_⟩
   ·rw [et,BE,h2 x]
    constructor
    ·exact .inl
    ·rintro (h|h)
     ·exact h
     ·rw [BX.1 h, ← eg,hk'.2,e,List.mem_take_iff_getElem]
      exact ⟨m-1,by omega,rfl⟩
   ·rw [DZ,hk'.2]
    exact h3 h4 x hx
theorem Qyi {l:List Int}(hs:l.Pairwise (· ≤ ·)):asc (Lib.compact l)∧ ∀ x,x∈Lib.compact l↔x∈l:=by
 have h:=Qyh (d:=l.toArray) (by simpa using hs) l.length (by simp)
 refine ⟨h.1,fun x=> ?_⟩
 have:=h.2.1 x
 rw [show Lib.compact l=Lib.compactUpTo l.toArray l.length from rfl,this,DE (by simp)]
theorem Qyj (l:List Int):(Y5 l).Pairwise (· ≤ ·):=by
 have:=List.pairwise_mergeSort (le:=fun x y:Int=>decide (x<=y)) (fun a b c h1 h2=>by simp only [Ba] at *; omega) (fun a b=>by simp only [Dm,Ba];omega) l
 exact this.imp fun h=>BD h
theorem QMQ {l:List Int}{x:Int}:x∈Y5 l↔x∈l:=List.mem_mergeSort
def Zj:List Int->Int->List Int
 | [],n=>[n]
 |a::l,n=>if a<n then a::Zj l n else if a=n then a::l else n::a::l
theorem QeQ {n x:Int}: ∀ {l:List Int},x∈Zj l n↔x=n∨x∈l
 | []=>by simp [Zj]
 |a::l=>by
  have ih:=QeQ (n:=n) (x:=x) (l:=l)
  unfold Zj
  split
  ·rw [BA,BA,ih]
   exact ⟨fun h=>h.elim (fun h=> .inr (.inl h)) (fun h=>h.elim .inl fun h=> .inr (.inr h)),fun h=>h.elim (fun h=> .inr (.inl h)) (fun h=>h.elim .inl fun h=> .inr (.inr h))⟩
  ·split
   ·rename_i h
    subst h
    rw [BA]
    exact ⟨fun h=>h.elim .inl fun h=> .inr (.inr h),fun h=>h.elim .inl id⟩
   ·rw [BA]
theorem Qnb {n:Int}: ∀ {l:List Int},asc l->asc (Zj l n)
 | [],_=>DD _ _
 |a::l,h=>by
  obtain ⟨h1,h2⟩:=DR.1 h
  unfold Zj
  split
  ·refine DR.2 ⟨fun x hx=> ?_,Qnb h2⟩
   rcases QeQ.1 hx with e|hx
   ·omega
   ·exact h1 x hx
  ·split
   ·exact h
   ·refine DR.2 ⟨fun x hx=> ?_,h⟩
    rcases BA.1 hx with e|hx
    ·omega
    ·have:=h1 x hx
     omega
def Yq (rs:List Rule):List Int:=rs.flatMap fun r=>[r.2.2.2.2.1,r.2.2.2.2.2.1]
def YA (rs:List Rule):List Int:=Lib.compact (Y5 ((0::Yq rs)++[40001]))
def cutsR (rs:List Rule):List Int:=rs.foldl (fun l r=>Zj (Zj l r.2.2.2.2.1) r.2.2.2.2.2.1) [0,40001]
theorem Qyk: ∀ (rs:List Rule) (l:List Int),asc l->asc (rs.foldl (fun l r=>Zj (Zj l r.2.2.2.2.1) r.2.2.2.2.2.1) l)∧ ∀ x,x∈rs.foldl (fun l r=>Zj (Zj l r.2.2.2.2.1) r.2.2.2.2.2.1) l↔x∈l∨x∈Yq rs
 | [],l,h=>⟨h,fun x=>by simp [Yq]⟩
 |r::rs,l,h=>by
  obtain ⟨h1,h2⟩:=Qyk rs (Zj (Zj l r.2.2.2.2.1) r.2.2.2.2.2.1) (Qnb (Qnb h))
  refine ⟨h1,fun x=> ?_⟩
  rw [Dp,h2 x,QeQ,QeQ]
  simp only [Yq,BU,BE,BA,BQ,Dd]
  constructor
  ·rintro ((h|h|h)|h)
   ·exact .inr (.inl (.inr h))
   ·exact .inr (.inl (.inl h))
   ·exact .inl h
   ·exact .inr (.inr h)
  ·rintro (h|(h|h)|h)
   ·exact .inl (.inr (.inr h))
   ·exact .inl (.inr (.inl h))
   ·exact .inl (.inl h)
   ·exact .inr h
theorem Qax {rs:List Rule}{x:Int}:x∈YA rs↔x=0∨x=40001∨x∈Yq rs:=by
 unfold YA
 rw [(Qyi (Qyj _)).2,QMQ]
 simp only [BE,BA,BQ,Dd]
 constructor
 ·rintro ((h|h)|h)
  ·exact .inl h
  ·exact .inr (.inr h)
  ·exact .inr (.inl h)
 ·rintro (h|h|h)
  ·exact .inl (.inl h)
  ·exact .inr h
  ·exact .inl (.inr h)
theorem Qnc (rs:List Rule):asc (YA rs):=(Qyi (Qyj _)).1
theorem QMR (rs:List Rule):YA rs=cutsR rs:=by
 have h:=Qyk rs [0,40001] (by unfold asc;simp)
 refine Qyg (Qnc rs) h.1 fun x=> ?_
 rw [Qax]
 unfold cutsR
 rw [h.2 x]
 simp only [BA,BQ,Dd]
 exact ⟨fun h=>h.elim (fun h=> .inl (.inl h)) fun h=>h.elim (fun h=> .inl (.inr h)) .inr,fun h=>h.elim (fun h=>h.elim .inl fun h=> .inr (.inl h)) fun h=> .inr (.inr h)⟩
def WD (out:List Keep)(a b:Int):List Keep:=match out.getLast? with
 |some s=>if s.2.1=a then out.dropLast++[(s.1,b,())] else out++[(a,b,())]
 |none=>[(a,b,())]
def Ug (f:Int->Bool):List Int->List Keep->List Keep
 |a::b::r,out=>Ug f (b::r) (if f a then WD out a b else out)
 |_,out=>out
def J2 (y:Policy)(u:Keep)(p:Int):List Keep:=Ug (Yp y u p) (YA y.1) []
end Go.Proofs.YthlcobdnemhcdaaGreat.K
noncomputable section
namespace Go.Proofs.YthlcobdnemhcdaaGreat.K
open Go.RowKit
def tc_f95:TC:=aF Tryz.f95 []
def g_f95:G:=gG 25 [(96,Qml)] (fun _ _=>none)
def r_f95 (p0:Policy)(p1:Keep)(p2 p3:Int):OV:=
 let a1:=Z3 p0 p1 p2 p3
 br (ilt a1 0) (some (.t .bool true,[])) (br (cIx p0.1 a1) (some (.t .bool ((lgt Q4 p0.1 (Int.toNat a1)).1),[])) none)
theorem QEz (y:Policy)(u:Keep)(p d:Int):Yp y u p d=(ilt (Z3 y u p d) 0||(y.1.getD (Z3 y u p d).toNat Q4.zero).1):=by
 unfold Yp allL
 have h:=Qna (y:=y) (u:=u) (p:=p) (d:=d)
 cases hq:X9 y.1 u p d with
 |none=>
  rw [hq] at h
  simp only at h
  rw [h]
  rfl
 |some k=>
  rw [hq] at h
  simp only at h
  rw [h]
  obtain ⟨h1,_⟩:=Qm9.1 hq
  have e1:ilt (k:Int) 0=false:=by simp only [ilt,Bn];omega
  simp only [e1,Dh,Bb,Bk h1,De,B3,Bt]
theorem QEA {y:Policy}{u:Keep}{p d:Int}(h:ilt (Z3 y u p d) 0=false):cIx y.1 (Z3 y u p d)=true:=by
 have h2:=QMP (y:=y) (u:=u) (p:=p) (d:=d)
 simp only [ilt,Bn] at h
 simp only [cIx,Ba]
 omega
theorem s_f95 (y:Policy)(u:Keep)(p d:Int):r_f95 y u p d=some (.t .bool (Yp y u p d),[]):=by
 simp only [r_f95,QEz]
 cases h:ilt (Z3 y u p d) 0 with
 |true=>simp [Qf]
 |false=>
  rw [QEA h,Qi,Qf,Dh,lgt]
def QqB:Ent:=Qo (.pr QE (.pr Qk (.pr tI (.pr tI .nil)))) (fun x=>true) (fun x=>(.t .bool (Yp x.1 x.2.1 x.2.2.1 x.2.2.2.1)))
theorem QEB:EM 95 QqB:=mS g_f95 tc_f95 [((.t 8),some .bool)] false (gB (gD QwQ gN)) fun m=>Qs m fun x _=>kT (s_f95 x.1 x.2.1 x.2.2.1 x.2.2.2.1)
def Zh (y:Policy)(u:Keep)(p d:Int):Int:=if Zs y=false then 25 else if Jf u=false then 7 else if p<1∨4<p∨d<0∨40000<d then 2 else 0
def Ux (y:Policy)(_u:Keep)(_p _d:Int):Bool:=Q5 y
def ZZ (y:Policy)(_u:Keep)(_p:Int):Bool:=Q5 y
def tc_f94:TC:=aF Tryz.f94 []
def g_f94:G:=gG 34 [(90,QgN),(92,FA)] (fun _ _=>none)
def r_f94 (p0:Policy)(p1:Keep)(p2 p3:Int):OV:=br (Q5 p0) (br (ine (Zt p0) 0) (some (.t tI (Zt p0),[])) (br (!(Jf p1)) (some (.t tI 7,[])) (br (ilt p2 1) (some (.t tI 2,[])) (br (igt p2 4) (some (.t tI 2,[])) (br (ilt p3 0) (some (.t tI 2,[])) (br (igt p3 40000) (some (.t tI 2,[])) (some (.t tI 0,[])))))))) none
theorem s_f94 (y:Policy)(u:Keep)(p d:Int)(h:Ux y u p d=true):r_f94 y u p d=some (.t tI (Zh y u p d),[]):=by
 have h:Q5 y=true:=h
 simp only [r_f94,h,Qf,Zt,Zh]
 cases Zs y with
 |false=>rfl
 |true=>
  simp only [if_true,show ine 0 0=false from rfl,Qi,DX,Dc]
  cases Jf u with
  |false=>rfl
  |true=>
   simp only [BF,Qi,DX,Dc]
   repeat' (refine QY ?_ ?_<;>intro _)
   all_goals simp only [igt,ilt,Ba,Bn] at*
   all_goals first
    |rw [if_pos (by omega)]
    |rw [if_neg (by omega)]
def QqC:Ent:=Qo (.pr QE (.pr Qk (.pr tI (.pr tI .nil)))) (fun x=>(Ux x.1 x.2.1 x.2.2.1 x.2.2.2.1)) (fun x=>(.t tI (Zh x.1 x.2.1 x.2.2.1 x.2.2.2.1)))
theorem QEC:EM 94 QqC:=mS g_f94 tc_f94 [((.t 8),some tI)] false (gB (gD Qpt (gD Eu gN))) fun m=>Qs m fun x hok=>kT (s_f94 x.1 x.2.1 x.2.2.1 x.2.2.2.1 hok)
def ZB (y:Policy)(u:Keep)(p d:Int):Bool×Int×Int:=if Zh y u p d=0 then (Yp y u p d,Z3 y u p d,0) else (false,0,Zh y u p d)
def tc_f55:TC:=aF Tryz.f55 [(14,pD [(0,[4]),(1,[5]),(2,[]),(3,[]),(4,[]),(5,[4]),(6,[5]),(7,[]),(8,[]),(9,[]),(10,[]),(11,[]),(12,[])] (.of [0,1,2,3,4,5,6,7,8,9,10,11,12]))]
def g_f55:G:=gG 30 [(94,QqC),(95,QqB),(96,Qml)] (fun _ _=>none)
def r_f55 (p0:Policy)(p1:Keep)(p2 p3:Int):OV:=br (Ux p0 p1 p2 p3) (br (ine (Zh p0 p1 p2 p3) 0) (some (.tu [(.t .bool false),(.t tI 0),(.t tI (Zh p0 p1 p2 p3))],[])) (some (.tu [(.t .bool (Yp p0 p1 p2 p3)),(.t tI (Z3 p0 p1 p2 p3)),(.t tI 0)],[]))) none
theorem s_f55 (y:Policy)(u:Keep)(p d:Int)(h:Ux y u p d=true):r_f55 y u p d=some (.tu [.t .bool (ZB y u p d).1,.t tI (ZB y u p d).2.1,.t tI (ZB y u p d).2.2],[]):=by
 simp only [r_f55,h,Qf,ZB,Qct]
 by_cases h0:Zh y u p d=0<;>simp [h0,Qf,Qi]
def QED:Ent:=Qo (.pr QE (.pr Qk (.pr tI (.pr tI .nil)))) (fun x=>(Ux x.1 x.2.1 x.2.2.1 x.2.2.2.1)) (fun x=>(.tu [(.t .bool ((ZB x.1 x.2.1 x.2.2.1 x.2.2.2.1).1)),(.t tI (((ZB x.1 x.2.1 x.2.2.1 x.2.2.2.1).2).1)),(.t tI (((ZB x.1 x.2.1 x.2.2.1 x.2.2.2.1).2).2))]))
theorem ms_f55:EM 55 QED:=mS g_f55 tc_f55 [((.t 8),some .bool),((.t 9),some tI),((.t 10),some tI)] false (gB (gD QEC (gD QEB (gD QwQ gN)))) fun m=>Qs m fun x hok=>kT (s_f55 x.1 x.2.1 x.2.2.1 x.2.2.2.1 hok)
def Yt (y:Policy):List Int:=YA y.1
abbrev QhP:Sh:=⟨[(3,.ms 6),(8,.ty (.sl Q4)),(9,.ty tI),(10,.ty tI)],[(3,.no),(6,.arr 3 tI),(20,.no),(24,.no)]⟩
abbrev QEE:Sh:=⟨[(3,.ms 6)],[(3,.no),(6,.arr 3 tI),(20,.no),(24,.no)]⟩
def QqD:Fg:=QhP.f
def QEF:TC:=aF Tryz.f235 [(58,.nw 3 3),(58,pL 0 QqD),(933,.fg QEE.f)]
def QEG:TC:=lb 0 QEF
def QEH (x8:List Rule)(x9 x10:Int)(y6:List Int):VS:=QhP.st ((),x8,x9,x10,()) ((),y6,(),(),())
def QqE (y6:List Int):VS:=QEE.st ((),()) ((),y6,(),(),())
def QSU:VS->Option (Bool×List (Bool×Exit×VS)):=mkL QhP (fun x y=>(QD x.2.1 x.2.2.1 x.2.2.2.1&&decide (y.2.1.length<=1+2*x.2.2.2.1))) (fun x y=>[(true,.exit 0,QqE (y.2.1++Yq (x.2.1.drop x.2.2.2.1.toNat)))])
def QqF:G:=⟨TYs,[6],29,EL [(252,QvY),(264,QvZ)],keeps,(Ls [QSU]),IL [],RL []⟩
def QhQ (x8:List Rule)(x9 x10:Int)(y6:List Int):OX:=Qx (QA QqF QqD QEG) (QEH x8 x9 x10 y6)
def QbU (kk:List Rule->Int->Int->List Int->OX)(x8:List Rule)(x9 x10:Int)(y6:List Int):OX:=
 let a1:=(((((lgt Q4 x8 (Int.toNat x10)).2).2).2).2)
 br (ilt x10 x9) (br (cIx x8 x10) (br (Qq y6 ([a1.1,(a1.2).1]) 8) (kk x8 x9 (Qj .i64 x10 1) (y6++([a1.1,(a1.2).1]))) none) none) (some (.exit 0,QqE y6))
def QhR (x8:List Rule)(x9 x10:Int)(y6:List Int):OX:=some (.exit 0,QqE (y6++Yq (x8.drop x10.toNat)))
theorem QEI (x8:List Rule)(x9 x10:Int)(y6:List Int):QhQ x8 x9 x10 y6=QbU QhQ x8 x9 x10 y6:=lnT (x:=QbU (fun x8 x9 x10 y6=>some (.normal,QEH x8 x9 x10 y6)) x8 x9 x10 y6) (by simp only [QbU,nxA];rfl)
def QEJ (p0:Policy):OV:=
 let a1:=(p0.1.drop (0:Int).toNat)
 let a2:=Y5 ((([0])++Yq a1)++([40001]))
 br (QD p0.1 (Qc p0.1) (0:Int)&&decide (([0]).length<=1+2*(0:Int))) (br (Qq (([0])++Yq a1) ([40001]) 8) (br (UN ((([0])++Yq a1)++([40001]))) (br (UN a2) (some (.t (.sl tI) (Lib.compact a2),[])) none) none) none) none
theorem QSV (x8:List Rule)(x9 x10:Int)(y6:List Int)(h:(QD x8 x9 x10&&decide (y6.length<=1+2*x10))=true):QhQ x8 x9 x10 y6=QhR x8 x9 x10 y6:=by
 simp only [Bc,Ba] at h
 obtain ⟨h0,h4⟩:=h
 obtain ⟨rfl,h3,k,rfl,hk⟩:=JG h0
 clear h0
 revert y6
 refine QQ x8 (fun k=> ∀ y6:List Int,(y6.length:Int)<=1+2*(k:Int)->QhQ x8 (x8.length:Int) (k:Int) y6=QhR x8 (x8.length:Int) (k:Int) y6) ?_ ?_ k hk
 ·intro y6 _
  rw [QEI]
  simp [QbU,QhR,Qy,Qi,Yq]
 ·intro k hk ih y6 hy
  rw [QEI]
  simp only [QbU,Qy,QK,hk,Bo,Qf,Bb,QO (show k<4611686018427387904 by omega),QL (y:=Q4) hk]
  rw [WY (by simp;omega) (by omega),Qf,ih _ (by simp;omega)]
  simp only [QhR,Bb,Bg hk,Yq,BU,BI]
theorem QSW:LO QqF QqD QEG 0:=QI (s:=QhP) fun x y h _ q=>by simp only [QG,QH] at q;exact (QSV x.2.1 x.2.2.1 x.2.2.2.1 y.2.1 h).trans q
theorem QEK (l:List Rule):(Yq l).length=2*l.length:=by
 induction l with
 |nil=>rfl
 |cons a l ih=>simp only [Yq,BU,Bm,Br,Bv] at ih ⊢; omega
theorem s_f235 (y:Policy)(h:Q5 y=true):QEJ y=some (.t (.sl tI) (Yt y),[]):=by
 simp only [Q5,Q8,Bc,Ba] at h
 have e1:QD y.1 (Qc y.1) 0=true:=JH h.1
 simp only [QEJ,e1,Bu]
 have hl:=QEK y.1
 have e2:decide ((([0]:List Int).length:Int)<=1+2*0)=true:=by decide
 simp only [e2,Qf,By,BG]
 rw [WY (by simp;omega) (by omega),Qf]
 rw [show UN (([0]++Yq y.1)++[40001])=true by simp [UN];omega]
 simp only [Qf]
 rw [show UN (Y5 (([0]++Yq y.1)++[40001]))=true by simp [UN,Y5];omega]
 rfl
def QEL:Ent:=Qo (.pr QE .nil) (fun x=>(Q5 x.1)) (fun x=>(.t (.sl tI) (Yt x.1)))
theorem QSX:EM 235 QEL:=mS (lk:=lkL (lkc QSW lkn)) QqF QEF [((.t 2),some (.sl tI))] false (Jp _ (gA (gC QKJ QKL (gC QKK QKM gN)))) fun m=>Qs m fun x hok=>kT (s_f235 x.1 hok)
end Go.Proofs.YthlcobdnemhcdaaGreat.K
noncomputable section
namespace Go.Proofs.YthlcobdnemhcdaaGreat.K
open Go.RowKit
def UC (y:Policy)(u:Keep)(p:Int)(l:List Int)(out:List Keep):List Keep:=Ug (Yp y u p) l out
abbrev Vr:Sh:=⟨[(2,.ty tI),(3,.ptr 3 0),(4,.ptr 4 0),(7,.ms 7),(8,.ty (.sl tI)),(17,.ty tI),(18,.ty tI)],[(3,.box QE),(4,.box Qk),(7,.arr 70 Qk),(61,.no)]⟩
abbrev Qtt:Sh:=⟨[(7,.ms 7)],[(7,.arr 70 Qk),(61,.no)]⟩
def Qj3:Fg:=Vr.f
def Qtu:TC:=aF Tryz.f198 [(122,.nw 7 70),(122,pL 0 Qj3),(1957,.fg Qtt.f),(15666,pD [(0,[]),(1,[]),(2,[]),(3,[]),(4,[]),(5,[]),(6,[]),(7,[]),(8,[]),(9,[]),(10,[])] (.of [0,1,2,3,4,5,6,7,8,9,10])),(125338,.fg Vr.f)]
def Qtv:TC:=lb 0 Qtu
def Qtw (x2:Int)(x8:List Int)(x17 x18:Int)(y3:Policy)(y4:Keep)(y7:List Keep):VS:=Vr.st (x2,(),(),(),x8,x17,x18,()) (y3,y4,y7,(),())
def Qj4 (y7:List Keep):VS:=Qtt.st ((),()) (y7,(),())
def QIq:VS->Option (Bool×List (Bool×Exit×VS)):=mkL Vr (fun x y=>(decide (x.2.2.2.2.2.1=(x.2.2.2.2.1.length:Int)-1/\0<=x.2.2.2.2.2.2.1/\x.2.2.2.2.2.2.1<=x.2.2.2.2.2.1/\x.2.2.2.2.1.length<=500000/\(y.2.2.1.length:Int)<=x.2.2.2.2.2.2.1))) (fun x y=>[(true,.exit 0,Qj4 (UC y.1 y.2.1 x.1 (x.2.2.2.2.1.drop x.2.2.2.2.2.2.1.toNat) y.2.2.1))])
def Qj5:G:=gG 64 [(95,QqB),(235,QEL)] (Ls [QIq])
def Vs (x2:Int)(x8:List Int)(x17 x18:Int)(y3:Policy)(y4:Keep)(y7:List Keep):OX:=Qx (QA Qj5 Qj3 Qtv) (Qtw x2 x8 x17 x18 y3 y4 y7)
def QcX (kk:Int->List Int->Int->Int->Policy->Keep->List Keep->OX)(x2:Int)(x8:List Int)(x17 x18:Int)(y3:Policy)(y4:Keep)(y7:List Keep):OX:=
 let a1:=((lgt tI x8 (Int.toNat x18)),((lgt tI x8 (Int.toNat (Qj .i64 x18 1))),()))
 br (Qq y7 ([a1]) 16) (kk x2 x8 x17 (Qj .i64 x18 1) y3 y4 (y7++([a1]))) none
def Vt (kk:Int->List Int->Int->Int->Policy->Keep->List Keep->OX)(x2:Int)(x8:List Int)(x17 x18:Int)(y3:Policy)(y4:Keep)(y7:List Keep):OX:=
 let a1:=Int.toNat (Qw .i64 (Qc y7) 1)
 let a2:=Qj .i64 x18 1
 let a3:=lgt Qk y7 a1
 let a4:=cIx y7 (Qw .i64 (Qc y7) 1)
 let a5:=lgt tI x8 (Int.toNat x18)
 br (ilt x18 x17) (br (cIx x8 x18) (br (cIx x8 a2) (br (!(Yp y3 y4 x2 a5)) (kk x2 x8 x17 a2 y3 y4 y7) (br (igt (Qc y7) 0) (br a4 (br (cLd y7 a1) (br (ieq ((a3.2).1) a5) (br a4 (br (cLd y7 a1) (kk x2 x8 x17 a2 y3 y4 (List.set y7 a1 (a3.1,((lgt tI x8 (Int.toNat a2)),(a3.2).2)))) none) none) (QcX kk x2 x8 x17 x18 y3 y4 y7)) none) none) (QcX kk x2 x8 x17 x18 y3 y4 y7))) none) none) (some (.exit 0,Qj4 y7))
def Id (x2:Int)(x8:List Int)(x17 x18:Int)(y3:Policy)(y4:Keep)(y7:List Keep):OX:=some (.exit 0,Qj4 (UC y3 y4 x2 (x8.drop x18.toNat) y7))
theorem Qtx (x2:Int)(x8:List Int)(x17 x18:Int)(y3:Policy)(y4:Keep)(y7:List Keep):Vs x2 x8 x17 x18 y3 y4 y7=Vt Vs x2 x8 x17 x18 y3 y4 y7:=lnT (x:=Vt (fun x2 x8 x17 x18 y3 y4 y7=>some (.normal,Qtw x2 x8 x17 x18 y3 y4 y7)) x2 x8 x17 x18 y3 y4 y7) (by simp only [Vt,QcX,nxA];rfl)
def Qty (p0:Policy)(p1:Keep)(p2:Int):OV:=
 let a1:=Qw .i64 (Qc (Yt p0)) 1
 br (Q5 p0) (br (decide (a1=((Yt p0).length:Int)-1/\0<=(0:Int)/\(0:Int)<=a1/\(Yt p0).length<=500000/\(([]:List Keep).length:Int)<=(0:Int))) (some (.t (.sl Qk) (UC p0 p1 p2 ((Yt p0).drop (0:Int).toNat) ([]:List Keep)),[])) none) none
theorem Qj6 (l:List Keep)(s:Keep)(a b:Int):WD (l++[s]) a b=if s.2.1=a then l++[(s.1,b,())] else (l++[s])++[(a,b,())]:=by
 unfold WD
 rw [List.getLast?_concat,List.dropLast_concat]
theorem Qj7 (l:List Keep)(a b:Int):(WD l a b).length<=l.length+1:=by
 rcases List.eq_nil_or_concat l with rfl|⟨l,s,rfl⟩
 ·simp [WD]
 ·rw [List.concat_eq_append,Qj6]
  split<;>simp
theorem Qtz {f:List Keep->OX}(y:List Keep)(a b:Int)(hl:y.length<=500000):
  (br (igt (Qc y) 0)
   (br (cIx y (Qw .i64 (Qc y) 1))
    (br (cLd y (Int.toNat (Qw .i64 (Qc y) 1)))
     (br (ieq (((lgt Qk y (Int.toNat (Qw .i64 (Qc y) 1))).2).1) a)
      (br (cIx y (Qw .i64 (Qc y) 1))
       (br (cLd y (Int.toNat (Qw .i64 (Qc y) 1)))
        (f (List.set y (Int.toNat (Qw .i64 (Qc y) 1)) ((lgt Qk y (Int.toNat (Qw .i64 (Qc y) 1))).1,(b,((lgt Qk y (Int.toNat (Qw .i64 (Qc y) 1))).2).2))))
        none) none)
      (br (Qq y [(a,(b,()))] 16) (f (y++[(a,(b,()))])) none)) none) none)
   (br (Qq y [(a,(b,()))] 16) (f (y++[(a,(b,()))])) none))=f (WD y a b):=by
 have e0:Qq y [(a,(b,()))] 16=true:=WY (by simp;omega) (by omega)
 rw [e0]
 simp only [Qf]
 rcases List.eq_nil_or_concat y with rfl|⟨l,s,rfl⟩
 ·rfl
 ·rw [List.concat_eq_append] at*
  have e1:Qw .i64 (Qc (l++[s])) 1=(l.length:Int):=by
   have:Qc (l++[s])=(l.length:Int)+1:=by simp [Qc]
   rw [this,JO (by rw [Bm,Bh] at hl;omega)]
   omega
  have h2:l.length<(l++[s]).length:=by simp
  have e2:igt (Qc (l++[s])) 0=true:=by simp only [igt,Qc,Bm,Bh,Ba];omega
  have e3:cLd (l++[s]) l.length=true:=by simp [cLd]
  have e4:lgt Qk (l++[s]) l.length=s:=by rw [QL (y:=Qk) h2];simp
  rw [e1,e2]
  simp only [Qf,QK,h2,Bo,Bb,e3,e4,Qj6,ZS]
  by_cases hs:s.2.1=a
  ·simp only [hs,Bo,Qf,if_true]
   congr 1
   obtain ⟨s1,s2,s3⟩:=s
   simp
  ·simp [hs,Qi]
theorem QIr (x2:Int)(x8:List Int)(x17 x18:Int)(y3:Policy)(y4:Keep)(y7:List Keep)(h:(decide (x17=(x8.length:Int)-1/\0<=x18/\x18<=x17/\x8.length<=500000/\(y7.length:Int)<=x18))=true):Vs x2 x8 x17 x18 y3 y4 y7=Id x2 x8 x17 x18 y3 y4 y7:=by
 simp only [Ba] at h
 obtain ⟨rfl,h1,h2,h3,h4⟩:=h
 obtain ⟨k,rfl⟩:=Bl h1
 revert y7
 refine Qcs (x8.length-1) (fun k=> ∀ y7:List Keep,(y7.length:Int)<=(k:Int)->Vs x2 x8 ((x8.length:Int)-1) (k:Int) y3 y4 y7=Id x2 x8 ((x8.length:Int)-1) (k:Int) y3 y4 y7) ?_ ?_ k (by omega)
 ·intro y7 _
  rw [Qtx]
  have e1:ilt ((x8.length-1:Nat):Int) ((x8.length:Int)-1)=false:=by simp only [ilt,Bn];omega
  have e2:x8.drop (x8.length-1)=[x8[x8.length-1]'(by omega)]:=by
   rw [Bg (by omega)]
   congr 1
   exact Dn (by omega)
  simp only [Vt,e1,Qi,Id,Bb,e2,UC,Ug]
 ·intro k hk ih y7 hy
  rw [Qtx]
  have e1:ilt (k:Int) ((x8.length:Int)-1)=true:=by simp only [ilt,Ba];omega
  have hk1:k<x8.length:=by omega
  have hk2:k+1<x8.length:=by omega
  have ea:Qj .i64 (k:Int) 1=((k+1:Nat):Int):=QO (by omega)
  simp only [Vt,QcX,e1,ea,Qf,QK,hk1,hk2,Bo,Bb,QL (y:=tI) hk1,QL (y:=tI) hk2]
  rw [Qtz (f:=fun z=>Vs x2 x8 ((x8.length:Int)-1) ((k+1:Nat):Int) y3 y4 z) y7 _ _ (by omega)]
  have el:Id x2 x8 ((x8.length:Int)-1) (k:Int) y3 y4 y7=Id x2 x8 ((x8.length:Int)-1) ((k+1:Nat):Int) y3 y4 (if Yp y3 y4 x2 x8[k] then WD y7 x8[k] x8[k+1] else y7):=by
   simp only [Id,UC,Bb]
   rw [Bg hk1,Bg hk2]
   rfl
  rw [el]
  have hp:=Qj7 y7 x8[k] x8[k+1]
  cases hc:Yp y3 y4 x2 x8[k] with
  |true=>
   simp only [BF,Qi,if_true]
   exact ih _ (by omega)
  |false=>
   simp only [DB,Qf,BK,Dc]
   exact ih _ (by omega)
theorem QIs:LO Qj5 Qj3 Qtv 0:=QI (s:=Vr) fun x y h _ q=>by simp only [QG,QH] at q;exact (QIr x.1 x.2.2.2.2.1 x.2.2.2.2.2.1 x.2.2.2.2.2.2.1 y.1 y.2.1 y.2.2.1 h).trans q
theorem QIt (l:List Int):(Lib.compact l).length<=l.length:=by
 unfold Lib.compact Lib.compactUpTo
 rw [BT]
 exact Db (List.length_filter_le _ _) (by simp)
theorem Qj8 (rs:List Rule):2<=(YA rs).length/\(YA rs).length<=2*rs.length+2:=by
 constructor
 ·have h1:(0:Int)∈YA rs:=Qax.2 (.inl rfl)
  have h2:(40001:Int)∈YA rs:=Qax.2 (.inr (.inl rfl))
  match hq:YA rs with
  | []=>rw [hq] at h1;cases h1
  | [a]=>
   rw [hq] at h1 h2
   rw [BX] at h1 h2
   omega
  |_::_::_=>simp
 ·unfold YA
  refine Db (QIt _) ?_
  have:=QEK rs
  unfold Y5
  rw [List.length_mergeSort]
  simp
  omega
theorem s_f198 (y:Policy)(u:Keep)(p:Int)(h:ZZ y u p=true):Qty y u p=some (.t (.sl Qk) (J2 y u p),[]):=by
 have h:Q5 y=true:=h
 have h':=h
 simp only [Q5,Q8,Bc,Ba] at h'
 have hl:2<=(Yt y).length/\(Yt y).length<=2*y.1.length+2:=Qj8 y.1
 have e1:Qw .i64 (Qc (Yt y)) 1=((Yt y).length:Int)-1:=JO (by unfold Qc;omega)
 simp only [Qty,h,Qf,e1,By,BG]
 rw [Yv (by simp;omega),Qf]
 rfl
def QtA:Ent:=Qo (.pr QE (.pr Qk (.pr tI .nil))) (fun x=>(ZZ x.1 x.2.1 x.2.2.1)) (fun x=>(.t (.sl Qk) (J2 x.1 x.2.1 x.2.2.1)))
theorem QIu:EM 198 QtA:=mS (lk:=lkL (lkc QIs lkn)) Qj5 Qtu [((.t 6),some (.sl Qk))] false (gB (gD QEB (gD QSX gN))) fun m=>Qs m fun x hok=>kT (s_f198 x.1 x.2.1 x.2.2.1 hok)
def F9 (y:Policy)(u:Keep)(p:Int):List Keep×Int:=if Zh y u p 0=0 then (J2 y u p,0) else ([],Zh y u p 0)
def ZT (l:List Keep):Int×Bool:=match l.getLast? with
 |none=>(0,true)
 |some s=>if s.2.1=40001 then (0,false) else (s.2.1,true)
def Z1 (y:Policy)(u:Keep)(p:Int):Int×Bool×Int:=if Zh y u p 0=0 then ((ZT (J2 y u p)).1,(ZT (J2 y u p)).2,0) else (0,false,Zh y u p 0)
def QIv:TC:=aF Tryz.f149 []
def g_f149:G:=gG 42 [(94,QqC),(198,QtA)] (fun _ _=>none)
def QtB (p0:Policy)(p1:Keep)(p2:Int):OV:=
 let a1:=J2 p0 p1 p2
 let a2:=Qw .i64 (Qc a1) 1
 let a3:=(((lgt Qk a1 (Int.toNat a2)).2).1)
 br (Ux p0 p1 p2 0) (br (ine (Zh p0 p1 p2 0) 0) (some (.tu [(.t tI 0),(.t .bool false),(.t tI (Zh p0 p1 p2 0))],[])) (br (ZZ p0 p1 p2) (br (ieq (Qc a1) 0) (some (.tu [(.t tI 0),(.t .bool true),(.t tI 0)],[])) (br (cIx a1 a2) (br (ieq a3 40001) (some (.tu [(.t tI 0),(.t .bool false),(.t tI 0)],[])) (br (cIx a1 a2) (some (.tu [(.t tI a3),(.t .bool true),(.t tI 0)],[])) none)) none)) none)) none
theorem QtC {f:Int->Bool}: ∀ (l:List Int) (out:List Keep),(Ug f l out).length<=out.length+l.length
 | [],out=>by simp [Ug]
 | [a],out=>by simp [Ug]
 |a::b::r,out=>by
  have h:=QtC (f:=f) (b::r) (if f a then WD out a b else out)
  have h2:=Qj7 out a b
  simp only [Ug,Br] at h ⊢
  split at h<;>simp_all<;>omega
theorem QtD (y:Policy)(u:Keep)(p:Int):(J2 y u p).length<=2*y.1.length+2:=by
 have:=QtC (f:=Yp y u p) (YA y.1) []
 have:=Qj8 y.1
 unfold J2
 simp at*
 omega
theorem s_f149 (y:Policy)(u:Keep)(p:Int)(h:ZZ y u p=true):QtB y u p=some (.tu [.t tI (Z1 y u p).1,.t .bool (Z1 y u p).2.1,.t tI (Z1 y u p).2.2],[]):=by
 have h4:Ux y u p 0=true:=h
 have h5:Q5 y=true:=h
 simp only [Q5,Q8,Bc,Ba] at h5
 have hl:=QtD y u p
 simp only [QtB,h,h4,Qf,Z1,Qct,ZT]
 by_cases h0:Zh y u p 0=0
 ·simp only [h0,ne_eq,not_true_eq_false,BM,Qi,if_true]
  generalize J2 y u p=z at*
  rcases List.eq_nil_or_concat z with rfl|⟨l,s,rfl⟩
  ·rfl
  ·rw [List.concat_eq_append] at*
   have e1:Qw .i64 (Qc (l++[s])) 1=(l.length:Int):=by
    have:Qc (l++[s])=(l.length:Int)+1:=by simp [Qc]
    rw [this,JO (by rw [Bm,Bh] at hl;omega)]
    omega
   have h2:l.length<(l++[s]).length:=by simp
   have e2:ieq (Qc (l++[s])) 0=false:=by simp only [ZS,Qc,Bm,Bh,Bn];omega
   have e4:lgt Qk (l++[s]) l.length=s:=by rw [QL (y:=Qk) h2];simp
   rw [e1,e2,List.getLast?_concat]
   simp only [Qi,QK,h2,Bo,Qf,Bb,e4,ZS]
   by_cases hs:s.2.1=40001<;>simp [hs,Qf,Qi]
 ·simp [h0,Qf]
def QtE:Ent:=Qo (.pr QE (.pr Qk (.pr tI .nil))) (fun x=>(ZZ x.1 x.2.1 x.2.2.1)) (fun x=>(.tu [(.t tI ((Z1 x.1 x.2.1 x.2.2.1).1)),(.t .bool (((Z1 x.1 x.2.1 x.2.2.1).2).1)),(.t tI (((Z1 x.1 x.2.1 x.2.2.1).2).2))]))
theorem QIw:EM 149 QtE:=mS g_f149 QIv [((.t 6),some tI),((.t 7),some .bool),((.t 8),some tI)] false (gB (gD QEC (gD QIu gN))) fun m=>Qs m fun x hok=>kT (s_f149 x.1 x.2.1 x.2.2.1 hok)
end Go.Proofs.YthlcobdnemhcdaaGreat.K
noncomputable section
namespace Go.Proofs.YthlcobdnemhcdaaGreat.K
open Go.RowKit
abbrev charB:Int->Bool:=WP
abbrev namedF:ByteArray->Bool:=Jr
abbrev QGV:ByteArray->Bool:=Jn
theorem QVe {s:ByteArray}(h:namedF s=true):s.size<=32:=by
 have h:((QZ s).all charB&&decide (1<=s.size/\s.size<=32))=true:=h
 simp only [Bc,Ba] at h
 exact h.2.2
def Yc (x:LinkX):Int×Bool:=(imx x.1 x.2.1,x.2.2.1)
def QVf:TC:=aF Tryz.f328 [(6,pD [(0,[1]),(1,[1]),(2,[1]),(3,[1]),(4,[]),(5,[1]),(6,[1]),(7,[]),(8,[])] (.of [0,1,2,3,4,5,6,7,8]))]
def g_f328:G:=gG 11 [] (fun _ _=>none)
def r_f328 (p0:LinkX):OV:=some (.tu [(.t tI (imx p0.1 p0.2.1)),(.t .bool p0.2.2.1)],[])
theorem s_f328 (x:LinkX):r_f328 x=some (.tu [.t tI (Yc x).1,.t .bool (Yc x).2],[]):=rfl
def Qr9:Ent:=Qo (.pr JL .nil) (fun x=>true) (fun x=>(.tu [(.t tI ((Yc x.1).1)),(.t .bool ((Yc x.1).2))]))
theorem QGW:EM 328 Qr9:=mS g_f328 QVf [((.t 2),some tI),((.t 3),some .bool)] false (gB gN) fun m=>Qs m fun x _=>kT (s_f328 x.1)
def Qi6 (l:List LinkX):Int:=(l.length:Int)
def Yw (s:Int×Bool)(x:LinkX):Int×Bool:=if (Yc x).2&&(!s.2||ilt (Yc x).1 s.1) then ((Yc x).1,true) else s
def Ge (l:List LinkX):Int×Bool:=l.foldl Yw (0,false)
abbrev Qi7:Sh:=⟨[(4,.ty tI),(5,.ty .bool),(10,.ty (.sl JL)),(11,.ty tI),(12,.ty tI)],[]⟩
abbrev QGX:Sh:=⟨[(4,.ty tI),(5,.ty .bool)],[]⟩
def Qsa:Fg:=Qi7.f
def Qi8:TC:=aF Tryz.f330 [(58,pL 0 Qsa),(933,.fg QGX.f)]
def QGY:TC:=lb 0 Qi8
def QGZ:List (RV×Option Ty):=[((.t 2),some tI),((.t 3),some .bool)]
def QG0 (x4:Int)(x5:Bool)(x10:List LinkX)(x11 x12:Int):VS:=Qi7.st (x4,x5,x10,x11,x12,()) ()
def Qsb (x4:Int)(x5:Bool):VS:=QGX.st (x4,x5,()) ()
def QVg:VS->Option (Bool×List (Bool×Exit×VS)):=mkL Qi7 (fun x y=>(QD x.2.2.1 x.2.2.2.1 x.2.2.2.2.1)) (fun x y=>[(true,.exit 0,Qsb (((x.2.2.1.drop x.2.2.2.2.1.toNat).foldl Yw (x.1,x.2.1)).1) (((x.2.2.1.drop x.2.2.2.2.1.toNat).foldl Yw (x.1,x.2.1)).2))])
def O8:G:=gG 35 [(328,Qr9)] (Ls [QVg])
def Qi9 (x4:Int)(x5:Bool)(x10:List LinkX)(x11 x12:Int):OX:=Qx (QA O8 Qsa QGY) (QG0 x4 x5 x10 x11 x12)
def Qcv (kk:Int->Bool->List LinkX->Int->Int->OX)(x4:Int)(x5:Bool)(x10:List LinkX)(x11 x12:Int):OX:=
 let a1:=Yc (lgt JL x10 (Int.toNat x12))
 let a2:=Qj .i64 x12 1
 br (ilt x12 x11) (br (cIx x10 x12) (br (a1.2) (br (!x5) (kk (a1.1) true x10 x11 a2) (br (ilt (a1.1) x4) (kk (a1.1) true x10 x11 a2) (kk x4 x5 x10 x11 a2))) (kk x4 x5 x10 x11 a2)) none) (some (.exit 0,Qsb x4 x5))
def O9 (x4:Int)(x5:Bool)(x10:List LinkX)(x11 x12:Int):OX:=
 let a1:=((x10.drop x12.toNat).foldl Yw (x4,x5))
 some (.exit 0,Qsb (a1.1) (a1.2))
theorem QG1 (x4:Int)(x5:Bool)(x10:List LinkX)(x11 x12:Int):Qi9 x4 x5 x10 x11 x12=Qcv Qi9 x4 x5 x10 x11 x12:=lnT (x:=Qcv (fun x4 x5 x10 x11 x12=>some (.normal,QG0 x4 x5 x10 x11 x12)) x4 x5 x10 x11 x12) (by simp only [Qcv,nxA];rfl)
def Qsc (p0:List LinkX):OV:=
 let a1:=(p0.drop (0:Int).toNat)
 let a2:=(a1.foldl Yw ((0:Int),false))
 br (QD p0 (Qc p0) (0:Int)) (some (.tu [(.t tI (a2.1)),(.t .bool (a2.2))],[])) none
theorem e_f330 (p0:List LinkX):QS O8 Qi8 QGZ false [.t (.sl JL) p0] []=Qsc p0:=by kernel_rfl
theorem QVh:GOk Tryz.prog O8:=Jp _ (gA (gD QGW gN))
theorem QVi (x4:Int)(x5:Bool)(x10:List LinkX)(x11 x12:Int)(h:(QD x10 x11 x12)=true):Qi9 x4 x5 x10 x11 x12=O9 x4 x5 x10 x11 x12:=by
 obtain ⟨rfl,h3,k,rfl,hk⟩:=JG h
 clear h
 revert x4 x5
 refine QQ x10 (fun k=> ∀ (x4:Int) (x5:Bool),Qi9 x4 x5 x10 (x10.length:Int) (k:Int)=O9 x4 x5 x10 (x10.length:Int) (k:Int)) ?_ ?_ k hk
 ·intro x4 x5
  rw [QG1]
  simp [Qcv,O9,Qy,Qi]
 ·intro k hk ih x4 x5
  rw [QG1]
  simp only [Qcv,Qy,QK,hk,Bo,Qf,Bb,QO (show k<4611686018427387904 by omega),QL (y:=JL) hk,ih]
  have el:O9 x4 x5 x10 (x10.length:Int) (k:Int)=O9 (Yw (x4,x5) x10[k]).1 (Yw (x4,x5) x10[k]).2 x10 (x10.length:Int) ((k+1:Nat):Int):=by
   simp only [O9,Bb,Bg hk,Dp]
  rw [el]
  unfold Yw
  cases hg:(Yc x10[k]).2<;>cases x5<;>cases hi:ilt (Yc x10[k]).1 x4<;>rfl
theorem QVj:LO O8 Qsa QGY 0:=QI (s:=Qi7) fun x y h _ q=>by simp only [QG,QH] at q;exact (QVi x.1 x.2.1 x.2.2.1 x.2.2.2.1 x.2.2.2.2.1 h).trans q
theorem QVk:Qi8.lok O8:=by
 repeat (first|exact trivial|exact QVj|refine ⟨?_, ?_⟩)
theorem s_f330 (l:List LinkX)(h:Q8 l=true):Qsc l=some (.tu [.t tI (Ge l).1,.t .bool (Ge l).2],[]):=by
 simp only [Q8,Ba] at h
 simp only [Qsc,JH h,Qf,By,BG]
 rfl
def QG2:Ent:=Qo (.pr (.sl JL) .nil) (fun x=>(Q8 x.1)) (fun x=>(.tu [(.t tI ((Ge x.1).1)),(.t .bool ((Ge x.1).2))]))
theorem QVl:Qu Tryz.prog 330 (Qv QG2):=Qs (R:=QS O8 Qi8 QGZ false) (mG Tryz.func330 (by kernel_rfl) Tryz.ntmps330 (by kernel_rfl) QVh QVk) fun x hok=>(e_f330 x.1).trans (s_f330 x.1 hok)
def Qja (_:List LinkX):Bool:=false
def Qsd:TC:=aF Tryz.f331 []
def QG3:List (RV×Option Ty):=[((.t 2),some .bool)]
def Qjb:G:=gG 3 [] (fun _ _=>none)
def QG4 (p0:List LinkX):OV:=some (.t .bool false,[])
theorem e_f331 (p0:List LinkX):QS Qjb Qsd QG3 false [.t (.sl JL) p0] []=QG4 p0:=by kernel_rfl
theorem QVm:GOk Tryz.prog Qjb:=Jp _ (fun p hp=>by cases hp)
theorem QVn:Qsd.lok Qjb:=by repeat (first|exact trivial|refine ⟨?_, ?_⟩)
theorem s_f331 (l:List LinkX):QG4 l=some (.t .bool (Qja l),[]):=rfl
def QG5:Ent:=Qo (.pr (.sl JL) .nil) (fun x=>true) (fun x=>(.t .bool (Qja x.1)))
theorem QVo:Qu Tryz.prog 331 (Qv QG5):=Qs (R:=QS Qjb Qsd QG3 false) (mG Tryz.func331 (by kernel_rfl) Tryz.ntmps331 (by kernel_rfl) QVm QVn) fun x _=>(e_f331 x.1).trans (s_f331 x.1)
def Gf (a:LinkX):List LinkX->Nat
 | []=>0
 |x::r=>if !a.2.2.1||ilt x.1 a.2.1 then Gf x r+1 else 0
def Ws:List LinkX->Nat
 | []=>0
 |a::r=>Gf a r
def Zi (l:List LinkX):Int:=1+(Ws l:Int)
abbrev Qjc:Sh:=⟨[(0,.ty (.sl JL)),(3,.ty tI)],[]⟩
abbrev QG6:Sh:=⟨[(3,.ty tI)],[]⟩
def Qse:Fg:=Qjc.f
def QG7:TC:=aF Tryz.f332 [(28,pL 0 Qse),(224,pD [(0,[]),(1,[]),(2,[]),(3,[]),(4,[]),(5,[]),(6,[]),(7,[]),(8,[]),(9,[]),(10,[]),(11,[]),(12,[]),(13,[]),(14,[]),(15,[]),(16,[]),(17,[]),(18,[]),(19,[]),(20,[]),(21,[]),(22,[]),(23,[]),(24,[]),(25,[]),(26,[])] (.of [0,1,2,3,4,5,6,7,8,9,10,11,12,13,14,15,16,17,18,19,20,21,22,23,24,25,26])),(451,.fg QG6.f)]
def QG8:TC:=lb 0 QG7
def QG9 (x0:List LinkX)(x3:Int):VS:=Qjc.st (x0,x3,()) ()
def Qcw (x3:Int):VS:=QG6.st (x3,()) ()
def QVp:VS->Option (Bool×List (Bool×Exit×VS)):=mkL Qjc (fun x y=>(decide (1<=x.2.1/\x.2.1<=x.1.length+1/\x.1.length<=100000))) (fun x y=>[(true,.exit 0,Qcw (x.2.1+(Ws (x.1.drop (x.2.1-1).toNat):Int)))])
def Qsf:G:=gG 34 [] (Ls [QVp])
def Qjd (x0:List LinkX)(x3:Int):OX:=Qx (QA Qsf Qse QG8) (QG9 x0 x3)
def Va (kk:List LinkX->Int->OX)(x0:List LinkX)(x3:Int):OX:=
 let a1:=((lgt JL x0 (Int.toNat (Qw .i64 x3 1))).2)
 let a2:=cIx x0 (Qw .i64 x3 1)
 br (ilt x3 (Qc x0)) (br a2 (br (!((a1.2).1)) (kk x0 (Qj .i64 x3 1)) (br (cIx x0 x3) (br a2 (br (ilt ((lgt JL x0 (Int.toNat x3)).1) (a1.1)) (kk x0 (Qj .i64 x3 1)) (some (.exit 0,Qcw x3))) none) none)) none) (some (.exit 0,Qcw x3))
def E6 (x0:List LinkX)(x3:Int):OX:=some (.exit 0,Qcw (x3+(Ws (x0.drop (x3-1).toNat):Int)))
theorem QHa (x0:List LinkX)(x3:Int):Qjd x0 x3=Va Qjd x0 x3:=lnT (x:=Va (fun x0 x3=>some (.normal,QG9 x0 x3)) x0 x3) (by simp only [Va,nxA];rfl)
def QHb (p0:List LinkX):OV:=br (decide (1<=(1:Int)/\(1:Int)<=p0.length+1/\p0.length<=100000)) (some (.t tI ((1:Int)+(Ws (p0.drop ((1:Int)-1).toNat):Int)),[])) none
theorem QVq (x0:List LinkX)(x3:Int)(h:(decide (1<=x3/\x3<=x0.length+1/\x0.length<=100000))=true):Qjd x0 x3=E6 x0 x3:=by
 simp only [Ba] at h
 obtain ⟨h1,h2,h3⟩:=h
 obtain ⟨k,hk⟩: ∃ k:Nat,x3=(k:Int)+1:=⟨(x3-1).toNat,by omega⟩
 subst hk
 refine Qcs x0.length (fun k=>Qjd x0 ((k:Int)+1)=E6 x0 ((k:Int)+1)) ?_ ?_ k (by omega)
 ·rw [QHa]
  have e1:ilt ((x0.length:Int)+1) (Qc x0)=false:=by simp only [ilt,Qc,Bn];omega
  have e2:((x0.length:Int)+1-1).toNat=x0.length:=by omega
  simp [Va,E6,e1,Qi,Ws]
 ·intro k hk ih
  rw [QHa]
  have e2:((k:Int)+1-1).toNat=k:=by omega
  have e3:Qw .i64 ((k:Int)+1) 1=(k:Int):=by rw [JO (by omega)];omega
  have e4:Qj .i64 ((k:Int)+1) 1=((k+1:Nat):Int)+1:=by rw [Jz (by omega)];omega
  have e5:((((k+1:Nat):Int))+1-1).toNat=k+1:=by omega
  have e6:(k:Int)+1=((k+1:Nat):Int):=by omega
  by_cases hk2:k+1<x0.length
  ·have e1:ilt ((k:Int)+1) (Qc x0)=true:=by simp only [ilt,Qc,Ba];omega
   simp only [Va,e1,e3,e4,Qf,QK,hk,Bo,Bb,QL (y:=JL) hk,ih]
   rw [e6]
   simp only [QK,hk2,Bo,Qf,Bb,QL (y:=JL) hk2]
   have el:E6 x0 ((k+1:Nat):Int)=if !x0[k].2.2.1||ilt x0[k+1].1 x0[k].2.1 then E6 x0 (((k+1:Nat):Int)+1) else some (.exit 0,Qcw ((k+1:Nat):Int)):=by
    have e7:(((k+1:Nat):Int)-1).toNat=k:=by omega
    simp only [E6,e5,e7,Bg hk,Bg hk2,Ws,Gf]
    split
    ·congr 3
     omega
    ·simp
   rw [el]
   cases x0[k].2.2.1<;>cases ilt x0[k+1].1 x0[k].2.1<;>rfl
  ·have e1:ilt ((k:Int)+1) (Qc x0)=false:=by simp only [ilt,Qc,Bn];omega
   have e7:x0.drop (k+1)=[]:=Dn (by omega)
   simp only [Va,e1,Qi,E6,e2,Bg hk,e7,Ws,Gf]
   simp
theorem QVr:LO Qsf Qse QG8 0:=QI (s:=Qjc) fun x y h _ q=>by simp only [QG,QH] at q;exact (QVq x.1 x.2.1 h).trans q
theorem s_f332 (l:List LinkX)(h:Q8 l=true):QHb l=some (.t tI (Zi l),[]):=by
 simp only [Q8,Ba] at h
 simp only [QHb]
 rw [Yv ⟨B1 1,by omega,h⟩,Qf]
 rfl
def Qsg:Ent:=Qo (.pr (.sl JL) .nil) (fun x=>(Q8 x.1)) (fun x=>(.t tI (Zi x.1)))
theorem QHc:EM 332 Qsg:=mS (lk:=lkL (lkc QVr lkn)) Qsf QG7 [((.t 2),some tI)] false (gB gN) fun m=>Qs m fun x hok=>kT (s_f332 x.1 hok)
theorem QHd (a:LinkX): ∀ l:List LinkX,Gf a l<=l.length
 | []=>by simp [Gf]
 |x::r=>by
  have:=QHd x r
  unfold Gf
  split<;>simp<;>omega
theorem Qje {l:List LinkX}(h:l≠[]):1<=Zi l/\Zi l<=l.length:=by
 cases l with
 |nil=>exact absurd rfl h
 |cons a l=>
  have:=QHd a l
  simp only [Zi,Ws,Br]
  omega
def F6 (l:List LinkX):LinkX:=l.getD (Zi l-1).toNat JL.zero
def ZL (l:List LinkX):Int×Bool:=if (Yc (F6 l)).2 then ((Yc (F6 l)).1,true) else (0,false)
def E7 (l:List LinkX):Bool:=Q8 l&& !l.isEmpty
def Qsh:TC:=aF Tryz.f333 []
def QHe:List (RV×Option Ty):=[((.t 2),some tI),((.t 3),some .bool)]
def Qjf:G:=gG 19 [(328,Qr9),(332,Qsg)] (fun _ _=>none)
def Qsi (p0:List LinkX):OV:=
 let a1:=Yc (lgt JL p0 (Int.toNat (Qw .i64 (Zi p0) 1)))
 br (Q8 p0) (br (cIx p0 (Qw .i64 (Zi p0) 1)) (br (!(a1.2)) (some (.tu [(.t tI 0),(.t .bool false)],[])) (some (.tu [(.t tI (a1.1)),(.t .bool true)],[]))) none) none
theorem e_f333 (p0:List LinkX):QS Qjf Qsh QHe false [.t (.sl JL) p0] []=Qsi p0:=by kernel_rfl
theorem QVs:GOk Tryz.prog Qjf:=Jp _ (gA (gD QGW (gD QHc gN)))
theorem QVt:Qsh.lok Qjf:=by repeat (first|exact trivial|refine ⟨?_, ?_⟩)
theorem s_f333 (l:List LinkX)(h:E7 l=true):Qsi l=some (.tu [.t tI (ZL l).1,.t .bool (ZL l).2],[]):=by
 simp only [E7,Bc] at h
 have hn:l≠[]:=by
  intro e
  rw [e] at h
  simp at h
 have hc:=Qje hn
 have hl:=h.1
 simp only [Q8,Ba] at hl
 have e1:Qw .i64 (Zi l) 1=Zi l-1:=JO (by omega)
 have e2:cIx l (Zi l-1)=true:=by simp only [cIx,Ba];omega
 simp only [Qsi,h.1,e1,e2,Qf,lgt]
 show br (!(Yc (F6 l)).2) (some (V.tu [.t tI 0,.t .bool false],[])) (some (V.tu [.t tI (Yc (F6 l)).1,.t .bool true],[]))=_
 unfold ZL
 by_cases hg:(Yc (F6 l)).2=true
 ·rw [if_pos hg,hg]
  rfl
 ·rw [if_neg hg,show (Yc (F6 l)).2=false by simpa using hg]
  rfl
def QHf:Ent:=Qo (.pr (.sl JL) .nil) (fun x=>(E7 x.1)) (fun x=>(.tu [(.t tI ((ZL x.1).1)),(.t .bool ((ZL x.1).2))]))
theorem QVu:Qu Tryz.prog 333 (Qv QHf):=Qs (R:=QS Qjf Qsh QHe false) (mG Tryz.func333 (by kernel_rfl) Tryz.ntmps333 (by kernel_rfl) QVs QVt) fun x hok=>(e_f333 x.1).trans (s_f333 x.1 hok)
def Gg (l:List LinkX):Bool:=ieq (Zi l) (Qc l)
def Qsj:TC:=aF Tryz.f334 []
def QHg:List (RV×Option Ty):=[((.t 2),some .bool)]
def Qjg:G:=gG 8 [(332,Qsg)] (fun _ _=>none)
def Qsk (p0:List LinkX):OV:=br (Q8 p0) (some (.t .bool (ieq (Zi p0) (Qc p0)),[])) none
theorem e_f334 (p0:List LinkX):QS Qjg Qsj QHg false [.t (.sl JL) p0] []=Qsk p0:=by kernel_rfl
theorem QVv:GOk Tryz.prog Qjg:=Jp _ (gA (gD QHc gN))
theorem QVw:Qsj.lok Qjg:=by repeat (first|exact trivial|refine ⟨?_, ?_⟩)
theorem s_f334 (l:List LinkX)(h:Q8 l=true):Qsk l=some (.t .bool (Gg l),[]):=by
 simp only [Qsk,h,Qf,Gg]
def QHh:Ent:=Qo (.pr (.sl JL) .nil) (fun x=>(Q8 x.1)) (fun x=>(.t .bool (Gg x.1)))
theorem QVx:Qu Tryz.prog 334 (Qv QHh):=Qs (R:=QS Qjg Qsj QHg false) (mG Tryz.func334 (by kernel_rfl) Tryz.ntmps334 (by kernel_rfl) QVv QVw) fun x hok=>(e_f334 x.1).trans (s_f334 x.1 hok)
def QHi:Ent:=spI 216
theorem QVy:Ja Tryz.prog 1003459:= .inl (by kernel_rfl)
theorem QVz:Qu Tryz.prog 1003459 (Qv QHi):=QxZ (t:=216) (e:=215) (by kernel_rfl) (by decide)
def QHj:Ent:=spI 217
theorem QVA:Ja Tryz.prog 1003475:= .inl (by kernel_rfl)
theorem QVB:Qu Tryz.prog 1003475 (Qv QHj):=QxZ (t:=217) (e:=215) (by kernel_rfl) (by decide)
def Qsl:Ent:=spM 216 QG2
theorem QHk:Ja Tryz.prog 1000031:= .inl (by kernel_rfl)
theorem QHl:Qu Tryz.prog 1000031 (Qv Qsl):=QeL (t:=216) (i:=1) (fn:=330) (name:=FS.getD 1 "") (by kernel_rfl) (fun v w=>by kernel_rfl) ⟨_,Tryz.func330,by kernel_rfl,by kernel_rfl⟩ (by decide) QVl
def QHm:Ent:=spM 216 QG5
theorem QVC:Ja Tryz.prog 1000047:= .inl (by kernel_rfl)
theorem QVD:Qu Tryz.prog 1000047 (Qv QHm):=QeL (t:=216) (i:=2) (fn:=331) (name:=FS.getD 2 "") (by kernel_rfl) (fun v w=>by kernel_rfl) ⟨_,Tryz.func331,by kernel_rfl,by kernel_rfl⟩ (by decide) QVo
def Qsm:Ent:=spM 217 QHf
theorem QHn:Ja Tryz.prog 1000031:= .inl (by kernel_rfl)
theorem QHo:Qu Tryz.prog 1000031 (Qv Qsm):=QeL (t:=217) (i:=1) (fn:=333) (name:=FS.getD 1 "") (by kernel_rfl) (fun v w=>by kernel_rfl) ⟨_,Tryz.func333,by kernel_rfl,by kernel_rfl⟩ (by decide) QVu
def QHp:Ent:=spM 217 QHh
theorem QVE:Ja Tryz.prog 1000047:= .inl (by kernel_rfl)
theorem QVF:Qu Tryz.prog 1000047 (Qv QHp):=QeL (t:=217) (i:=2) (fn:=334) (name:=FS.getD 2 "") (by kernel_rfl) (fun v w=>by kernel_rfl) ⟨_,Tryz.func334,by kernel_rfl,by kernel_rfl⟩ (by decide) QVx
end Go.Proofs.YthlcobdnemhcdaaGreat.K
noncomputable section
namespace Go.Proofs.YthlcobdnemhcdaaGreat.K
open Go.RowKit
def Qy3 (y:Policy):Bool:=decide (y.1.length<=10000)
theorem QNd {y:Policy}(h:Zs y=true):y.1.length<=60/\y.2.1.length<=60:=by
 simp only [Zs,Bc,Ba] at h
 exact h.2
theorem Qe4 {y:Policy}(h:Zs y=true):Q5 y=true/\Qy3 y=true:=by
 have:=QNd h
 simp only [Q5,Qy3,Q8,Bc,Ba]
 omega
end Go.Proofs.YthlcobdnemhcdaaGreat.K
noncomputable section
namespace Go.Proofs.YthlcobdnemhcdaaGreat.K
open Go.RowKit
end Go.Proofs.YthlcobdnemhcdaaGreat.K
noncomputable section
namespace Go.Proofs.YthlcobdnemhcdaaGreat.K
open Go.RowKit
def WS (s:List Keep)(hi:Int):Prop:=s.Pairwise (fun a b=>a.2.1<b.1)∧ ∀ k,k∈s->0<=k.1/\k.1<k.2.1/\k.2.1<=hi
theorem WS.mono {s:List Keep}{a b:Int}(h:WS s a)(hab:a<=b):WS s b:=⟨h.1,fun k hk=>by have:=h.2 k hk;omega⟩
theorem QLP {out:List Keep}{a b:Int}(h:WS out a)(h0:0<=a)(hab:a<b):WS (WD out a b) b:=by
 rcases List.eq_nil_or_concat out with rfl|⟨l,s,rfl⟩
 ·refine ⟨by simp [WD],fun k hk=> ?_⟩
  simp only [WD,List.getLast?_nil,BX] at hk
  subst hk
  exact ⟨h0,hab,B1 b⟩
 ·rw [List.concat_eq_append] at*
  obtain ⟨h1,h2⟩:=h
  obtain ⟨p1,_,p2⟩:=DJ.1 h1
  rw [Qj6]
  split
  ·rename_i hs
   refine ⟨DJ.2 ⟨p1,DD _ _,fun x hx y hy=> ?_⟩,fun k hk=> ?_⟩
   ·rw [BX.1 hy]
    exact p2 x hx s (by simp)
   ·rcases BE.1 hk with hk|hk
    ·have:=h2 k (by simp [hk]);omega
    ·rw [BX.1 hk]
     have:=h2 s (by simp)
     simp only
     omega
  ·rename_i hs
   have g:=h2 s (by simp)
   refine ⟨DJ.2 ⟨h1,DD _ _,fun x hx y hy=> ?_⟩,fun k hk=> ?_⟩
   ·rw [BX.1 hy]
    rcases BE.1 hx with hx|hx
    ·have:=p2 x hx s (by simp);simp only;omega
    ·rw [BX.1 hx];simp only;omega
   ·rcases BE.1 hk with hk|hk
    ·have:=h2 k hk;omega
    ·rw [BX.1 hk];simp only;omega
theorem Qxb {f:Int->Bool}{hi:Int}: ∀ (l:List Int) (a:Int) (out:List Keep),asc (a::l)->0<=a->(∀ x,x∈a::l->x<=hi)->WS out a->WS (Ug f (a::l) out) hi
 | [],a,out,_,_,h,hw=>hw.mono (h a (by simp))
 |b::r,a,out,ha,h0,h,hw=>by
  obtain ⟨h1,h2⟩:=DR.1 ha
  have hab:a<b:=h1 b (by simp)
  unfold Ug
  refine Qxb r b _ h2 (by omega) (fun x hx=>h x (by simp at hx;simp [hx])) ?_
  split
  ·exact QLP hw h0 hab
  ·exact hw.mono (by omega)
theorem QLQ {y:Policy}(h:Zs y=true){r:Rule}(hr:r∈y.1):Z5 r=true:=by
 simp only [Zs,Bc] at h
 exact Bi.1 h.1.1 r hr
theorem Qxc {y:Policy}(h:Zs y=true){x:Int}(hx:x∈YA y.1):0<=x/\x<=40001:=by
 rcases Qax.1 hx with rfl|rfl|hx
 ·omega
 ·omega
 ·obtain ⟨r,hr,hx⟩:=DQ.1 hx
  have:=QLQ h hr
  simp only [Z5,Ba,Estate.Endpoints,Estate.Edges,Estate.Items,Policy.Rules,Policy.Keeps,Keep.Alg,Keep.Bits,Link.Use,Link.Day,Job.Item,Job.Link,Item.Name,Item.Kind,Item.Purpose,Item.Links,Item.Until,Rule.Allow,Rule.Alg,Rule.Below,Rule.Purpose,Rule.From,Rule.To,Exception.Use,Exception.Purpose,Exception.Endpoint,Exception.Days,Exception.Seals,Dice.L,Dice.At,Endpoint.Name,Endpoint.Least,Endpoint.Most,Endpoint.Suites,Endpoint.OwnOrder,Endpoint.Identities,Endpoint.Anchors,Endpoint.Hashes,Endpoint.Fallback,Identity.Key,Identity.KeyId,Identity.Chain,Change.Endpoint,Change.Kind,Change.Number,Change.At,Change.Identity,Rules.p,Rules.l,Rules.o,Rules.day,Method.outcome,Method.uses,Certificate.Serial,Certificate.Issuer,Certificate.Subject,Certificate.Key,Certificate.KeyId,Certificate.Hash,Certificate.From,Certificate.To,Certificate.Authority,Certificate.Path,Certificate.Names,Certificate.Seal,LinkX.day,LinkX.fall,LinkX.falls,Suite.Code,Suite.Name,Suite.Exchange,Suite.Sign,Suite.Cipher,Suite.Mac,Suite.Least,Suite.Most,Row.name,Row.kind,Row.way,Row.sizes,Row.strengths,Talk.server,Talk.version,Talk.suites,Symbol.name,Symbol.kind] at this
  simp only [BA,BQ,Dd] at hx
  omega
theorem QLR {y:Policy}(h:Zs y=true): ∃ l,YA y.1=0::l:=by
 have h0:(0:Int)∈YA y.1:=Qax.2 (.inl rfl)
 have ha:=Qnc y.1
 cases hq:YA y.1 with
 |nil=>rw [hq] at h0;cases h0
 |cons a l=>
  rw [hq] at h0 ha
  have ha0:=Qxc h (x:=a) (by rw [hq];simp)
  rcases BA.1 h0 with e|h0
  ·exact ⟨l,by rw [e]⟩
  ·have:=(DR.1 ha).1 0 h0
   omega
theorem QLS {y:Policy}{u:Keep}{p:Int}(h:Zs y=true):WS (J2 y u p) 40001:=by
 obtain ⟨l,hl⟩:=QLR h
 have ha:=Qnc y.1
 unfold J2
 rw [hl] at ha ⊢
 exact Qxb l 0 [] ha (B1 0) (fun x hx=>(Qxc h (by rw [hl];exact hx)).2) ⟨List.Pairwise.nil,fun k hk=>by cases hk⟩
theorem QLT {y:Policy}{u:Keep}{p:Int}(h:Zs y=true):
  (J2 y u p=[]/\ZT (J2 y u p)=(0,true))∨
  ∃ l s,J2 y u p=l++[s]/\0<=s.1/\s.1<s.2.1/\s.2.1<=40001/\(∀ k,k∈l->k.2.1<=s.1)/\ZT (J2 y u p)=if s.2.1<=40000 then (s.2.1,true) else (0,false):=by
 have hw:=QLS (u:=u) (p:=p) h
 rcases List.eq_nil_or_concat (J2 y u p) with e|⟨l,s,e⟩
 ·exact .inl ⟨e,by rw [e];rfl⟩
 ·right
  rw [List.concat_eq_append] at e
  rw [e] at hw ⊢
  obtain ⟨p1,_,p2⟩:=DJ.1 hw.1
  have g:=hw.2 s (by simp)
  refine ⟨l,s,rfl,g.1,g.2.1,g.2.2,fun k hk=> ?_, ?_⟩
  ·have:=p2 k hk s (by simp)
   omega
  ·unfold ZT
   rw [List.getLast?_concat]
   simp only
   split<;>split<;>first|rfl|omega
end Go.Proofs.YthlcobdnemhcdaaGreat.K
noncomputable section
namespace Go.Proofs.YthlcobdnemhcdaaGreat.K
open Go.RowKit
def lkF (y:Policy)(p:Int)(x:Link):LinkX:=(x.2.1,((ZT (J2 y x.1 p)).1,((ZT (J2 y x.1 p)).2,())))
def QR (y:Policy)(i:Item):List LinkX:=i.2.2.2.1.map (lkF y i.2.2.1)
def Jj (y:Policy)(i:Item):Bool:=Zs y&&J7 i
def ofA (y:Policy)(i:Item):List LinkX×Int:=(QR y i,0)
def ofE (y:Policy)(_i:Item):Int:=if Zs y then 30 else 25
def WQ (y:Policy)(i:Item):Bool:=Jj y i&&ieq i.2.1 1
def U4 (y:Policy)(i:Item):Bool:=Jj y i&&ieq i.2.1 2
def FR (y:Policy)(i:Item):Bool:=Q5 y&&QGV i.1&& !Jj y i
theorem QhS: ∀ {l:List Link} {pv:Option Int},Y4 pv l=true→ ∀ x,x∈l->Jf x.1=true/\0<=x.2.1/\x.2.1<=40000
 | [],_,_,_,hx=>by cases hx
 |a::l,pv,h,x,hx=>by
  rw [Qeo,Bc,Bc,Bc,Ba] at h
  rcases BA.1 hx with rfl|hx
  ·exact ⟨h.1.1.1,h.1.1.2⟩
  ·exact QhS h.2 x hx
theorem QqG {y:Policy}{u:Keep}{p:Int}(hp:Zs y=true)(hv:Jf u=true)(h1:1<=p)(h2:p<=4):Z1 y u p=((ZT (J2 y u p)).1,(ZT (J2 y u p)).2,0):=by
 have ee:Zh y u p 0=0:=by
  unfold Zh
  rw [hp,hv]
  simp only [DX,Dc]
  rw [if_neg (by omega)]
 unfold Z1
 rw [if_pos ee]
abbrev QhT:Sh:=⟨[(2,.ptr 2 0),(3,.ptr 3 0),(8,.ms 8),(25,.ty (.sl Q2)),(26,.ty tI),(27,.ty tI)],[(2,.box QE),(3,.box Qp),(8,.arr 215 JL),(51,.no)]⟩
abbrev QEM:Sh:=⟨[(4,.ni),(5,.ty tI)],[]⟩
abbrev QEN:Sh:=⟨[(3,.ptr 3 0),(8,.ms 8)],[(3,.box Qp),(8,.arr 215 JL),(51,.no)]⟩
def QqH:Fg:=QhT.f
def QhU:TC:=aF Tryz.f91 [(250,.nw 8 215),(250,pL 0 QqH),(4005,.fg QEN.f),(512821,.fg QEM.f)]
def QEO:TC:=lb 0 QhU
def QEP:List (RV×Option Ty):=[((.t 4),none),((.t 5),some tI)]
def QEQ (x25:List Link)(x26 x27:Int)(y2:Policy)(y3:Item)(y8:List LinkX):VS:=QhT.st ((),(),(),x25,x26,x27,()) (y2,y3,y8,(),())
def QqI (x5:Int):VS:=QEM.st ((),x5,()) ()
def QqJ (y3:Item)(y8:List LinkX):VS:=QEN.st ((),(),()) (y3,y8,(),())
def QSY:VS->Option (Bool×List (Bool×Exit×VS)):=mkL QhT (fun x y=>(Jj y.1 y.2.1&&(x.2.2.2.1==y.2.1.2.2.2.1)&&QD x.2.2.2.1 x.2.2.2.2.1 x.2.2.2.2.2.1&&decide ((y.2.2.1.length:Int)<=x.2.2.2.2.2.1))) (fun x y=>[((false),.ret,QqI (0)),(true,.exit 0,QqJ (y.2.1) (y.2.2.1++(x.2.2.2.1.drop x.2.2.2.2.2.1.toNat).map (lkF y.1 y.2.1.2.2.1)))])
def OP:G:=gG 60 [(90,QgN),(122,QmC),(149,QtE),(1003459,QHi),(1003475,QHj)] (Ls [QSY])
def QhV (x25:List Link)(x26 x27:Int)(y2:Policy)(y3:Item)(y8:List LinkX):OX:=Qx (QA OP QqH QEO) (QEQ x25 x26 x27 y2 y3 y8)
def QbV (kk:List Link->Int->Int->Policy->Item->List LinkX->OX)(x25:List Link)(x26 x27:Int)(y2:Policy)(y3:Item)(y8:List LinkX):OX:=
 let a1:=Z1 y2 ((lgt Q2 x25 (Int.toNat x27)).1) y3.2.2.1
 let a2:=(((lgt Q2 x25 (Int.toNat x27)).2).1,(a1.1,((a1.2).1,())))
 br (ilt x27 x26) (br (cIx x25 x27) (br (ZZ y2 ((lgt Q2 x25 (Int.toNat x27)).1) y3.2.2.1) (br (ine ((a1.2).2) 0) (some (.ret,QqI ((a1.2).2))) (br (Qq y8 ([a2]) 24) (kk x25 x26 (Qj .i64 x27 1) y2 y3 (y8++([a2]))) none)) none) none) (some (.exit 0,QqJ y3 y8))
def QhW (x25:List Link)(x26 x27:Int)(y2:Policy)(y3:Item)(y8:List LinkX):OX:=br (false) (some (.ret,QqI (0)))<|some (.exit 0,QqJ (y3) (y8++(x25.drop x27.toNat).map (lkF y2 y3.2.2.1)))
theorem QER (x25:List Link)(x26 x27:Int)(y2:Policy)(y3:Item)(y8:List LinkX):QhV x25 x26 x27 y2 y3 y8=QbV QhV x25 x26 x27 y2 y3 y8:=lnT (x:=QbV (fun x25 x26 x27 y2 y3 y8=>some (.normal,QEQ x25 x26 x27 y2 y3 y8)) x25 x26 x27 y2 y3 y8) (by simp only [QbV,nxA];rfl)
def EQ (p0:Policy)(p1:Item):OV:=
 let a1:=(p1.2.2.2.1.drop (0:Int).toNat)
 br (Q5 p0) (br (ine (Zt p0) 0) (some (.tu [(.c .nilIface),(.t tI (Zt p0))],[])) (br (Zx p1) (br (ine (ZG p1) 0) (some (.tu [(.c .nilIface),(.t tI (ZG p1))],[])) (br (Jj p0 p1&&(p1.2.2.2.1==p1.2.2.2.1)&&QD p1.2.2.2.1 (Qc p1.2.2.2.1) (0:Int)&&decide ((([]:List LinkX).length:Int)<=(0:Int))) (br (false) (some (.tu [(.c .nilIface),(.t tI (0))],[])) (br (ieq (((p1).2).1) 1) (some (.tu [(.ifc 216 (.t (.sl JL) (([]:List LinkX)++a1.map (lkF p0 p1.2.2.1)))),(.t tI 0)],[])) (some (.tu [(.ifc 217 (.t (.sl JL) (([]:List LinkX)++a1.map (lkF p0 p1.2.2.1)))),(.t tI 0)],[])))) none)) none)) none
theorem QqK (p0:Policy)(p1:Item):QS OP QhU QEP false [.t QE p0,.t Qp p1] []=EQ p0 p1:=by kernel_rfl
theorem QqL:Ja Tryz.prog 91:= .inr ⟨by decide,_,Tryz.func91,by kernel_rfl,by kernel_rfl⟩
theorem gk_f91:GOk Tryz.prog OP:=Jp _ (gA (gD Qpt (gD Qxn (gD QIw (gC QVy QVz (gC QVA QVB gN))))))
theorem QSZ (x25:List Link)(x26 x27:Int)(y2:Policy)(y3:Item)(y8:List LinkX)(h:(Jj y2 y3&&(x25==y3.2.2.2.1)&&QD x25 x26 x27&&decide ((y8.length:Int)<=x27))=true):QhV x25 x26 x27 y2 y3 y8=QhW x25 x26 x27 y2 y3 y8:=by
 simp only [Bc,Do,Ba] at h
 obtain ⟨⟨⟨hf,hx⟩,h0⟩,h4⟩:=h
 obtain ⟨rfl,h3,k,rfl,hk⟩:=JG h0
 clear h0
 simp only [Jj,Bc] at hf
 have hi:=JK.1 hf.2
 have hpl: ∀ u q,ZZ y2 u q=true:=fun u q=>(Qe4 hf.1).1
 revert y8
 refine QQ x25 (fun k=> ∀ y8:List LinkX,(y8.length:Int)<=(k:Int)->QhV x25 (x25.length:Int) (k:Int) y2 y3 y8=QhW x25 (x25.length:Int) (k:Int) y2 y3 y8) ?_ ?_ k hk
 ·intro y8 _
  rw [QER]
  simp [QbV,QhW,Qy,Qi]
 ·intro k hk ih y8 hy
  rw [QER]
  have hv:=QhS hi.2.2.2.2.1 x25[k] (by rw [←hx];exact Bw hk)
  have ef:=QqG (u:=x25[k].1) (p:=y3.2.2.1) hf.1 hv.1 hi.2.2.1.1 hi.2.2.1.2
  simp only [QbV,Qy,QK,hk,Bo,Qf,Bb,QO (show k<4611686018427387904 by omega),QL (y:=Q2) hk,hpl,ef,show ine 0 0=false from rfl,Qi]
  rw [WY (by simp;omega) (by omega),Qf,ih _ (by simp;omega)]
  simp only [QhW,Bb,Bg hk,BP,BI,Qi]
  rfl
theorem QS0:LO OP QqH QEO 0:=QI (s:=QhT) fun x y h _ q=>by simp only [QG,QH] at q;exact (QSZ x.2.2.2.1 x.2.2.2.2.1 x.2.2.2.2.2.1 y.1 y.2.1 y.2.2.1 h).trans q
theorem lk_f91:QhU.lok OP:=by
 repeat (first|exact trivial|exact QS0|refine ⟨?_, ?_⟩)
theorem QqM:Qu Tryz.prog 91 (QS OP QhU QEP false):=mG Tryz.func91 (by kernel_rfl) Tryz.ntmps91 (by kernel_rfl) gk_f91 lk_f91
theorem QES {y:Policy}{i:Item}(h:Jj y i=true):EQ y i=br (ieq i.2.1 1) (some (.tu [.ifc 216 (.t (.sl JL) (QR y i)),.t tI 0],[])) (some (.tu [.ifc 217 (.t (.sl JL) (QR y i)),.t tI 0],[])):=by
 have hf:=h
 simp only [Jj,Bc] at hf
 have hi:=JK.1 hf.2
 have hn:Zx i=true:=Be (by have:=QVe hi.1;omega)
 simp only [EQ,(Qe4 hf.1).1,hn,Zt,hf.1,ZG,hf.2,if_true,show ine 0 0=false from rfl,Qf,Qi,h,beq_self_eq_true,Bu,JH (show i.2.2.2.1.length<=100000 by omega)]
 rw [Yv (by simp),Qf]
 rfl
theorem s_f91A (y:Policy)(i:Item)(h:WQ y i=true):EQ y i=some (.tu [.ifc 216 (.t (.sl JL) (ofA y i).1),.t tI (ofA y i).2],[]):=by
 simp only [WQ,Bc] at h
 rw [QES h.1,h.2]
 rfl
theorem s_f91B (y:Policy)(i:Item)(h:U4 y i=true):EQ y i=some (.tu [.ifc 217 (.t (.sl JL) (ofA y i).1),.t tI (ofA y i).2],[]):=by
 simp only [U4,Bc] at h
 have h2:=h.2
 simp only [ZS,Ba] at h2
 rw [QES h.1,h2]
 rfl
theorem s_f91E (y:Policy)(i:Item)(h:FR y i=true):EQ y i=some (.tu [.c .nilIface,.t tI (ofE y i)],[]):=by
 simp only [FR,Bc,Bx,Jj,Bool.and_eq_false_iff] at h
 have hn:Zx i=true:=h.1.2
 simp only [EQ,h.1.1,hn,Zt,ZG,ofE,Qf]
 cases hp:Zs y with
 |false=>rfl
 |true=>
  have hq:J7 i=false:=h.2.resolve_left (by rw [hp];simp)
  simp only [hq,if_true,show ine 0 0=false from rfl,Qi]
  rfl
def QhX:Ent:=Qo (.pr QE (.pr Qp .nil)) (fun x=>(WQ x.1 x.2.1)) (fun x=>(.tu [(.ifc 216 (.t (.sl JL) ((ofA x.1 x.2.1).1))),(.t tI ((ofA x.1 x.2.1).2))]))
theorem QqN:Ja Tryz.prog 91:=QqL
theorem QqO:Qu Tryz.prog 91 (Qv QhX):=Qs QqM fun x hok=>(QqK x.1 x.2.1).trans (s_f91A x.1 x.2.1 hok)
def QhY:Ent:=Qo (.pr QE (.pr Qp .nil)) (fun x=>(U4 x.1 x.2.1)) (fun x=>(.tu [(.ifc 217 (.t (.sl JL) ((ofA x.1 x.2.1).1))),(.t tI ((ofA x.1 x.2.1).2))]))
theorem QqP:Ja Tryz.prog 91:=QqL
theorem QqQ:Qu Tryz.prog 91 (Qv QhY):=Qs QqM fun x hok=>(QqK x.1 x.2.1).trans (s_f91B x.1 x.2.1 hok)
def QhZ:Ent:=Qo (.pr QE (.pr Qp .nil)) (fun x=>(FR x.1 x.2.1)) (fun x=>(.tu [(.c .nilIface),(.t tI (ofE x.1 x.2.1))]))
theorem QqR:Ja Tryz.prog 91:=QqL
theorem QqS:Qu Tryz.prog 91 (Qv QhZ):=Qs QqM fun x hok=>(QqK x.1 x.2.1).trans (s_f91E x.1 x.2.1 hok)
end Go.Proofs.YthlcobdnemhcdaaGreat.K
noncomputable section
namespace Go.Proofs.YthlcobdnemhcdaaGreat.K
open Go.RowKit
def W9 (y:Policy)(_u:Keep)(_p _d:Int):Bool:=Q8 y.1
abbrev QcR:Sh:=⟨[(2,.ty tI),(3,.ty tI),(4,.ptr 4 0),(5,.ptr 5 0),(9,.ty tI)],[(4,.box QE),(5,.box Qk)]⟩
abbrev Qs1:Sh:=⟨[(8,.ty tI)],[]⟩
abbrev Qs2:Sh:=⟨[],[]⟩
def QjP:Fg:=QcR.f
def Qs3:TC:=aF Tryz.f108 [(26,pL 0 QjP),(419,.fg Qs2.f),(840,pD [(0,[4]),(1,[4]),(2,[]),(3,[]),(4,[]),(5,[5]),(6,[]),(7,[]),(8,[])] (.of [0,1,2,3,4,5,6,7,8])),(3365,.fg Qs1.f)]
def Qs4:TC:=lb 0 Qs3
def Qs5 (x2 x3 x9:Int)(y4:Policy)(y5:Keep):VS:=QcR.st (x2,x3,(),(),x9,()) (y4,y5,())
def QjQ (x8:Int):VS:=Qs1.st (x8,()) ()
def QjR  : VS:=Qs2.st () ()
def QIb:VS->Option (Bool×List (Bool×Exit×VS)):=mkL QcR (fun x y=>(decide (-1<=x.2.2.2.2.1/\x.2.2.2.2.1<y.1.1.length/\y.1.1.length<=100000))) (fun x y=>[(((X9 (y.1.1.take (x.2.2.2.2.1+1).toNat) y.2.1 x.1 x.2.1).isSome),.ret,QjQ ((X9 (y.1.1.take (x.2.2.2.2.1+1).toNat) y.2.1 x.1 x.2.1).getD 0:Nat)),(true,.exit 0,QjR)])
def QjS:G:=gG 28 [(160,QvG)] (Ls [QIb])
def QjT (x2 x3 x9:Int)(y4:Policy)(y5:Keep):OX:=Qx (QA QjS QjP Qs4) (Qs5 x2 x3 x9 y4 y5)
def Vl (kk:Int->Int->Int->Policy->Keep->OX)(x2 x3 x9:Int)(y4:Policy)(y5:Keep):OX:=br (ige x9 0) (br (cIx y4.1 x9) (br (Uc (lgt Q4 y4.1 (Int.toNat x9)) y5 x2 x3) (some (.ret,QjQ x9)) (kk x2 x3 (Qw .i64 x9 1) y4 y5)) none) (some (.exit 0,QjR))
def Qs6 (x2 x3 x9:Int)(y4:Policy)(y5:Keep):OX:=
 let a1:=X9 (y4.1.take (x9+1).toNat) y5 x2 x3
 br (a1.isSome) (some (.ret,QjQ (a1.getD 0:Nat)))<|some (.exit 0,QjR)
theorem Qs7 (x2 x3 x9:Int)(y4:Policy)(y5:Keep):QjT x2 x3 x9 y4 y5=Vl QjT x2 x3 x9 y4 y5:=lnT (x:=Vl (fun x2 x3 x9 y4 y5=>some (.normal,Qs5 x2 x3 x9 y4 y5)) x2 x3 x9 y4 y5) (by simp only [Vl,nxA];rfl)
def Qs8 (p0:Policy)(p1:Keep)(p2 p3:Int):OV:=
 let a1:=Qw .i64 (Qc p0.1) 1
 let a2:=X9 (p0.1.take (a1+1).toNat) p1 p2 p3
 br (decide (-1<=a1/\a1<p0.1.length/\p0.1.length<=100000)) (br (a2.isSome) (some (.t tI (a2.getD 0:Nat),[])) (some (.t tI (-1),[]))) none
theorem Qs9 {α:Type}{l:List α}{k:Nat}(h:k<l.length):l.take (k+1)=l.take k++[l[k]]:=List.take_succ_eq_append_getElem h
theorem QIc {l:List Rule}{k:Nat}(h:k<l.length){u:Keep}{p d:Int}:X9 (l.take (k+1)) u p d=if Uc l[k] u p d then some k else X9 (l.take k) u p d:=by
 rw [Qs9 h]
 unfold X9
 rw [Qm8]
 simp only [ZV]
 have e:(l.take k).length=k:=by simp;omega
 rw [e]
 split<;>rename_i hq
 ·split at hq
  ·rename_i hm
   injection hq with hq
   subst hq
   rw [if_pos hm]
   rfl
  ·cases hq
 ·split at hq
  ·cases hq
  ·rename_i hm
   rw [if_neg hm]
theorem QId (x2 x3 x9:Int)(y4:Policy)(y5:Keep)(h:(decide (-1<=x9/\x9<y4.1.length/\y4.1.length<=100000))=true):QjT x2 x3 x9 y4 y5=Qs6 x2 x3 x9 y4 y5:=by
 simp only [Ba] at h
 obtain ⟨h1,h2,h3⟩:=h
 obtain ⟨k,hk⟩: ∃ k:Nat,x9=(k:Int)-1:=⟨(x9+1).toNat,by omega⟩
 subst hk
 have h4:k<=y4.1.length:=by omega
 clear h1 h2
 induction k with
 |zero=>
  rw [Qs7]
  have e1:ige (((0:Nat):Int)-1) 0=false:=rfl
  simp only [Vl,e1,Qi]
  rfl
 |succ k ih=>
  rw [Qs7]
  have e1:ige (((k+1:Nat):Int)-1) 0=true:=by simp only [ige,Ba];omega
  have e2:(((k+1:Nat):Int)-1)=(k:Int):=by omega
  have e3:Qw .i64 (k:Int) 1=(k:Int)-1:=JO (by omega)
  have hk:k<y4.1.length:=by omega
  rw [e2] at e1 ⊢
  simp only [Vl,e1,e3,Qf,QK,hk,Bo,Bb,QL (y:=Q4) hk,ih (by omega)]
  have e4:((k:Int)+1).toNat=k+1:=by omega
  have e5:((k:Int)-1+1).toNat=k:=by omega
  simp only [Qs6,e4,e5,QIc hk]
  cases hm:Uc y4.1[k] y5 x2 x3 with
  |true=>rfl
  |false=>rfl
theorem QIe:LO QjS QjP Qs4 0:=QI (s:=QcR) fun x y h _ q=>by simp only [QG,QH] at q;exact (QId x.1 x.2.1 x.2.2.2.2.1 y.1 y.2.1 h).trans q
theorem s_f108 (y:Policy)(u:Keep)(p d:Int)(h:W9 y u p d=true):Qs8 y u p d=some (.t tI (Z3 y u p d),[]):=by
 have h:Q8 y.1=true:=h
 simp only [Q8,Ba] at h
 have e1:Qw .i64 (Qc y.1) 1=(y.1.length:Int)-1:=JO (by unfold Qc;omega)
 have e2:((y.1.length:Int)-1+1).toNat=y.1.length:=by omega
 simp only [Qs8,e1,e2,List.take_length]
 rw [Yv ⟨by omega,by omega,h⟩,Qf,Qna]
 cases X9 y.1 u p d<;>rfl
def QjU:Ent:=Qo (.pr QE (.pr Qk (.pr tI (.pr tI .nil)))) (fun x=>(W9 x.1 x.2.1 x.2.2.1 x.2.2.2.1)) (fun x=>(.t tI (Z3 x.1 x.2.1 x.2.2.1 x.2.2.2.1)))
theorem Qta:EM 108 QjU:=mS (lk:=lkL (lkc QIe lkn)) QjS Qs3 [((.t 8),some tI)] false (gB (gD QKy gN)) fun m=>Qs m fun x hok=>kT (s_f108 x.1 x.2.1 x.2.2.1 x.2.2.2.1 hok)
def QIf:TC:=aF Tryz.f107 []
def g_f107:G:=gG 25 [(108,QjU)] (fun _ _=>none)
def Qtb (p0:Policy)(p1:Keep)(p2 p3:Int):OV:=
 let a1:=Z3 p0 p1 p2 p3
 br (W9 p0 p1 p2 p3) (br (ilt a1 0) (some (.t .bool true,[])) (br (cIx p0.1 a1) (some (.t .bool ((lgt Q4 p0.1 (Int.toNat a1)).1),[])) none)) none
theorem s_f107 (y:Policy)(u:Keep)(p d:Int)(h:W9 y u p d=true):Qtb y u p d=some (.t .bool (Yp y u p d),[]):=by
 simp only [Qtb,h,Qf,QEz]
 cases h:ilt (Z3 y u p d) 0 with
 |true=>simp [Qf]
 |false=>rw [QEA h,Qi,Qf,Dh,lgt]
def QjV:Ent:=Qo (.pr QE (.pr Qk (.pr tI (.pr tI .nil)))) (fun x=>(W9 x.1 x.2.1 x.2.2.1 x.2.2.2.1)) (fun x=>(.t .bool (Yp x.1 x.2.1 x.2.2.1 x.2.2.2.1)))
theorem Qtc:EM 107 QjV:=mS g_f107 QIf [((.t 8),some .bool)] false (gB (gD Qta gN)) fun m=>Qs m fun x hok=>kT (s_f107 x.1 x.2.1 x.2.2.1 x.2.2.2.1 hok)
def Gi (y:Policy)(u:Keep)(p:Int):Int:=Zh y u p 0
def QIg:TC:=aF Tryz.f106 []
def g_f106:G:=gG 22 [(103,QgU),(105,I3)] (fun _ _=>none)
def Qtd (p0:Policy)(p1:Keep)(p2:Int):OV:=br (Q5 p0) (br (ine (Zt p0) 0) (some (.t tI (Zt p0),[])) (br (!(Jf p1)) (some (.t tI 7,[])) (br (ilt p2 1) (some (.t tI 2,[])) (br (igt p2 4) (some (.t tI 2,[])) (some (.t tI 0,[])))))) none
theorem s_f106 (y:Policy)(u:Keep)(p:Int)(h:ZZ y u p=true):Qtd y u p=some (.t tI (Gi y u p),[]):=by
 have h:Q5 y=true:=h
 simp only [Qtd,h,Qf,Zt,Gi,Zh]
 cases Zs y with
 |false=>rfl
 |true=>
  simp only [if_true,show ine 0 0=false from rfl,Qi,DX,Dc]
  cases Jf u with
  |false=>rfl
  |true=>
   simp only [BF,Qi,DX,Dc]
   repeat' (refine QY ?_ ?_<;>intro _)
   all_goals simp only [igt,ilt,Ba,Bn] at*
   all_goals first
    |rw [if_pos (by omega)]
    |rw [if_neg (by omega)]
def QjW:Ent:=Qo (.pr QE (.pr Qk (.pr tI .nil))) (fun x=>(ZZ x.1 x.2.1 x.2.2.1)) (fun x=>(.t tI (Gi x.1 x.2.1 x.2.2.1)))
theorem Qte:EM 106 QjW:=mS g_f106 QIg [((.t 6),some tI)] false (gB (gD QpA (gD Qaw gN))) fun m=>Qs m fun x hok=>kT (s_f106 x.1 x.2.1 x.2.2.1 hok)
def tc_f61:TC:=aF Tryz.f61 [(30,pD [(0,[4]),(1,[5]),(2,[]),(3,[]),(4,[]),(5,[4]),(6,[5]),(7,[]),(8,[]),(9,[]),(10,[]),(11,[]),(12,[])] (.of [0,1,2,3,4,5,6,7,8,9,10,11,12]))]
def g_f61:G:=gG 35 [(106,QjW),(107,QjV),(108,QjU)] (fun _ _=>none)
def r_f61 (p0:Policy)(p1:Keep)(p2 p3:Int):OV:=br (ZZ p0 p1 p2) (br (ine (Gi p0 p1 p2) 0) (some (.tu [(.t .bool false),(.t tI 0),(.t tI (Gi p0 p1 p2))],[])) (br (ilt p3 0) (some (.tu [(.t .bool false),(.t tI 0),(.t tI 2)],[])) (br (igt p3 40000) (some (.tu [(.t .bool false),(.t tI 0),(.t tI 2)],[])) (br (W9 p0 p1 p2 p3) (br (W9 p0 p1 p2 p3) (some (.tu [(.t .bool (Yp p0 p1 p2 p3)),(.t tI (Z3 p0 p1 p2 p3)),(.t tI 0)],[])) none) none)))) none
theorem QIh {y:Policy}{u:Keep}{p d:Int}:Zh y u p d=if Zh y u p 0≠0 then Zh y u p 0 else if d<0∨40000<d then 2 else 0:=by
 unfold Zh
 cases Zs y<;>cases Jf u<;>simp only [DX,if_true,Dc]<;>try rfl
 repeat' split
 all_goals first|rfl|omega
theorem s_f61 (y:Policy)(u:Keep)(p d:Int)(h:Ux y u p d=true):r_f61 y u p d=some (.tu [.t .bool (ZB y u p d).1,.t tI (ZB y u p d).2.1,.t tI (ZB y u p d).2.2],[]):=by
 have h3:ZZ y u p=true:=h
 have h5:W9 y u p d=true:=by
  have h:Q5 y=true:=h
  simp only [Q5,Bc] at h
  exact h.1
 simp only [r_f61,h3,h5,Qf,ZB,Gi,Qct]
 rw [QIh (d:=d)]
 by_cases h0:Zh y u p 0=0
 ·simp only [h0,ne_eq,not_true_eq_false,BM,Qi,Dc]
  repeat' (refine QY ?_ ?_<;>intro _)
  all_goals simp only [igt,ilt,Ba,Bn] at*
  all_goals first
   |rw [if_pos (show d<0∨40000<d by omega)];rfl
   |rw [if_neg (show ¬ (d<0∨40000<d) by omega)];rfl
 ·simp [h0,Qf]
def Qtf:Ent:=Qo (.pr QE (.pr Qk (.pr tI (.pr tI .nil)))) (fun x=>(Ux x.1 x.2.1 x.2.2.1 x.2.2.2.1)) (fun x=>(.tu [(.t .bool ((ZB x.1 x.2.1 x.2.2.1 x.2.2.2.1).1)),(.t tI (((ZB x.1 x.2.1 x.2.2.1 x.2.2.2.1).2).1)),(.t tI (((ZB x.1 x.2.1 x.2.2.1 x.2.2.2.1).2).2))]))
theorem ms_f61:EM 61 Qtf:=mS g_f61 tc_f61 [((.t 8),some .bool),((.t 9),some tI),((.t 10),some tI)] false (gB (gD Qte (gD Qtc (gD Qta gN)))) fun m=>Qs m fun x hok=>kT (s_f61 x.1 x.2.1 x.2.2.1 x.2.2.2.1 hok)
def low (l:List Int)(n:Int):Nat:=(l.takeWhile fun a=>decide (a<n)).length
def Gj (l:List Int)(_n:Int):Bool:=decide (l.length<=500000)
abbrev Vm:Sh:=⟨[(0,.ty (.sl tI)),(1,.ty tI),(5,.ty tI)],[]⟩
def QjX:Fg:=Vm.f
def Qtg:TC:=aF Tryz.f209 [(28,pL 0 QjX),(451,.fg Vm.f),(62,pD [(0,[33,5033,10033,15033]),(1,[]),(2,[]),(3,[]),(4,[33,37,5037,10037,15037]),(5,[]),(6,[]),(7,[33,37,40,5040,10040,15040]),(8,[]),(9,[]),(10,[]),(11,[33,37,40,44,5044,10044,15044]),(12,[33,37,40,44])] (.of [1,2,3,5,6,8,9,10,0,4,7,11,12]))]
def Qth:TC:=lb 0 Qtg
def Ic (x0:List Int)(x1 x5:Int):VS:=Vm.st (x0,x1,x5,()) ()
def QIi:VS->Option (Bool×List (Bool×Exit×VS)):=mkL Vm (fun x y=>(decide (0<=x.2.2.1/\x.2.2.1<=x.1.length/\x.1.length<=500000))) (fun x y=>[(true,.exit 0,Ic (x.1) (x.2.1) (x.2.2.1+(low (x.1.drop x.2.2.1.toNat) x.2.1:Nat)))])
def QjY:G:=⟨TYs,[33],45,EL [],keeps,(Ls [QIi]),IL [],RL []⟩
def QcS (x0:List Int)(x1 x5:Int):OX:=Qx (QA QjY QjX Qth) (Ic x0 x1 x5)
def Vn (kk:List Int->Int->Int->OX)(x0:List Int)(x1 x5:Int):OX:=br (ilt x5 (Qc x0)) (br (cIx x0 x5) (br (ilt (lgt tI x0 (Int.toNat x5)) x1) (kk x0 x1 (Qj .i64 x5 1)) (some (.exit 0,Ic x0 x1 x5))) none) (some (.exit 0,Ic x0 x1 x5))
def QcT (x0:List Int)(x1 x5:Int):OX:=some (.exit 0,Ic (x0) (x1) (x5+(low (x0.drop x5.toNat) x1:Nat)))
theorem Qti (x0:List Int)(x1 x5:Int):QcS x0 x1 x5=Vn QcS x0 x1 x5:=lnT (x:=Vn (fun x0 x1 x5=>some (.normal,Ic x0 x1 x5)) x0 x1 x5) (by simp only [Vn,nxA];rfl)
def Vo (p0:List Int)(p1:Int):OV:=
 let a1:=(low (p0.drop (0:Int).toNat) p1:Nat)
 let a2:=(List.length (p0):Nat)
 let a3:=(lsl (p0) 0 ((0:Int)+a1))
 let a4:=(lsl (p0) ((0:Int)+a1) (a2:Int))
 br (cSl (p0) 0 ((0:Int)+a1) (a2:Int)) (br (cSl (p0) ((0:Int)+a1) (a2:Int) (a2:Int)) (br (Qq ([]:List Int) a3 8) (br (Qq (([]:List Int)++a3) ([(p1)]) 8) (br (Qq ((([]:List Int)++a3)++([(p1)])) a4 8) (some (.t (.sl tI) (((([]:List Int)++a3)++([(p1)]))++a4),[])) none) none) none) none) none
def Qtj (p0:List Int)(p1:Int):OV:=
 let a1:=(low (p0.drop (0:Int).toNat) p1:Nat)
 br (decide (0<=(0:Int)/\(0:Int)<=p0.length/\p0.length<=500000)) (br (ilt ((0:Int)+a1) (Qc (p0))) (br (cIx (p0) ((0:Int)+a1)) (br (ieq (lgt tI (p0) (Int.toNat ((0:Int)+a1))) (p1)) (some (.t (.sl tI) (p0),[])) (Vo p0 p1)) none) (Vo p0 p1)) none
theorem QIj (x0:List Int)(x1 x5:Int)(h:(decide (0<=x5/\x5<=x0.length/\x0.length<=500000))=true):QcS x0 x1 x5=QcT x0 x1 x5:=by
 simp only [Ba] at h
 obtain ⟨h1,h2,h3⟩:=h
 obtain ⟨k,rfl⟩:=Bl h1
 refine QQ x0 (fun k=>QcS x0 x1 (k:Int)=QcT x0 x1 (k:Int)) ?_ ?_ k (by omega)
 ·rw [Qti]
  simp [Vn,QcT,Qy,Qc,Qi,low]
 ·intro k hk ih
  rw [Qti]
  simp only [Vn,Qy,Qc,QK,hk,Bo,Qf,Bb,QO (show k<4611686018427387904 by omega),ih,QL (y:=tI) hk]
  simp only [QcT,Bb,Bg hk,low,List.takeWhile_cons,ilt]
  by_cases hc:x0[k]<x1
  ·simp only [hc,Bo,Qf,if_true,Br]
   congr 3
   omega
  ·simp only [hc,BM,Qi,BK,Dc,Bv]
   rfl
theorem QIk:LO QjY QjX Qth 0:=QI (s:=Vm) fun x y h _ q=>by simp only [QG,QH] at q;exact (QIj x.1 x.2.1 x.2.2.1 h).trans q
theorem low_le (l:List Int)(n:Int):low l n<=l.length:=by
 unfold low
 exact (List.takeWhile_prefix _).length_le
theorem QjZ (n:Int): ∀ l:List Int,Zj l n=if l[low l n]? = some n then l else l.take (low l n)++[n]++l.drop (low l n)
 | []=>by simp [Zj,low]
 |a::l=>by
  have ih:=QjZ n l
  unfold Zj
  by_cases h:a<n
  ·have e:low (a::l) n=low l n+1:=by simp [low,h]
   rw [if_pos h,e,ih,B5]
   split<;>simp
  ·have e:low (a::l) n=0:=by simp [low,h]
   rw [if_neg h,e]
   by_cases h2:a=n
   ·simp [h2]
   ·simp [h2]
theorem Qtk (n:Int)(l:List Int):(Zj l n).length<=l.length+1:=by
 rw [QjZ]
 split<;>simp
 omega
theorem s_f209 (l:List Int)(n:Int)(h:Gj l n=true):Qtj l n=some (.t (.sl tI) (Zj l n),[]):=by
 simp only [Gj,Ba] at h
 have hl:=low_le l n
 have e1:Vo l n=some (.t (.sl tI) (l.take (low l n)++[n]++l.drop (low l n)),[]):=by
  simp only [Vo,By,BG,Int.zero_add]
  have c1:cSl l 0 (low l n:Nat) ((l.length:Nat):Int)=true:=by simp only [cSl,Ba];omega
  have c2:cSl l (low l n:Nat) ((l.length:Nat):Int) ((l.length:Nat):Int)=true:=by simp only [cSl,Ba];omega
  have v1:lsl l 0 (low l n:Nat)=l.take (low l n):=by simp [lsl]
  have v2:lsl l (low l n:Nat) ((l.length:Nat):Int)=l.drop (low l n):=by
   simp only [lsl,Bb]
   rw [DE (by simp)]
  rw [c1,c2,v1,v2]
  simp only [Qf]
  rw [WY (by simp;omega) (by omega),Qf,WY (by simp;omega) (by omega),Qf,WY (by simp;omega) (by omega),Qf]
  rfl
 simp only [Qtj,Vo] at e1 ⊢
 rw [e1]
 simp only [By,BG,Int.zero_add]
 rw [Yv ⟨B1 0,by omega,h⟩,Qf,QjZ]
 by_cases hk:low l n<l.length
 ·simp only [Qc,Qy,QK,hk,Bo,Qf,Bb,QL (y:=tI) hk,Bk hk,Bd,ZS]
  by_cases hq:l[low l n]=n
  ·simp only [hq,Bo,Qf,if_true]
  ·simp only [hq,BM,Qi,Dc]
 ·have hn:l[low l n]? = none:=DG (by omega)
  simp only [Qc,Qy,hk,BM,Qi,hn,reduceCtorEq,Dc]
def Qtl:Ent:=Qo (.pr (.sl tI) (.pr tI .nil)) (fun x=>(Gj x.1 x.2.1)) (fun x=>(.t (.sl tI) (Zj x.1 x.2.1)))
theorem QIl:EM 209 Qtl:=mS (lk:=lkL (lkc QIk lkn)) QjY Qtg [((.t 4),some (.sl tI))] false (Jp _ (fun p hp=>by cases hp)) fun m=>Qs m fun x hok=>kT (s_f209 x.1 x.2.1 hok)
def Vp (l:List Int)(rs:List Rule):List Int:=rs.foldl (fun l r=>Zj (Zj l r.2.2.2.2.1) r.2.2.2.2.2.1) l
abbrev QcU:Sh:=⟨[(1,.ptr 1 0),(3,.ty (.sl tI)),(4,.ty tI)],[(1,.box QE)]⟩
abbrev Qtm:Sh:=⟨[(3,.ty (.sl tI))],[]⟩
def Qj0:Fg:=QcU.f
def Qtn:TC:=aF Tryz.f162 [(58,pL 0 Qj0),(931,.fg Qtm.f),(932,pD [(0,[]),(1,[1]),(2,[1]),(3,[]),(4,[]),(5,[]),(6,[]),(7,[]),(8,[1]),(9,[1]),(10,[]),(11,[]),(12,[]),(13,[]),(14,[]),(15,[])] (.of [0,1,2,3,4,5,6,7,8,9,10,11,12,13,14,15]))]
def Qto:TC:=lb 0 Qtn
def Qtp (x3:List Int)(x4:Int)(y1:Policy):VS:=QcU.st ((),x3,x4,()) (y1,())
def Qj1 (x3:List Int):VS:=Qtm.st (x3,()) ()
def QIm:VS->Option (Bool×List (Bool×Exit×VS)):=mkL QcU (fun x y=>(decide (0<=x.2.2.1/\x.2.2.1<=y.1.1.length/\y.1.1.length<=100000/\(x.2.1.length:Int)<=2+2*x.2.2.1))) (fun x y=>[(true,.exit 0,Qj1 (Vp x.2.1 (y.1.1.drop x.2.2.1.toNat)))])
def Qj2:G:=gG 29 [(209,Qtl)] (Ls [QIm])
def QcV (x3:List Int)(x4:Int)(y1:Policy):OX:=Qx (QA Qj2 Qj0 Qto) (Qtp x3 x4 y1)
def Vq (kk:List Int->Int->Policy->OX)(x3:List Int)(x4:Int)(y1:Policy):OX:=
 let a1:=(((((lgt Q4 y1.1 (Int.toNat x4)).2).2).2).2)
 br (ilt x4 (Qc y1.1)) (br (cIx y1.1 x4) (br (Gj x3 (a1.1)) (br (cIx y1.1 x4) (br (Gj (Zj x3 (a1.1)) ((a1.2).1)) (kk (Zj (Zj x3 (a1.1)) ((a1.2).1)) (Qj .i64 x4 1) y1) none) none) none) none) (some (.exit 0,Qj1 x3))
def QcW (x3:List Int)(x4:Int)(y1:Policy):OX:=some (.exit 0,Qj1 (Vp x3 (y1.1.drop x4.toNat)))
theorem Qtq (x3:List Int)(x4:Int)(y1:Policy):QcV x3 x4 y1=Vq QcV x3 x4 y1:=lnT (x:=Vq (fun x3 x4 y1=>some (.normal,Qtp x3 x4 y1)) x3 x4 y1) (by simp only [Vq,nxA];rfl)
def Qtr (p0:Policy):OV:=br (decide (0<=(0:Int)/\(0:Int)<=p0.1.length/\p0.1.length<=100000/\(([0,40001]).length:Int)<=2+2*(0:Int))) (some (.t (.sl tI) (Vp ([0,40001]) (p0.1.drop (0:Int).toNat)),[])) none
theorem QIn (x3:List Int)(x4:Int)(y1:Policy)(h:(decide (0<=x4/\x4<=y1.1.length/\y1.1.length<=100000/\(x3.length:Int)<=2+2*x4))=true):QcV x3 x4 y1=QcW x3 x4 y1:=by
 simp only [Ba] at h
 obtain ⟨h1,h2,h3,h4⟩:=h
 obtain ⟨k,rfl⟩:=Bl h1
 revert x3
 refine QQ y1.1 (fun k=> ∀ x3:List Int,(x3.length:Int)<=2+2*(k:Int)->QcV x3 (k:Int) y1=QcW x3 (k:Int) y1) ?_ ?_ k (by omega)
 ·intro x3 _
  rw [Qtq]
  simp [Vq,QcW,Qy,Qc,Qi,Vp]
 ·intro k hk ih x3 hy
  rw [Qtq]
  have l1:=Qtk y1.1[k].2.2.2.2.1 x3
  have l2:=Qtk y1.1[k].2.2.2.2.2.1 (Zj x3 y1.1[k].2.2.2.2.1)
  simp only [Vq,Qy,Qc,QK,hk,Bo,Qf,Bb,QO (show k<4611686018427387904 by omega),QL (y:=Q4) hk]
  rw [show Gj x3 y1.1[k].2.2.2.2.1=true by simp only [Gj,Ba];omega,Qf,show Gj (Zj x3 y1.1[k].2.2.2.2.1) y1.1[k].2.2.2.2.2.1=true by simp only [Gj,Ba];omega,Qf,ih _ (by omega)]
  simp only [QcW,Bb,Bg hk,Vp,Dp]
theorem QIo:LO Qj2 Qj0 Qto 0:=QI (s:=QcU) fun x y h _ q=>by simp only [QG,QH] at q;exact (QIn x.2.1 x.2.2.1 y.1 h).trans q
theorem s_f162 (y:Policy)(h:Q5 y=true):Qtr y=some (.t (.sl tI) (Yt y),[]):=by
 simp only [Q5,Q8,Bc,Ba] at h
 simp only [Qtr,By,BG]
 rw [Yv ⟨B1 0,by omega,h.1,by decide⟩,Qf,Yt,QMR]
 rfl
def Qts:Ent:=Qo (.pr QE .nil) (fun x=>(Q5 x.1)) (fun x=>(.t (.sl tI) (Yt x.1)))
theorem QIp:EM 162 Qts:=mS (lk:=lkL (lkc QIo lkn)) Qj2 Qtn [((.t 2),some (.sl tI))] false (gB (gD QIl gN)) fun m=>Qs m fun x hok=>kT (s_f162 x.1 hok)
end Go.Proofs.YthlcobdnemhcdaaGreat.K
noncomputable section
namespace Go.Proofs.YthlcobdnemhcdaaGreat.K
open Go.RowKit Go.Shelf
attribute [local go_sem] Oper.semAt_some
end Go.Proofs.YthlcobdnemhcdaaGreat.K
noncomputable section
namespace Go.Proofs.YthlcobdnemhcdaaGreat.K
open Go.RowKit
end Go.Proofs.YthlcobdnemhcdaaGreat.K
noncomputable section
namespace Go.Proofs.YthlcobdnemhcdaaGreat.K
open Go.RowKit
end Go.Proofs.YthlcobdnemhcdaaGreat.K
