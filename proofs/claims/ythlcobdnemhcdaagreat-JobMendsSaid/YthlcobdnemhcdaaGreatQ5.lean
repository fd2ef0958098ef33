import Derived.Test.YthlcobdnemhcdaaGreatQ4
import Derived.Test.YthlcobdnemhcdaaGreatQ3
import Derived.Shelf.Small.Strs
import Derived.Ground.NamesProg
import Derived.RangeFuncCalls
import Derived.RangeFuncBound
import Derived.Shelf.RegionOpen
import Derived.OwnWalkIn
import Derived.TacticsInMore
import Derived.LoopNIn
import Derived.LoopIn
set_option linter.unusedSimpArgs false
set_option linter.unusedVariables false
noncomputable section
namespace Go.Proofs.YthlcobdnemhcdaaGreat.K
open Go.RowKit
noncomputable section
def YH (a:Int):Int:=(ofF a).1.2.1
def QAp:TC:=aF Tryz.f218 []
def g_f218:G:=gG 12 [(199,Qht)] (fun _ _=>none)
def r_f218 (p0:Int):OV:=some (.t tI ((((ofF p0).1).2).1),[])
theorem s_f218 (a:Int):r_f218 a=some (.t tI (YH a),[]):=rfl
def QaZ:Ent:=Qo (.pr tI .nil) (fun x=>true) (fun x=>(.t tI (YH x.1)))
theorem Qgu:EM 218 QaZ:=mS g_f218 QAp [((.t 2),some tI)] false (gB (gD Qp2 gN)) fun m=>Qt m fun x _=>kT (s_f218 x.1)
def Qo6:TC:=aF Tryz.f230 []
def Qo7:List (RV×Option Ty):=[((.t 0),some (.sl Uq))]
def Qo8:G:=gG 25 [] (fun _ _=>none)
def Qo9  : OV:=some (.t (.sl Uq) ([((ByteArray.mk #[]),(0,())),((ByteArray.mk #[109,100,53]),(1,())),((ByteArray.mk #[115,104,97,49]),(1,())),((ByteArray.mk #[115,104,97,50,53,54]),(1,())),((ByteArray.mk #[115,104,97,51,56,52]),(1,())),((ByteArray.mk #[114,115,97]),(2,())),((ByteArray.mk #[100,115,97]),(2,())),((ByteArray.mk #[101,99,100,115,97]),(2,())),((ByteArray.mk #[101,100,50,53,53,49,57]),(2,())),((ByteArray.mk #[109,108,100,115,97]),(2,())),((ByteArray.mk #[114,115,97,107,120]),(3,())),((ByteArray.mk #[100,104,101]),(3,())),((ByteArray.mk #[101,99,100,104,101]),(3,())),((ByteArray.mk #[109,108,107,101,109]),(3,())),((ByteArray.mk #[114,99,52]),(4,())),((ByteArray.mk #[100,101,115,51]),(4,())),((ByteArray.mk #[97,101,115,99,98,99]),(4,())),((ByteArray.mk #[97,101,115,103,99,109]),(4,())),((ByteArray.mk #[99,104,97,99,104,97]),(4,())),((ByteArray.mk #[104,109,97,99,109,100,53]),(5,())),((ByteArray.mk #[104,109,97,99,115,104,97,49]),(5,())),((ByteArray.mk #[104,109,97,99,115,104,97,50,53,54]),(5,())),((ByteArray.mk #[97,101,97,100]),(5,()))]),[])
theorem e_f230  : QP Qo8 Qo6 Qo7 false [] []=Qo9  :=by kernel_rfl
def Qa0:Ty.T (.sl Uq):=([((ByteArray.mk #[]),(0,())),((ByteArray.mk #[109,100,53]),(1,())),((ByteArray.mk #[115,104,97,49]),(1,())),((ByteArray.mk #[115,104,97,50,53,54]),(1,())),((ByteArray.mk #[115,104,97,51,56,52]),(1,())),((ByteArray.mk #[114,115,97]),(2,())),((ByteArray.mk #[100,115,97]),(2,())),((ByteArray.mk #[101,99,100,115,97]),(2,())),((ByteArray.mk #[101,100,50,53,53,49,57]),(2,())),((ByteArray.mk #[109,108,100,115,97]),(2,())),((ByteArray.mk #[114,115,97,107,120]),(3,())),((ByteArray.mk #[100,104,101]),(3,())),((ByteArray.mk #[101,99,100,104,101]),(3,())),((ByteArray.mk #[109,108,107,101,109]),(3,())),((ByteArray.mk #[114,99,52]),(4,())),((ByteArray.mk #[100,101,115,51]),(4,())),((ByteArray.mk #[97,101,115,99,98,99]),(4,())),((ByteArray.mk #[97,101,115,103,99,109]),(4,())),((ByteArray.mk #[99,104,97,99,104,97]),(4,())),((ByteArray.mk #[104,109,97,99,109,100,53]),(5,())),((ByteArray.mk #[104,109,97,99,115,104,97,49]),(5,())),((ByteArray.mk #[104,109,97,99,115,104,97,50,53,54]),(5,())),((ByteArray.mk #[97,101,97,100]),(5,()))])
theorem s_f230:Qo9=some (.t (.sl Uq) Qa0,[]):=rfl
def Qpa:Ent:=Qo .nil (fun x=>true) (fun x=>(.t (.sl Uq) Qa0))
theorem QAq:EM 230 Qpa:=mS Qo8 Qo6 Qo7 false (gB gN) fun m=>Qt m fun x _=>(e_f230 ).trans (s_f230)
def QAr:TC:=aF Tryz.f186 []
def g_f186:G:=gG 14 [(230,Qpa)] (fun _ _=>none)
def Qpb (p0:Int):OV:=br (ilt p0 1) (some (.t tI 0,[])) (br (igt p0 22) (some (.t tI 0,[])) (br (cIx Qa0 p0) (some (.t tI (((lgt Uq Qa0 (Int.toNat p0)).2).1),[])) none))
theorem QAs {a:Int}(h1:1<=a)(h2:a<=22):a=1∨a=2∨a=3∨a=4∨a=5∨a=6∨a=7∨a=8∨a=9∨a=10∨a=11∨a=12∨a=13∨a=14∨a=15∨a=16∨a=17∨a=18∨a=19∨a=20∨a=21∨a=22:=by omega
theorem s_f186 (a:Int):Qpb a=some (.t tI (YH a),[]):=by
 simp only [Qpb]
 refine QV (fun h1=> ?_) (fun h1=>QV (fun h2=> ?_) (fun h2=> ?_))
 ·have h1:a<1:=by simpa [ilt] using h1
  simp [YH,ofF,h1,Om]
 ·have h2:22<a:=by simpa [igt] using h2
  simp [YH,ofF,h2,Om]
 ·have h1: ¬ a<1:=by simpa [ilt] using h1
  have h2: ¬ 22<a:=by simpa [igt] using h2
  rcases QAs (a:=a) (by omega) (by omega) with rfl|rfl|rfl|rfl|rfl|rfl|rfl|rfl|rfl|rfl|rfl|rfl|rfl|rfl|rfl|rfl|rfl|rfl|rfl|rfl|rfl|rfl<;>rfl
def Qgv:Ent:=Qo (.pr tI .nil) (fun x=>true) (fun x=>(.t tI (YH x.1)))
theorem Qpc:EM 186 Qgv:=mS g_f186 QAr [((.t 2),some tI)] false (gB (gD QAq gN)) fun m=>Qt m fun x _=>kT (s_f186 x.1)
def Qv (a b:Int):Keep:=(a,(b,()))
def QAt:TC:=aF Tryz.f268 []
def g_f268:G:=gG 8 [] (fun _ _=>none)
def r_f268 (p0 p1:Int):OV:=some (.t Qi (p0,(p1,())),[])
theorem s_f268 (a b:Int):r_f268 a b=some (.t Qi (Qv a b),[]):=rfl
def Qpd:Ent:=Qo (.pr tI (.pr tI .nil)) (fun x=>true) (fun x=>(.t Qi (Qv x.1 x.2.1)))
theorem QAu:EM 268 Qpd:=mS g_f268 QAt [((.c 4 true 2),some Qi)] false (gB gN) fun m=>Qt m fun x _=>kT (s_f268 x.1 x.2.1)
def Yt (c:Int)(n:ByteArray)(e s f m:Keep)(l o:Int):Suite:=(c,(n,(e,(s,(f,(m,(l,(o,()))))))))
def Ug:Ty.T (.sl Zr):=
 let a1:=(Yt 9 (ByteArray.mk #[101,99,100,104,101,45,101,99,100,115,97,45,97,101,115,50,53,54,45,115,104,97,50,53,54]) (Qv 12 256) (Qv 7 0) (Qv 16 256) (Qv 21 0) 3 3)
 let a2:=(Yt 11 (ByteArray.mk #[101,99,100,104,101,45,101,99,100,115,97,45,97,101,115,50,53,54,45,103,99,109]) (Qv 12 384) (Qv 7 0) (Qv 17 256) (Qv 22 0) 3 3)
 let a3:=(Yt 10 (ByteArray.mk #[101,99,100,104,101,45,114,115,97,45,97,101,115,49,50,56,45,103,99,109]) (Qv 12 256) (Qv 5 0) (Qv 17 128) (Qv 22 0) 3 3)
 let a4:=(Yt 8 (ByteArray.mk #[101,99,100,104,101,45,114,115,97,45,97,101,115,49,50,56,45,115,104,97]) (Qv 12 256) (Qv 5 0) (Qv 16 128) (Qv 20 0) 1 3)
 let a5:=(Yt 7 (ByteArray.mk #[100,104,101,45,114,115,97,45,97,101,115,49,50,56,45,115,104,97]) (Qv 11 2048) (Qv 5 0) (Qv 16 128) (Qv 20 0) 1 3)
 let a6:=(Yt 16 (ByteArray.mk #[109,108,107,101,109,45,97,101,115,50,53,54,45,103,99,109]) (Qv 13 768) (0,(0,())) (Qv 17 256) (Qv 22 0) 4 4)
 let a7:=(Yt 4 (ByteArray.mk #[100,104,101,45,100,115,97,45,100,101,115,51,45,115,104,97]) (Qv 11 1024) (Qv 6 0) (Qv 15 168) (Qv 20 0) 1 3)
 let a8:=(Yt 5 (ByteArray.mk #[100,104,101,45,114,115,97,45,100,101,115,51,45,115,104,97]) (Qv 11 1024) (Qv 5 0) (Qv 15 168) (Qv 20 0) 1 3)
 let a9:=(Yt 12 (ByteArray.mk #[101,99,100,104,101,45,114,115,97,45,99,104,97,99,104,97]) (Qv 12 256) (Qv 5 0) (Qv 18 0) (Qv 22 0) 3 3)
 let a10:=(Yt 13 (ByteArray.mk #[114,115,97,45,97,101,115,50,53,54,45,103,99,109]) (Qv 10 0) (Qv 5 0) (Qv 17 256) (Qv 22 0) 3 3)
 let a11:=(Yt 6 (ByteArray.mk #[114,115,97,45,97,101,115,49,50,56,45,115,104,97]) (Qv 10 0) (Qv 5 0) (Qv 16 128) (Qv 20 0) 1 3)
 let a12:=(Yt 3 (ByteArray.mk #[114,115,97,45,100,101,115,51,45,115,104,97]) (Qv 10 0) (Qv 5 0) (Qv 15 168) (Qv 20 0) 1 3)
 let a13:=(Yt 1 (ByteArray.mk #[114,115,97,45,114,99,52,45,109,100,53]) (Qv 10 0) (Qv 5 0) (Qv 14 128) (Qv 19 0) 1 2)
 let a14:=(Yt 2 (ByteArray.mk #[114,115,97,45,114,99,52,45,115,104,97]) (Qv 10 0) (Qv 5 0) (Qv 14 128) (Qv 20 0) 1 3)
 let a15:=(Yt 14 (ByteArray.mk #[97,101,115,49,50,56,45,103,99,109]) (Qv 12 256) (0,(0,())) (Qv 17 128) (Qv 22 0) 4 4)
 let a16:=(Yt 15 (ByteArray.mk #[99,104,97,99,104,97]) (Qv 12 256) (0,(0,())) (Qv 18 0) (Qv 22 0) 4 4)
 let a17:=(((a13.2).2).2)
 let a18:=(((a14.2).2).2)
 let a19:=(((a12.2).2).2)
 let a20:=(((a11.2).2).2)
 let a21:=(((a10.2).2).2)
 let a22:=(((a15.2).2).2)
 let a23:=(((a16.2).2).2)
 let a24:=(((a7.2).2).2)
 let a25:=(((a8.2).2).2)
 let a26:=(((a5.2).2).2)
 let a27:=(((a4.2).2).2)
 let a28:=(((a1.2).2).2)
 let a29:=(((a3.2).2).2)
 let a30:=(((a2.2).2).2)
 let a31:=(((a9.2).2).2)
 let a32:=(((a6.2).2).2)
 ([(a13.1,((a13.2).1,(((((a13.2).2).1).1,(((((a13.2).2).1).2).1,())),(((a17.1).1,(((a17.1).2).1,())),((((a17.2).1).1,((((a17.2).1).2).1,())),(((((a17.2).2).1).1,(((((a17.2).2).1).2).1,())),((((a17.2).2).2).1,(((((a17.2).2).2).2).1,())))))))),(a14.1,((a14.2).1,(((((a14.2).2).1).1,(((((a14.2).2).1).2).1,())),(((a18.1).1,(((a18.1).2).1,())),((((a18.2).1).1,((((a18.2).1).2).1,())),(((((a18.2).2).1).1,(((((a18.2).2).1).2).1,())),((((a18.2).2).2).1,(((((a18.2).2).2).2).1,())))))))),(a12.1,((a12.2).1,(((((a12.2).2).1).1,(((((a12.2).2).1).2).1,())),(((a19.1).1,(((a19.1).2).1,())),((((a19.2).1).1,((((a19.2).1).2).1,())),(((((a19.2).2).1).1,(((((a19.2).2).1).2).1,())),((((a19.2).2).2).1,(((((a19.2).2).2).2).1,())))))))),(a7.1,((a7.2).1,(((((a7.2).2).1).1,(((((a7.2).2).1).2).1,())),(((a24.1).1,(((a24.1).2).1,())),((((a24.2).1).1,((((a24.2).1).2).1,())),(((((a24.2).2).1).1,(((((a24.2).2).1).2).1,())),((((a24.2).2).2).1,(((((a24.2).2).2).2).1,())))))))),(a8.1,((a8.2).1,(((((a8.2).2).1).1,(((((a8.2).2).1).2).1,())),(((a25.1).1,(((a25.1).2).1,())),((((a25.2).1).1,((((a25.2).1).2).1,())),(((((a25.2).2).1).1,(((((a25.2).2).1).2).1,())),((((a25.2).2).2).1,(((((a25.2).2).2).2).1,())))))))),(a11.1,((a11.2).1,(((((a11.2).2).1).1,(((((a11.2).2).1).2).1,())),(((a20.1).1,(((a20.1).2).1,())),((((a20.2).1).1,((((a20.2).1).2).1,())),(((((a20.2).2).1).1,(((((a20.2).2).1).2).1,())),((((a20.2).2).2).1,(((((a20.2).2).2).2).1,())))))))),(a5.1,((a5.2).1,(((((a5.2).2).1).1,(((((a5.2).2).1).2).1,())),(((a26.1).1,(((a26.1).2).1,())),((((a26.2).1).1,((((a26.2).1).2).1,())),(((((a26.2).2).1).1,(((((a26.2).2).1).2).1,())),((((a26.2).2).2).1,(((((a26.2).2).2).2).1,())))))))),(a4.1,((a4.2).1,(((((a4.2).2).1).1,(((((a4.2).2).1).2).1,())),(((a27.1).1,(((a27.1).2).1,())),((((a27.2).1).1,((((a27.2).1).2).1,())),(((((a27.2).2).1).1,(((((a27.2).2).1).2).1,())),((((a27.2).2).2).1,(((((a27.2).2).2).2).1,())))))))),(a1.1,((a1.2).1,(((((a1.2).2).1).1,(((((a1.2).2).1).2).1,())),(((a28.1).1,(((a28.1).2).1,())),((((a28.2).1).1,((((a28.2).1).2).1,())),(((((a28.2).2).1).1,(((((a28.2).2).1).2).1,())),((((a28.2).2).2).1,(((((a28.2).2).2).2).1,())))))))),(a3.1,((a3.2).1,(((((a3.2).2).1).1,(((((a3.2).2).1).2).1,())),(((a29.1).1,(((a29.1).2).1,())),((((a29.2).1).1,((((a29.2).1).2).1,())),(((((a29.2).2).1).1,(((((a29.2).2).1).2).1,())),((((a29.2).2).2).1,(((((a29.2).2).2).2).1,())))))))),(a2.1,((a2.2).1,(((((a2.2).2).1).1,(((((a2.2).2).1).2).1,())),(((a30.1).1,(((a30.1).2).1,())),((((a30.2).1).1,((((a30.2).1).2).1,())),(((((a30.2).2).1).1,(((((a30.2).2).1).2).1,())),((((a30.2).2).2).1,(((((a30.2).2).2).2).1,())))))))),(a9.1,((a9.2).1,(((((a9.2).2).1).1,(((((a9.2).2).1).2).1,())),(((a31.1).1,(((a31.1).2).1,())),((((a31.2).1).1,((((a31.2).1).2).1,())),(((((a31.2).2).1).1,(((((a31.2).2).1).2).1,())),((((a31.2).2).2).1,(((((a31.2).2).2).2).1,())))))))),(a10.1,((a10.2).1,(((((a10.2).2).1).1,(((((a10.2).2).1).2).1,())),(((a21.1).1,(((a21.1).2).1,())),((((a21.2).1).1,((((a21.2).1).2).1,())),(((((a21.2).2).1).1,(((((a21.2).2).1).2).1,())),((((a21.2).2).2).1,(((((a21.2).2).2).2).1,())))))))),(a15.1,((a15.2).1,(((((a15.2).2).1).1,(((((a15.2).2).1).2).1,())),(((a22.1).1,(((a22.1).2).1,())),((((a22.2).1).1,((((a22.2).1).2).1,())),(((((a22.2).2).1).1,(((((a22.2).2).1).2).1,())),((((a22.2).2).2).1,(((((a22.2).2).2).2).1,())))))))),(a16.1,((a16.2).1,(((((a16.2).2).1).1,(((((a16.2).2).1).2).1,())),(((a23.1).1,(((a23.1).2).1,())),((((a23.2).1).1,((((a23.2).1).2).1,())),(((((a23.2).2).1).1,(((((a23.2).2).1).2).1,())),((((a23.2).2).2).1,(((((a23.2).2).2).2).1,())))))))),(a6.1,((a6.2).1,(((((a6.2).2).1).1,(((((a6.2).2).1).2).1,())),(((a32.1).1,(((a32.1).2).1,())),((((a32.2).1).1,((((a32.2).1).2).1,())),(((((a32.2).2).1).1,(((((a32.2).2).1).2).1,())),((((a32.2).2).2).1,(((((a32.2).2).2).2).1,()))))))))])
abbrev Qgw:Suite:=Ty.zero Zr
def FV (k:Nat)(l:List Suite):List Suite:=(List.range' k (16-k)).foldl (fun l i=>l.set i (((i+1:Nat):Int),(l.getD i Qgw).2)) l
abbrev Qa1:Sh:=⟨[(15,.ms 111),(113,.ty tI),(114,.ty tI)],[(111,.arr 249 Zr)]⟩
abbrev Qpe:Sh:=⟨[(15,.ms 111)],[(111,.arr 249 Zr)]⟩
def Qgx:Fg:=Qa1.f
def Qgy:TC:=aF Tryz.f249 [(62,pD [(0,[1]),(1,[2]),(2,[]),(3,[11]),(4,[]),(5,[1]),(6,[2]),(7,[]),(8,[12]),(9,[]),(10,[1]),(11,[2]),(12,[6]),(13,[12]),(14,[]),(15,[]),(16,[3]),(17,[6]),(18,[12]),(19,[]),(20,[]),(21,[2]),(22,[6]),(23,[12]),(24,[]),(25,[1]),(26,[2]),(27,[7]),(28,[12]),(29,[]),(30,[]),(31,[2]),(32,[7]),(33,[12]),(34,[]),(35,[14]),(36,[2]),(37,[7]),(38,[12]),(39,[]),(40,[14]),(41,[4]),(42,[]),(43,[]),(44,[]),(45,[14]),(46,[2]),(47,[8]),(48,[13]),(49,[]),(50,[]),(51,[4]),(52,[9]),(53,[13]),(54,[]),(55,[14]),(56,[2]),(57,[10]),(58,[13]),(59,[]),(60,[1]),(61,[2]),(62,[9]),(63,[13]),(64,[]),(65,[14]),(66,[5]),(67,[8]),(68,[13]),(69,[]),(70,[14]),(71,[5]),(72,[10]),(73,[13]),(74,[]),(75,[]),(76,[5]),(77,[9]),(78,[13]),(79,[]),(80,[111,5111,10111,15111]),(81,[111])] (.of [0,1,2,3,4,5,6,7,8,9,10,11,12,13,14,15,16,17,18,19,20,21,22,23,24,25,26,27,28,29,30,31,32,33,34,35,36,37,38,39,40,41,42,43,44,45,46,47,48,49,50,51,52,53,54,55,56,57,58,59,60,61,62,63,64,65,66,67,68,69,70,71,72,73,74,75,76,77,78,79,80,81])),(506,pL 0 Qgx),(8101,.fg Qpe.f)]
def Qpf:TC:=lb 0 Qgy
def Qpg:List (RV×Option Ty):=[((.t 0),some (.sl Zr))]
def Qph (x113 x114:Int)(y111:List Suite):VS:=Qa1.st ((),x113,x114,()) (y111,())
def Qgz (y111:List Suite):VS:=Qpe.st ((),()) (y111,())
def QAv:VS->Option (Bool×List (Bool×Exit×VS)):=mkL Qa1 (fun x y=>(decide (0<=x.2.2.1/\x.2.2.1<=16/\x.2.1=16/\y.1.length=16))) (fun x y=>[(true,.exit 0,Qgz (FV x.2.2.1.toNat y.1))])
def Qa2:G:=⟨TYs,[111],125,EL [(268,Qpd)],keeps,(Ls [QAv]),IL [],RL []⟩
def Qa3 (x113 x114:Int)(y111:List Suite):OX:=QA (QC Qa2 Qgx Qpf) (Qph x113 x114 y111)
def Qa4 (kk:Int->Int->List Suite->OX)(x113 x114:Int)(y111:List Suite):OX:=
 let a1:=Int.toNat x114
 br (ilt x114 x113) (br (cIx y111 x114) (br (cLd y111 a1) (kk x113 (Qh .i64 x114 1) (List.set y111 a1 ((Qh .i64 x114 1),(lgt Zr y111 a1).2))) none) none) (some (.exit 0,Qgz y111))
def QgA (x113 x114:Int)(y111:List Suite):OX:=some (.exit 0,Qgz (FV x114.toNat y111))
theorem Qpi (x113 x114:Int)(y111:List Suite):Qa3 x113 x114 y111=Qa4 Qa3 x113 x114 y111:=lnT (x:=Qa4 (fun x113 x114 y111=>some (.normal,Qph x113 x114 y111)) x113 x114 y111) (by simp only [Qa4,nxA];rfl)
def Qpj  : OV:=
 let a1:=((Qv 5 0).1,(((Qv 5 0).2).1,()))
 let a2:=((Qv 20 0).1,(((Qv 20 0).2).1,()))
 let a3:=((Qv 22 0).1,(((Qv 22 0).2).1,()))
 let a4:=((Qv 12 256).1,(((Qv 12 256).2).1,()))
 let a5:=((Qv 10 0).1,(((Qv 10 0).2).1,()))
 let a6:=((Qv 15 168).1,(((Qv 15 168).2).1,()))
 let a7:=((Qv 16 128).1,(((Qv 16 128).2).1,()))
 let a8:=((Qv 17 256).1,(((Qv 17 256).2).1,()))
 let a9:=(ByteArray.mk #[101,99,100,104,101,45,101,99,100,115,97,45,97,101,115,50,53,54,45,115,104,97,50,53,54])
 let a10:=(ByteArray.mk #[101,99,100,104,101,45,101,99,100,115,97,45,97,101,115,50,53,54,45,103,99,109])
 let a11:=((Qv 11 1024).1,(((Qv 11 1024).2).1,()))
 let a12:=(ByteArray.mk #[101,99,100,104,101,45,114,115,97,45,97,101,115,49,50,56,45,115,104,97])
 let a13:=(ByteArray.mk #[101,99,100,104,101,45,114,115,97,45,97,101,115,49,50,56,45,103,99,109])
 let a14:=((Qv 14 128).1,(((Qv 14 128).2).1,()))
 let a15:=((Qv 17 128).1,(((Qv 17 128).2).1,()))
 let a16:=(ByteArray.mk #[100,104,101,45,114,115,97,45,97,101,115,49,50,56,45,115,104,97])
 let a17:=((Qv 18 0).1,(((Qv 18 0).2).1,()))
 let a18:=((Qv 7 0).1,(((Qv 7 0).2).1,()))
 let a19:=(ByteArray.mk #[100,104,101,45,100,115,97,45,100,101,115,51,45,115,104,97])
 let a20:=(ByteArray.mk #[100,104,101,45,114,115,97,45,100,101,115,51,45,115,104,97])
 let a21:=(ByteArray.mk #[109,108,107,101,109,45,97,101,115,50,53,54,45,103,99,109])
 let a22:=(ByteArray.mk #[101,99,100,104,101,45,114,115,97,45,99,104,97,99,104,97])
 let a23:=(ByteArray.mk #[114,115,97,45,97,101,115,49,50,56,45,115,104,97])
 let a24:=(ByteArray.mk #[114,115,97,45,97,101,115,50,53,54,45,103,99,109])
 let a25:=(ByteArray.mk #[114,115,97,45,100,101,115,51,45,115,104,97])
 let a26:=(ByteArray.mk #[114,115,97,45,114,99,52,45,109,100,53])
 let a27:=(ByteArray.mk #[114,115,97,45,114,99,52,45,115,104,97])
 let a28:=(ByteArray.mk #[97,101,115,49,50,56,45,103,99,109])
 let a29:=((Qv 11 2048).1,(((Qv 11 2048).2).1,()))
 let a30:=((Qv 16 256).1,(((Qv 16 256).2).1,()))
 let a31:=((Qv 12 384).1,(((Qv 12 384).2).1,()))
 let a32:=((Qv 13 768).1,(((Qv 13 768).2).1,()))
 let a33:=(ByteArray.mk #[99,104,97,99,104,97])
 let a34:=((Qv 19 0).1,(((Qv 19 0).2).1,()))
 let a35:=((Qv 21 0).1,(((Qv 21 0).2).1,()))
 let a36:=((Qv 6 0).1,(((Qv 6 0).2).1,()))
 br (decide (0<=(0:Int)/\(0:Int)<=16/\(Qc ([(0,(a26,(a5,(a1,(a14,(a34,(1,(2,())))))))),(0,(a27,(a5,(a1,(a14,(a2,(1,(3,())))))))),(0,(a25,(a5,(a1,(a6,(a2,(1,(3,())))))))),(0,(a19,(a11,(a36,(a6,(a2,(1,(3,())))))))),(0,(a20,(a11,(a1,(a6,(a2,(1,(3,())))))))),(0,(a23,(a5,(a1,(a7,(a2,(1,(3,())))))))),(0,(a16,(a29,(a1,(a7,(a2,(1,(3,())))))))),(0,(a12,(a4,(a1,(a7,(a2,(1,(3,())))))))),(0,(a9,(a4,(a18,(a30,(a35,(3,(3,())))))))),(0,(a13,(a4,(a1,(a15,(a3,(3,(3,())))))))),(0,(a10,(a31,(a18,(a8,(a3,(3,(3,())))))))),(0,(a22,(a4,(a1,(a17,(a3,(3,(3,())))))))),(0,(a24,(a5,(a1,(a8,(a3,(3,(3,())))))))),(0,(a28,(a4,((0,(0,())),(a15,(a3,(4,(4,())))))))),(0,(a33,(a4,((0,(0,())),(a17,(a3,(4,(4,())))))))),(0,(a21,(a32,((0,(0,())),(a8,(a3,(4,(4,()))))))))]))=16/\([(0,(a26,(a5,(a1,(a14,(a34,(1,(2,())))))))),(0,(a27,(a5,(a1,(a14,(a2,(1,(3,())))))))),(0,(a25,(a5,(a1,(a6,(a2,(1,(3,())))))))),(0,(a19,(a11,(a36,(a6,(a2,(1,(3,())))))))),(0,(a20,(a11,(a1,(a6,(a2,(1,(3,())))))))),(0,(a23,(a5,(a1,(a7,(a2,(1,(3,())))))))),(0,(a16,(a29,(a1,(a7,(a2,(1,(3,())))))))),(0,(a12,(a4,(a1,(a7,(a2,(1,(3,())))))))),(0,(a9,(a4,(a18,(a30,(a35,(3,(3,())))))))),(0,(a13,(a4,(a1,(a15,(a3,(3,(3,())))))))),(0,(a10,(a31,(a18,(a8,(a3,(3,(3,())))))))),(0,(a22,(a4,(a1,(a17,(a3,(3,(3,())))))))),(0,(a24,(a5,(a1,(a8,(a3,(3,(3,())))))))),(0,(a28,(a4,((0,(0,())),(a15,(a3,(4,(4,())))))))),(0,(a33,(a4,((0,(0,())),(a17,(a3,(4,(4,())))))))),(0,(a21,(a32,((0,(0,())),(a8,(a3,(4,(4,()))))))))]).length=16)) (some (.t (.sl Zr) (FV (0:Int).toNat ([(0,(a26,(a5,(a1,(a14,(a34,(1,(2,())))))))),(0,(a27,(a5,(a1,(a14,(a2,(1,(3,())))))))),(0,(a25,(a5,(a1,(a6,(a2,(1,(3,())))))))),(0,(a19,(a11,(a36,(a6,(a2,(1,(3,())))))))),(0,(a20,(a11,(a1,(a6,(a2,(1,(3,())))))))),(0,(a23,(a5,(a1,(a7,(a2,(1,(3,())))))))),(0,(a16,(a29,(a1,(a7,(a2,(1,(3,())))))))),(0,(a12,(a4,(a1,(a7,(a2,(1,(3,())))))))),(0,(a9,(a4,(a18,(a30,(a35,(3,(3,())))))))),(0,(a13,(a4,(a1,(a15,(a3,(3,(3,())))))))),(0,(a10,(a31,(a18,(a8,(a3,(3,(3,())))))))),(0,(a22,(a4,(a1,(a17,(a3,(3,(3,())))))))),(0,(a24,(a5,(a1,(a8,(a3,(3,(3,())))))))),(0,(a28,(a4,((0,(0,())),(a15,(a3,(4,(4,())))))))),(0,(a33,(a4,((0,(0,())),(a17,(a3,(4,(4,())))))))),(0,(a21,(a32,((0,(0,())),(a8,(a3,(4,(4,()))))))))])),[])) none
theorem e_f249  : QP Qa2 Qgy Qpg false [] []=Qpj  :=by kernel_rfl
theorem QAw (x113 x114:Int)(y111:List Suite)(h:(decide (0<=x114/\x114<=16/\x113=16/\y111.length=16))=true):Qa3 x113 x114 y111=QgA x113 x114 y111:=by
 simp only [Ba] at h
 obtain ⟨h1,h2,rfl,h4⟩:=h
 obtain ⟨k,rfl⟩:=Bu h1
 revert y111
 refine Qae 16 (fun k=> ∀ y111:List Suite,y111.length=16->Qa3 16 (k:Int) y111=QgA 16 (k:Int) y111) ?_ ?_ k (by omega)
 ·intro y111 _
  rw [Qpi]
  rfl
 ·intro k hk ih y111 hy
  rw [Qpi]
  have e1:ilt (k:Int) 16=true:=Be (by omega)
  have e2:cLd y111 k=true:=Be (by omega)
  have e3:FV k y111=FV (k+1) (y111.set k (((k+1:Nat):Int),(y111.getD k Qgw).2)):=by
   have:16-k=(16-(k+1))+1:=by omega
   unfold FV
   rw [this,List.range'_succ,Dt]
  simp only [Qa4,e1,Qf,QI,show decide (k<y111.length)=true from Be (by omega),Bd,e2,QW (show k<4611686018427387904 by omega)]
  rw [ih _ (by rw [List.length_set];exact hy)]
  simp only [QgA,Bd,e3]
theorem QAx:LO Qa2 Qgx Qpf 0:=QN (s:=Qa1) fun x y h _ q=>by simp only [QK,QL] at q;exact (QAw x.2.1 x.2.2.1 y.1 h).trans q
set_option maxRecDepth 100000 in
theorem s_f249:Qpj=some (.t (.sl Zr) Ug,[]):=by kernel_rfl
def Qpk:Ent:=Qo .nil (fun x=>true) (fun x=>(.t (.sl Zr) Ug))
theorem QAy:EM 249 Qpk:=mS (lk:=lkL (lkc QAx lkn)) Qa2 Qgy Qpg false (Jw _ (gA (gD QAu gN))) fun m=>Qt m fun x _=>(e_f249 ).trans (s_f249)
theorem QAz:(List.length (α:=Zr.T) Ug)=16:=by kernel_rfl
theorem Qpl:Qc (α:=Zr.T) Ug=16:=by kernel_rfl
theorem QAA {c:Int}(h:1<=c/\c<=16):cIx (α:=Zr.T) Ug (c-1)=true:=by
 have:=QAz
 simp only [cIx,Ba]
 omega
def Yu (c:Int):Suite×Int:=if c<1∨16<c then (Qgw,8) else (lgt Zr Ug (c-1).toNat,0)
def QAB:TC:=aF Tryz.f217 []
def g_f217:G:=gG 20 [(249,Qpk)] (fun _ _=>none)
def Qpm (p0:Int):OV:=br (ilt p0 1) (some (.tu [(.t Zr (0,((ByteArray.mk #[]),((0,(0,())),((0,(0,())),((0,(0,())),((0,(0,())),(0,(0,()))))))))),(.t tI 8)],[])) (br (igt p0 (Qc Ug)) (some (.tu [(.t Zr (0,((ByteArray.mk #[]),((0,(0,())),((0,(0,())),((0,(0,())),((0,(0,())),(0,(0,()))))))))),(.t tI 8)],[])) (br (cIx Ug (Qs .i64 p0 1)) (some (.tu [(.t Zr (lgt Zr Ug (Int.toNat (Qs .i64 p0 1)))),(.t tI 0)],[])) none))
theorem s_f217 (c:Int):Qpm c=some (.tu [.t Zr (Yu c).1,.t tI (Yu c).2],[]):=by
 simp only [Qpm]
 unfold Yu
 refine QV (fun h1=> ?_) (fun h1=>QV (fun h2=> ?_) (fun h2=> ?_))
 ·simp only [ilt,Ba] at h1
  rw [if_pos (.inl h1)]
  rfl
 ·have h2:=BJ h2
  have:=Qpl
  rw [if_pos (.inr (by omega))]
  rfl
 ·simp only [ilt,Bn] at h1
  have h2:=Du h2
  have:=Qpl
  rw [if_neg (by omega),J5 (by omega),QAA (by omega),Qf]
def Qpn:Ent:=Qo (.pr tI .nil) (fun x=>true) (fun x=>(.tu [(.t Zr ((Yu x.1).1)),(.t tI ((Yu x.1).2))]))
theorem QAC:EM 217 Qpn:=mS g_f217 QAB [((.c 2 true 12),some Zr),((.t 3),some tI)] false (gB (gD QAy gN)) fun m=>Qt m fun x _=>kT (s_f217 x.1)
theorem QAD (a b:Keep):(and (ieq a.1 b.1) (and (ieq a.2.1 b.2.1) true))=(a==b):=by
 obtain ⟨a1,a2,_⟩:=a
 obtain ⟨b1,b2,_⟩:=b
 show _=((a1==b1)&&((a2==b2)&&true))
 rfl
end
end Go.Proofs.YthlcobdnemhcdaaGreat.K
noncomputable section
namespace Go.Proofs.YthlcobdnemhcdaaGreat.K
open Go.RowKit
noncomputable section
theorem QaB (a b:Int):ige a b= !ilt a b:=by
 simp only [ige,ilt]
 rw [DB]
 simp
theorem QfS (a b:Int):ile a b= !igt a b:=by
 simp only [ile,igt]
 rw [DB]
 simp
theorem QfT (a b:Int):ine a b= !ieq a b:=rfl
theorem brB {q r:Bool}{X:OV}(h:X=some (.t .bool r,[])):br q (some (.t .bool false,[])) X=some (.t .bool (!q&&r),[]):=by
 subst h
 cases q<;>rfl
theorem brA {q r:Bool}{X:OV}(h:X=some (.t .bool r,[])):br q X (some (.t .bool false,[]))=some (.t .bool (q&&r),[]):=by
 subst h
 cases q<;>rfl
theorem br9 {q v:Bool}{n:Int}{X:OV}(h0:q=true->v=false)(hX:q=false->X=some (.t tI (bif v then 0 else n),[])):br q (some (.t tI n,[])) X=some (.t tI (bif v then 0 else n),[]):=by
 cases q with
 |true=>rw [Qf,h0 rfl];rfl
 |false=>rw [Qj,hX rfl]
open Classical in
def Xb {α:Type}(a b:α):Bool:=decide (a=b)
theorem QfU {α:Type}(a:α):Xb a a=true:=by
 unfold Xb
 simp
theorem QfV {α:Type}{a b:α}(h:Xb a b=true):a=b:=by
 unfold Xb at h
 simpa using h
def ZB (n:Int):Bool:= !ilt n 0&& !igt n 2147483648
def QzG:TC:=aF Tryz.f175 []
def g_f175:G:=gG 9 [] (fun _ _=>none)
def Qn7 (p0:Int):OV:=br (ige p0 0) (some (.t .bool (ile p0 2147483648),[])) (some (.t .bool false,[]))
theorem s_f175 (n:Int):Qn7 n=some (.t .bool (ZB n),[]):=by
 simp only [Qn7,QaB,QfS]
 exact brA rfl
def QaC:Ent:=Qo (.pr tI .nil) (fun x=>true) (fun x=>(.t .bool (ZB x.1)))
theorem QfW:EM 175 QaC:=mS g_f175 QzG [((.t 2),some .bool)] false (gB gN) fun m=>Qt m fun x _=>kT (s_f175 x.1)
def U5 (n:Int):Bool:= !ilt n 0&& !ige n 4294967296
def QzH:TC:=aF Tryz.f271 []
def g_f271:G:=gG 9 [] (fun _ _=>none)
def Qn8 (p0:Int):OV:=br (ige p0 0) (some (.t .bool (ilt p0 4294967296),[])) (some (.t .bool false,[]))
theorem s_f271 (n:Int):Qn8 n=some (.t .bool (U5 n),[]):=by
 simp only [Qn8,U5,QaB,Bool.not_not]
 exact brA rfl
def Qn9:Ent:=Qo (.pr tI .nil) (fun x=>true) (fun x=>(.t .bool (U5 x.1)))
theorem QzI:EM 271 Qn9:=mS g_f271 QzH [((.t 2),some .bool)] false (gB gN) fun m=>Qt m fun x _=>kT (s_f271 x.1)
def Yr (l:List ByteArray)(k:Nat):Bool:=(List.range' k (l.length-k)).all fun j=>JL (l.getD j ByteArray.empty)&&(decide (j=0)||slt (l.getD (j-1) ByteArray.empty) (l.getD j ByteArray.empty))
theorem Qoa (l:List ByteArray):Yr l l.length=true:=by
 unfold Yr
 rw [DV]
 rfl
theorem Qob {l:List ByteArray}{k:Nat}(hk:k<l.length):Yr l k=((JL l[k]&&(decide (k=0)||slt (l.getD (k-1) ByteArray.empty) l[k]))&&Yr l (k+1)):=by
 have:l.length-k=(l.length-(k+1))+1:=by omega
 unfold Yr
 rw [this,List.range'_succ,B9]
 simp only [Bm,Bj hk,BU]
def Wt (l:List ByteArray):Bool:=Yr l 0&& !igt (Qc l) 8
def YG (l:List ByteArray):Bool:=decide (l.length<=100000)&&l.all Jz
abbrev QaD:Sh:=⟨[(0,.ty (.sl .str)),(5,.ty (.sl .str)),(6,.ty tI),(7,.ty tI)],[]⟩
abbrev Qoc:Sh:=⟨[(2,.ty .bool)],[]⟩
abbrev Qod:Sh:=⟨[(0,.ty (.sl .str))],[]⟩
def QfX:Fg:=QaD.f
def Qoe:TC:=aF Tryz.f269 [(26,pL 0 QfX),(421,.fg Qod.f),(13517,.fg Qoc.f)]
def Qof:TC:=lb 0 Qoe
def Qog (x0 x5:List ByteArray)(x6 x7:Int):VS:=QaD.st (x0,x5,x6,x7,()) ()
def QaE (x2:Bool):VS:=Qoc.st (x2,()) ()
def QfY (x0:List ByteArray):VS:=Qod.st (x0,()) ()
def QzJ:VS->Option (Bool×List (Bool×Exit×VS)):=mkL QaD (fun x y=>(Qy x.2.1 x.2.2.1 x.2.2.2.1&&Xb x.1 x.2.1&&YG x.2.1)) (fun x y=>[((!Yr x.2.1 x.2.2.2.1.toNat),.ret,QaE (false)),(true,.exit 0,QfY (x.1))])
def QfZ:G:=gG 32 [(178,Qd2)] (Ls [QzJ])
def QaF (x0 x5:List ByteArray)(x6 x7:Int):OX:=QA (QC QfZ QfX Qof) (Qog x0 x5 x6 x7)
def IV (kk:List ByteArray->List ByteArray->Int->Int->OX)(x0 x5:List ByteArray)(x6 x7:Int):OX:=
 let a1:=lgt .str x5 (Int.toNat x7)
 br (ilt x7 x6) (br (cIx x5 x7) (br (Jz a1) (br (!(JL a1)) (some (.ret,QaE false)) (br (igt x7 0) (br (cIx x0 (Qs .i64 x7 1)) (br (!slt (lgt .str x0 (Int.toNat (Qs .i64 x7 1))) a1) (some (.ret,QaE false)) (kk x0 x5 x6 (Qh .i64 x7 1))) none) (kk x0 x5 x6 (Qh .i64 x7 1)))) none) none) (some (.exit 0,QfY x0))
def QaG (x0 x5:List ByteArray)(x6 x7:Int):OX:=br (!Yr x5 x7.toNat) (some (.ret,QaE (false)))<|some (.exit 0,QfY (x0))
theorem Qoh (x0 x5:List ByteArray)(x6 x7:Int):QaF x0 x5 x6 x7=IV QaF x0 x5 x6 x7:=lnT (x:=IV (fun x0 x5 x6 x7=>some (.normal,Qog x0 x5 x6 x7)) x0 x5 x6 x7) (by simp only [IV,nxA];rfl)
def Qoi (p0:List ByteArray):OV:=br (Qy p0 (Qc p0) (0:Int)&&Xb p0 p0&&YG p0) (br (!Yr p0 (0:Int).toNat) (some (.t .bool (false),[])) (some (.t .bool (ile (Qc (p0)) 8),[]))) none
theorem Qoj {l:List ByteArray}{k:Nat}(h:0<k)(hk:k<l.length):lgt .str l (Int.toNat (Qs .i64 (k:Int) 1))=l.getD (k-1) ByteArray.empty/\cIx l (Qs .i64 (k:Int) 1)=decide (k-1<l.length)∨4611686018427387904<=k:=by
 rcases Dc k 4611686018427387904 with hb|hb
 ·left
  have e:Qs .i64 (k:Int) 1=((k-1:Nat):Int):=by rw [J5 (by omega)];omega
  rw [e,Bd,QI]
  exact ⟨rfl,rfl⟩
 ·exact .inr hb
theorem QzK (x0 x5:List ByteArray)(x6 x7:Int)(h:(Qy x5 x6 x7&&Xb x0 x5&&YG x5)=true):QaF x0 x5 x6 x7=QaG x0 x5 x6 x7:=by
 simp only [Bb] at h
 obtain ⟨⟨h0,hs⟩,hn⟩:=h
 have hs:=QfV hs
 subst hs
 obtain ⟨rfl,h3,k,rfl,hk⟩:=JR h0
 clear h0
 simp only [YG,Bb,Bh] at hn
 refine Q5 x0 (fun k=>QaF x0 x0 (x0.length:Int) (k:Int)=QaG x0 x0 (x0.length:Int) (k:Int)) ?_ ?_ k hk
 ·rw [Qoh]
  simp only [IV,QaG,QD,BX,BW,Qj,Bd,Qoa,BK]
 ·intro k hk ih
  rw [Qoh]
  have hx:=hn.2 x0[k] (Bx hk)
  simp only [IV,QD,QI,hk,Br,Qf,Bd,QW (show k<4611686018427387904 by omega),QO (y:= .str) hk,hx,ih]
  simp only [QaG,Bd,Qob hk]
  cases hg:JL x0[k] with
  |false=>rfl
  |true=>
   simp only [BK,Qj,By]
   by_cases h0:k=0
   ·subst h0
    simp only [show igt ((0:Nat):Int) 0=false from rfl,Qj,Br,Bool.true_or,By]
   ·rcases Qoj (l:=x0) (k:=k) (by omega) hk with ⟨e1,e2⟩|hb
    ·rw [show igt (k:Int) 0=true from Be (by omega),Qf,e2,Be (show k-1<x0.length by omega),Qf,e1,Bp h0,Dr]
     cases slt (x0.getD (k-1) ByteArray.empty) x0[k]<;>rfl
    ·omega
theorem QzL:LO QfZ QfX Qof 0:=QN (s:=QaD) fun x y h _ q=>by simp only [QK,QL] at q;exact (QzK x.1 x.2.1 x.2.2.1 x.2.2.2.1 h).trans q
theorem s_f269 (l:List ByteArray)(h:YG l=true):Qoi l=some (.t .bool (Wt l),[]):=by
 have hl:l.length<=100000:=by simp only [YG,Bb,Ba] at h;exact h.1
 simp only [Qoi,JS hl,QfU,h,B2,Qf,BC,QfS,Wt]
 cases Yr l 0<;>rfl
def Qok:Ent:=Qo (.pr (.sl .str) .nil) (fun x=>(YG x.1)) (fun x=>(.t .bool (Wt x.1)))
theorem QzM:EM 269 Qok:=mS (lk:=lkL (lkc QzL lkn)) QfZ Qoe [((.t 2),some .bool)] false (gB (gD Qlc gN)) fun m=>Qt m fun x hok=>kT (s_f269 x.1 hok)
def Ys (u:Keep)(k:Int):Bool:=Je u&&ieq (YH u.1) k
def QzN:TC:=aF Tryz.f270 []
def g_f270:G:=gG 14 [(92,Gm),(218,QaZ)] (fun _ _=>none)
def Qol (p0:Keep)(p1:Int):OV:=br (Je p0) (some (.t .bool (ieq (YH p0.1) p1),[])) (some (.t .bool false,[]))
theorem s_f270 (u:Keep)(k:Int):Qol u k=some (.t .bool (Ys u k),[]):=by
 simp only [Qol]
 exact brA rfl
def Qom:Ent:=Qo (.pr Qi (.pr tI .nil)) (fun x=>true) (fun x=>(.t .bool (Ys x.1 x.2.1)))
theorem QzO:EM 270 Qom:=mS g_f270 QzN [((.t 4),some .bool)] false (gB (gD G9 (gD Qgu gN))) fun m=>Qt m fun x _=>kT (s_f270 x.1 x.2.1)
def IW (u:Keep):Bool:=Ys u 2
def QzP:TC:=aF Tryz.f229 []
def g_f229:G:=gG 11 [(105,OL),(186,Qgv)] (fun _ _=>none)
def Qon (p0:Keep):OV:=br (Je p0) (some (.t .bool (ieq (YH p0.1) 2),[])) (some (.t .bool false,[]))
theorem s_f229 (u:Keep):Qon u=some (.t .bool (IW u),[]):=by
 simp only [Qon]
 exact brA rfl
def Qoo:Ent:=Qo (.pr Qi .nil) (fun x=>true) (fun x=>(.t .bool (IW x.1)))
theorem QzQ:EM 229 Qoo:=mS g_f229 QzP [((.t 2),some .bool)] false (gB (gD Qcc (gD Qpc gN))) fun m=>Qt m fun x _=>kT (s_f229 x.1)
abbrev QZ (c:Certificate):List ByteArray:=c.2.2.2.2.2.2.2.2.2.2.1
abbrev Wu (c:Certificate):Keep:=c.2.2.2.2.2.2.2.2.2.2.2.1
def J1 (c:Certificate):Bool:=Jz c.2.1&&(Jz c.2.2.1&&YG (QZ c))
def QX (c:Certificate):Bool:=
 !ilt c.1 0&&(!igt c.1 1099511627776&&(JL c.2.1&&(JL c.2.2.1&&(Wt (QZ c)&&(Ys c.2.2.2.1 2&&(ZB c.2.2.2.2.1&&(Ys c.2.2.2.2.2.1 1&&(ZB (Wu c).1&&(U5 (Wu c).2.1&&
 (!ilt c.2.2.2.2.2.2.1 0&&(!igt c.2.2.2.2.2.2.1 c.2.2.2.2.2.2.2.1&&(!igt c.2.2.2.2.2.2.2.1 40000&&(!ilt c.2.2.2.2.2.2.2.2.2.1 0&&(!igt c.2.2.2.2.2.2.2.2.2.1 8&&(c.2.2.2.2.2.2.2.2.1||ieq c.2.2.2.2.2.2.2.2.2.1 0)))))))))))))))
def QzR:TC:=aF Tryz.f250 []
def g_f250:G:=gG 91 [(175,QaC),(178,Qd2),(269,Qok),(270,Qom),(271,Qn9)] (fun _ _=>none)
def Qop (p0:Certificate):OV:=br (ilt p0.1 0) (some (.t .bool false,[])) (br (igt p0.1 1099511627776) (some (.t .bool false,[])) (br (Jz p0.2.1) (br (!(JL p0.2.1)) (some (.t .bool false,[])) (br (Jz p0.2.2.1) (br (!(JL p0.2.2.1)) (some (.t .bool false,[])) (br (YG p0.2.2.2.2.2.2.2.2.2.2.1) (br (!(Wt p0.2.2.2.2.2.2.2.2.2.2.1)) (some (.t .bool false,[])) (br (!(Ys p0.2.2.2.1 2)) (some (.t .bool false,[])) (br (!(ZB p0.2.2.2.2.1)) (some (.t .bool false,[])) (br (!(Ys p0.2.2.2.2.2.1 1)) (some (.t .bool false,[])) (br (!(ZB p0.2.2.2.2.2.2.2.2.2.2.2.1.1)) (some (.t .bool false,[])) (br (!(U5 p0.2.2.2.2.2.2.2.2.2.2.2.1.2.1)) (some (.t .bool false,[])) (br (ilt p0.2.2.2.2.2.2.1 0) (some (.t .bool false,[])) (br (igt p0.2.2.2.2.2.2.1 p0.2.2.2.2.2.2.2.1) (some (.t .bool false,[])) (br (igt p0.2.2.2.2.2.2.2.1 40000) (some (.t .bool false,[])) (br (ige p0.2.2.2.2.2.2.2.2.2.1 0) (br (ile p0.2.2.2.2.2.2.2.2.2.1 8) (br (p0.2.2.2.2.2.2.2.2.1) (some (.t .bool true,[])) (some (.t .bool (ieq p0.2.2.2.2.2.2.2.2.2.1 0),[]))) (some (.t .bool false,[]))) (some (.t .bool false,[])))))))))))) none)) none)) none))
theorem s_f250 (c:Certificate)(h:J1 c=true):Qop c=some (.t .bool (QX c),[]):=by
 simp only [J1,Bb] at h
 obtain ⟨h1,h2,h3⟩:=h
 simp only [Qop,h1,h2,h3,Qf,QaB,QfS]
 refine (brB<|brB<|brB<|brB<|brB<|brB<|brB<|brB<|brB<|brB<|brB<|brB<|brB<|brA<|brA (r:=c.2.2.2.2.2.2.2.2.1||ieq c.2.2.2.2.2.2.2.2.2.1 0) ?_).trans ?_
 ·cases c.2.2.2.2.2.2.2.2.1<;>rfl
 ·simp only [Bool.not_not,QX]
def Qoq:Ent:=Qo (.pr Jg .nil) (fun x=>(J1 x.1)) (fun x=>(.t .bool (QX x.1)))
theorem QzS:EM 250 Qoq:=mS g_f250 QzR [((.t 2),some .bool)] false (gB (gD QfW (gD Qlc (gD QzM (gD QzO (gD QzI gN)))))) fun m=>Qt m fun x hok=>kT (s_f250 x.1 hok)
def XT (c:Certificate):Int:=bif QX c then 0 else 9
theorem QaH (c:Certificate):ine (XT c) 0= !QX c:=by
 unfold XT
 cases QX c<;>rfl
def QzT:TC:=aF Tryz.f219 []
def g_f219:G:=gG 6 [(250,Qoq)] (fun _ _=>none)
def Qor (p0:Certificate):OV:=br (J1 p0) (br (!(QX p0)) (some (.t tI 9,[])) (some (.t tI 0,[]))) none
theorem s_f219 (c:Certificate)(h:J1 c=true):Qor c=some (.t tI (XT c),[]):=by
 simp only [Qor,h,Qf,XT]
 cases QX c<;>rfl
def Qos:Ent:=Qo (.pr Jg .nil) (fun x=>(J1 x.1)) (fun x=>(.t tI (XT x.1)))
theorem QzU:EM 219 Qos:=mS g_f219 QzT [((.t 2),some tI)] false (gB (gD QzS gN)) fun m=>Qt m fun x hok=>kT (s_f219 x.1 hok)
abbrev QaI:Sh:=⟨[(1,.ptr 1 0),(3,.ty tI)],[(1,.box Jg)]⟩
abbrev Qot:Sh:=⟨[(2,.ty tI)],[]⟩
abbrev Qou:Sh:=⟨[(1,.ptr 1 0)],[(1,.box Jg)]⟩
def Qf0:Fg:=QaI.f
def Qov:TC:=aF Tryz.f192 [(250,pL 0 Qf0),(4003,.fg Qou.f),(8008,pD [(0,[1]),(1,[1]),(2,[]),(3,[]),(4,[]),(5,[]),(6,[]),(7,[]),(8,[]),(9,[]),(10,[]),(11,[1]),(12,[1]),(13,[]),(14,[]),(15,[]),(16,[]),(17,[1]),(18,[1]),(19,[]),(20,[]),(21,[]),(22,[]),(23,[]),(24,[])] (.of [0,1,2,3,4,5,6,7,8,9,10,11,12,13,14,15,16,17,18,19,20,21,22,23,24])),(32037,.fg Qot.f)]
def Qow:TC:=lb 0 Qov
def Qox (x3:Int)(y1:Certificate):VS:=QaI.st ((),x3,()) (y1,())
def QaJ (x2:Int):VS:=Qot.st (x2,()) ()
def Qf1 (y1:Certificate):VS:=Qou.st ((),()) (y1,())
def QzV:VS->Option (Bool×List (Bool×Exit×VS)):=mkL QaI (fun x y=>(decide (0<=x.2.1/\x.2.1<=(QZ y.1).length)&&YG (QZ y.1))) (fun x y=>[((!Yr (QZ y.1) x.2.1.toNat),.ret,QaJ (9)),(true,.exit 0,Qf1 (y.1))])
def Qf2:G:=gG 146 [(105,OL),(186,Qgv),(187,Qlg),(229,Qoo)] (Ls [QzV])
def QaK (x3:Int)(y1:Certificate):OX:=QA (QC Qf2 Qf0 Qow) (Qox x3 y1)
def IX (kk:Int->Certificate->OX)(x3:Int)(y1:Certificate):OX:=
 let a1:=lgt .str y1.2.2.2.2.2.2.2.2.2.2.1 (Int.toNat x3)
 let a2:=cIx y1.2.2.2.2.2.2.2.2.2.2.1 x3
 br (ilt x3 (Qc y1.2.2.2.2.2.2.2.2.2.2.1)) (br a2 (br (Jz a1) (br (!(JL a1)) (some (.ret,QaJ 9)) (br (igt x3 0) (br (cIx y1.2.2.2.2.2.2.2.2.2.2.1 (Qs .i64 x3 1)) (br a2 (br (!slt (lgt .str y1.2.2.2.2.2.2.2.2.2.2.1 (Int.toNat (Qs .i64 x3 1))) a1) (some (.ret,QaJ 9)) (kk (Qh .i64 x3 1) y1)) none) none) (kk (Qh .i64 x3 1) y1))) none) none) (some (.exit 0,Qf1 y1))
def QaL (x3:Int)(y1:Certificate):OX:=br (!Yr (QZ y1) x3.toNat) (some (.ret,QaJ (9)))<|some (.exit 0,Qf1 (y1))
theorem Qoy (x3:Int)(y1:Certificate):QaK x3 y1=IX QaK x3 y1:=lnT (x:=IX (fun x3 y1=>some (.normal,Qox x3 y1)) x3 y1) (by simp only [IX,nxA];rfl)
def Qf3 (p0:Certificate):OV:=
 let a1:=(((((((((((((p0).2).2).2).2).2).2).2).2).2).2).2).1)
 br (igt (Qc p0.2.2.2.2.2.2.2.2.2.2.1) 8) (some (.t tI 9,[])) (br (decide (0<=(0:Int)/\(0:Int)<=(QZ p0).length)&&YG (QZ p0)) (br (!Yr (QZ p0) (0:Int).toNat) (some (.t tI (9),[])) (br (ilt (a1.1) 0) (some (.t tI 9,[])) (br (igt (a1.1) 2147483648) (some (.t tI 9,[])) (br (ilt ((a1.2).1) 0) (some (.t tI 9,[])) (br (ige ((a1.2).1) 4294967296) (some (.t tI 9,[])) (some (.t tI 0,[]))))))) none)
def Qoz (p0:Certificate):OV:=br (ilt p0.1 0) (some (.t tI 9,[])) (br (igt p0.1 1099511627776) (some (.t tI 9,[])) (br (Jz p0.2.1) (br (!(JL p0.2.1)) (some (.t tI 9,[])) (br (Jz p0.2.2.1) (br (!(JL p0.2.2.1)) (some (.t tI 9,[])) (br (!(IW p0.2.2.2.1)) (some (.t tI 9,[])) (br (ilt p0.2.2.2.2.1 0) (some (.t tI 9,[])) (br (igt p0.2.2.2.2.1 2147483648) (some (.t tI 9,[])) (br (!(Je p0.2.2.2.2.2.1)) (some (.t tI 9,[])) (br (ine (YH p0.2.2.2.2.2.1.1) 1) (some (.t tI 9,[])) (br (ilt p0.2.2.2.2.2.2.1 0) (some (.t tI 9,[])) (br (igt p0.2.2.2.2.2.2.1 p0.2.2.2.2.2.2.2.1) (some (.t tI 9,[])) (br (igt p0.2.2.2.2.2.2.2.1 40000) (some (.t tI 9,[])) (br (ilt p0.2.2.2.2.2.2.2.2.2.1 0) (some (.t tI 9,[])) (br (igt p0.2.2.2.2.2.2.2.2.2.1 8) (some (.t tI 9,[])) (br (!p0.2.2.2.2.2.2.2.2.1) (br (ine p0.2.2.2.2.2.2.2.2.2.1 0) (some (.t tI 9,[])) (Qf3 p0)) (Qf3 p0))))))))))))) none)) none))
theorem QzW (x3:Int)(y1:Certificate)(h:(decide (0<=x3/\x3<=(QZ y1).length)&&YG (QZ y1))=true):QaK x3 y1=QaL x3 y1:=by
 simp only [Bb,Ba] at h
 obtain ⟨⟨h0,h1⟩,hn⟩:=h
 obtain ⟨k,rfl⟩:=Bu h0
 simp only [YG,Bb,Bh,Ba] at hn
 refine Q5 (QZ y1) (fun k=>QaK (k:Int) y1=QaL (k:Int) y1) ?_ ?_ k (by omega)
 ·rw [Qoy]
  simp only [IX,QaL,show ilt ((QZ y1).length:Int) (Qc (QZ y1))=false from Bp (by simp only [Qc];omega),Qj,Bd,Qoa,BK]
 ·intro k hk ih
  rw [Qoy]
  have hx:=hn.2 (QZ y1)[k] (Bx hk)
  simp only [IX,show ilt (k:Int) (Qc (QZ y1))=true from Be (by simp only [Qc];omega),QI,hk,Br,Qf,Bd,QW (show k<4611686018427387904 by omega),QO (y:= .str) hk,hx,ih]
  simp only [QaL,Bd,Qob hk]
  cases hg:JL (QZ y1)[k] with
  |false=>rfl
  |true=>
   simp only [BK,Qj,By]
   by_cases h0:k=0
   ·subst h0
    simp only [show igt ((0:Nat):Int) 0=false from rfl,Qj,Br,Bool.true_or,By]
   ·rcases Qoj (l:=QZ y1) (k:=k) (by omega) hk with ⟨e1,e2⟩|hb
    ·rw [show igt (k:Int) 0=true from Be (by omega),Qf,e2,Be (show k-1<(QZ y1).length by omega),Qf,e1,Bp h0,Dr]
     cases slt ((QZ y1).getD (k-1) ByteArray.empty) (QZ y1)[k]<;>rfl
    ·omega
theorem QzX:LO Qf2 Qf0 Qow 0:=QN (s:=QaI) fun x y h _ q=>by simp only [QK,QL] at q;exact (QzW x.2.1 y.1 h).trans q
theorem s_f192 (c:Certificate)(h:J1 c=true):Qoz c=some (.t tI (XT c),[]):=by
 simp only [J1,Bb] at h
 obtain ⟨h1,h2,h3⟩:=h
 have hd:decide ((0:Int)<=0/\(0:Int)<=(QZ c).length)=true:=Be (by omega)
 unfold XT
 simp only [Qoz,Qf3,h1,h2,h3,hd,B2,Qf,BC,QfT]
 refine br9 (fun g=>by simp [QX,g]) fun g1=>br9 (fun g=>by simp [QX,g]) fun g2=>br9 (fun g=>by simp only [BA] at g;simp [QX,g]) fun g3=>br9 (fun g=>by simp only [BA] at g;simp [QX,g]) fun g4=>br9 (fun g=>by simp only [BA,IW] at g;simp [QX,g]) fun g5=>br9 (fun g=>by simp [QX,ZB,g]) fun g6=>br9 (fun g=>by simp [QX,ZB,g]) fun g7=>br9 (fun g=>by simp only [BA] at g;simp [QX,Ys,g]) fun g8=>br9 (fun g=>by simp only [BA] at g;simp [QX,Ys,g]) fun g9=>br9 (fun g=>by simp [QX,g]) fun g10=>br9 (fun g=>by simp [QX,g]) fun g11=>br9 (fun g=>by simp [QX,g]) fun g12=>br9 (fun g=>by simp [QX,g]) fun g13=>br9 (fun g=>by simp [QX,g]) fun g14=> ?_
 have tail: ∀ (hp:(c.2.2.2.2.2.2.2.2.1||ieq c.2.2.2.2.2.2.2.2.2.1 0)=true),br (igt (Qc (QZ c)) 8) (some (V.t tI 9,([]:List VO))) (br (!Yr (QZ c) 0) (some (V.t tI 9,[])) (br (ilt (Wu c).1 0) (some (V.t tI 9,[])) (br (igt (Wu c).1 2147483648) (some (V.t tI 9,[])) (br (ilt (Wu c).2.1 0) (some (V.t tI 9,[])) (br (ige (Wu c).2.1 4294967296) (some (V.t tI 9,[])) (some (V.t tI 0,[])))))))=some (V.t tI (bif QX c then 0 else 9),([]:List VO)):=by
  intro hp
  refine br9 (fun g=>by simp [QX,Wt,g]) fun g15=>br9 (fun g=>by simp only [BA] at g;simp [QX,Wt,g]) fun g16=>br9 (fun g=>by simp [QX,ZB,g]) fun g17=>br9 (fun g=>by simp [QX,ZB,g]) fun g18=>br9 (fun g=>by simp [QX,U5,g]) fun g19=>br9 (fun g=>by simp [QX,U5,g]) fun g20=> ?_
  simp only [Bool.not_eq_false'] at g3 g4 g5 g8 g9 g16
  simp only [IW] at g5
  have:QX c=true:=by
   simp only [QX,Wt,Ys,ZB,U5,g1,g2,g3,g4,g6,g7,g8,g9,g10,g11,g12,g13,g14,g15,g16,g17,g18,g19,g20,hp,DA,B2,By]
   simpa only [Ys,Dl] using g5
  rw [this]
  rfl
 cases ha:c.2.2.2.2.2.2.2.2.1 with
 |true=>
  rw [BK,Qj]
  exact tail (by rw [ha];rfl)
 |false=>
  rw [DA,Qf]
  refine br9 (fun g=>by simp only [BA] at g;simp [QX,ha,g]) fun g=> ?_
  exact tail (by simp only [Bool.not_eq_false'] at g;rw [g,Bool.or_true])
def Qf4:Ent:=Qo (.pr Jg .nil) (fun x=>(J1 x.1)) (fun x=>(.t tI (XT x.1)))
theorem QoA:EM 192 Qf4:=mS (lk:=lkL (lkc QzX lkn)) Qf2 Qov [((.t 2),some tI)] false (gB (gD Qcc (gD Qpc (gD Qwo (gD QzQ gN))))) fun m=>Qt m fun x hok=>kT (s_f192 x.1 hok)
end
end Go.Proofs.YthlcobdnemhcdaaGreat.K
noncomputable section
namespace Go.Proofs.YthlcobdnemhcdaaGreat.K
open Go.RowKit
noncomputable section
theorem QvS (n:Int):(G1 n).length<=8:=by
 rw [G1,QqS]
 exact QbK n
theorem Fy (n:Nat)(m:Int):okT (n+1) (Jd m)=true:=by
 have:=QvS m
 show okV (n+1) (.mk 2 (G1 m) false [])=true
 simp only [okV,List.isEmpty_nil,B0,List.all_nil,Dl,BG]
 rw [Be (by omega)]
 rfl
theorem QdU (n:Nat){s:ByteArray}(h:s.size<=100000):okT (n+1) (Zg s)=true:=by
 have:=Ig s
 show okV (n+1) (.mk 12 (Q3 s) false [])=true
 simp only [okV,List.isEmpty_nil,B0,List.all_nil,Dl,BG]
 rw [Be (by omega)]
 rfl
theorem QH4 (n:Nat)(b:Bool):okT (n+1) (Uc b)=true:=by cases b<;>rfl
theorem QkU {n:Nat}{l:List Qk}(hl:l.length<=100000)(h: ∀ x∈l,okT n x=true):okT (n+1) (XG l)=true:=by
 show okV (n+1) (.mk 48 [] true (l.map Val.of))=true
 simp only [okV,List.isEmpty_nil,Da,Dl,BG,BL,Bb,Bh,Dd]
 refine ⟨⟨⟨rfl,rfl⟩,Be ⟨by omega,hl⟩⟩, ?_⟩
 rintro v ⟨x,hx,rfl⟩
 exact h x hx
theorem QkV {n:Nat}{l:List Qk}(hl:l.length<=100000)(h: ∀ x∈l,okT n x=true):Zt (n+1) l=true:=by
 simp only [Zt,Bb,Ba,Bh]
 exact ⟨hl,h⟩
theorem QkW (x:Qk):((x.1,(x.2.1,(x.2.2.1,(List.map Val.of (List.map Val.un x.2.2.2.1),())))):Qk)=x:=by
 rw [Fk]
theorem Fz (m:Int):(Zx (Jd m)).length<=18:=by
 have h1:=QvS m
 have h2:=Qcz ((G1 m).length+0)
 rw [Qcy]
 simp only [Jd,Z7,Bq,Bl,BG]
 omega
theorem QkX (s:ByteArray):(Zx (Zg s)).length<=10+s.size:=by
 have h1:=Ig s
 have h2:=Qcz ((Q3 s).length+0)
 rw [Qcy]
 simp only [Zg,Z7,Bq,Bl,BG]
 omega
theorem QH5 (b:Bool):(Zx (Uc b)).length<=11:=by cases b<;>decide
theorem QkY (l:List Qk):(Zx (XG l)).length<=10+(ZF l).length:=by
 have h2:=Qcz (0+(Z7 (l.map Val.of)).length)
 rw [Qcy]
 simp only [XG,ZF,Bq,Bl,BG]
 omega
def YP (u:Keep):Qk:=XG [Jd u.1,Jd u.2.1]
def UU (u:Keep):Bool:=Z6 u.1&&Z6 u.2.1
theorem QvT (n:Nat)(u:Keep):okT (n+2) (YP u)=true:=
 QkU (by simp) fun x hx=>by
  simp only [BB,BY,DC] at hx
  rcases hx with rfl|rfl<;>exact Fy _ _
theorem QvU (u:Keep):(Zx (YP u)).length<=46:=by
 have h0:=QkY [Jd u.1,Jd u.2.1]
 have h1:=Fz u.1
 have h2:=Fz u.2.1
 simp only [Fd,O7,Bl,BG] at h0
 unfold YP
 omega
theorem QH6 (u:Keep):X8 [Jd u.1,Jd u.2.1]=true:=
 QkV (n:=11) (by simp) fun x hx=>by
  simp only [BB,BY,DC] at hx
  rcases hx with rfl|rfl<;>exact Fy _ _
def QH7:TC:=aF Tryz.f262 [(6,pD [(0,[1]),(1,[1]),(2,[]),(3,[1]),(4,[1]),(5,[]),(6,[]),(7,[]),(8,[2])] (.of [0,1,2,3,4,5,6,7,8]))]
def g_f262:G:=gG 11 [(164,Qga),(167,Qjf)] (fun _ _=>none)
def QvV (p0:Keep):OV:=
 let a1:=((Jd p0.2.1).1,(((Jd p0.2.1).2).1,((((Jd p0.2.1).2).2).1,((List.map Val.of (List.map Val.un (((((Jd p0.2.1).2).2).2).1))),()))))
 let a2:=((Jd p0.1).1,(((Jd p0.1).2).1,((((Jd p0.1).2).2).1,((List.map Val.of (List.map Val.un (((((Jd p0.1).2).2).2).1))),()))))
 br (Z6 p0.1) (br (Z6 p0.2.1) (br (X8 ([a2,a1])) (some (.t Qz (XG ([a2,a1])),[])) none) none) none
theorem s_f262 (u:Keep)(h:UU u=true):QvV u=some (.t Qz (YP u),[]):=by
 simp only [UU,Bb] at h
 simp only [QvV,h.1,h.2,QkW,QH6,Qf]
 rfl
def QvW:Ent:=Qo (.pr Qi .nil) (fun x=>(UU x.1)) (fun x=>(.t Qz (YP x.1)))
theorem QH8:EM 262 QvW:=mS g_f262 QH7 [((.c 2 true 4),some Qz)] false (gB (gD QoI (gD Qs5 gN))) fun m=>Qt m fun x hok=>kT (s_f262 x.1 hok)
def WT (c:Certificate):List Qk:=[Jd c.1,Zg c.2.1,Zg c.2.2.1,YP c.2.2.2.1,Jd c.2.2.2.2.1,YP c.2.2.2.2.2.1,Jd c.2.2.2.2.2.2.1,Jd c.2.2.2.2.2.2.2.1,Uc c.2.2.2.2.2.2.2.2.1,Jd c.2.2.2.2.2.2.2.2.2.1,XG ((QZ c).map Zg)]
def WU (c:Certificate):Qk:=XG (WT c)
def If (c:Certificate):Bool:=J1 c&&QX c
theorem QH9 {u:Keep}(h:Je u=true):0<=u.2.1/\u.2.1<=16384/\1<=u.1/\u.1<=22:=by
 simp only [Je,Ba] at h
 have ham: ∀ (s t:List Int),(∀ x∈s,0<=x/\x<=16384)->Zm u.2.1 s t > 0->0<=u.2.1/\u.2.1<=16384:=by
  intro s t hs hg
  unfold Zm at hg
  split at hg
  ·rename_i k hk
   have hm:u.2.1∈s:=by
    have key: ∀ (s:List Int) (k:Nat),JP u.2.1 s=some k->u.2.1∈s:=by
     intro s
     induction s with
     |nil=>intro k hk;cases hk
     |cons a s ih=>
      intro k hk
      unfold JP at hk
      split at hk
      ·rename_i ha
       have:=eq_of_beq ha
       rw [this];exact Dw
      ·obtain ⟨j,hj,_⟩:=Bf.1 hk
       exact B1 _ (ih j hj)
    exact key s k hk
   exact hs _ hm
  ·omega
 rw [←and_assoc]
 unfold Xh at h
 repeat' split at h
 ·refine ⟨?_,by omega⟩
  unfold Gl at h
  split at h<;>omega
 ·refine ⟨?_,by omega⟩
  unfold Et at h
  split at h
  ·rename_i hc
   simp only [Q9,BH,BB,BY,DC] at hc
   omega
  ·omega
 ·exact ⟨ham _ _ (by simp) h,by omega⟩
 ·exact ⟨ham _ _ (by simp) h,by omega⟩
 ·exact ⟨ham _ _ (by simp) h,by omega⟩
 ·exact ⟨ham _ _ (by simp) h,by omega⟩
 ·exact ⟨ham _ _ (by simp) h,by omega⟩
 ·refine ⟨ham _ _ (by simp) h, ?_⟩
  unfold Zm at h
  split at h
  ·rename_i k hk
   unfold JP at hk
   split at hk
   ·injection hk with hk
    subst hk
    simp only [List.getD_cons_zero,XE] at h
    repeat' split at h
    all_goals omega
   ·cases hk
  ·omega
theorem QvX {u:Keep}{k:Int}(h:Ys u k=true):UU u=true:=by
 simp only [Ys,Bb] at h
 have:=QH9 h.1
 simp only [UU,Z6,Bb,Ba]
 omega
theorem QkZ {s:ByteArray}(h:JL s=true):s.size<=32:=by
 simp only [JL,Bb,Ba] at h
 exact h.2.2
theorem QIa {l:List ByteArray}: ∀ {k:Nat},Yr l k=true→ ∀ j (hj:j<l.length),k<=j->JL l[j]=true:=by
 intro k h j hj hk
 simp only [Yr,Bh,List.mem_range'_1,Bb] at h
 have:=(h j ⟨hk,by omega⟩).1
 simpa only [Bm,Bj hj,BU] using this
theorem QIb {l:List ByteArray}(h:Wt l=true):l.length<=8∧ ∀ s∈l,s.size<=32:=by
 simp only [Wt,Bb,BA,igt,Qc,Bn] at h
 refine ⟨by omega,fun s hs=> ?_⟩
 obtain ⟨j,hj,rfl⟩:=List.mem_iff_getElem.1 hs
 exact QkZ (QIa h.1 j hj (B3 _))
theorem QdV {c:Certificate}(h:QX c=true):Z6 c.1=true/\c.2.1.size<=32/\c.2.2.1.size<=32/\UU c.2.2.2.1=true/\Z6 c.2.2.2.2.1=true/\UU c.2.2.2.2.2.1=true/\Z6 c.2.2.2.2.2.2.1=true/\Z6 c.2.2.2.2.2.2.2.1=true/\Z6 c.2.2.2.2.2.2.2.2.2.1=true/\(QZ c).length<=8∧ ∀ s∈QZ c,s.size<=32:=by
 simp only [QX,ZB,Bb,BA,ilt,igt,Bn] at h
 obtain ⟨h1,h2,h3,h4,h5,h6,⟨h7,h7'⟩,h8,⟨h9,h9'⟩,h10,h11,h12,h13,h14,h15,h16⟩:=h
 have hn:=QIb h5
 refine ⟨Be (by omega),QkZ h3,QkZ h4,QvX h6,Be (by omega),QvX h8,Be (by omega),Be (by omega),Be (by omega),hn.1,hn.2⟩
theorem QIc (n:Nat){l:List ByteArray}(h:l.length<=8)(hs: ∀ s∈l,s.size<=32):okT (n+2) (XG (l.map Zg))=true:=
 QkU (by rw [BL];omega) fun x hx=>by
  obtain ⟨s,hm,rfl⟩:=Dd.1 hx
  exact QdU _ (by have:=hs s hm;omega)
theorem QvY (n:Nat){c:Certificate}(h:QX c=true): ∀ x∈WT c,okT (n+2) x=true:=by
 obtain ⟨h1,h2,h3,h4,h5,h6,h7,h8,h9,h10,h11⟩:=QdV h
 intro x hx
 simp only [WT,BB,BY,DC] at hx
 rcases hx with rfl|rfl|rfl|rfl|rfl|rfl|rfl|rfl|rfl|rfl|rfl
 ·exact Fy _ _
 ·exact QdU _ (by omega)
 ·exact QdU _ (by omega)
 ·exact QvT _ _
 ·exact Fy _ _
 ·exact QvT _ _
 ·exact Fy _ _
 ·exact Fy _ _
 ·exact QH4 _ _
 ·exact Fy _ _
 ·exact QIc _ h10 h11
theorem QvZ: ∀ {l:List ByteArray},(∀ s∈l,s.size<=32)->(ZF (l.map Zg)).length<=42*l.length
 | [],_=>by simp [O7]
 |s::l,h=>by
  have h1:=h s (by simp)
  have h2:=QkX s
  have h3:=QvZ (l:=l) fun u hu=>h u (by simp [hu])
  rw [BI,Fd,Bl,Bq]
  omega
theorem Qk0 {c:Certificate}(h:QX c=true):(Zx (WU c)).length<=1000:=by
 obtain ⟨h1,h2,h3,h4,h5,h6,h7,h8,h9,h10,h11⟩:=QdV h
 have e0:=QkY (WT c)
 have e1:=Fz c.1
 have e2:=QkX c.2.1
 have e3:=QkX c.2.2.1
 have e4:=QvU c.2.2.2.1
 have e5:=Fz c.2.2.2.2.1
 have e6:=QvU c.2.2.2.2.2.1
 have e7:=Fz c.2.2.2.2.2.2.1
 have e8:=Fz c.2.2.2.2.2.2.2.1
 have e9:=QH5 c.2.2.2.2.2.2.2.2.1
 have e10:=Fz c.2.2.2.2.2.2.2.2.2.1
 have e11:=QkY ((QZ c).map Zg)
 have e12:=QvZ h11
 simp only [WT,Fd,O7,Bl,BG] at e0
 unfold WU
 simp only [WT]
 omega
theorem enc_ok {c:Certificate}(h:QX c=true):Uy (WU c)=true:=by
 have:=Qk0 h
 simp only [Uy,Bb,Ba]
 refine ⟨QkU (by simp [WT]) (QvY 9 h),by omega⟩
theorem QId {c:Certificate}(h:QX c=true):X8 ((QZ c).map Zg)=true:=by
 obtain ⟨h1,h2,h3,h4,h5,h6,h7,h8,h9,h10,h11⟩:=QdV h
 exact QkV (n:=11) (by rw [BL];omega) fun x hx=>by
  obtain ⟨s,hm,rfl⟩:=Dd.1 hx
  exact QdU _ (by have:=h11 s hm;omega)
theorem QIe {c:Certificate}(h:QX c=true):X8 (WT c)=true:=QkV (n:=11) (by simp [WT]) (QvY 9 h)
theorem Qk1 {s:ByteArray}(h:s.size<=32):Xe s=true:=Be (by omega)
abbrev QdW:Sh:=⟨[(1,.ptr 1 0),(2,.ptr 2 0),(3,.ms 3),(4,.ty tI)],[(1,.box Jg),(2,.box Qz),(3,.arr 233 Qz),(20,.no)]⟩
abbrev Qv0:Sh:=⟨[(1,.ptr 1 0),(2,.ptr 2 0),(3,.ms 3)],[(1,.box Jg),(2,.box Qz),(3,.arr 233 Qz),(20,.no)]⟩
def Qk2:Fg:=QdW.f
def Qv1:TC:=aF Tryz.f234 [(58,.nw 3 233),(58,pL 0 Qk2),(931,.fg Qv0.f),(30,pD [(0,[1]),(1,[1]),(2,[]),(3,[1]),(4,[1]),(5,[]),(6,[1]),(7,[1]),(8,[]),(9,[1]),(10,[1]),(11,[]),(12,[1]),(13,[1]),(14,[]),(15,[1]),(16,[1]),(17,[]),(18,[1]),(19,[1]),(20,[]),(21,[1]),(22,[1]),(23,[]),(24,[1]),(25,[1]),(26,[]),(27,[1]),(28,[1]),(29,[]),(30,[3,20]),(31,[3,20,52,5052,10052,15052]),(32,[]),(33,[]),(34,[2])] (.of [0,1,2,3,4,5,6,7,8,9,10,11,12,13,14,15,16,17,18,19,20,21,22,23,24,25,26,27,28,29,30,31,32,33,34]))]
def Qv2:TC:=lb 0 Qv1
def Qv3 (x4:Int)(y1:Certificate)(y2:Qk)(y3:List Qk):VS:=QdW.st ((),(),(),x4,()) (y1,y2,y3,(),())
def Qk3 (y1:Certificate)(y2:Qk)(y3:List Qk):VS:=Qv0.st ((),(),(),()) (y1,y2,y3,(),())
def QIf:VS->Option (Bool×List (Bool×Exit×VS)):=mkL QdW (fun x y=>(decide (0<=x.2.2.2.1/\x.2.2.2.1<=(QZ y.1).length/\y.2.2.1.length<=x.2.2.2.1.toNat/\(QZ y.1).length<=8)&&(QZ y.1).all fun s=>decide (s.size<=32))) (fun x y=>[(true,.exit 0,Qk3 (y.1) (y.2.1) (y.2.2.1++((QZ y.1).drop x.2.2.2.1.toNat).map Zg))])
def Qk4:G:=gG 55 [(164,Qga),(165,QoK),(167,Qjf),(262,QvW),(263,QoL)] (Ls [QIf])
def QdX (x4:Int)(y1:Certificate)(y2:Qk)(y3:List Qk):OX:=QA (QC Qk4 Qk2 Qv2) (Qv3 x4 y1 y2 y3)
def VJ (kk:Int->Certificate->Qk->List Qk->OX)(x4:Int)(y1:Certificate)(y2:Qk)(y3:List Qk):OX:=
 let a1:=Zg (lgt .str y1.2.2.2.2.2.2.2.2.2.2.1 (Int.toNat x4))
 let a2:=((a1.2).1,(((a1.2).2).1,((List.map Val.of (List.map Val.un ((((a1.2).2).2).1))),())))
 br (ilt x4 (Qc y1.2.2.2.2.2.2.2.2.2.2.1)) (br (cIx y1.2.2.2.2.2.2.2.2.2.2.1 x4) (br (Xe (lgt .str y1.2.2.2.2.2.2.2.2.2.2.1 (Int.toNat x4))) (br (Qx y3 ([(a1.1,a2)]) 64) (kk (Qh .i64 x4 1) y1 y2 (y3++([(a1.1,a2)]))) none) none) none) (some (.exit 0,Qk3 y1 y2 y3))
def QdY (x4:Int)(y1:Certificate)(y2:Qk)(y3:List Qk):OX:=some (.exit 0,Qk3 (y1) (y2) (y3++((QZ y1).drop x4.toNat).map Zg))
theorem Qv4 (x4:Int)(y1:Certificate)(y2:Qk)(y3:List Qk):QdX x4 y1 y2 y3=VJ QdX x4 y1 y2 y3:=lnT (x:=VJ (fun x4 y1 y2 y3=>some (.normal,Qv3 x4 y1 y2 y3)) x4 y1 y2 y3) (by simp only [VJ,nxA];rfl)
def Qv5 (p0:Certificate):OV:=
 let a3:=((((p0).2).2).2)
 let a1:=((a3.2).2)
 let a2:=(XG (([]:List Qk)++((QZ p0).drop (0:Int).toNat).map Zg))
 let a4:=((Jd (((((a1.2).2).2).2).1)).1,(((Jd (((((a1.2).2).2).2).1)).2).1,((((Jd (((((a1.2).2).2).2).1)).2).2).1,((List.map Val.of (List.map Val.un (((((Jd (((((a1.2).2).2).2).1)).2).2).2).1))),()))))
 let a5:=((Uc ((((a1.2).2).2).1)).1,(((Uc ((((a1.2).2).2).1)).2).1,((((Uc ((((a1.2).2).2).1)).2).2).1,((List.map Val.of (List.map Val.un (((((Uc ((((a1.2).2).2).1)).2).2).2).1))),()))))
 let a6:=((Zg ((((p0).2).2).1)).1,(((Zg ((((p0).2).2).1)).2).1,((((Zg ((((p0).2).2).1)).2).2).1,((List.map Val.of (List.map Val.un (((((Zg ((((p0).2).2).1)).2).2).2).1))),()))))
 let a7:=((Jd (((a1.2).2).1)).1,(((Jd (((a1.2).2).1)).2).1,((((Jd (((a1.2).2).1)).2).2).1,((List.map Val.of (List.map Val.un (((((Jd (((a1.2).2).1)).2).2).2).1))),()))))
 let a8:=((Zg (((p0).2).1)).1,(((Zg (((p0).2).1)).2).1,((((Zg (((p0).2).1)).2).2).1,((List.map Val.of (List.map Val.un (((((Zg (((p0).2).1)).2).2).2).1))),()))))
 let a9:=((Jd ((a3.2).1)).1,(((Jd ((a3.2).1)).2).1,((((Jd ((a3.2).1)).2).2).1,((List.map Val.of (List.map Val.un (((((Jd ((a3.2).1)).2).2).2).1))),()))))
 let a10:=((Jd ((a1.2).1)).1,(((Jd ((a1.2).1)).2).1,((((Jd ((a1.2).1)).2).2).1,((List.map Val.of (List.map Val.un (((((Jd ((a1.2).1)).2).2).2).1))),()))))
 let a11:=((Jd ((p0).1)).1,(((Jd ((p0).1)).2).1,((((Jd ((p0).1)).2).2).1,((List.map Val.of (List.map Val.un (((((Jd ((p0).1)).2).2).2).1))),()))))
 let a12:=((YP (a3.1)).1,(((YP (a3.1)).2).1,((((YP (a3.1)).2).2).1,((List.map Val.of (List.map Val.un (((((YP (a3.1)).2).2).2).1))),()))))
 let a13:=((YP (a1.1)).1,(((YP (a1.1)).2).1,((((YP (a1.1)).2).2).1,((List.map Val.of (List.map Val.un (((((YP (a1.1)).2).2).2).1))),()))))
 let a14:=((a2.2).1,(((a2.2).2).1,((List.map Val.of (List.map Val.un ((((a2.2).2).2).1))),())))
 br (decide (0<=(0:Int)/\(0:Int)<=(QZ p0).length/\([]:List Qk).length<=(0:Int).toNat/\(QZ p0).length<=8)&&(QZ p0).all fun s=>decide (s.size<=32)) (br (Z6 ((p0).1)) (br (Xe (((p0).2).1)) (br (Xe ((((p0).2).2).1)) (br (UU (a3.1)) (br (Z6 ((a3.2).1)) (br (UU (a1.1)) (br (Z6 ((a1.2).1)) (br (Z6 (((a1.2).2).1)) (br (Z6 (((((a1.2).2).2).2).1)) (br (X8 (([]:List Qk)++((QZ p0).drop (0:Int).toNat).map Zg)) (br (X8 ([a11,a8,a6,a12,a9,a13,a10,a7,a5,a4,(a2.1,a14)])) (some (.t Qz (XG ([a11,a8,a6,a12,a9,a13,a10,a7,a5,a4,(a2.1,a14)])),[])) none) none) none) none) none) none) none) none) none) none) none) none
theorem QIg (x4:Int)(y1:Certificate)(y2:Qk)(y3:List Qk)(h:(decide (0<=x4/\x4<=(QZ y1).length/\y3.length<=x4.toNat/\(QZ y1).length<=8)&&(QZ y1).all fun s=>decide (s.size<=32))=true):QdX x4 y1 y2 y3=QdY x4 y1 y2 y3:=by
 simp only [Bb,Ba,Bh] at h
 obtain ⟨⟨h0,h1,h2,h3⟩,hn⟩:=h
 obtain ⟨k,rfl⟩:=Bu h0
 rw [Bd] at h2
 revert y3
 refine Q5 (QZ y1) (fun k=> ∀ y3:List Qk,y3.length<=k->QdX (k:Int) y1 y2 y3=QdY (k:Int) y1 y2 y3) ?_ ?_ k (by omega)
 ·intro y3 _
  rw [Qv4]
  simp only [VJ,QdY,show ilt ((QZ y1).length:Int) (Qc (QZ y1))=false from Bp (by simp only [Qc];omega),Qj,Bd,B5,List.map_nil,BP]
 ·intro k hk ih y3 hy
  rw [Qv4]
  have hx:=hn (QZ y1)[k] (Bx hk)
  simp only [VJ,show ilt (k:Int) (Qc (QZ y1))=true from Be (by simp only [Qc];omega),QI,hk,Br,Qf,Bd,QW (show k<4611686018427387904 by omega),QO (y:= .str) hk,Qk1 hx,QkW]
  rw [JE (by omega) (by simp only [Bk];omega),Qf,ih _ (by simp only [Bl,Bk];omega)]
  simp only [QdY,Bd,Bi hk,BI,BN,BM]
theorem QIh:LO Qk4 Qk2 Qv2 0:=QN (s:=QdW) fun x y h _ q=>by simp only [QK,QL] at q;exact (QIg x.2.2.2.1 y.1 y.2.1 y.2.2.1 h).trans q
theorem s_f234 (c:Certificate)(h:If c=true):Qv5 c=some (.t Qz (WU c),[]):=by
 simp only [If,Bb] at h
 obtain ⟨_,hv⟩:=h
 obtain ⟨h1,h2,h3,h4,h5,h6,h7,h8,h9,h10,h11⟩:=QdV hv
 have hc:=QId hv
 have hp:=QIe hv
 have ha:((QZ c).all fun s=>decide (s.size<=32))=true:=Bh.2 fun s hs=>Be (h11 s hs)
 have hl:(0:Int)<=0/\(0:Int)<=(QZ c).length/\([]:List Qk).length<=0/\(QZ c).length<=8:=⟨by omega,by omega,by simp,h10⟩
 simp only [WT] at hp
 simp only [Qv5,ha,B2,h1,Qk1 h2,Qk1 h3,h4,h5,h6,h7,h8,h9,Qf,BC,BF,BS,QkW,hc,hp]
 rw [Be hl]
 rfl
def Qv6:Ent:=Qo (.pr Jg .nil) (fun x=>(If x.1)) (fun x=>(.t Qz (WU x.1)))
theorem QIi:EM 234 Qv6:=mS (lk:=lkL (lkc QIh lkn)) Qk4 Qv1 [((.c 2 true 4),some Qz)] false (gB (gD QoI (gD Qz4 (gD Qs5 (gD QH8 (gD Qz6 gN)))))) fun m=>Qt m fun x hok=>kT (s_f234 x.1 hok)
end
end Go.Proofs.YthlcobdnemhcdaaGreat.K
noncomputable section
namespace Go.Proofs.YthlcobdnemhcdaaGreat.K
open Go.RowKit
noncomputable section
def YT (c:Certificate):List Int×Int:=bif QX c then Uz (WU c) else ([],9)
theorem QyU {c:Certificate}(h:QX c=true):YT c=(Zx (WU c),0):=by
 have:=Qk0 h
 rw [YT,h,Da,Uz,if_neg (by omega)]
theorem QyV (c:Certificate):(YT c).1.length<=1000:=by
 cases h:QX c with
 |true=>
  rw [QyU h]
  exact Qk0 h
 |false=>
  rw [YT,h]
  simp
def QyW:TC:=aF Tryz.f193 []
def g_f193:G:=gG 12 [(166,Qs3),(192,Qf4),(234,Qv6)] (fun _ _=>none)
def Qfr (p0:Certificate):OV:=br (J1 p0) (br (ine (XT p0) 0) (some (.tu [(.t (.sl (.int .u8)) ([]:List Int)),(.t tI 9)],[])) (br (If p0) (br (Uy (WU p0)) (some (.tu [(.t (.sl (.int .u8)) ((Uz (WU p0)).1)),(.t tI ((Uz (WU p0)).2))],[])) none) none)) none
theorem s_f193 (c:Certificate)(h:J1 c=true):Qfr c=some (.tu [.t (.sl (.int .u8)) (YT c).1,.t tI (YT c).2],[]):=by
 unfold YT
 cases hv:QX c with
 |true=>simp only [Qfr,h,hv,QaH,enc_ok hv,show If c=true from by rw [If,h,hv];rfl,BK,Qf,Qj,Da]
 |false=>simp only [Qfr,h,hv,QaH,DA,Qf,B0]
def Qm6:Ent:=Qo (.pr Jg .nil) (fun x=>(J1 x.1)) (fun x=>(.tu [(.t (.sl (.int .u8)) ((YT x.1).1)),(.t tI ((YT x.1).2))]))
theorem QyX:EM 193 Qm6:=mS g_f193 QyW [((.t 2),some (.sl (.int .u8))),((.t 3),some tI)] false (gB (gD QEf (gD QoA (gD QIi gN)))) fun m=>Qt m fun x hok=>kT (s_f193 x.1 hok)
def U2 (s x:Int):Int:=Qij .u32 (E6 .u32 s (icv .u32 x)) 16777619
def IE (b:List Int):Int:=icv .i64 (b.foldl U2 2166136261)
def IF (b:List Int):Bool:=decide (b.length<=100000)
abbrev Qfs:Sh:=⟨[(3,.ty (.int .u32)),(6,.ty (.sl (.int .u8))),(7,.ty tI),(8,.ty tI)],[]⟩
abbrev Qft:Sh:=⟨[(3,.ty (.int .u32))],[]⟩
def QyY:Fg:=Qfs.f
def QyZ:TC:=(.sq (.reg [(oP 9 (.bin false .lss (.t 8) (.t 7)))]) (.sq (.cd (.t 9) .sk (.fg Qft.f (.ex 0))) (.sq (.bk 1 (.sq (.reg [(oP 10 (.ix 1 (.t 6) (.t 8))),(oL 11 10),(oV 5 11)]) (.reg [(oV 12 3),(oV 13 5),(oP 14 (.cv .u32 (.t 13))),(oP 15 (.bin false .xor (.t 12) (.t 14))),(oP 16 (.bin false .mul (.t 15) (.c (.v (.int .u32 16777619))))),(oV 3 16)]))) (.reg [(oP 17 (.bin false .add (.t 8) (cI 1))),(oV 8 17)]))))
def Qm7 (x3:Int)(x6:List Int)(x7 x8:Int):VS:=Qfs.st (x3,x6,x7,x8,()) ()
def FO (x3:Int):VS:=Qft.st (x3,()) ()
def Qy0:VS->Option (Bool×List (Bool×Exit×VS)):=mkL Qfs (fun x y=>(Qy x.2.1 x.2.2.1 x.2.2.2.1)) (fun x y=>[(true,.exit 0,FO ((x.2.1.drop x.2.2.2.1.toNat).foldl U2 x.1))])
def g_f276:G:=gG 20 [] (Ls [Qy0])
def Qaj (x3:Int)(x6:List Int)(x7 x8:Int):OX:=QA (QC g_f276 QyY QyZ) (Qm7 x3 x6 x7 x8)
def IG (kk:Int->List Int->Int->Int->OX)(x3:Int)(x6:List Int)(x7 x8:Int):OX:=br (ilt x8 x7) (br (cIx x6 x8) (kk (Qij .u32 (E6 .u32 x3 (icv .u32 (lgt (.int .u8) x6 (Int.toNat x8)))) 16777619) x6 x7 (Qh .i64 x8 1)) none) (some (.exit 0,FO x3))
def Qak (x3:Int)(x6:List Int)(x7 x8:Int):OX:=some (.exit 0,FO ((x6.drop x8.toNat).foldl U2 x3))
theorem Qm8 (x3:Int)(x6:List Int)(x7 x8:Int):Qaj x3 x6 x7 x8=IG Qaj x3 x6 x7 x8:=lnT (x:=IG (fun x3 x6 x7 x8=>some (.normal,Qm7 x3 x6 x7 x8)) x3 x6 x7 x8) (by simp only [IG,nxA];rfl)
theorem l_f276_0 (x3:Int)(x6:List Int)(x7 x8:Int)(h:(Qy x6 x7 x8)=true):Qaj x3 x6 x7 x8=Qak x3 x6 x7 x8:=by
 obtain ⟨rfl,h3,k,rfl,hk⟩:=JR h
 clear h
 revert x3
 refine Q5 x6 (fun k=> ∀ x3:Int,Qaj x3 x6 (x6.length:Int) (k:Int)=Qak x3 x6 (x6.length:Int) (k:Int)) ?_ ?_ k hk
 ·intro x3
  rw [Qm8]
  simp only [IG,Qak,QD,BX,BW,Qj,Bd,B5,List.foldl_nil]
 ·intro k hk ih x3
  rw [Qm8]
  simp only [IG,QD,QI,hk,Br,Qf,Bd,QW (show k<4611686018427387904 by omega),QO (y:= .int .u8) hk,ih]
  simp only [Qak,Bd,Bi hk,Dt,U2]
abbrev Qal:Sh:=⟨[(0,.ty (.sl (.int .u8))),(3,.ty (.int .u32)),(4,.ty tI)],[]⟩
def Qfu:Fg:=Qal.f
def Qm9:TC:=aF Tryz.f118 [(58,pL 0 Qfu),(931,.fg Qft.f)]
def Qna:TC:=lb 0 Qm9
def Qnb (x0:List Int)(x3 x4:Int):VS:=Qal.st (x0,x3,x4,()) ()
def Qy1:VS->Option (Bool×List (Bool×Exit×VS)):=mkL Qal (fun x y=>(W9 x.1 x.2.2.1)) (fun x y=>[(true,.exit 0,FO ((x.1.drop x.2.2.1.toNat).foldl U2 x.2.1))])
def Qfv:G:=gG 21 [] (Ls [Qy1])
def Qam (x0:List Int)(x3 x4:Int):OX:=QA (QC Qfv Qfu Qna) (Qnb x0 x3 x4)
def IH (kk:List Int->Int->Int->OX)(x0:List Int)(x3 x4:Int):OX:=br (ilt x4 (Qc x0)) (br (cIx x0 x4) (kk x0 (Qij .u32 (E6 .u32 x3 (icv .u32 (lgt (.int .u8) x0 (Int.toNat x4)))) 16777619) (Qh .i64 x4 1)) none) (some (.exit 0,FO x3))
def Qan (x0:List Int)(x3 x4:Int):OX:=some (.exit 0,FO ((x0.drop x4.toNat).foldl U2 x3))
theorem Qnc (x0:List Int)(x3 x4:Int):Qam x0 x3 x4=IH Qam x0 x3 x4:=lnT (x:=IH (fun x0 x3 x4=>some (.normal,Qnb x0 x3 x4)) x0 x3 x4) (by simp only [IH,nxA];rfl)
def Qnd (p0:List Int):OV:=br (W9 p0 (0:Int)) (some (.t tI (icv .i64 ((p0.drop (0:Int).toNat).foldl U2 (2166136261:Int))),[])) none
theorem Qy2 (x0:List Int)(x3 x4:Int)(h:(W9 x0 x4)=true):Qam x0 x3 x4=Qan x0 x3 x4:=by
 simp only [W9,Ba] at h
 obtain ⟨h0,h1,h2⟩:=h
 obtain ⟨k,rfl⟩:=Bu h0
 revert x3
 refine Q5 x0 (fun k=> ∀ x3:Int,Qam x0 x3 (k:Int)=Qan x0 x3 (k:Int)) ?_ ?_ k (by omega)
 ·intro x3
  rw [Qnc]
  simp only [IH,Qan,show ilt (x0.length:Int) (Qc x0)=false from Bp (by simp only [Qc];omega),Qj,Bd,B5,List.foldl_nil]
 ·intro k hk ih x3
  rw [Qnc]
  simp only [IH,show ilt (k:Int) (Qc x0)=true from Be (by simp only [Qc];omega),QI,hk,Br,Qf,Bd,QW (show k<4611686018427387904 by omega),QO (y:= .int .u8) hk,ih]
  simp only [Qan,Bd,Bi hk,Dt,U2]
theorem Qy3:LO Qfv Qfu Qna 0:=QN (s:=Qal) fun x y h _ q=>by simp only [QK,QL] at q;exact (Qy2 x.1 x.2.1 x.2.2.1 h).trans q
theorem s_f118 (b:List Int)(h:IF b=true):Qnd b=some (.t tI (IE b),[]):=by
 simp only [IF,Ba] at h
 simp only [Qnd,show W9 b 0=true from Be (by omega),Qf,BC,BF]
 rfl
def Qne:Ent:=Qo (.pr (.sl (.int .u8)) .nil) (fun x=>(IF x.1)) (fun x=>(.t tI (IE x.1)))
theorem Qy4:EM 118 Qne:=mS (lk:=lkL (lkc Qy3 lkn)) Qfv Qm9 [((.t 2),some tI)] false (gB gN) fun m=>Qt m fun x hok=>kT (s_f118 x.1 hok)
theorem lenB_C (c:Certificate):IF (YT c).1=true:=Be (by have:=QyV c;omega)
def Qy5 (c:Certificate)(k:Int):Bool:=ieq (YT c).2 0&&(ieq (Wu c).1 k&&ieq (Wu c).2.1 (IE (YT c).1))
def Qfw (c:Certificate)(_k:Int):Bool:=J1 c
def Z4 (c:Certificate):Certificate:=c
def Qy6:TC:=aF Tryz.f191 []
def g_f191:G:=⟨TYs,[3],9,EL [],keeps,(fun _ _=>none),IL [],RL []⟩
def Qnf (p0:Certificate):OV:=br (Qx ([]:List ByteArray) p0.2.2.2.2.2.2.2.2.2.2.1 16) (some (.t Jg (p0.1,(p0.2.1,(p0.2.2.1,((p0.2.2.2.1.1,(p0.2.2.2.1.2.1,())),(p0.2.2.2.2.1,((p0.2.2.2.2.2.1.1,(p0.2.2.2.2.2.1.2.1,())),(p0.2.2.2.2.2.2.1,(p0.2.2.2.2.2.2.2.1,(p0.2.2.2.2.2.2.2.2.1,(p0.2.2.2.2.2.2.2.2.2.1,((([]:List ByteArray)++p0.2.2.2.2.2.2.2.2.2.2.1),((p0.2.2.2.2.2.2.2.2.2.2.2.1.1,(p0.2.2.2.2.2.2.2.2.2.2.2.1.2.1,())),())))))))))))),[])) none
theorem Qng {c:Certificate}(h:J1 c=true):(QZ c).length<=100000:=by
 simp only [J1,YG,Bb,Ba] at h
 exact h.2.2.1
theorem s_f191 (c:Certificate)(h:J1 c=true):Qnf c=some (.t Jg (Z4 c),[]):=by
 have hn:c.2.2.2.2.2.2.2.2.2.2.1.length<=100000:=Qng h
 simp only [Qnf]
 rw [JE (by omega) (by simp only [BG];omega),Qf]
 rfl
def Qnh:Ent:=Qo (.pr Jg .nil) (fun x=>(J1 x.1)) (fun x=>(.t Jg (Z4 x.1)))
theorem Qy7:EM 191 Qnh:=mS g_f191 Qy6 [((.c 2 true 15),some Jg)] false (Jw _ (fun p hp=>by cases hp)) fun m=>Qt m fun x hok=>kT (s_f191 x.1 hok)
def sealC (c:Certificate)(s:Keep):Certificate:=(c.1,(c.2.1,(c.2.2.1,(c.2.2.2.1,(c.2.2.2.2.1,(c.2.2.2.2.2.1,(c.2.2.2.2.2.2.1,(c.2.2.2.2.2.2.2.1,(c.2.2.2.2.2.2.2.2.1,(c.2.2.2.2.2.2.2.2.2.1,(c.2.2.2.2.2.2.2.2.2.2.1,(s,()))))))))))))
def II (c:Certificate):Certificate:=sealC c (0,(0,()))
def Qni (c:Certificate)(k:Int):Bool:= !QX (II c)||(ilt k 0||igt k 2147483648)
abbrev Qao:Certificate:=Ty.zero Jg
def Ua (c:Certificate)(k:Int):Certificate×Int:=bif Qni c k then (Qao,9) else (sealC c (k,(IE (YT (II c)).1,())),0)
def Qy8:TC:=aF Tryz.f139 []
def g_f139:G:=gG 35 [(118,Qne),(191,Qnh),(192,Qf4),(193,Qm6)] (fun _ _=>none)
def Qnj (p0:Certificate)(p1:Int):OV:=
 let a4:=((Z4 p0).2)
 let a1:=((((a4.2).2).2).2)
 let a5:=(((a1.2).2).2)
 let a2:=((YT ((Z4 p0).1,(a4.1,((a4.2).1,(((a4.2).2).1,((((a4.2).2).2).1,(a1.1,((a1.2).1,(((a1.2).2).1,(a5.1,((a5.2).1,(((a5.2).2).1,((0,(0,())),(((a5.2).2).2).2))))))))))))).1)
 let a3:=(J1 ((Z4 p0).1,(a4.1,((a4.2).1,(((a4.2).2).1,((((a4.2).2).2).1,(a1.1,((a1.2).1,(((a1.2).2).1,(a5.1,((a5.2).1,(((a5.2).2).1,((0,(0,())),(((a5.2).2).2).2)))))))))))))
 let a6:=ByteArray.mk #[]
 br (J1 p0) (br a3 (br (ine (XT ((Z4 p0).1,(a4.1,((a4.2).1,(((a4.2).2).1,((((a4.2).2).2).1,(a1.1,((a1.2).1,(((a1.2).2).1,(a5.1,((a5.2).1,(((a5.2).2).1,((0,(0,())),(((a5.2).2).2).2))))))))))))) 0) (some (.tu [(.t Jg (0,(a6,(a6,((0,(0,())),(0,((0,(0,())),(0,(0,(false,(0,(([]:List ByteArray),((0,(0,())),()))))))))))))),(.t tI 9)],[])) (br (ilt p1 0) (some (.tu [(.t Jg (0,(a6,(a6,((0,(0,())),(0,((0,(0,())),(0,(0,(false,(0,(([]:List ByteArray),((0,(0,())),()))))))))))))),(.t tI 9)],[])) (br (igt p1 2147483648) (some (.tu [(.t Jg (0,(a6,(a6,((0,(0,())),(0,((0,(0,())),(0,(0,(false,(0,(([]:List ByteArray),((0,(0,())),()))))))))))))),(.t tI 9)],[])) (br a3 (br (IF a2) (some (.tu [(.t Jg ((Z4 p0).1,(a4.1,((a4.2).1,(((a4.2).2).1,((((a4.2).2).2).1,(a1.1,((a1.2).1,(((a1.2).2).1,(a5.1,((a5.2).1,(((a5.2).2).1,((p1,((IE a2),())),(((a5.2).2).2).2))))))))))))),(.t tI 0)],[])) none) none)))) none) none
theorem s_f139 (c:Certificate)(k:Int)(h:Qfw c k=true):Qnj c k=some (.tu [.t Jg (Ua c k).1,.t tI (Ua c k).2],[]):=by
 have h:J1 c=true:=h
 have hu:J1 (II c)=true:=h
 have e:((Z4 c).1,((Z4 c).2.1,((Z4 c).2.2.1,((Z4 c).2.2.2.1,((Z4 c).2.2.2.2.1,((Z4 c).2.2.2.2.2.1,((Z4 c).2.2.2.2.2.2.1,((Z4 c).2.2.2.2.2.2.2.1,((Z4 c).2.2.2.2.2.2.2.2.1,((Z4 c).2.2.2.2.2.2.2.2.2.1,((Z4 c).2.2.2.2.2.2.2.2.2.2.1,((0,(0,())),()))))))))))))=II c:=rfl
 simp only [Qnj,h,e,hu,QaH,lenB_C,Qf]
 unfold Ua Qni
 cases QX (II c) with
 |false=>rfl
 |true=>
  rw [BK,Qj,Dr]
  cases ilt k 0 with
  |true=>rfl
  |false=>
   rw [Qj,Dr]
   cases igt k 2147483648<;>rfl
def Qnk:Ent:=Qo (.pr Jg (.pr tI .nil)) (fun x=>(Qfw x.1 x.2.1)) (fun x=>(.tu [(.t Jg ((Ua x.1 x.2.1).1)),(.t tI ((Ua x.1 x.2.1).2))]))
theorem Qy9:EM 139 Qnk:=mS g_f139 Qy8 [((.c 4 true 15),some Jg),((.t 5),some tI)] false (gB (gD Qy4 (gD Qy7 (gD QoA (gD QyX gN))))) fun m=>Qt m fun x hok=>kT (s_f139 x.1 x.2.1 hok)
def Z5 (l:List Certificate):Bool:=decide (l.length<=100000)&&l.all J1
def IJ (key:Keep)(id:Int)(l:List Certificate):Bool:=ieq (Qc l) 0||(((l.getD 0 Qao).2.2.2.1==key)&&ieq (l.getD 0 Qao).2.2.2.2.1 id)
def U3 (key:Keep)(id:Int)(l:List Certificate):Bool:=Je key&&(!ine (YH key.1) 2&&(ZB id&&(!igt (Qc l) 8&&(l.all QX&&IJ key id l))))
def Qap (_key:Keep)(_id:Int)(l:List Certificate):Bool:=Z5 l
theorem Qza (key:Keep)(id:Int)(l:List Certificate):br (ieq (Qc l) 0) (some (V.t .bool true,([]:List VO))) (br (cIx l 0) (br ((lgt Jg l 0).2.2.2.1==key) (br (cIx l 0) (some (V.t .bool (ieq (lgt Jg l 0).2.2.2.2.1 id),[])) none) (some (V.t .bool false,[]))) none)=some (V.t .bool (IJ key id l),[]):=by
 unfold IJ
 cases l with
 |nil=>rfl
 |cons c l=>
  have h1:ieq (Qc (c::l)) 0=false:=by
   simp only [ieq,Qc,Bq,beq_eq_false_iff_ne]
   omega
  have h2:cIx (c::l) 0=true:=by simp only [cIx,Bq,Ba];omega
  rw [h1,Qj,h2,Qf,Dr,Qf]
  show br (c.2.2.2.1==key) _ _=some (V.t .bool ((c.2.2.2.1==key)&&ieq c.2.2.2.2.1 id),[])
  cases c.2.2.2.1==key<;>rfl
abbrev Qaq:Sh:=⟨[(1,.ty tI),(2,.ty (.sl Jg)),(3,.ptr 3 0),(28,.ty (.sl Jg)),(29,.ty tI),(30,.ty tI)],[(3,.box Qi)]⟩
abbrev Qnl:Sh:=⟨[(6,.ty .bool)],[]⟩
abbrev Qnm:Sh:=⟨[(1,.ty tI),(2,.ty (.sl Jg)),(3,.ptr 3 0)],[(3,.box Qi)]⟩
def Qfx:Fg:=Qaq.f
def Qnn:TC:=aF Tryz.f171 [(58,pL 0 Qfx),(933,.fg Qnm.f),(29901,.fg Qnl.f),(30,pD [(0,[]),(1,[]),(2,[]),(3,[]),(4,[]),(5,[]),(6,[]),(7,[]),(8,[3]),(9,[]),(10,[]),(11,[]),(12,[]),(13,[]),(14,[]),(15,[]),(16,[]),(17,[]),(18,[]),(19,[])] (.of [0,1,2,3,4,5,6,7,8,9,10,11,12,13,14,15,16,17,18,19]))]
def Qno:TC:=lb 0 Qnn
def Qnp (x1:Int)(x2 x28:List Certificate)(x29 x30:Int)(y3:Keep):VS:=Qaq.st (x1,x2,(),x28,x29,x30,()) (y3,())
def Qfy (x6:Bool):VS:=Qnl.st (x6,()) ()
def Qfz (x1:Int)(x2:List Certificate)(y3:Keep):VS:=Qnm.st (x1,x2,(),()) (y3,())
def Qzb:VS->Option (Bool×List (Bool×Exit×VS)):=mkL Qaq (fun x y=>(Qy x.2.2.2.1 x.2.2.2.2.1 x.2.2.2.2.2.1&&Z5 x.2.2.2.1)) (fun x y=>[((!(x.2.2.2.1.drop x.2.2.2.2.2.1.toNat).all QX),.ret,Qfy (false)),(true,.exit 0,Qfz (x.1) (x.2.1) (y.1))])
def QfA:G:=gG 57 [(92,Gm),(175,QaC),(218,QaZ),(219,Qos)] (Ls [Qzb])
def Qar (x1:Int)(x2 x28:List Certificate)(x29 x30:Int)(y3:Keep):OX:=QA (QC QfA Qfx Qno) (Qnp x1 x2 x28 x29 x30 y3)
def IK (kk:Int->List Certificate->List Certificate->Int->Int->Keep->OX)(x1:Int)(x2 x28:List Certificate)(x29 x30:Int)(y3:Keep):OX:=
 let a1:=lgt Jg x28 (Int.toNat x30)
 br (ilt x30 x29) (br (cIx x28 x30) (br (J1 a1) (br (ine (XT a1) 0) (some (.ret,Qfy false)) (kk x1 x2 x28 x29 (Qh .i64 x30 1) y3)) none) none) (some (.exit 0,Qfz x1 x2 y3))
def Qas (x1:Int)(x2 x28:List Certificate)(x29 x30:Int)(y3:Keep):OX:=br (!(x28.drop x30.toNat).all QX) (some (.ret,Qfy (false)))<|some (.exit 0,Qfz (x1) (x2) (y3))
theorem Qnq (x1:Int)(x2 x28:List Certificate)(x29 x30:Int)(y3:Keep):Qar x1 x2 x28 x29 x30 y3=IK Qar x1 x2 x28 x29 x30 y3:=lnT (x:=IK (fun x1 x2 x28 x29 x30 y3=>some (.normal,Qnp x1 x2 x28 x29 x30 y3)) x1 x2 x28 x29 x30 y3) (by simp only [IK,nxA];rfl)
def Qnr (p0:Keep)(p1:Int)(p2:List Certificate):OV:=
 let a1:=((((lgt Jg (p2) (Int.toNat 0)).2).2).2)
 br (!(Je p0)) (some (.t .bool false,[])) (br (ine (YH p0.1) 2) (some (.t .bool false,[])) (br (!(ZB p1)) (some (.t .bool false,[])) (br (igt (Qc p2) 8) (some (.t .bool false,[])) (br (Qy p2 (Qc p2) (0:Int)&&Z5 p2) (br (!(p2.drop (0:Int).toNat).all QX) (some (.t .bool (false),[])) (br (ieq (Qc (p2)) 0) (some (.t .bool true,[])) (br (cIx (p2) 0) (br (and (ieq ((a1.1).1) ((p0).1)) (and (ieq (((a1.1).2).1) (((p0).2).1)) true)) (br (cIx (p2) 0) (some (.t .bool (ieq ((a1.2).1) (p1)),[])) none) (some (.t .bool false,[]))) none))) none))))
theorem Qzc (x1:Int)(x2 x28:List Certificate)(x29 x30:Int)(y3:Keep)(h:(Qy x28 x29 x30&&Z5 x28)=true):Qar x1 x2 x28 x29 x30 y3=Qas x1 x2 x28 x29 x30 y3:=by
 simp only [Bb] at h
 obtain ⟨h0,hc⟩:=h
 obtain ⟨rfl,h3,k,rfl,hk⟩:=JR h0
 clear h0
 simp only [Z5,Bb,Bh] at hc
 refine Q5 x28 (fun k=>Qar x1 x2 x28 (x28.length:Int) (k:Int) y3=Qas x1 x2 x28 (x28.length:Int) (k:Int) y3) ?_ ?_ k hk
 ·rw [Qnq]
  simp only [IK,Qas,QD,BX,BW,Qj,Bd,B5,List.all_nil,BK]
 ·intro k hk ih
  rw [Qnq]
  have hx:=hc.2 x28[k] (Bx hk)
  simp only [IK,QD,QI,hk,Br,Qf,Bd,QW (show k<4611686018427387904 by omega),QO (y:=Jg) hk,hx,QaH,ih]
  simp only [Qas,Bd,Bi hk,B9]
  cases QX x28[k]<;>rfl
theorem Qzd:LO QfA Qfx Qno 0:=QN (s:=Qaq) fun x y h _ q=>by simp only [QK,QL] at q;exact (Qzc x.1 x.2.1 x.2.2.2.1 x.2.2.2.2.1 x.2.2.2.2.2.1 y.1 h).trans q
theorem s_f171 (key:Keep)(id:Int)(l:List Certificate)(h:Qap key id l=true):Qnr key id l=some (.t .bool (U3 key id l),[]):=by
 have h:Z5 l=true:=h
 have hl:l.length<=100000:=by simp only [Z5,Bb,Ba] at h;exact h.1
 simp only [Qnr,JS hl,h,B2,Qf,BC,BF,QAD]
 unfold U3
 refine (brB<|brB<|brB<|brB<|brB (Qza key id l)).trans ?_
 simp only [Bool.not_not]
def Qns:Ent:=Qo (.pr Qi (.pr tI (.pr (.sl Jg) .nil))) (fun x=>(Qap x.1 x.2.1 x.2.2.1)) (fun x=>(.t .bool (U3 x.1 x.2.1 x.2.2.1)))
theorem Qze:EM 171 Qns:=mS (lk:=lkL (lkc Qzd lkn)) QfA Qnn [((.t 6),some .bool)] false (gB (gD G9 (gD QfW (gD Qgu (gD QzU gN))))) fun m=>Qt m fun x hok=>kT (s_f171 x.1 x.2.1 x.2.2.1 hok)
end
end Go.Proofs.YthlcobdnemhcdaaGreat.K
noncomputable section
namespace Go.Proofs
open Go.Shelf
def Tryz.lays137_ren:Go.Shelf.Ren:=⟨fun|137=>248|217=>267|266=>278|n=>n,fun|9=>9|5=>5|3=>3|n=>n,fun|n=>n⟩
theorem Tryz.lays137:Go.Proofs.Lays.n137 Tryz.prog Tryz.lays137_ren:={
 mixed:=by kernel_rfl
 f137:=Tryz.func248.trans (congrArg some (by kernel_rfl))
 f217:=Tryz.func267.trans (congrArg some (by kernel_rfl))
 f266:=Tryz.func278.trans (congrArg some (by kernel_rfl))
 t3:=Tryz.underlying3
 a3:=Tryz.isAgg3
 z3:=Tryz.sizeOf3
 v3:=Tryz.zeroValue3
 t5:=Tryz.underlying5
 a5:=Tryz.isAgg5
 z5:=Tryz.sizeOf5
 v5:=Tryz.zeroValue5
 t9:=Tryz.underlying9
 a9:=Tryz.isAgg9
 z9:=Tryz.sizeOf9
 v9:=Tryz.zeroValue9}
end Go.Proofs
namespace Go.Proofs.YthlcobdnemhcdaaGreat.K
open Go.RowKit Go.Shelf
noncomputable section
def ixB (s:ByteArray)(c:Int):Int:=Lib.indexByte s.data.toList c.toNat.toUInt8
def Qtr:Ent:=Qo (.pr .str (.pr (.int .u8) .nil)) (fun x=>true) (fun x=>(.t tI (ixB x.1 x.2.1)))
theorem QEP:Q6 Tryz.prog 248:= .inr ⟨by decide,_,Tryz.func248,by kernel_rfl,by kernel_rfl⟩
theorem QEQ:Qp Tryz.prog 248 (Qq Qtr):=Qil fun x hok X w σ vs hfin hc=>by
 obtain ⟨s,c,u⟩:=x
 simp only [Ty.canon,V.ds,V.d,Ty.d,Cs,C] at hc
 obtain ⟨v1,r1,rfl,⟨rfl,_⟩,v2,r2,rfl,⟨rfl,_⟩,rfl⟩:=hc
 refine (Any.strings_IndexByte Tryz.lays137 s c w).mono ?_
 rintro e w' ⟨rfl,rfl⟩
 refine ⟨_,rfl, ?_,Below.refl _ _⟩
 simp only [V.d,Ty.d,C]
 exact ⟨rfl,rfl⟩
def EO (c:Int)(o:ByteArray):Bool:=(ige c 97&&ile c 122)||((ige c 65&&ile c 90)||((ige c 48&&ile c 57)||ige (ixB o c) 0))
def QER:TC:=aF Tryz.f216 []
def g_f216:G:=gG 33 [(248,Qtr)] (fun _ _=>none)
def QjM (p0:Int)(p1:ByteArray):OV:=br (ige p0 48) (br (ile p0 57) (some (.t .bool true,[])) (some (.t .bool (ige (ixB p1 p0) 0),[]))) (some (.t .bool (ige (ixB p1 p0) 0),[]))
def QjN (p0:Int)(p1:ByteArray):OV:=br (ige p0 65) (br (ile p0 90) (some (.t .bool true,[])) (QjM p0 p1)) (QjM p0 p1)
def Qts (p0:Int)(p1:ByteArray):OV:=br (ige p0 97) (br (ile p0 122) (some (.t .bool true,[])) (QjN p0 p1)) (QjN p0 p1)
theorem brO {a b r:Bool}{X:OV}(h:X=some (.t .bool r,[])):br a (br b (some (.t .bool true,[])) X) X=some (.t .bool ((a&&b)||r),[]):=by
 subst h
 cases a<;>cases b<;>rfl
theorem s_f216 (c:Int)(o:ByteArray):Qts c o=some (.t .bool (EO c o),[]):=by
 simp only [Qts,QjN,QjM]
 exact brO (brO (brO rfl))
def Qtt:Ent:=Qo (.pr (.int .u8) (.pr .str .nil)) (fun x=>true) (fun x=>(.t .bool (EO x.1 x.2.1)))
theorem QES:EM 216 Qtt:=mS g_f216 QER [((.t 4),some .bool)] false (gB (gC QEP QEQ gN)) fun m=>Qt m fun x _=>kT (s_f216 x.1 x.2.1)
def UM (c:Int):Bool:= !(ilt c 97||igt c 122)||(!(ilt c 65||igt c 90)||(!(ilt c 48||igt c 57)||(ieq c 45||(ieq c 95||ieq c 46))))
def Fl (s:ByteArray):Bool:=(Q3 s).all UM&&decide (1<=s.size/\s.size<=32)
set_option maxRecDepth 100000 in
theorem QET:((List.range 256).all fun n=>EO (n:Int) (ByteArray.mk #[45,95,46])==UM (n:Int))=true:=by kernel_rfl
theorem QEU {s:ByteArray}{c:Int}(h:c∈Q3 s):EO c (ByteArray.mk #[45,95,46])=UM c:=by
 obtain ⟨b,_,rfl⟩:=Dd.1 h
 have:=Bh.1 QET b.toNat (by rw [Db];exact b.toNat_lt)
 exact eq_of_beq this
abbrev QcT:Sh:=⟨[(0,.ty .str),(6,.ty (.sl (.int .u8))),(7,.ty tI),(8,.ty tI)],[]⟩
abbrev QcU:Sh:=⟨[(2,.ty .bool)],[]⟩
abbrev Qtu:Sh:=⟨[(0,.ty .str)],[]⟩
def QjO:Fg:=QcT.f
def Qtv:TC:=aF Tryz.f168 [(26,pL 0 QjO),(421,.fg Qtu.f),(13517,.fg QcU.f)]
def Qtw:TC:=lb 0 Qtv
def Qtx (x0:ByteArray)(x6:List Int)(x7 x8:Int):VS:=QcT.st (x0,x6,x7,x8,()) ()
def WI (x2:Bool):VS:=QcU.st (x2,()) ()
def QjP (x0:ByteArray):VS:=Qtu.st (x0,()) ()
def QEV:VS->Option (Bool×List (Bool×Exit×VS)):=mkL QcT (fun x y=>(WV x.2.1 x.2.2.1 x.2.2.2.1&&Xb x.2.1 (Q3 x.1))) (fun x y=>[((!((x.2.1.drop x.2.2.2.1.toNat).all UM)),.ret,WI (false)),(true,.exit 0,QjP (x.1))])
def QjQ:G:=gG 24 [(216,Qtt),(29000144,OC)] (Ls [QEV])
def QcV (x0:ByteArray)(x6:List Int)(x7 x8:Int):OX:=QA (QC QjQ QjO Qtw) (Qtx x0 x6 x7 x8)
def Vl (kk:ByteArray->List Int->Int->Int->OX)(x0:ByteArray)(x6:List Int)(x7 x8:Int):OX:=br (ilt x8 x7) (br (cIx x6 x8) (br (!(EO (lgt (.int .u8) x6 (Int.toNat x8)) (ByteArray.mk #[45,95,46]))) (some (.ret,WI false)) (kk x0 x6 x7 (Qh .i64 x8 1))) none) (some (.exit 0,QjP x0))
def QcW (x0:ByteArray)(x6:List Int)(x7 x8:Int):OX:=br (!((x6.drop x8.toNat).all UM)) (some (.ret,WI (false)))<|some (.exit 0,QjP (x0))
theorem Qty (x0:ByteArray)(x6:List Int)(x7 x8:Int):QcV x0 x6 x7 x8=Vl QcV x0 x6 x7 x8:=lnT (x:=Vl (fun x0 x6 x7 x8=>some (.normal,Qtx x0 x6 x7 x8)) x0 x6 x7 x8) (by simp only [Vl,nxA];rfl)
def Qtz (p0:ByteArray):OV:=br (Xe p0) (br (WV (Q3 p0) (Qc (Q3 p0)) (0:Int)&&Xb (Q3 p0) (Q3 p0)) (br (!(((Q3 p0).drop (0:Int).toNat).all UM)) (some (.t .bool (false),[])) (br (ige (ZZ (p0)) 1) (some (.t .bool (ile (ZZ (p0)) 32),[])) (some (.t .bool false,[])))) none) none
theorem QEW (x0:ByteArray)(x6:List Int)(x7 x8:Int)(h:(WV x6 x7 x8&&Xb x6 (Q3 x0))=true):QcV x0 x6 x7 x8=QcW x0 x6 x7 x8:=by
 simp only [Bb] at h
 obtain ⟨h,hs⟩:=h
 have hs:=QfV hs
 obtain ⟨rfl,h3,k,rfl,hk⟩:=Qv9 h
 clear h
 refine Q5 x6 (fun k=>QcV x0 x6 (x6.length:Int) (k:Int)=QcW x0 x6 (x6.length:Int) (k:Int)) ?_ ?_ k hk
 ·rw [Qty]
  simp [Vl,QcW,QD,Qj]
 ·intro k hk ih
  rw [Qty]
  have hw:EO x6[k] (ByteArray.mk #[45,95,46])=UM x6[k]:=QEU (s:=x0) (by rw [←hs];exact Bx hk)
  simp only [Vl,QD,QI,hk,Br,Qf,Bd,Qk6 (show k<9223372036854775807 by omega),QO (y:= .int .u8) hk,ih,hw]
  simp only [QcW,Bd,Bi hk,B9]
  cases UM x6[k]<;>rfl
theorem QEX:LO QjQ QjO Qtw 0:=QN (s:=QcT) fun x y h _ q=>by simp only [QK,QL] at q;exact (QEW x.1 x.2.1 x.2.2.1 x.2.2.2.1 h).trans q
theorem s_f168 (s:ByteArray)(h:Jz s=true):Qtz s=some (.t .bool (Fl s),[]):=by
 simp only [Jz,Ba] at h
 have hl:=Ig s
 simp only [Qtz,show Xe s=true from Be (by omega),Qwa (show (Q3 s).length<=9223372036854775807 by omega),QfU,B2,Qf,BC,BF,Fl]
 cases (Q3 s).all UM with
 |false=>rfl
 |true=>
  simp only [BK,Qj,By]
  refine QV (fun g=> ?_) (fun g=> ?_)
  ·simp only [ige,ZZ,Ba] at g
   apply GR
   rw [DB]
   simp only [ile,ZZ,Ba]
   omega
  ·simp only [ige,ZZ,Bn] at g
   apply GR
   rw [eq_comm,Bn]
   omega
def QtA:Ent:=Qo (.pr .str .nil) (fun x=>(Jz x.1)) (fun x=>(.t .bool (Fl x.1)))
theorem QEY:EM 168 QtA:=mS (lk:=lkL (lkc QEX lkn)) QjQ Qtv [((.t 2),some .bool)] false (gB (gD QES (gC QbU QbV gN))) fun m=>Qt m fun x hok=>kT (s_f168 x.1 hok)
def Zd {α:Type}(l:List α):Bool:=decide (l.length<=100000)
def WJ (l:List Int)(k:Nat):Bool:=(List.range' k (l.length-k)).all fun j=>decide (j=0)||ilt (l.getD (j-1) 0) (l.getD j 0)
def UN (l:List Int):Bool:=WJ l 0
theorem QEZ (l:List Int):WJ l l.length=true:=by
 unfold WJ
 rw [DV]
 rfl
theorem QE0 {l:List Int}{k:Nat}(hk:k<l.length):WJ l k=((decide (k=0)||ilt (l.getD (k-1) 0) l[k])&&WJ l (k+1)):=by
 have:l.length-k=(l.length-(k+1))+1:=by omega
 unfold WJ
 rw [this,List.range'_succ,B9]
 simp only [Bm,Bj hk,BU]
theorem asc_br {β:Type}{l:List Int}{k:Nat}(hk:k<l.length)(hb:k<4611686018427387904)(bad ok:Option β):
  br (igt (k:Int) 0) (br (cIx l (Qs .i64 (k:Int) 1)) (br (ige (lgt tI l (Int.toNat (Qs .i64 (k:Int) 1))) l[k]) bad ok) none) ok=br (decide (k=0)||ilt (l.getD (k-1) 0) l[k]) ok bad:=by
 by_cases h0:k=0
 ·subst h0
  rw [show igt ((0:Nat):Int) 0=false from rfl,Qj,Be rfl,Bool.true_or,Qf]
 ·have e:Qs .i64 (k:Int) 1=((k-1:Nat):Int):=by rw [J5 (by omega)];omega
  rw [show igt (k:Int) 0=true from Be (by omega),Qf,e,Bd,QI,Be (show k-1<l.length by omega),Qf,Bp h0,Dr,QaB]
  show br (!ilt (l.getD (k-1) 0) l[k]) bad ok=_
  cases ilt (l.getD (k-1) 0) l[k]<;>rfl
abbrev QcX:Sh:=⟨[(0,.ty (.sl tI)),(5,.ty tI),(6,.ty tI)],[]⟩
abbrev QcY:Sh:=⟨[],[]⟩
def QjR:Fg:=QcX.f
def QtB:TC:=aF Tryz.f170 [(26,pL 0 QjR),(421,.fg QcY.f),(3378,pD [(0,[]),(1,[]),(2,[]),(3,[]),(4,[]),(5,[]),(6,[]),(7,[]),(8,[]),(9,[]),(10,[]),(11,[]),(12,[]),(13,[])] (.of [0,1,2,3,4,5,6,7,8,9,10,11,12,13])),(13517,.fg QcU.f)]
def QtC:TC:=lb 0 QtB
def QtD (x0:List Int)(x5 x6:Int):VS:=QcX.st (x0,x5,x6,()) ()
def QjS  : VS:=QcY.st () ()
def QE1:VS->Option (Bool×List (Bool×Exit×VS)):=mkL QcX (fun x y=>(Qy x.1 x.2.1 x.2.2.1)) (fun x y=>[((!WJ x.1 x.2.2.1.toNat),.ret,WI (false)),(true,.exit 0,QjS)])
def QjT:G:=gG 24 [] (Ls [QE1])
def QcZ (x0:List Int)(x5 x6:Int):OX:=QA (QC QjT QjR QtC) (QtD x0 x5 x6)
def Vm (kk:List Int->Int->Int->OX)(x0:List Int)(x5 x6:Int):OX:=br (ilt x6 x5) (br (igt x6 0) (br (cIx x0 (Qs .i64 x6 1)) (br (cIx x0 x6) (br (ige (lgt tI x0 (Int.toNat (Qs .i64 x6 1))) (lgt tI x0 (Int.toNat x6))) (some (.ret,WI false)) (kk x0 x5 (Qh .i64 x6 1))) none) none) (kk x0 x5 (Qh .i64 x6 1))) (some (.exit 0,QjS))
def Qc0 (x0:List Int)(x5 x6:Int):OX:=br (!WJ x0 x6.toNat) (some (.ret,WI (false)))<|some (.exit 0,QjS)
theorem QtE (x0:List Int)(x5 x6:Int):QcZ x0 x5 x6=Vm QcZ x0 x5 x6:=lnT (x:=Vm (fun x0 x5 x6=>some (.normal,QtD x0 x5 x6)) x0 x5 x6) (by simp only [Vm,nxA];rfl)
def QtF (p0:List Int):OV:=br (Qy p0 (Qc p0) (0:Int)) (br (!WJ p0 (0:Int).toNat) (some (.t .bool (false),[])) (some (.t .bool true,[]))) none
theorem QE2 (x0:List Int)(x5 x6:Int)(h:(Qy x0 x5 x6)=true):QcZ x0 x5 x6=Qc0 x0 x5 x6:=by
 obtain ⟨rfl,h3,k,rfl,hk⟩:=JR h
 clear h
 refine Q5 x0 (fun k=>QcZ x0 (x0.length:Int) (k:Int)=Qc0 x0 (x0.length:Int) (k:Int)) ?_ ?_ k hk
 ·rw [QtE]
  simp only [Vm,Qc0,QD,BX,BW,Qj,Bd,QEZ,BK]
 ·intro k hk ih
  rw [QtE]
  simp only [Vm,QD,QI,hk,Br,Qf,Bd,QW (show k<4611686018427387904 by omega),QO (y:=tI) hk,ih,asc_br hk (show k<4611686018427387904 by omega)]
  simp only [Qc0,Bd,QE0 hk]
  cases decide (k=0)||ilt (x0.getD (k-1) 0) x0[k]<;>rfl
theorem QE3:LO QjT QjR QtC 0:=QN (s:=QcX) fun x y h _ q=>by simp only [QK,QL] at q;exact (QE2 x.1 x.2.1 x.2.2.1 h).trans q
theorem s_f170 (l:List Int)(h:Zd l=true):QtF l=some (.t .bool (UN l),[]):=by
 simp only [Zd,Ba] at h
 simp only [QtF,JS h,Qf,BC]
 unfold UN
 cases WJ l 0<;>rfl
def QtG:Ent:=Qo (.pr (.sl tI) .nil) (fun x=>(Zd x.1)) (fun x=>(.t .bool (UN x.1)))
theorem QE4:EM 170 QtG:=mS (lk:=lkL (lkc QE3 lkn)) QjT QtB [((.t 2),some .bool)] false (gB gN) fun m=>Qt m fun x hok=>kT (s_f170 x.1 hok)
def Fm (a:Int):Bool:=ieq (YH a) 1
def QE5:TC:=aF Tryz.f176 []
def g_f176:G:=gG 6 [(218,QaZ)] (fun _ _=>none)
def r_f176 (p0:Int):OV:=some (.t .bool (ieq (YH p0) 1),[])
theorem s_f176 (a:Int):r_f176 a=some (.t .bool (Fm a),[]):=rfl
def QtH:Ent:=Qo (.pr tI .nil) (fun x=>true) (fun x=>(.t .bool (Fm x.1)))
theorem QE6:EM 176 QtH:=mS g_f176 QE5 [((.t 2),some .bool)] false (gB (gD Qgu gN)) fun m=>Qt m fun x _=>kT (s_f176 x.1)
def XL (l:List Int)(k:Nat):Bool:=(List.range' k (l.length-k)).all fun j=>ieq (Yu (l.getD j 0)).2 0&& !Q9 (l.take j) (l.getD j 0)
def X9 (l:List Int):Bool:=XL l 0
theorem QE7 (l:List Int):XL l l.length=true:=by
 unfold XL
 rw [DV]
 rfl
theorem QE8 {l:List Int}{k:Nat}(hk:k<l.length):XL l k=((ieq (Yu l[k]).2 0&& !Q9 (l.take k) l[k])&&XL l (k+1)):=by
 have:l.length-k=(l.length-(k+1))+1:=by omega
 unfold XL
 rw [this,List.range'_succ,B9]
 simp only [Bm,Bj hk,BU]
theorem QE9 (l:List Int)(k:Nat):lsl l 0 (k:Int)=l.take k:=by
 simp [lsl]
theorem QFa {l:List Int}{k:Nat}(hk:k<=l.length):cSl l 0 (k:Int) ((List.length l:Nat):Int)=true:=by
 simp only [cSl,Ba]
 omega
abbrev Qc1:Sh:=⟨[(0,.ty (.sl tI)),(7,.ty (.sl tI)),(8,.ty tI),(9,.ty tI)],[]⟩
def QjU:Fg:=Qc1.f
def QtI:TC:=aF Tryz.f169 [(26,pL 0 QjU),(421,.fg QcY.f),(27037,.fg QcU.f)]
def QtJ:TC:=lb 0 QtI
def QtK (x0 x7:List Int)(x8 x9:Int):VS:=Qc1.st (x0,x7,x8,x9,()) ()
def QjV  : VS:=QcY.st () ()
def QFb:VS->Option (Bool×List (Bool×Exit×VS)):=mkL Qc1 (fun x y=>(Qy x.2.1 x.2.2.1 x.2.2.2.1&&Xb x.1 x.2.1)) (fun x y=>[((!XL x.2.1 x.2.2.2.1.toNat),.ret,WI (false)),(true,.exit 0,QjV)])
def QjW:G:=gG 29 [(201,QhE),(217,Qpn)] (Ls [QFb])
def Qc2 (x0 x7:List Int)(x8 x9:Int):OX:=QA (QC QjW QjU QtJ) (QtK x0 x7 x8 x9)
def Vn (kk:List Int->List Int->Int->Int->OX)(x0 x7:List Int)(x8 x9:Int):OX:=
 let a1:=lgt tI x7 (Int.toNat x9)
 br (ilt x9 x8) (br (cIx x7 x9) (br (ine ((Yu a1).2) 0) (some (.ret,WI false)) (br (cSl x0 0 x9 ((List.length x0:Nat):Int)) (br (J3 (lsl x0 0 x9) a1) (br (Q9 (lsl x0 0 x9) a1) (some (.ret,WI false)) (kk x0 x7 x8 (Qh .i64 x9 1))) none) none)) none) (some (.exit 0,QjV))
def Qc3 (x0 x7:List Int)(x8 x9:Int):OX:=br (!XL x7 x9.toNat) (some (.ret,WI (false)))<|some (.exit 0,QjV)
theorem QtL (x0 x7:List Int)(x8 x9:Int):Qc2 x0 x7 x8 x9=Vn Qc2 x0 x7 x8 x9:=lnT (x:=Vn (fun x0 x7 x8 x9=>some (.normal,QtK x0 x7 x8 x9)) x0 x7 x8 x9) (by simp only [Vn,nxA];rfl)
def QtM (p0:List Int):OV:=br (Qy p0 (Qc p0) (0:Int)&&Xb p0 p0) (br (!XL p0 (0:Int).toNat) (some (.t .bool (false),[])) (some (.t .bool true,[]))) none
theorem QFc (x0 x7:List Int)(x8 x9:Int)(h:(Qy x7 x8 x9&&Xb x0 x7)=true):Qc2 x0 x7 x8 x9=Qc3 x0 x7 x8 x9:=by
 simp only [Bb] at h
 obtain ⟨h0,hs⟩:=h
 have hs:=QfV hs
 subst hs
 obtain ⟨rfl,h3,k,rfl,hk⟩:=JR h0
 clear h0
 refine Q5 x0 (fun k=>Qc2 x0 x0 (x0.length:Int) (k:Int)=Qc3 x0 x0 (x0.length:Int) (k:Int)) ?_ ?_ k hk
 ·rw [QtL]
  simp only [Vn,Qc3,QD,BX,BW,Qj,Bd,QE7,BK]
 ·intro k hk ih
  rw [QtL]
  have hi:J3 (x0.take k) x0[k]=true:=Be (by rw [B6];omega)
  simp only [Vn,QD,QI,hk,Br,Qf,Bd,QW (show k<4611686018427387904 by omega),QO (y:=tI) hk,ih,QE9,QFa (show k<=x0.length by omega),hi,QfT]
  simp only [Qc3,Bd,QE8 hk]
  cases ieq (Yu x0[k]).2 0<;>cases Q9 (x0.take k) x0[k]<;>rfl
theorem QFd:LO QjW QjU QtJ 0:=QN (s:=Qc1) fun x y h _ q=>by simp only [QK,QL] at q;exact (QFc x.1 x.2.1 x.2.2.1 x.2.2.2.1 h).trans q
theorem s_f169 (l:List Int)(h:Zd l=true):QtM l=some (.t .bool (X9 l),[]):=by
 simp only [Zd,Ba] at h
 simp only [QtM,JS h,QfU,B2,Qf,BC]
 unfold X9
 cases XL l 0<;>rfl
def QtN:Ent:=Qo (.pr (.sl tI) .nil) (fun x=>(Zd x.1)) (fun x=>(.t .bool (X9 x.1)))
theorem QFe:EM 169 QtN:=mS (lk:=lkL (lkc QFd lkn)) QjW QtI [((.t 2),some .bool)] false (gB (gD Qqj (gD QAC gN))) fun m=>Qt m fun x hok=>kT (s_f169 x.1 hok)
def Xn (n:Int):Bool:= !ZB n
def QFf:TC:=aF Tryz.f173 []
def QFg:G:=gG 8 [(175,QaC)] (fun _ _=>none)
def QtO (p0:Int):OV:=some (.t .bool (!(ZB p0)),[.box (.c (.func (.func 175) #[] #[]))])
theorem QFh (n:Int):QtO n=some (.t .bool (Xn n),[.box (.c (.func (.func 175) #[] #[]))]):=by
 simp only [QtO]
 rfl
def QtP:Ent:=Uu [.ty tI,.ptr 50000 0] [.bc 175] (fun x y=>true) (fun x y=>(.t .bool (Xn x.1))) (fun x y=>[.box (.c (.func (.func 175) #[] #[]))])
theorem QFi:EM 173 QtP:=mS QFg QFf [((.t 3),some .bool)] false (gB (gD QfW gN)) fun m=>Gk (XX m fun x y _=>kT (QFh x.1))
def EP (l:List Int):Int:=match Ju Xn l with|some k=>(k:Int)|none=> -1
abbrev Qc4:Sh:=⟨[(0,.ty (.sl tI)),(1,.fn 173 [(50000,0)]),(7,.ty tI),(8,.ty tI)],[(50000,.bc 175)]⟩
abbrev QtQ:Sh:=⟨[(4,.ty tI)],[(50000,.bc 175)]⟩
abbrev QtR:Sh:=⟨[],[(50000,.bc 175)]⟩
def QjX:Fg:=Qc4.f
def QtS:TC:=aF Tryz.f220 [(26,pL 0 QjX),(421,.fg QtR.f),(13517,.fg QtQ.f)]
def QtT:TC:=lb 0 QtS
def QtU (x0:List Int)(x7 x8:Int):VS:=Qc4.st (x0,(),x7,x8,()) ((),())
def QjY (x4:Int):VS:=QtQ.st (x4,()) ((),())
def QjZ  : VS:=QtR.st () ((),())
def QFj:VS->Option (Bool×List (Bool×Exit×VS)):=mkL Qc4 (fun x y=>(Qy x.1 x.2.2.1 x.2.2.2.1)) (fun x y=>[(((Ju Xn (x.1.drop x.2.2.2.1.toNat)).isSome),.ret,QjY (x.2.2.2.1+((Ju Xn (x.1.drop x.2.2.2.1.toNat)).getD 0:Nat))),(true,.exit 0,QjZ)])
def Qj0:G:=gG 19 [(173,QtP)] (Ls [QFj])
def Qc5 (x0:List Int)(x7 x8:Int):OX:=QA (QC Qj0 QjX QtT) (QtU x0 x7 x8)
def Vo (kk:List Int->Int->Int->OX)(x0:List Int)(x7 x8:Int):OX:=br (ilt x8 x7) (br (cIx x0 x8) (br (Xn (lgt tI x0 (Int.toNat x8))) (some (.ret,QjY x8)) (kk x0 x7 (Qh .i64 x8 1))) none) (some (.exit 0,QjZ))
def Qc6 (x0:List Int)(x7 x8:Int):OX:=
 let a1:=Ju Xn (x0.drop x8.toNat)
 br (a1.isSome) (some (.ret,QjY (x8+(a1.getD 0:Nat))))<|some (.exit 0,QjZ)
theorem QtV (x0:List Int)(x7 x8:Int):Qc5 x0 x7 x8=Vo Qc5 x0 x7 x8:=lnT (x:=Vo (fun x0 x7 x8=>some (.normal,QtU x0 x7 x8)) x0 x7 x8) (by simp only [Vo,nxA];rfl)
def QtW (p0:List Int):OV:=
 let a1:=(Ju Xn (p0.drop (0:Int).toNat))
 br (Qy p0 (Qc p0) (0:Int)) (br (a1.isSome) (some (.t tI ((0:Int)+(a1.getD 0:Nat)),[.box (.c (.func (.func 175) #[] #[]))])) (some (.t tI (-1),[.box (.c (.func (.func 175) #[] #[]))]))) none
theorem QFk (x0:List Int)(x7 x8:Int)(h:(Qy x0 x7 x8)=true):Qc5 x0 x7 x8=Qc6 x0 x7 x8:=by
 obtain ⟨rfl,h3,k,rfl,hk⟩:=JR h
 clear h
 refine Q5 x0 (fun k=>Qc5 x0 (x0.length:Int) (k:Int)=Qc6 x0 (x0.length:Int) (k:Int)) ?_ ?_ k hk
 ·rw [QtV]
  simp [Vo,Qc6,QD,Qj,Ju]
 ·intro k hk ih
  rw [QtV]
  simp only [Vo,QD,QI,hk,Br,Qf,Bd,QW (show k<4611686018427387904 by omega),ih,QO (y:=tI) hk]
  simp only [Qc6,Bd,Bi hk,Ju]
  cases h:Xn x0[k] with
  |true=>simp [Qf]
  |false=>
   simp only [Qj,BE,B8]
   cases hq:Ju Xn (x0.drop (k+1)) with
   |none=>rfl
   |some j=>
    simp only [B7,Dv,BU,Qf]
    congr 3
    omega
theorem QFl:LO Qj0 QjX QtT 0:=QN (s:=Qc4) fun x y h _ q=>by simp only [QK,QL] at q;exact (QFk x.1 x.2.2.1 x.2.2.2.1 h).trans q
theorem QFm (l:List Int)(h:Zd l=true):QtW l=some (.t tI (EP l),[.box (.c (.func (.func 175) #[] #[]))]):=by
 simp only [Zd,Ba] at h
 simp only [QtW,JS h,Qf,BC,BF,EP]
 cases Ju Xn l<;>simp [Qf,Qj]
def QtX:Ent:=Uu [.ty (.sl tI),.fn 173 [(50000,0)]] [.bc 175] (fun x y=>(Zd x.1)) (fun x y=>(.t tI (EP x.1))) (fun x y=>[.box (.c (.func (.func 175) #[] #[]))])
theorem QFn:EM 220 QtX:=mS (lk:=lkL (lkc QFl lkn)) Qj0 QtS [((.t 4),some tI)] false (gB (gD QFi gN)) fun m=>Gk (XX m fun x y hok=>kT (QFm x.1 hok))
def Fn (l:List Int):Bool:= !l.all ZB
def QFo:TC:=aF Tryz.f174 []
def QFp:G:=gG 9 [(220,QtX)] (fun _ _=>none)
def QtY (p0:List Int):OV:=br (Zd p0) (some (.t .bool (ige (EP p0) 0),[.box (.c (.func (.func 175) #[] #[]))])) none
theorem QFq (l:List Int)(h:Zd l=true):QtY l=some (.t .bool (Fn l),[.box (.c (.func (.func 175) #[] #[]))]):=by
 simp only [QtY,h,Qf]
 have e:ige (EP l) 0=Fn l:=by
  have e2:Fn l=l.any Xn:=by
   unfold Fn
   rw [List.not_all_eq_any_not]
   rfl
  rw [e2]
  unfold EP
  cases hq:Ju Xn l with
  |none=>rw [VK.1 hq];rfl
  |some k=>
   rw [←Qk7,hq]
   simp only [ige,Dv,Ba]
   omega
 rw [e]
def QtZ:Ent:=Uu [.ty (.sl tI),.fn 173 [(50000,0)]] [.bc 175] (fun x y=>(Zd x.1)) (fun x y=>(.t .bool (Fn x.1))) (fun x y=>[.box (.c (.func (.func 175) #[] #[]))])
theorem QFr:EM 174 QtZ:=mS QFp QFo [((.t 4),some .bool)] false (gB (gD QFn gN)) fun m=>Gk (XX m fun x y hok=>kT (QFq x.1 hok))
def Qt0:TC:=aF Tryz.f172 []
def Qt1:List (RV×Option Ty):=[((.t 2),none)]
def Qt2:G:=gG 4 [] (fun _ _=>none)
def Qt3  : OV:=some (.fn 173 [(.ptr 50000 0)],[.box (.c (.func (.func 175) #[] #[]))])
theorem QFs  : QP Qt2 Qt0 Qt1 true [.c (.func (.func 175) ⟨[]⟩ ⟨[]⟩)] []=Qt3  :=by kernel_rfl
theorem QFt:Qt3=some (.fn 173 [.ptr 50000 0],[.box (.c (.func (.func 175) #[] #[]))]):=rfl
def Qt4:Ent:=Uu [.cf 175] [] (fun x y=>true) (fun x y=>(.fn 173 [(.ptr 50000 0)])) (fun x y=>[.box (.c (.func (.func 175) #[] #[]))])
theorem QFu:EM 172 Qt4:=mS Qt2 Qt0 Qt1 true (gB gN) fun m=>Gk (XX m fun x y _=>(QFs ).trans (QFt ))
def Xo (n:Int):Bool:= !Fm n
def QFv:TC:=aF Tryz.f173 []
def QFw:G:=gG 8 [(176,QtH)] (fun _ _=>none)
def Qt5 (p0:Int):OV:=some (.t .bool (!(Fm p0)),[.box (.c (.func (.func 176) #[] #[]))])
theorem QFx (n:Int):Qt5 n=some (.t .bool (Xo n),[.box (.c (.func (.func 176) #[] #[]))]):=by
 simp only [Qt5]
 rfl
def Qt6:Ent:=Uu [.ty tI,.ptr 50000 0] [.bc 176] (fun x y=>true) (fun x y=>(.t .bool (Xo x.1))) (fun x y=>[.box (.c (.func (.func 176) #[] #[]))])
theorem QFy:EM 173 Qt6:=mS QFw QFv [((.t 3),some .bool)] false (gB (gD QE6 gN)) fun m=>Gk (XX m fun x y _=>kT (QFx x.1))
def EQ (l:List Int):Int:=match Ju Xo l with|some k=>(k:Int)|none=> -1
abbrev Qc7:Sh:=⟨[(0,.ty (.sl tI)),(1,.fn 173 [(50000,0)]),(7,.ty tI),(8,.ty tI)],[(50000,.bc 176)]⟩
abbrev Qt7:Sh:=⟨[(4,.ty tI)],[(50000,.bc 176)]⟩
abbrev Qt8:Sh:=⟨[],[(50000,.bc 176)]⟩
def Qj1:Fg:=Qc7.f
def Qt9:TC:=aF Tryz.f220 [(26,pL 0 Qj1),(421,.fg Qt8.f),(13517,.fg Qt7.f)]
def Qua:TC:=lb 0 Qt9
def Qub (x0:List Int)(x7 x8:Int):VS:=Qc7.st (x0,(),x7,x8,()) ((),())
def Qj2 (x4:Int):VS:=Qt7.st (x4,()) ((),())
def Qj3  : VS:=Qt8.st () ((),())
def QFz:VS->Option (Bool×List (Bool×Exit×VS)):=mkL Qc7 (fun x y=>(Qy x.1 x.2.2.1 x.2.2.2.1)) (fun x y=>[(((Ju Xo (x.1.drop x.2.2.2.1.toNat)).isSome),.ret,Qj2 (x.2.2.2.1+((Ju Xo (x.1.drop x.2.2.2.1.toNat)).getD 0:Nat))),(true,.exit 0,Qj3)])
def Qj4:G:=gG 19 [(173,Qt6)] (Ls [QFz])
def Qc8 (x0:List Int)(x7 x8:Int):OX:=QA (QC Qj4 Qj1 Qua) (Qub x0 x7 x8)
def Vp (kk:List Int->Int->Int->OX)(x0:List Int)(x7 x8:Int):OX:=br (ilt x8 x7) (br (cIx x0 x8) (br (Xo (lgt tI x0 (Int.toNat x8))) (some (.ret,Qj2 x8)) (kk x0 x7 (Qh .i64 x8 1))) none) (some (.exit 0,Qj3))
def Qc9 (x0:List Int)(x7 x8:Int):OX:=
 let a1:=Ju Xo (x0.drop x8.toNat)
 br (a1.isSome) (some (.ret,Qj2 (x8+(a1.getD 0:Nat))))<|some (.exit 0,Qj3)
theorem Quc (x0:List Int)(x7 x8:Int):Qc8 x0 x7 x8=Vp Qc8 x0 x7 x8:=lnT (x:=Vp (fun x0 x7 x8=>some (.normal,Qub x0 x7 x8)) x0 x7 x8) (by simp only [Vp,nxA];rfl)
def Qud (p0:List Int):OV:=
 let a1:=(Ju Xo (p0.drop (0:Int).toNat))
 br (Qy p0 (Qc p0) (0:Int)) (br (a1.isSome) (some (.t tI ((0:Int)+(a1.getD 0:Nat)),[.box (.c (.func (.func 176) #[] #[]))])) (some (.t tI (-1),[.box (.c (.func (.func 176) #[] #[]))]))) none
theorem QFA (x0:List Int)(x7 x8:Int)(h:(Qy x0 x7 x8)=true):Qc8 x0 x7 x8=Qc9 x0 x7 x8:=by
 obtain ⟨rfl,h3,k,rfl,hk⟩:=JR h
 clear h
 refine Q5 x0 (fun k=>Qc8 x0 (x0.length:Int) (k:Int)=Qc9 x0 (x0.length:Int) (k:Int)) ?_ ?_ k hk
 ·rw [Quc]
  simp [Vp,Qc9,QD,Qj,Ju]
 ·intro k hk ih
  rw [Quc]
  simp only [Vp,QD,QI,hk,Br,Qf,Bd,QW (show k<4611686018427387904 by omega),ih,QO (y:=tI) hk]
  simp only [Qc9,Bd,Bi hk,Ju]
  cases h:Xo x0[k] with
  |true=>simp [Qf]
  |false=>
   simp only [Qj,BE,B8]
   cases hq:Ju Xo (x0.drop (k+1)) with
   |none=>rfl
   |some j=>
    simp only [B7,Dv,BU,Qf]
    congr 3
    omega
theorem QFB:LO Qj4 Qj1 Qua 0:=QN (s:=Qc7) fun x y h _ q=>by simp only [QK,QL] at q;exact (QFA x.1 x.2.2.1 x.2.2.2.1 h).trans q
theorem QFC (l:List Int)(h:Zd l=true):Qud l=some (.t tI (EQ l),[.box (.c (.func (.func 176) #[] #[]))]):=by
 simp only [Zd,Ba] at h
 simp only [Qud,JS h,Qf,BC,BF,EQ]
 cases Ju Xo l<;>simp [Qf,Qj]
def Que:Ent:=Uu [.ty (.sl tI),.fn 173 [(50000,0)]] [.bc 176] (fun x y=>(Zd x.1)) (fun x y=>(.t tI (EQ x.1))) (fun x y=>[.box (.c (.func (.func 176) #[] #[]))])
theorem QFD:EM 220 Que:=mS (lk:=lkL (lkc QFB lkn)) Qj4 Qt9 [((.t 4),some tI)] false (gB (gD QFy gN)) fun m=>Gk (XX m fun x y hok=>kT (QFC x.1 hok))
def Fo (l:List Int):Bool:= !l.all Fm
def QFE:TC:=aF Tryz.f174 []
def QFF:G:=gG 9 [(220,Que)] (fun _ _=>none)
def Quf (p0:List Int):OV:=br (Zd p0) (some (.t .bool (ige (EQ p0) 0),[.box (.c (.func (.func 176) #[] #[]))])) none
theorem QFG (l:List Int)(h:Zd l=true):Quf l=some (.t .bool (Fo l),[.box (.c (.func (.func 176) #[] #[]))]):=by
 simp only [Quf,h,Qf]
 have e:ige (EQ l) 0=Fo l:=by
  have e2:Fo l=l.any Xo:=by
   unfold Fo
   rw [List.not_all_eq_any_not]
   rfl
  rw [e2]
  unfold EQ
  cases hq:Ju Xo l with
  |none=>rw [VK.1 hq];rfl
  |some k=>
   rw [←Qk7,hq]
   simp only [ige,Dv,Ba]
   omega
 rw [e]
def Qug:Ent:=Uu [.ty (.sl tI),.fn 173 [(50000,0)]] [.bc 176] (fun x y=>(Zd x.1)) (fun x y=>(.t .bool (Fo x.1))) (fun x y=>[.box (.c (.func (.func 176) #[] #[]))])
theorem QFH:EM 174 Qug:=mS QFF QFE [((.t 4),some .bool)] false (gB (gD QFD gN)) fun m=>Gk (XX m fun x y hok=>kT (QFG x.1 hok))
def Quh:TC:=aF Tryz.f172 []
def Qui:List (RV×Option Ty):=[((.t 2),none)]
def Quj:G:=gG 4 [] (fun _ _=>none)
def Quk  : OV:=some (.fn 173 [(.ptr 50000 0)],[.box (.c (.func (.func 176) #[] #[]))])
theorem QFI  : QP Quj Quh Qui true [.c (.func (.func 176) ⟨[]⟩ ⟨[]⟩)] []=Quk  :=by kernel_rfl
theorem QFJ:Quk=some (.fn 173 [.ptr 50000 0],[.box (.c (.func (.func 176) #[] #[]))]):=rfl
def Qul:Ent:=Uu [.cf 176] [] (fun x y=>true) (fun x y=>(.fn 173 [(.ptr 50000 0)])) (fun x y=>[.box (.c (.func (.func 176) #[] #[]))])
theorem QFK:EM 172 Qul:=mS Quj Quh Qui true (gB gN) fun m=>Gk (XX m fun x y _=>(QFI ).trans (QFJ ))
end
end Go.Proofs.YthlcobdnemhcdaaGreat.K
noncomputable section
namespace Go.Proofs.YthlcobdnemhcdaaGreat.K
open Go.RowKit
noncomputable section
theorem QGJ {c:Int}(h:ieq (Yu c).2 0=true):1<=c/\c<=16:=by
 unfold Yu at h
 split at h
 ·simp [ieq] at h
 ·omega
theorem Qva {l:List Int}(h:X9 l=true): ∀ (k:Nat) (hk:k<l.length),(1<=l[k]/\l[k]<=16)∧ ¬ l[k]∈l.take k:=by
 intro k hk
 simp only [X9,XL,Bh,List.mem_range'_1,Bb,BA] at h
 obtain ⟨h1,h2⟩:=h k ⟨by omega,by omega⟩
 simp only [Bm,Bj hk,BU] at h1 h2
 refine ⟨QGJ h1,fun hm=> ?_⟩
 simp only [Q9] at h2
 rw [BH.2 hm] at h2
 cases h2
theorem QGK {l:List Int}(h:X9 l=true):l.Nodup:=by
 have h2:=Qva h
 rw [List.nodup_iff_pairwise_ne,List.pairwise_iff_getElem]
 intro i j hi hj hij he
 refine (h2 j hj).2 ?_
 rw [←he]
 exact List.mem_iff_getElem.2 ⟨i,by rw [B6];omega,by rw [List.getElem_take]⟩
theorem suit_len {l:List Int}(h:X9 l=true):l.length<=16:=by
 have h1:=QGK h
 have h2:=Qva h
 have h3:l ⊆ [1,2,3,4,5,6,7,8,9,10,11,12,13,14,15,16]:=by
  intro x hx
  obtain ⟨k,hk,rfl⟩:=List.mem_iff_getElem.1 hx
  have:=(h2 k hk).1
  simp only [BB,BY,DC]
  omega
 exact h1.length_le_of_subset h3
abbrev E1 (e:Endpoint):List Int:=e.2.2.2.1
abbrev WL (e:Endpoint):List Identity:=e.2.2.2.2.2.1
abbrev GA (e:Endpoint):List Int:=e.2.2.2.2.2.2.1
abbrev Fq (e:Endpoint):List Int:=e.2.2.2.2.2.2.2.1
def Fs (x:Identity):Bool:=U3 x.1 x.2.1 x.2.2.1
def Xs (x:Identity):Bool:=Z5 x.2.2.1
def Ze (e:Endpoint):Bool:=Jz e.1&&decide ((E1 e).length<=100000/\(WL e).length<=100000/\(GA e).length<=100000/\(Fq e).length<=100000)&&(WL e).all Xs
def Za (e:Endpoint):Bool:=
 Fl e.1&&(!ilt e.2.1 1&&(!igt e.2.1 e.2.2.1&&(!igt e.2.2.1 4&&(X9 (E1 e)&&(!igt (Qc (WL e)) 4&&(!igt (Qc (GA e)) 16&&(UN (GA e)&&(UN (Fq e)&&((WL e).all Fs&&((GA e).all ZB&&(Fq e).all Fm))))))))))
def E2 (e:Endpoint):Int:=bif Za e then 0 else 19
theorem QGL (e:Endpoint):ine (E2 e) 0= !Za e:=by
 unfold E2
 cases Za e<;>rfl
abbrev QdB:Sh:=⟨[(1,.ptr 1 0),(56,.ty (.sl J4)),(57,.ty tI),(58,.ty tI)],[(1,.box QJ)]⟩
abbrev Qvb:Sh:=⟨[(2,.ty tI)],[]⟩
abbrev Qvc:Sh:=⟨[(1,.ptr 1 0)],[(1,.box QJ)]⟩
def Qkw:Fg:=QdB.f
def Qvd:TC:=aF Tryz.f119 [(122,pL 0 Qkw),(1957,.fg Qvc.f),(62669,.fg Qvb.f),(252,pD [(0,[1]),(1,[1]),(2,[]),(3,[74,5074,10074,15074]),(4,[74,75,5074,5075,10074,10075,15074,15075]),(5,[]),(6,[1]),(7,[1]),(8,[]),(9,[80,5080,10080,15080]),(10,[80,81,5080,5081,10080,10081,15080,15081]),(11,[])] (.of [0,1,2,3,4,5,6,7,8,9,10,11]))]
def Qve:TC:=lb 0 Qvd
def Qvf (x56:List Identity)(x57 x58:Int)(y1:Endpoint):VS:=QdB.st ((),x56,x57,x58,()) (y1,())
def Qkx (x2:Int):VS:=Qvb.st (x2,()) ()
def Qky (y1:Endpoint):VS:=Qvc.st ((),()) (y1,())
def QGM:VS->Option (Bool×List (Bool×Exit×VS)):=mkL QdB (fun x y=>(Qy x.2.1 x.2.2.1 x.2.2.2.1&&x.2.1.all Xs)) (fun x y=>[((!(x.2.1.drop x.2.2.2.1.toNat).all Fs),.ret,Qkx (19)),(true,.exit 0,Qky (y.1))])
def Qkz:G:=gG 83 [(168,QtA),(169,QtN),(170,QtG),(171,Qns),(172,Qt4),(172,Qul),(174,Qug),(174,QtZ)] (Ls [QGM])
def QdC (x56:List Identity)(x57 x58:Int)(y1:Endpoint):OX:=QA (QC Qkz Qkw Qve) (Qvf x56 x57 x58 y1)
def Vz (kk:List Identity->Int->Int->Endpoint->OX)(x56:List Identity)(x57 x58:Int)(y1:Endpoint):OX:=
 let a1:=lgt J4 x56 (Int.toNat x58)
 br (ilt x58 x57) (br (cIx x56 x58) (br (Qap (a1.1) ((a1.2).1) (((a1.2).2).1)) (br (!(U3 (a1.1) ((a1.2).1) (((a1.2).2).1))) (some (.ret,Qkx 19)) (kk x56 x57 (Qh .i64 x58 1) y1)) none) none) (some (.exit 0,Qky y1))
def QdD (x56:List Identity)(x57 x58:Int)(y1:Endpoint):OX:=br (!(x56.drop x58.toNat).all Fs) (some (.ret,Qkx (19)))<|some (.exit 0,Qky (y1))
theorem Qvg (x56:List Identity)(x57 x58:Int)(y1:Endpoint):QdC x56 x57 x58 y1=Vz QdC x56 x57 x58 y1:=lnT (x:=Vz (fun x56 x57 x58 y1=>some (.normal,Qvf x56 x57 x58 y1)) x56 x57 x58 y1) (by simp only [Vz,nxA];rfl)
def Qvh (p0:Endpoint):OV:=
 let a1:=(((((((p0).2).2).2).2).2).2)
 br (Jz p0.1) (br (!(Fl p0.1)) (some (.t tI 19,[])) (br (ilt p0.2.1 1) (some (.t tI 19,[])) (br (igt p0.2.1 p0.2.2.1) (some (.t tI 19,[])) (br (igt p0.2.2.1 4) (some (.t tI 19,[])) (br (Zd p0.2.2.2.1) (br (!(X9 p0.2.2.2.1)) (some (.t tI 19,[])) (br (igt (Qc p0.2.2.2.2.2.1) 4) (some (.t tI 19,[])) (br (igt (Qc p0.2.2.2.2.2.2.1) 16) (some (.t tI 19,[])) (br (Zd p0.2.2.2.2.2.2.1) (br (!(UN p0.2.2.2.2.2.2.1)) (some (.t tI 19,[])) (br (Zd p0.2.2.2.2.2.2.2.1) (br (!(UN p0.2.2.2.2.2.2.2.1)) (some (.t tI 19,[])) (br (Qy p0.2.2.2.2.2.1 (Qc p0.2.2.2.2.2.1) (0:Int)&&p0.2.2.2.2.2.1.all Xs) (br (!(p0.2.2.2.2.2.1.drop (0:Int).toNat).all Fs) (some (.t tI (19),[])) (br (Zd (a1.1)) (br (Fn (a1.1)) (some (.t tI 19,[])) (br (Zd ((a1.2).1)) (br (Fo ((a1.2).1)) (some (.t tI 19,[])) (some (.t tI 0,[]))) none)) none)) none)) none)) none)))) none))))) none
theorem QGN (x56:List Identity)(x57 x58:Int)(y1:Endpoint)(h:(Qy x56 x57 x58&&x56.all Xs)=true):QdC x56 x57 x58 y1=QdD x56 x57 x58 y1:=by
 simp only [Bb,Bh] at h
 obtain ⟨h0,hc⟩:=h
 obtain ⟨rfl,h3,k,rfl,hk⟩:=JR h0
 clear h0
 refine Q5 x56 (fun k=>QdC x56 (x56.length:Int) (k:Int) y1=QdD x56 (x56.length:Int) (k:Int) y1) ?_ ?_ k hk
 ·rw [Qvg]
  simp only [Vz,QdD,QD,BX,BW,Qj,Bd,B5,List.all_nil,BK]
 ·intro k hk ih
  rw [Qvg]
  have hx:Qap x56[k].1 x56[k].2.1 x56[k].2.2.1=true:=hc x56[k] (Bx hk)
  simp only [Vz,QD,QI,hk,Br,Qf,Bd,QW (show k<4611686018427387904 by omega),QO (y:=J4) hk,hx,ih]
  simp only [QdD,Bd,Bi hk,B9,Fs]
  cases U3 x56[k].1 x56[k].2.1 x56[k].2.2.1<;>rfl
theorem QGO:LO Qkz Qkw Qve 0:=QN (s:=QdB) fun x y h _ q=>by simp only [QK,QL] at q;exact (QGN x.2.1 x.2.2.1 x.2.2.2.1 y.1 h).trans q
theorem s_f119 (e:Endpoint)(h:Ze e=true):Qvh e=some (.t tI (E2 e),[]):=by
 simp only [Ze,Bb,Ba] at h
 obtain ⟨⟨h1,h2,h3,h4,h5⟩,h6⟩:=h
 have q2:Zd (E1 e)=true:=Be h2
 have q4:Zd (GA e)=true:=Be h4
 have q5:Zd (Fq e)=true:=Be h5
 unfold E2
 simp only [Qvh,h1,q2,q4,q5,JS h3,h6,B2,Qf,BC,BF,Fn,Fo]
 refine br9 (fun g=>by simp only [BA] at g;simp [Za,g]) fun g1=>br9 (fun g=>by simp [Za,g]) fun g2=>br9 (fun g=>by simp [Za,g]) fun g3=>br9 (fun g=>by simp [Za,g]) fun g4=>br9 (fun g=>by simp only [BA] at g;simp [Za,g]) fun g5=>br9 (fun g=>by simp [Za,g]) fun g6=>br9 (fun g=>by simp [Za,g]) fun g7=>br9 (fun g=>by simp only [BA] at g;simp [Za,g]) fun g8=>br9 (fun g=>by simp only [BA] at g;simp [Za,g]) fun g9=>br9 (fun g=>by simp only [BA] at g;simp [Za,g]) fun g10=>br9 (fun g=>by simp only [BA] at g;simp [Za,g]) fun g11=>br9 (fun g=>by simp only [BA] at g;simp [Za,g]) fun g12=> ?_
 simp only [Bool.not_eq_false'] at g1 g5 g8 g9 g10 g11 g12
 have:Za e=true:=by
  simp only [Za,g1,g2,g3,g4,g5,g6,g7,g8,g9,g10,g11,g12,DA,B2]
 rw [this]
 rfl
def Qvi:Ent:=Qo (.pr QJ .nil) (fun x=>(Ze x.1)) (fun x=>(.t tI (E2 x.1)))
theorem QGP:EM 119 Qvi:=mS (lk:=lkL (lkc QGO lkn)) Qkz Qvd [((.t 2),some tI)] false (gB (gD QEY (gD QFe (gD QE4 (gD Qze (gD QFu (gD QFK (gD QFH (gD QFr gN))))))))) fun m=>Qt m fun x hok=>kT (s_f119 x.1 hok)
end
end Go.Proofs.YthlcobdnemhcdaaGreat.K
noncomputable section
namespace Go.Proofs.YthlcobdnemhcdaaGreat.K
open Go.RowKit
section
variable {P:Program}{X:Nat->Nat->Prop}{w:World}{σ:Pl}
end
end Go.Proofs.YthlcobdnemhcdaaGreat.K
noncomputable section
namespace Go.Proofs.YthlcobdnemhcdaaGreat.K
open Go.RowKit
noncomputable section
theorem Qzf {l:List Certificate}(h:Z5 l=true){k:Nat}(hk:k<l.length):J1 l[k]=true:=by
 simp only [Z5,Bb,Bh] at h
 exact h.2 _ (Bx hk)
theorem Qnt {l:List Certificate}(h:Z5 l=true):l.length<=100000:=by
 simp only [Z5,Bb,Ba] at h
 exact h.1
abbrev cAt (l:List Certificate)(k:Nat):Certificate:=l.getD k Qao
def pathF (l:List Certificate)(i:Int):Bool:= !ilt i 0&&(!ige i (Qc l)&&(ieq i 0||((cAt l i.toNat).2.2.2.2.2.2.2.2.1&&ige (cAt l i.toNat).2.2.2.2.2.2.2.2.2.1 (i-1))))
def Qzg (l:List Certificate)(k:Nat):Int:=if k+1<l.length then (cAt l (k+1)).2.2.2.2.1 else (Wu (cAt l k)).1
def Qzh (l:List Certificate)(e:Int)(k:Nat):Bool:=
 bif ieq e 11 then decide (k+1<l.length)&&sne (cAt l k).2.1 (cAt l (k+1)).2.2.1
 else bif ieq e 15 then !pathF l k else !Qy5 (cAt l k) (Qzg l k)
def failUp (l:List Certificate)(e:Int)(k:Nat):Bool:=(List.range' k (l.length-k)).any (Qzh l e)
def QfB (l:List Certificate)(e:Int):Bool:=failUp l e 0
end
end Go.Proofs.YthlcobdnemhcdaaGreat.K
noncomputable section
namespace Go.Proofs.YthlcobdnemhcdaaGreat.K
open Go.RowKit
noncomputable section
end
end Go.Proofs.YthlcobdnemhcdaaGreat.K
noncomputable section
namespace Go.Proofs.YthlcobdnemhcdaaGreat.K
open Go.RowKit
noncomputable section
-- loop 0: (x0 : (List Identity)) (x7 : Int) (x8 : Int) (Qa : Suite); out: ('ret',) (x4 : Int) (Qa : Suite); ('exit', 0) (Qa : Suite)
-- loop 0: (x8 : Int) (y2 : Endpoint) (y6 : Suite); out: ('ret',) (x4 : Int) (x5 : Bool); ('exit', 0)
end
end Go.Proofs.YthlcobdnemhcdaaGreat.K
noncomputable section
namespace Go.Proofs.YthlcobdnemhcdaaGreat.K
open Go.RowKit
noncomputable section
-- loop 0: (x0 : (List Int)) (x1 : Talk) (x7 : Int) (x8 : Int); out: ('ret',) (x4 : Int); ('exit', 0)
abbrev zK:Keep:=(0,(0,()))
theorem QDJ {e:Endpoint}(h:Ze e=true):Jz e.1=true/\(E1 e).length<=100000/\(WL e).length<=100000/\(GA e).length<=100000/\(Fq e).length<=100000/\(WL e).all Xs=true:=by
 simp only [Ze,Bb,Ba] at h
 exact ⟨h.1.1,h.1.2.1,h.1.2.2.1,h.1.2.2.2.1,h.1.2.2.2.2,h.2⟩
end
end Go.Proofs.YthlcobdnemhcdaaGreat.K
noncomputable section
namespace Go.Proofs.YthlcobdnemhcdaaGreat.K
open Go.RowKit
noncomputable section
theorem brN {β:Type}{p q:Bool}{X:Option β}:br p (br q X none) none=br (p&&q) X none:=by cases p<;>rfl
def Qo4 (c:Int):Int:=bif ine (Yu c).2 0 then 0 else Xh (Yu c).1.2.2.2.2.1
def Qgq (x:Int)(l:List Int):Nat->Nat
 |0=>0
 |k+1=>if ilt (Qo4 (l.getD k 0)) (Qo4 x)=true then Qgq x l k else k+1
def insS (l:List Int)(x:Int):List Int:=(l.take (Qgq x l l.length)++[x])++l.drop (Qgq x l l.length)
def sortS (l:List Int):List Int:=l.foldl insS []
-- loop 0: (x0 : (List Int)) (x4 : Int) (x5 : Int) (y3 : (List Int)); out: ('exit', 2) (x0 : (List Int)) (x4 : Int) (x5 : Int) (y3 : (List Int))
-- loop 1: (x0 : (List Int)) (x4 : Int) (y3 : (List Int)); out: ('exit', 0) (y3 : (List Int))
end
end Go.Proofs.YthlcobdnemhcdaaGreat.K
noncomputable section
namespace Go.Proofs.YthlcobdnemhcdaaGreat.K
open Go.RowKit
noncomputable section
theorem Qe8 {d:Dice}{l:List Int}(h:dOk d=true)(h1:l≠[])(h2:l.length<=100):Jc d l=true:=by
 have:0<l.length:=List.length_pos_iff.2 h1
 simp only [Jc,h,By,Ba]
 omega
theorem YF {d:Dice}{n:Int}(h:dOk d=true)(hn:n<=1000000):QG d n=true:=by
 simp only [QG,h,By,Ba]
 omega
theorem Qe9 {d:Dice}{n:Int}(h:dOk d=true)(h0:0<=n)(hn:n<=1000000):Jm d n=true:=by
 simp only [Jm,YF h hn,By,Ba]
 omega
abbrev QmH (d:Dice):Int:=dof d [5,7,5,6,8,9]
def keyV (d:Dice):Keep:=(QmH d,(sizeV (Qu d [5,7,5,6,8,9]) (QmH d),()))
def keyN (d:Dice):Dice:=sizeN (Qu d [5,7,5,6,8,9]) (QmH d)
abbrev cD1 (d:Dice):Dice:=Qe d 1000
abbrev cD2 (d:Dice):Dice:=Qu (cD1 d) [3,2,4,1]
abbrev cD3 (d:Dice):Dice:=Qu (cD2 d) [0,5,10]
abbrev cD4 (d:Dice):Dice:=Qu (cD3 d) [1000,100,50,20]
def cD5 (d:Dice)(a:Bool):Dice:=bif a then Qu (cD4 d) [3,0,1] else cD4 d
def cPath (d:Dice)(a:Bool):Int:=bif a then dof (cD4 d) [3,0,1] else 0
def cNm (d:Dice)(a:Bool)(s:ByteArray):List ByteArray:=bif done (cD5 d a) 3 then [s,scat s (ByteArray.mk #[120])] else [s]
def cRaw (d:Dice)(i s:ByteArray)(k:Keep)(id:Int)(a:Bool):Certificate:=
 (Ql d 1000,(i,(s,(k,(id,((dof (cD1 d) [3,2,4,1],(0,())),(dof (cD2 d) [0,5,10],(dof (cD3 d) [1000,100,50,20],(a,(cPath d a,(cNm d a s,((0,(0,())),()))))))))))))
def cerV (d:Dice)(i s:ByteArray)(k:Keep)(id g:Int)(a:Bool):Certificate:=(Ua (cRaw d i s k id a) g).1
def cerN (d:Dice)(_i _s:ByteArray)(_k:Keep)(_id _g:Int)(a:Bool):Dice:=Qe (cD5 d a) 3
theorem QKI {i s:ByteArray}{k:Keep}{id:Int}{a:Bool}{q p:Int}{u v:Keep}{x y:Int}(hi:i.size<=1000)(hs:s.size<=1000){l:List ByteArray}(hl:l.length<=2)(hn: ∀ t∈l,t.size<=1001):
  J1 (q,(i,(s,(k,(id,(u,(x,(y,(a,(p,(l,(v,()))))))))))))=true:=by
 have hg: ∀ t:ByteArray,t.size<=1001->Jz t=true:=fun t ht=>Be (by omega)
 simp only [J1,Bb]
 refine ⟨hg _ (by omega),hg _ (by omega), ?_⟩
 simp only [YG,Bb,Bh]
 exact ⟨Be (by show l.length<=_;omega),fun t ht=>hg t (hn t ht)⟩
end
end Go.Proofs.YthlcobdnemhcdaaGreat.K
noncomputable section
namespace Go.Proofs.YthlcobdnemhcdaaGreat.K
open Go.RowKit
noncomputable section
abbrev sRoot:ByteArray:=ByteArray.mk #[114,111,111,116]
abbrev QmI:List ByteArray:=[ByteArray.mk #[99,97],ByteArray.mk #[99,98],ByteArray.mk #[99,99]]
abbrev Up:Type:=List Certificate×Dice×ByteArray×Int
def abvZ:Nat->Nat->Up->Up
 |0,_,u=>u
 |m+1,i,(ab,d,iss,g)=>abvZ m (i+1) (cerV d iss (QmI.getD i ByteArray.empty) (5,(2048,())) ((11+i:Nat):Int) g true::ab,cerN d iss (QmI.getD i ByteArray.empty) (5,(2048,())) ((11+i:Nat):Int) g true,QmI.getD i ByteArray.empty,((11+i:Nat):Int))
def chU (d:Dice):Up:=abvZ (dof d [1,0,2]).toNat 0 ([],Qe (Qu d [1,0,2]) 2,sRoot,1+Ql (Qu d [1,0,2]) 2)
def chnV (d:Dice)(nm:ByteArray)(k:Keep)(id:Int):List Certificate:=cerV (chU d).2.1 (chU d).2.2.1 nm k id (chU d).2.2.2 false::(chU d).1
def chnN (d:Dice)(nm:ByteArray)(k:Keep)(id:Int):Dice:=cerN (chU d).2.1 (chU d).2.2.1 nm k id (chU d).2.2.2 false
-- loop 0: (x1 : ByteArray) (x3 : Int) (x9 : Int) (x10 : Int) (x11 : ByteArray) (x13 : Int) (y6 : Keep) (y12 : (List Certificate)) (Qa : Dice); out: ('exit', 0) (x1 : ByteArray) (x3 : Int) (x10 : Int) (x11 : ByteArray) (y6 : Keep) (y12 : (List Certificate)) (Qa : Dice)
end
end Go.Proofs.YthlcobdnemhcdaaGreat.K
noncomputable section
namespace Go.Proofs.YthlcobdnemhcdaaGreat.K
open Go.RowKit
noncomputable section
def suZ:Nat->List Int->Dice->List Int×Dice
 |0,l,d=>(l,d)
 |n+1,l,d=>suZ n (bif !Q9 l (1+Ql d 16) then l++[1+Ql d 16] else l) (Qe d 16)
def suI (d:Dice):List Int×Dice:=suZ (2+Ql d 9).toNat [] (Qe d 9)
def suiV (d:Dice):List Int:=bif done (suI d).2 4 then sortS (suI d).1 else (suI d).1
def suiN (d:Dice):Dice:=Qe (suI d).2 4
-- loop 0: (x4 : Int) (y3 : (List Int)) (Qa : Dice); out: ('exit', 0) (y3 : (List Int)) (Qa : Dice)
end
end Go.Proofs.YthlcobdnemhcdaaGreat.K
noncomputable section
namespace Go.Proofs.YthlcobdnemhcdaaGreat.K
open Go.RowKit
noncomputable section
abbrev iB (d:Dice):Bool:=igt (Ql (keyN d) 3) 0
abbrev iD2 (d:Dice):Dice:=Qe (keyN d) 3
abbrev iA (d:Dice):Int:=dof (iD2 d) [5,7]
def Qhq (d:Dice):Keep:=bif iB d then (iA d,(sizeV (Qu (iD2 d) [5,7]) (iA d),())) else keyV d
def iD3 (d:Dice):Dice:=bif iB d then sizeN (Qu (iD2 d) [5,7]) (iA d) else iD2 d
def iId (d:Dice):Int:=100+Ql (iD3 d) 20
abbrev iD4 (d:Dice):Dice:=Qe (iD3 d) 20
abbrev iD5 (d:Dice):Dice:=Qe (iD4 d) 9
def iCh (d:Dice)(nm:ByteArray):List Certificate:=bif !done (iD4 d) 9 then chnV (iD5 d) nm (Qhq d) (iId d) else []
def iD6 (d:Dice)(nm:ByteArray):Dice:=bif !done (iD4 d) 9 then chnN (iD5 d) nm (Qhq d) (iId d) else iD5 d
def idV (d:Dice)(nm:ByteArray):Identity:=(Qhq d,(iId d,(iCh d nm,())))
def Qhr:Nat->ByteArray->Dice->List Identity×Dice
 |0,_,d=>([],d)
 |n+1,nm,d=>(idV d nm::(Qhr n nm (iD6 d nm)).1,(Qhr n nm (iD6 d nm)).2)
abbrev eL0 (d:Dice):Int:=dof d [1,1,2,3]
abbrev eD1 (d:Dice):Dice:=Qu d [1,1,2,3]
abbrev eD2 (d:Dice):Dice:=suiN (eD1 d)
abbrev eD3 (d:Dice):Dice:=Qe (eD2 d) 2
abbrev eD4 (d:Dice):Dice:=Qe (eD3 d) 2
abbrev eD5 (d:Dice):Dice:=Qe (eD4 d) (5-eL0 d)
abbrev eD6 (d:Dice):Dice:=Qe (eD5 d) 3
abbrev eB (d:Dice):Bool:=igt (Ql (eD5 d) 3) 0
def eLst (d:Dice):Int:=bif eB d then 1 else eL0 d
def eMst (d:Dice):Int:=bif eB d then dof (eD6 d) [3,4,2] else eL0 d+Ql (eD4 d) (5-eL0 d)
def eD7 (d:Dice):Dice:=bif eB d then Qu (eD6 d) [3,4,2] else eD6 d
abbrev eD8 (d:Dice):Dice:=Qu (eD7 d) [1,2,1,3,0]
def Qhs (d:Dice)(nm:ByteArray):List Identity×Dice:=Qhr (dof (eD7 d) [1,2,1,3,0]).toNat nm (eD8 d)
abbrev eAn (d:Dice)(nm:ByteArray):List Int:=lgt (.sl tI) [[1,2],[1,2],[1],[2,11],([]:List Int)] (Ql (Qhs d nm).2 5).toNat
abbrev eD10 (d:Dice)(nm:ByteArray):Dice:=Qe (Qhs d nm).2 5
abbrev eHs (d:Dice)(nm:ByteArray):List Int:=lgt (.sl tI) [[1,2,3,4],[2,3,4],[3,4]] (Ql (eD10 d nm) 3).toNat
def epV (d:Dice)(nm:ByteArray):Endpoint:=(nm,(eLst d,(eMst d,(suiV (eD1 d),(done (eD2 d) 2,((Qhs d nm).1,(eAn d nm,(eHs d nm,(done (eD3 d) 2,())))))))))
def epN (d:Dice)(nm:ByteArray):Dice:=Qe (eD10 d nm) 3
-- loop 0: (x1 : ByteArray) (x6 : Int) (y4 : Endpoint) (y5_0 : ByteArray) (y5_1 : Int) (y5_2 : Int) (y5_4 : Bool) (y5_8 : Bool) (y15 : (List Int)) (QLp : (List Identity)) (Qa : Dice); out: ('exit', 0) (y4 : Endpoint) (y5_0 : ByteArray) (y5_1 : Int) (y5_2 : Int) (y5_4 : Bool) (y5_8 : Bool) (y15 : (List Int)) (QLp : (List Identity)) (Qa : Dice)
end
end Go.Proofs.YthlcobdnemhcdaaGreat.K
noncomputable section
namespace Go.Proofs.YthlcobdnemhcdaaGreat.K
open Go.RowKit
noncomputable section
def prZ:List Int->List Int->Dice->List Int×Dice
 | [],s,d=>(s,d)
 |x::r,s,d=>if ilt (Qc s) 16=true then (if Q9 s x=true then prZ r s d else if done d 2=true then prZ r (s++[x]) (Qe d 2) else prZ r s (Qe d 2)) else (s,d)
end
end Go.Proofs.YthlcobdnemhcdaaGreat.K
noncomputable section
namespace Go.Proofs.YthlcobdnemhcdaaGreat.K
open Go.RowKit
noncomputable section
end
end Go.Proofs.YthlcobdnemhcdaaGreat.K
noncomputable section
namespace Go.Proofs.YthlcobdnemhcdaaGreat.K
open Go.RowKit
noncomputable section
end
end Go.Proofs.YthlcobdnemhcdaaGreat.K
noncomputable section
namespace Go.Proofs.YthlcobdnemhcdaaGreat.K
open Go.RowKit
noncomputable section
-- loop 0: (x6 : Int) (x7 : Int) (y2 : Endpoint) (y3 : Endpoint) (y5 : (List Keep)); out: ('exit', 2) (x6 : Int) (y2 : Endpoint) (y3 : Endpoint) (y5 : (List Keep))
-- loop 1: (x6 : Int) (y2 : Endpoint) (y3 : Endpoint) (y5 : (List Keep)); out: ('exit', 0) (y5 : (List Keep))
end
end Go.Proofs.YthlcobdnemhcdaaGreat.K
noncomputable section
namespace Go.Proofs.YthlcobdnemhcdaaGreat.K
open Go.RowKit
noncomputable section
end
end Go.Proofs.YthlcobdnemhcdaaGreat.K
noncomputable section
namespace Go.Proofs.YthlcobdnemhcdaaGreat.K
open Go.RowKit Go.Shelf
attribute [local go_sem] Oper.semAt_some
end Go.Proofs.YthlcobdnemhcdaaGreat.K
noncomputable section
namespace Go.Proofs.YthlcobdnemhcdaaGreat.K
open Go.RowKit
noncomputable section
-- loop 0: (QLq : (List Int)) (Qa : (List Int)); out: ('normal',) (QLq : (List Int)) (Qa : (List Int))
end
end Go.Proofs.YthlcobdnemhcdaaGreat.K
noncomputable section
namespace Go.Proofs.YthlcobdnemhcdaaGreat.K
open Go.RowKit
noncomputable section
-- loop 0: (x7 : Int) (x39 : Int) (x40 : Int) (y2 : Endpoint) (y3 : Endpoint) (y5 : (List Keep)) (y8 : Talk) (y18 : (List Int)); out: ('exit', 2) (x7 : Int) (y2 : Endpoint) (y3 : Endpoint) (y5 : (List Keep)) (y18 : (List Int))
-- loop 1: (x7 : Int) (y2 : Endpoint) (y3 : Endpoint) (y5 : (List Keep)) (y18 : (List Int)); out: ('exit', 0) (y5 : (List Keep))
end
end Go.Proofs.YthlcobdnemhcdaaGreat.K
noncomputable section
namespace Go.Proofs.YthlcobdnemhcdaaGreat.K
open Go.RowKit
noncomputable section
end
end Go.Proofs.YthlcobdnemhcdaaGreat.K
noncomputable section
namespace Go.Proofs.YthlcobdnemhcdaaGreat.K
open Go.RowKit
noncomputable section
theorem Qum {l:List (List Int)}(h: ∀ x∈l,x.length<=4)(k:Nat):(lgt (.sl tI) l k).length<=4:=by
 show (l.getD k []).length<=4
 rw [Bm]
 cases hk:l[k]? with
 |none=>exact B3 _
 |some x=>exact h x (DF hk)
attribute [local irreducible] epV epN prZ
end
end Go.Proofs.YthlcobdnemhcdaaGreat.K
noncomputable section
namespace Go.Proofs.YthlcobdnemhcdaaGreat.K
open Go.RowKit
noncomputable section
end
end Go.Proofs.YthlcobdnemhcdaaGreat.K
