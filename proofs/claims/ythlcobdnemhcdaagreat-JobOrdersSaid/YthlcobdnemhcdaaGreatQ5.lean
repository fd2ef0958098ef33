import Derived.Test.YthlcobdnemhcdaaGreatQ4
import Derived.Test.YthlcobdnemhcdaaGreatQ3
import Derived.Shelf.Small.Strs
import Derived.Ground.NamesProg
import Derived.RangeFuncCalls
import Derived.RangeFuncBound
import Derived.Shelf.RegionOpen
import Derived.OwnWalkIn
import Derived.TacticsInMore
import Derived.LoopNIn
import Derived.LoopIn
set_option linter.unusedSimpArgs false
set_option linter.unusedVariables false
noncomputable section
namespace Go.Proofs.YthlcobdnemhcdaaGreat.K
open Go.RowKit
noncomputable section
def ZZ (a:Int):Int:=(ofF a).1.2.1
def Qxz:TC:=aF Tryz.f218 []
def g_f218:G:=gG 12 [(199,Qge)] (fun _ _=>none)
def r_f218 (p0:Int):OV:=some (.t tI ((((ofF p0).1).2).1),[])
theorem s_f218 (a:Int):r_f218 a=some (.t tI (ZZ a),[]):=rfl
def VQ:Ent:=Qn (.pr tI .nil) (fun x=>true) (fun x=>(.t tI (ZZ x.1)))
theorem Qfj:EM 218 VQ:=mS g_f218 Qxz [((.t 2),some tI)] false (gB (gD QnN gN)) fun m=>Qt m fun x _=>kT (s_f218 x.1)
def QmN:TC:=aF Tryz.f230 []
def QmO:List (RV×Option Ty):=[((.t 0),some (.sl WM))]
def QmP:G:=gG 25 [] (fun _ _=>none)
def QmQ  : OV:=some (.t (.sl WM) ([((ByteArray.mk #[]),(0,())),((ByteArray.mk #[109,100,53]),(1,())),((ByteArray.mk #[115,104,97,49]),(1,())),((ByteArray.mk #[115,104,97,50,53,54]),(1,())),((ByteArray.mk #[115,104,97,51,56,52]),(1,())),((ByteArray.mk #[114,115,97]),(2,())),((ByteArray.mk #[100,115,97]),(2,())),((ByteArray.mk #[101,99,100,115,97]),(2,())),((ByteArray.mk #[101,100,50,53,53,49,57]),(2,())),((ByteArray.mk #[109,108,100,115,97]),(2,())),((ByteArray.mk #[114,115,97,107,120]),(3,())),((ByteArray.mk #[100,104,101]),(3,())),((ByteArray.mk #[101,99,100,104,101]),(3,())),((ByteArray.mk #[109,108,107,101,109]),(3,())),((ByteArray.mk #[114,99,52]),(4,())),((ByteArray.mk #[100,101,115,51]),(4,())),((ByteArray.mk #[97,101,115,99,98,99]),(4,())),((ByteArray.mk #[97,101,115,103,99,109]),(4,())),((ByteArray.mk #[99,104,97,99,104,97]),(4,())),((ByteArray.mk #[104,109,97,99,109,100,53]),(5,())),((ByteArray.mk #[104,109,97,99,115,104,97,49]),(5,())),((ByteArray.mk #[104,109,97,99,115,104,97,50,53,54]),(5,())),((ByteArray.mk #[97,101,97,100]),(5,()))]),[])
theorem e_f230  : QK QmP QmN QmO false [] []=QmQ  :=by kernel_rfl
def VR:Ty.T (.sl WM):=([((ByteArray.mk #[]),(0,())),((ByteArray.mk #[109,100,53]),(1,())),((ByteArray.mk #[115,104,97,49]),(1,())),((ByteArray.mk #[115,104,97,50,53,54]),(1,())),((ByteArray.mk #[115,104,97,51,56,52]),(1,())),((ByteArray.mk #[114,115,97]),(2,())),((ByteArray.mk #[100,115,97]),(2,())),((ByteArray.mk #[101,99,100,115,97]),(2,())),((ByteArray.mk #[101,100,50,53,53,49,57]),(2,())),((ByteArray.mk #[109,108,100,115,97]),(2,())),((ByteArray.mk #[114,115,97,107,120]),(3,())),((ByteArray.mk #[100,104,101]),(3,())),((ByteArray.mk #[101,99,100,104,101]),(3,())),((ByteArray.mk #[109,108,107,101,109]),(3,())),((ByteArray.mk #[114,99,52]),(4,())),((ByteArray.mk #[100,101,115,51]),(4,())),((ByteArray.mk #[97,101,115,99,98,99]),(4,())),((ByteArray.mk #[97,101,115,103,99,109]),(4,())),((ByteArray.mk #[99,104,97,99,104,97]),(4,())),((ByteArray.mk #[104,109,97,99,109,100,53]),(5,())),((ByteArray.mk #[104,109,97,99,115,104,97,49]),(5,())),((ByteArray.mk #[104,109,97,99,115,104,97,50,53,54]),(5,())),((ByteArray.mk #[97,101,97,100]),(5,()))])
theorem s_f230:QmQ=some (.t (.sl WM) VR,[]):=rfl
def QmR:Ent:=Qn .nil (fun x=>true) (fun x=>(.t (.sl WM) VR))
theorem QxA:EM 230 QmR:=mS QmP QmN QmO false (gB gN) fun m=>Qt m fun x _=>(e_f230 ).trans (s_f230)
def QxB:TC:=aF Tryz.f186 []
def g_f186:G:=gG 14 [(230,QmR)] (fun _ _=>none)
def QmS (p0:Int):OV:=br (ilt p0 1) (some (.t tI 0,[])) (br (igt p0 22) (some (.t tI 0,[])) (br (cIx VR p0) (some (.t tI (((lgt WM VR (Int.toNat p0)).2).1),[])) none))
theorem QxC {a:Int}(h1:1<=a)(h2:a<=22):a=1∨a=2∨a=3∨a=4∨a=5∨a=6∨a=7∨a=8∨a=9∨a=10∨a=11∨a=12∨a=13∨a=14∨a=15∨a=16∨a=17∨a=18∨a=19∨a=20∨a=21∨a=22:=by omega
theorem s_f186 (a:Int):QmS a=some (.t tI (ZZ a),[]):=by
 simp only [QmS]
 refine Q8 (fun h1=> ?_) (fun h1=>Q8 (fun h2=> ?_) (fun h2=> ?_))
 ·have h1:a<1:=by simpa [ilt] using h1
  simp [ZZ,ofF,h1,Iz]
 ·have h2:22<a:=by simpa [igt] using h2
  simp [ZZ,ofF,h2,Iz]
 ·have h1: ¬ a<1:=by simpa [ilt] using h1
  have h2: ¬ 22<a:=by simpa [igt] using h2
  rcases QxC (a:=a) (by omega) (by omega) with rfl|rfl|rfl|rfl|rfl|rfl|rfl|rfl|rfl|rfl|rfl|rfl|rfl|rfl|rfl|rfl|rfl|rfl|rfl|rfl|rfl|rfl<;>rfl
def Qfk:Ent:=Qn (.pr tI .nil) (fun x=>true) (fun x=>(.t tI (ZZ x.1)))
theorem QmT:EM 186 Qfk:=mS g_f186 QxB [((.t 2),some tI)] false (gB (gD QxA gN)) fun m=>Qt m fun x _=>kT (s_f186 x.1)
def Qu (a b:Int):Keep:=(a,(b,()))
def QxD:TC:=aF Tryz.f268 []
def g_f268:G:=gG 8 [] (fun _ _=>none)
def r_f268 (p0 p1:Int):OV:=some (.t Qk (p0,(p1,())),[])
theorem s_f268 (a b:Int):r_f268 a b=some (.t Qk (Qu a b),[]):=rfl
def QmU:Ent:=Qn (.pr tI (.pr tI .nil)) (fun x=>true) (fun x=>(.t Qk (Qu x.1 x.2.1)))
theorem QxE:EM 268 QmU:=mS g_f268 QxD [((.c 4 true 2),some Qk)] false (gB gN) fun m=>Qt m fun x _=>kT (s_f268 x.1 x.2.1)
def ZM (c:Int)(n:ByteArray)(e s f m:Keep)(l o:Int):Suite:=(c,(n,(e,(s,(f,(m,(l,(o,()))))))))
def WC:Ty.T (.sl JS):=
 let a1:=(ZM 9 (ByteArray.mk #[101,99,100,104,101,45,101,99,100,115,97,45,97,101,115,50,53,54,45,115,104,97,50,53,54]) (Qu 12 256) (Qu 7 0) (Qu 16 256) (Qu 21 0) 3 3)
 let a2:=(ZM 11 (ByteArray.mk #[101,99,100,104,101,45,101,99,100,115,97,45,97,101,115,50,53,54,45,103,99,109]) (Qu 12 384) (Qu 7 0) (Qu 17 256) (Qu 22 0) 3 3)
 let a3:=(ZM 10 (ByteArray.mk #[101,99,100,104,101,45,114,115,97,45,97,101,115,49,50,56,45,103,99,109]) (Qu 12 256) (Qu 5 0) (Qu 17 128) (Qu 22 0) 3 3)
 let a4:=(ZM 8 (ByteArray.mk #[101,99,100,104,101,45,114,115,97,45,97,101,115,49,50,56,45,115,104,97]) (Qu 12 256) (Qu 5 0) (Qu 16 128) (Qu 20 0) 1 3)
 let a5:=(ZM 7 (ByteArray.mk #[100,104,101,45,114,115,97,45,97,101,115,49,50,56,45,115,104,97]) (Qu 11 2048) (Qu 5 0) (Qu 16 128) (Qu 20 0) 1 3)
 let a6:=(ZM 16 (ByteArray.mk #[109,108,107,101,109,45,97,101,115,50,53,54,45,103,99,109]) (Qu 13 768) (0,(0,())) (Qu 17 256) (Qu 22 0) 4 4)
 let a7:=(ZM 4 (ByteArray.mk #[100,104,101,45,100,115,97,45,100,101,115,51,45,115,104,97]) (Qu 11 1024) (Qu 6 0) (Qu 15 168) (Qu 20 0) 1 3)
 let a8:=(ZM 5 (ByteArray.mk #[100,104,101,45,114,115,97,45,100,101,115,51,45,115,104,97]) (Qu 11 1024) (Qu 5 0) (Qu 15 168) (Qu 20 0) 1 3)
 let a9:=(ZM 12 (ByteArray.mk #[101,99,100,104,101,45,114,115,97,45,99,104,97,99,104,97]) (Qu 12 256) (Qu 5 0) (Qu 18 0) (Qu 22 0) 3 3)
 let a10:=(ZM 13 (ByteArray.mk #[114,115,97,45,97,101,115,50,53,54,45,103,99,109]) (Qu 10 0) (Qu 5 0) (Qu 17 256) (Qu 22 0) 3 3)
 let a11:=(ZM 6 (ByteArray.mk #[114,115,97,45,97,101,115,49,50,56,45,115,104,97]) (Qu 10 0) (Qu 5 0) (Qu 16 128) (Qu 20 0) 1 3)
 let a12:=(ZM 3 (ByteArray.mk #[114,115,97,45,100,101,115,51,45,115,104,97]) (Qu 10 0) (Qu 5 0) (Qu 15 168) (Qu 20 0) 1 3)
 let a13:=(ZM 1 (ByteArray.mk #[114,115,97,45,114,99,52,45,109,100,53]) (Qu 10 0) (Qu 5 0) (Qu 14 128) (Qu 19 0) 1 2)
 let a14:=(ZM 2 (ByteArray.mk #[114,115,97,45,114,99,52,45,115,104,97]) (Qu 10 0) (Qu 5 0) (Qu 14 128) (Qu 20 0) 1 3)
 let a15:=(ZM 14 (ByteArray.mk #[97,101,115,49,50,56,45,103,99,109]) (Qu 12 256) (0,(0,())) (Qu 17 128) (Qu 22 0) 4 4)
 let a16:=(ZM 15 (ByteArray.mk #[99,104,97,99,104,97]) (Qu 12 256) (0,(0,())) (Qu 18 0) (Qu 22 0) 4 4)
 let a17:=(((a13.2).2).2)
 let a18:=(((a14.2).2).2)
 let a19:=(((a12.2).2).2)
 let a20:=(((a11.2).2).2)
 let a21:=(((a10.2).2).2)
 let a22:=(((a15.2).2).2)
 let a23:=(((a16.2).2).2)
 let a24:=(((a7.2).2).2)
 let a25:=(((a8.2).2).2)
 let a26:=(((a5.2).2).2)
 let a27:=(((a4.2).2).2)
 let a28:=(((a1.2).2).2)
 let a29:=(((a3.2).2).2)
 let a30:=(((a2.2).2).2)
 let a31:=(((a9.2).2).2)
 let a32:=(((a6.2).2).2)
 ([(a13.1,((a13.2).1,(((((a13.2).2).1).1,(((((a13.2).2).1).2).1,())),(((a17.1).1,(((a17.1).2).1,())),((((a17.2).1).1,((((a17.2).1).2).1,())),(((((a17.2).2).1).1,(((((a17.2).2).1).2).1,())),((((a17.2).2).2).1,(((((a17.2).2).2).2).1,())))))))),(a14.1,((a14.2).1,(((((a14.2).2).1).1,(((((a14.2).2).1).2).1,())),(((a18.1).1,(((a18.1).2).1,())),((((a18.2).1).1,((((a18.2).1).2).1,())),(((((a18.2).2).1).1,(((((a18.2).2).1).2).1,())),((((a18.2).2).2).1,(((((a18.2).2).2).2).1,())))))))),(a12.1,((a12.2).1,(((((a12.2).2).1).1,(((((a12.2).2).1).2).1,())),(((a19.1).1,(((a19.1).2).1,())),((((a19.2).1).1,((((a19.2).1).2).1,())),(((((a19.2).2).1).1,(((((a19.2).2).1).2).1,())),((((a19.2).2).2).1,(((((a19.2).2).2).2).1,())))))))),(a7.1,((a7.2).1,(((((a7.2).2).1).1,(((((a7.2).2).1).2).1,())),(((a24.1).1,(((a24.1).2).1,())),((((a24.2).1).1,((((a24.2).1).2).1,())),(((((a24.2).2).1).1,(((((a24.2).2).1).2).1,())),((((a24.2).2).2).1,(((((a24.2).2).2).2).1,())))))))),(a8.1,((a8.2).1,(((((a8.2).2).1).1,(((((a8.2).2).1).2).1,())),(((a25.1).1,(((a25.1).2).1,())),((((a25.2).1).1,((((a25.2).1).2).1,())),(((((a25.2).2).1).1,(((((a25.2).2).1).2).1,())),((((a25.2).2).2).1,(((((a25.2).2).2).2).1,())))))))),(a11.1,((a11.2).1,(((((a11.2).2).1).1,(((((a11.2).2).1).2).1,())),(((a20.1).1,(((a20.1).2).1,())),((((a20.2).1).1,((((a20.2).1).2).1,())),(((((a20.2).2).1).1,(((((a20.2).2).1).2).1,())),((((a20.2).2).2).1,(((((a20.2).2).2).2).1,())))))))),(a5.1,((a5.2).1,(((((a5.2).2).1).1,(((((a5.2).2).1).2).1,())),(((a26.1).1,(((a26.1).2).1,())),((((a26.2).1).1,((((a26.2).1).2).1,())),(((((a26.2).2).1).1,(((((a26.2).2).1).2).1,())),((((a26.2).2).2).1,(((((a26.2).2).2).2).1,())))))))),(a4.1,((a4.2).1,(((((a4.2).2).1).1,(((((a4.2).2).1).2).1,())),(((a27.1).1,(((a27.1).2).1,())),((((a27.2).1).1,((((a27.2).1).2).1,())),(((((a27.2).2).1).1,(((((a27.2).2).1).2).1,())),((((a27.2).2).2).1,(((((a27.2).2).2).2).1,())))))))),(a1.1,((a1.2).1,(((((a1.2).2).1).1,(((((a1.2).2).1).2).1,())),(((a28.1).1,(((a28.1).2).1,())),((((a28.2).1).1,((((a28.2).1).2).1,())),(((((a28.2).2).1).1,(((((a28.2).2).1).2).1,())),((((a28.2).2).2).1,(((((a28.2).2).2).2).1,())))))))),(a3.1,((a3.2).1,(((((a3.2).2).1).1,(((((a3.2).2).1).2).1,())),(((a29.1).1,(((a29.1).2).1,())),((((a29.2).1).1,((((a29.2).1).2).1,())),(((((a29.2).2).1).1,(((((a29.2).2).1).2).1,())),((((a29.2).2).2).1,(((((a29.2).2).2).2).1,())))))))),(a2.1,((a2.2).1,(((((a2.2).2).1).1,(((((a2.2).2).1).2).1,())),(((a30.1).1,(((a30.1).2).1,())),((((a30.2).1).1,((((a30.2).1).2).1,())),(((((a30.2).2).1).1,(((((a30.2).2).1).2).1,())),((((a30.2).2).2).1,(((((a30.2).2).2).2).1,())))))))),(a9.1,((a9.2).1,(((((a9.2).2).1).1,(((((a9.2).2).1).2).1,())),(((a31.1).1,(((a31.1).2).1,())),((((a31.2).1).1,((((a31.2).1).2).1,())),(((((a31.2).2).1).1,(((((a31.2).2).1).2).1,())),((((a31.2).2).2).1,(((((a31.2).2).2).2).1,())))))))),(a10.1,((a10.2).1,(((((a10.2).2).1).1,(((((a10.2).2).1).2).1,())),(((a21.1).1,(((a21.1).2).1,())),((((a21.2).1).1,((((a21.2).1).2).1,())),(((((a21.2).2).1).1,(((((a21.2).2).1).2).1,())),((((a21.2).2).2).1,(((((a21.2).2).2).2).1,())))))))),(a15.1,((a15.2).1,(((((a15.2).2).1).1,(((((a15.2).2).1).2).1,())),(((a22.1).1,(((a22.1).2).1,())),((((a22.2).1).1,((((a22.2).1).2).1,())),(((((a22.2).2).1).1,(((((a22.2).2).1).2).1,())),((((a22.2).2).2).1,(((((a22.2).2).2).2).1,())))))))),(a16.1,((a16.2).1,(((((a16.2).2).1).1,(((((a16.2).2).1).2).1,())),(((a23.1).1,(((a23.1).2).1,())),((((a23.2).1).1,((((a23.2).1).2).1,())),(((((a23.2).2).1).1,(((((a23.2).2).1).2).1,())),((((a23.2).2).2).1,(((((a23.2).2).2).2).1,())))))))),(a6.1,((a6.2).1,(((((a6.2).2).1).1,(((((a6.2).2).1).2).1,())),(((a32.1).1,(((a32.1).2).1,())),((((a32.2).1).1,((((a32.2).1).2).1,())),(((((a32.2).2).1).1,(((((a32.2).2).1).2).1,())),((((a32.2).2).2).1,(((((a32.2).2).2).2).1,()))))))))])
abbrev Qfl:Suite:=Ty.zero JS
def Fs (k:Nat)(l:List Suite):List Suite:=(List.range' k (16-k)).foldl (fun l i=>l.set i (((i+1:Nat):Int),(l.getD i Qfl).2)) l
abbrev VT:Sh:=⟨[(15,.ms 111),(113,.ty tI),(114,.ty tI)],[(111,.arr 249 JS)]⟩
abbrev QmV:Sh:=⟨[(15,.ms 111)],[(111,.arr 249 JS)]⟩
def Qfm:Fg:=VT.f
def Qfn:TC:=aF Tryz.f249 [(62,pD [(0,[1]),(1,[2]),(2,[]),(3,[11]),(4,[]),(5,[1]),(6,[2]),(7,[]),(8,[12]),(9,[]),(10,[1]),(11,[2]),(12,[6]),(13,[12]),(14,[]),(15,[]),(16,[3]),(17,[6]),(18,[12]),(19,[]),(20,[]),(21,[2]),(22,[6]),(23,[12]),(24,[]),(25,[1]),(26,[2]),(27,[7]),(28,[12]),(29,[]),(30,[]),(31,[2]),(32,[7]),(33,[12]),(34,[]),(35,[14]),(36,[2]),(37,[7]),(38,[12]),(39,[]),(40,[14]),(41,[4]),(42,[]),(43,[]),(44,[]),(45,[14]),(46,[2]),(47,[8]),(48,[13]),(49,[]),(50,[]),(51,[4]),(52,[9]),(53,[13]),(54,[]),(55,[14]),(56,[2]),(57,[10]),(58,[13]),(59,[]),(60,[1]),(61,[2]),(62,[9]),(63,[13]),(64,[]),(65,[14]),(66,[5]),(67,[8]),(68,[13]),(69,[]),(70,[14]),(71,[5]),(72,[10]),(73,[13]),(74,[]),(75,[]),(76,[5]),(77,[9]),(78,[13]),(79,[]),(80,[111,5111,10111,15111]),(81,[111])] (.of [0,1,2,3,4,5,6,7,8,9,10,11,12,13,14,15,16,17,18,19,20,21,22,23,24,25,26,27,28,29,30,31,32,33,34,35,36,37,38,39,40,41,42,43,44,45,46,47,48,49,50,51,52,53,54,55,56,57,58,59,60,61,62,63,64,65,66,67,68,69,70,71,72,73,74,75,76,77,78,79,80,81])),(506,pL 0 Qfm),(8101,.fg QmV.f)]
def QmW:TC:=lb 0 Qfn
def QmX:List (RV×Option Ty):=[((.t 0),some (.sl JS))]
def QmY (x113 x114:Int)(y111:List Suite):VS:=VT.st ((),x113,x114,()) (y111,())
def Qfo (y111:List Suite):VS:=QmV.st ((),()) (y111,())
def QxF:VS->Option (Bool×List (Bool×Exit×VS)):=mkL VT (fun x y=>(decide (0<=x.2.2.1/\x.2.2.1<=16/\x.2.1=16/\y.1.length=16))) (fun x y=>[(true,.exit 0,Qfo (Fs x.2.2.1.toNat y.1))])
def VU:G:=⟨TYs,[111],125,EL [(268,QmU)],keeps,(Ls [QxF]),IL [],RL []⟩
def VV (x113 x114:Int)(y111:List Suite):OX:=Qx (Qz VU Qfm QmW) (QmY x113 x114 y111)
def VW (kk:Int->Int->List Suite->OX)(x113 x114:Int)(y111:List Suite):OX:=
 let a1:=Int.toNat x114
 br (ilt x114 x113) (br (cIx y111 x114) (br (cLd y111 a1) (kk x113 (Qi .i64 x114 1) (List.set y111 a1 ((Qi .i64 x114 1),(lgt JS y111 a1).2))) none) none) (some (.exit 0,Qfo y111))
def Qfp (x113 x114:Int)(y111:List Suite):OX:=some (.exit 0,Qfo (Fs x114.toNat y111))
theorem QmZ (x113 x114:Int)(y111:List Suite):VV x113 x114 y111=VW VV x113 x114 y111:=lnT (x:=VW (fun x113 x114 y111=>some (.normal,QmY x113 x114 y111)) x113 x114 y111) (by simp only [VW,nxA];rfl)
def Qm0  : OV:=
 let a1:=((Qu 5 0).1,(((Qu 5 0).2).1,()))
 let a2:=((Qu 20 0).1,(((Qu 20 0).2).1,()))
 let a3:=((Qu 22 0).1,(((Qu 22 0).2).1,()))
 let a4:=((Qu 12 256).1,(((Qu 12 256).2).1,()))
 let a5:=((Qu 10 0).1,(((Qu 10 0).2).1,()))
 let a6:=((Qu 15 168).1,(((Qu 15 168).2).1,()))
 let a7:=((Qu 16 128).1,(((Qu 16 128).2).1,()))
 let a8:=((Qu 17 256).1,(((Qu 17 256).2).1,()))
 let a9:=(ByteArray.mk #[101,99,100,104,101,45,101,99,100,115,97,45,97,101,115,50,53,54,45,115,104,97,50,53,54])
 let a10:=(ByteArray.mk #[101,99,100,104,101,45,101,99,100,115,97,45,97,101,115,50,53,54,45,103,99,109])
 let a11:=((Qu 11 1024).1,(((Qu 11 1024).2).1,()))
 let a12:=(ByteArray.mk #[101,99,100,104,101,45,114,115,97,45,97,101,115,49,50,56,45,115,104,97])
 let a13:=(ByteArray.mk #[101,99,100,104,101,45,114,115,97,45,97,101,115,49,50,56,45,103,99,109])
 let a14:=((Qu 14 128).1,(((Qu 14 128).2).1,()))
 let a15:=((Qu 17 128).1,(((Qu 17 128).2).1,()))
 let a16:=(ByteArray.mk #[100,104,101,45,114,115,97,45,97,101,115,49,50,56,45,115,104,97])
 let a17:=((Qu 18 0).1,(((Qu 18 0).2).1,()))
 let a18:=((Qu 7 0).1,(((Qu 7 0).2).1,()))
 let a19:=(ByteArray.mk #[100,104,101,45,100,115,97,45,100,101,115,51,45,115,104,97])
 let a20:=(ByteArray.mk #[100,104,101,45,114,115,97,45,100,101,115,51,45,115,104,97])
 let a21:=(ByteArray.mk #[109,108,107,101,109,45,97,101,115,50,53,54,45,103,99,109])
 let a22:=(ByteArray.mk #[101,99,100,104,101,45,114,115,97,45,99,104,97,99,104,97])
 let a23:=(ByteArray.mk #[114,115,97,45,97,101,115,49,50,56,45,115,104,97])
 let a24:=(ByteArray.mk #[114,115,97,45,97,101,115,50,53,54,45,103,99,109])
 let a25:=(ByteArray.mk #[114,115,97,45,100,101,115,51,45,115,104,97])
 let a26:=(ByteArray.mk #[114,115,97,45,114,99,52,45,109,100,53])
 let a27:=(ByteArray.mk #[114,115,97,45,114,99,52,45,115,104,97])
 let a28:=(ByteArray.mk #[97,101,115,49,50,56,45,103,99,109])
 let a29:=((Qu 11 2048).1,(((Qu 11 2048).2).1,()))
 let a30:=((Qu 16 256).1,(((Qu 16 256).2).1,()))
 let a31:=((Qu 12 384).1,(((Qu 12 384).2).1,()))
 let a32:=((Qu 13 768).1,(((Qu 13 768).2).1,()))
 let a33:=(ByteArray.mk #[99,104,97,99,104,97])
 let a34:=((Qu 19 0).1,(((Qu 19 0).2).1,()))
 let a35:=((Qu 21 0).1,(((Qu 21 0).2).1,()))
 let a36:=((Qu 6 0).1,(((Qu 6 0).2).1,()))
 br (decide (0<=(0:Int)/\(0:Int)<=16/\(Qd ([(0,(a26,(a5,(a1,(a14,(a34,(1,(2,())))))))),(0,(a27,(a5,(a1,(a14,(a2,(1,(3,())))))))),(0,(a25,(a5,(a1,(a6,(a2,(1,(3,())))))))),(0,(a19,(a11,(a36,(a6,(a2,(1,(3,())))))))),(0,(a20,(a11,(a1,(a6,(a2,(1,(3,())))))))),(0,(a23,(a5,(a1,(a7,(a2,(1,(3,())))))))),(0,(a16,(a29,(a1,(a7,(a2,(1,(3,())))))))),(0,(a12,(a4,(a1,(a7,(a2,(1,(3,())))))))),(0,(a9,(a4,(a18,(a30,(a35,(3,(3,())))))))),(0,(a13,(a4,(a1,(a15,(a3,(3,(3,())))))))),(0,(a10,(a31,(a18,(a8,(a3,(3,(3,())))))))),(0,(a22,(a4,(a1,(a17,(a3,(3,(3,())))))))),(0,(a24,(a5,(a1,(a8,(a3,(3,(3,())))))))),(0,(a28,(a4,((0,(0,())),(a15,(a3,(4,(4,())))))))),(0,(a33,(a4,((0,(0,())),(a17,(a3,(4,(4,())))))))),(0,(a21,(a32,((0,(0,())),(a8,(a3,(4,(4,()))))))))]))=16/\([(0,(a26,(a5,(a1,(a14,(a34,(1,(2,())))))))),(0,(a27,(a5,(a1,(a14,(a2,(1,(3,())))))))),(0,(a25,(a5,(a1,(a6,(a2,(1,(3,())))))))),(0,(a19,(a11,(a36,(a6,(a2,(1,(3,())))))))),(0,(a20,(a11,(a1,(a6,(a2,(1,(3,())))))))),(0,(a23,(a5,(a1,(a7,(a2,(1,(3,())))))))),(0,(a16,(a29,(a1,(a7,(a2,(1,(3,())))))))),(0,(a12,(a4,(a1,(a7,(a2,(1,(3,())))))))),(0,(a9,(a4,(a18,(a30,(a35,(3,(3,())))))))),(0,(a13,(a4,(a1,(a15,(a3,(3,(3,())))))))),(0,(a10,(a31,(a18,(a8,(a3,(3,(3,())))))))),(0,(a22,(a4,(a1,(a17,(a3,(3,(3,())))))))),(0,(a24,(a5,(a1,(a8,(a3,(3,(3,())))))))),(0,(a28,(a4,((0,(0,())),(a15,(a3,(4,(4,())))))))),(0,(a33,(a4,((0,(0,())),(a17,(a3,(4,(4,())))))))),(0,(a21,(a32,((0,(0,())),(a8,(a3,(4,(4,()))))))))]).length=16)) (some (.t (.sl JS) (Fs (0:Int).toNat ([(0,(a26,(a5,(a1,(a14,(a34,(1,(2,())))))))),(0,(a27,(a5,(a1,(a14,(a2,(1,(3,())))))))),(0,(a25,(a5,(a1,(a6,(a2,(1,(3,())))))))),(0,(a19,(a11,(a36,(a6,(a2,(1,(3,())))))))),(0,(a20,(a11,(a1,(a6,(a2,(1,(3,())))))))),(0,(a23,(a5,(a1,(a7,(a2,(1,(3,())))))))),(0,(a16,(a29,(a1,(a7,(a2,(1,(3,())))))))),(0,(a12,(a4,(a1,(a7,(a2,(1,(3,())))))))),(0,(a9,(a4,(a18,(a30,(a35,(3,(3,())))))))),(0,(a13,(a4,(a1,(a15,(a3,(3,(3,())))))))),(0,(a10,(a31,(a18,(a8,(a3,(3,(3,())))))))),(0,(a22,(a4,(a1,(a17,(a3,(3,(3,())))))))),(0,(a24,(a5,(a1,(a8,(a3,(3,(3,())))))))),(0,(a28,(a4,((0,(0,())),(a15,(a3,(4,(4,())))))))),(0,(a33,(a4,((0,(0,())),(a17,(a3,(4,(4,())))))))),(0,(a21,(a32,((0,(0,())),(a8,(a3,(4,(4,()))))))))])),[])) none
theorem e_f249  : QK VU Qfn QmX false [] []=Qm0  :=by kernel_rfl
theorem QxG (x113 x114:Int)(y111:List Suite)(h:(decide (0<=x114/\x114<=16/\x113=16/\y111.length=16))=true):VV x113 x114 y111=Qfp x113 x114 y111:=by
 simp only [Ba] at h
 obtain ⟨h1,h2,rfl,h4⟩:=h
 obtain ⟨k,rfl⟩:=Br h1
 revert y111
 refine Qd3 16 (fun k=> ∀ y111:List Suite,y111.length=16->VV 16 (k:Int) y111=Qfp 16 (k:Int) y111) ?_ ?_ k (by omega)
 ·intro y111 _
  rw [QmZ]
  rfl
 ·intro k hk ih y111 hy
  rw [QmZ]
  have e1:ilt (k:Int) 16=true:=Be (by omega)
  have e2:cLd y111 k=true:=Be (by omega)
  have e3:Fs k y111=Fs (k+1) (y111.set k (((k+1:Nat):Int),(y111.getD k Qfl).2)):=by
   have:16-k=(16-(k+1))+1:=by omega
   unfold Fs
   rw [this,List.range'_succ,DH]
  simp only [VW,e1,Qg,QM,show decide (k<y111.length)=true from Be (by omega),Bd,e2,QW (show k<4611686018427387904 by omega)]
  rw [ih _ (by rw [List.length_set];exact hy)]
  simp only [Qfp,Bd,e3]
theorem QxH:LO VU Qfm QmW 0:=QI (s:=VT) fun x y h _ q=>by simp only [QG,QH] at q;exact (QxG x.2.1 x.2.2.1 y.1 h).trans q
set_option maxRecDepth 100000 in
theorem s_f249:Qm0=some (.t (.sl JS) WC,[]):=by kernel_rfl
def Qm1:Ent:=Qn .nil (fun x=>true) (fun x=>(.t (.sl JS) WC))
theorem QxI:EM 249 Qm1:=mS (lk:=lkL (lkc QxH lkn)) VU Qfn QmX false (Jg _ (gA (gD QxE gN))) fun m=>Qt m fun x _=>(e_f249 ).trans (s_f249)
theorem QxJ:(List.length (α:=JS.T) WC)=16:=by kernel_rfl
theorem Qm2:Qd (α:=JS.T) WC=16:=by kernel_rfl
theorem QxK {c:Int}(h:1<=c/\c<=16):cIx (α:=JS.T) WC (c-1)=true:=by
 have:=QxJ
 simp only [cIx,Ba]
 omega
def ZN (c:Int):Suite×Int:=if c<1∨16<c then (Qfl,8) else (lgt JS WC (c-1).toNat,0)
def QxL:TC:=aF Tryz.f217 []
def g_f217:G:=gG 20 [(249,Qm1)] (fun _ _=>none)
def Qm3 (p0:Int):OV:=br (ilt p0 1) (some (.tu [(.t JS (0,((ByteArray.mk #[]),((0,(0,())),((0,(0,())),((0,(0,())),((0,(0,())),(0,(0,()))))))))),(.t tI 8)],[])) (br (igt p0 (Qd WC)) (some (.tu [(.t JS (0,((ByteArray.mk #[]),((0,(0,())),((0,(0,())),((0,(0,())),((0,(0,())),(0,(0,()))))))))),(.t tI 8)],[])) (br (cIx WC (QD .i64 p0 1)) (some (.tu [(.t JS (lgt JS WC (Int.toNat (QD .i64 p0 1)))),(.t tI 0)],[])) none))
theorem s_f217 (c:Int):Qm3 c=some (.tu [.t JS (ZN c).1,.t tI (ZN c).2],[]):=by
 simp only [Qm3]
 unfold ZN
 refine Q8 (fun h1=> ?_) (fun h1=>Q8 (fun h2=> ?_) (fun h2=> ?_))
 ·simp only [ilt,Ba] at h1
  rw [if_pos (.inl h1)]
  rfl
 ·have h2:=BC h2
  have:=Qm2
  rw [if_pos (.inr (by omega))]
  rfl
 ·simp only [ilt,Bo] at h1
  have h2:=DF h2
  have:=Qm2
  rw [if_neg (by omega),Ze (by omega),QxK (by omega),Qg]
def Qm4:Ent:=Qn (.pr tI .nil) (fun x=>true) (fun x=>(.tu [(.t JS ((ZN x.1).1)),(.t tI ((ZN x.1).2))]))
theorem QxM:EM 217 Qm4:=mS g_f217 QxL [((.c 2 true 12),some JS),((.t 3),some tI)] false (gB (gD QxI gN)) fun m=>Qt m fun x _=>kT (s_f217 x.1)
theorem QxN (a b:Keep):(and (ieq a.1 b.1) (and (ieq a.2.1 b.2.1) true))=(a==b):=by
 obtain ⟨a1,a2,_⟩:=a
 obtain ⟨b1,b2,_⟩:=b
 show _=((a1==b1)&&((a2==b2)&&true))
 rfl
end
end Go.Proofs.YthlcobdnemhcdaaGreat.K
noncomputable section
namespace Go.Proofs.YthlcobdnemhcdaaGreat.K
open Go.RowKit
noncomputable section
theorem Vx (a b:Int):ige a b= !ilt a b:=by
 simp only [ige,ilt]
 rw [DI]
 simp
theorem QeR (a b:Int):ile a b= !igt a b:=by
 simp only [ile,igt]
 rw [DI]
 simp
theorem QeS (a b:Int):ine a b= !ieq a b:=rfl
theorem brB {q r:Bool}{X:OV}(h:X=some (.t .bool r,[])):br q (some (.t .bool false,[])) X=some (.t .bool (!q&&r),[]):=by
 subst h
 cases q<;>rfl
theorem brA {q r:Bool}{X:OV}(h:X=some (.t .bool r,[])):br q X (some (.t .bool false,[]))=some (.t .bool (q&&r),[]):=by
 subst h
 cases q<;>rfl
theorem br9 {q v:Bool}{n:Int}{X:OV}(h0:q=true->v=false)(hX:q=false->X=some (.t tI (bif v then 0 else n),[])):br q (some (.t tI n,[])) X=some (.t tI (bif v then 0 else n),[]):=by
 cases q with
 |true=>rw [Qg,h0 rfl];rfl
 |false=>rw [Ql,hX rfl]
open Classical in
def Yv {α:Type}(a b:α):Bool:=decide (a=b)
theorem QeT {α:Type}(a:α):Yv a a=true:=by
 unfold Yv
 simp
theorem QeU {α:Type}{a b:α}(h:Yv a b=true):a=b:=by
 unfold Yv at h
 simpa using h
def J3 (n:Int):Bool:= !ilt n 0&& !igt n 2147483648
def QwY:TC:=aF Tryz.f175 []
def g_f175:G:=gG 9 [] (fun _ _=>none)
def QlW (p0:Int):OV:=br (ige p0 0) (some (.t .bool (ile p0 2147483648),[])) (some (.t .bool false,[]))
theorem s_f175 (n:Int):QlW n=some (.t .bool (J3 n),[]):=by
 simp only [QlW,Vx,QeR]
 exact brA rfl
def Vy:Ent:=Qn (.pr tI .nil) (fun x=>true) (fun x=>(.t .bool (J3 x.1)))
theorem QeV:EM 175 Vy:=mS g_f175 QwY [((.t 2),some .bool)] false (gB gN) fun m=>Qt m fun x _=>kT (s_f175 x.1)
def Ux (n:Int):Bool:= !ilt n 0&& !ige n 4294967296
def QwZ:TC:=aF Tryz.f271 []
def g_f271:G:=gG 9 [] (fun _ _=>none)
def QlX (p0:Int):OV:=br (ige p0 0) (some (.t .bool (ilt p0 4294967296),[])) (some (.t .bool false,[]))
theorem s_f271 (n:Int):QlX n=some (.t .bool (Ux n),[]):=by
 simp only [QlX,Ux,Vx,Bool.not_not]
 exact brA rfl
def QlY:Ent:=Qn (.pr tI .nil) (fun x=>true) (fun x=>(.t .bool (Ux x.1)))
theorem Qw0:EM 271 QlY:=mS g_f271 QwZ [((.t 2),some .bool)] false (gB gN) fun m=>Qt m fun x _=>kT (s_f271 x.1)
def ZK (l:List ByteArray)(k:Nat):Bool:=(List.range' k (l.length-k)).all fun j=>Jv (l.getD j ByteArray.empty)&&(decide (j=0)||slt (l.getD (j-1) ByteArray.empty) (l.getD j ByteArray.empty))
theorem QlZ (l:List ByteArray):ZK l l.length=true:=by
 unfold ZK
 rw [Nat.sub_self]
 rfl
theorem Ql0 {l:List ByteArray}{k:Nat}(hk:k<l.length):ZK l k=((Jv l[k]&&(decide (k=0)||slt (l.getD (k-1) ByteArray.empty) l[k]))&&ZK l (k+1)):=by
 have:l.length-k=(l.length-(k+1))+1:=by omega
 unfold ZK
 rw [this,List.range'_succ,B4]
 simp only [Bn,Bi hk,BU]
def XQ (l:List ByteArray):Bool:=ZK l 0&& !igt (Qd l) 8
def ZY (l:List ByteArray):Bool:=decide (l.length<=100000)&&l.all Jk
abbrev Vz:Sh:=⟨[(0,.ty (.sl .str)),(5,.ty (.sl .str)),(6,.ty tI),(7,.ty tI)],[]⟩
abbrev Ql1:Sh:=⟨[(2,.ty .bool)],[]⟩
abbrev Ql2:Sh:=⟨[(0,.ty (.sl .str))],[]⟩
def QeW:Fg:=Vz.f
def Ql3:TC:=aF Tryz.f269 [(26,pL 0 QeW),(421,.fg Ql2.f),(13517,.fg Ql1.f)]
def Ql4:TC:=lb 0 Ql3
def Ql5 (x0 x5:List ByteArray)(x6 x7:Int):VS:=Vz.st (x0,x5,x6,x7,()) ()
def VA (x2:Bool):VS:=Ql1.st (x2,()) ()
def QeX (x0:List ByteArray):VS:=Ql2.st (x0,()) ()
def Qw1:VS->Option (Bool×List (Bool×Exit×VS)):=mkL Vz (fun x y=>(Qy x.2.1 x.2.2.1 x.2.2.2.1&&Yv x.1 x.2.1&&ZY x.2.1)) (fun x y=>[((!ZK x.2.1 x.2.2.2.1.toNat),.ret,VA (false)),(true,.exit 0,QeX (x.1))])
def QeY:G:=gG 32 [(178,QcW)] (Ls [Qw1])
def VB (x0 x5:List ByteArray)(x6 x7:Int):OX:=Qx (Qz QeY QeW Ql4) (Ql5 x0 x5 x6 x7)
def Ib (kk:List ByteArray->List ByteArray->Int->Int->OX)(x0 x5:List ByteArray)(x6 x7:Int):OX:=
 let a1:=lgt .str x5 (Int.toNat x7)
 br (ilt x7 x6) (br (cIx x5 x7) (br (Jk a1) (br (!(Jv a1)) (some (.ret,VA false)) (br (igt x7 0) (br (cIx x0 (QD .i64 x7 1)) (br (!slt (lgt .str x0 (Int.toNat (QD .i64 x7 1))) a1) (some (.ret,VA false)) (kk x0 x5 x6 (Qi .i64 x7 1))) none) (kk x0 x5 x6 (Qi .i64 x7 1)))) none) none) (some (.exit 0,QeX x0))
def VC (x0 x5:List ByteArray)(x6 x7:Int):OX:=br (!ZK x5 x7.toNat) (some (.ret,VA (false)))<|some (.exit 0,QeX (x0))
theorem Ql6 (x0 x5:List ByteArray)(x6 x7:Int):VB x0 x5 x6 x7=Ib VB x0 x5 x6 x7:=lnT (x:=Ib (fun x0 x5 x6 x7=>some (.normal,Ql5 x0 x5 x6 x7)) x0 x5 x6 x7) (by simp only [Ib,nxA];rfl)
def Ql7 (p0:List ByteArray):OV:=br (Qy p0 (Qd p0) (0:Int)&&Yv p0 p0&&ZY p0) (br (!ZK p0 (0:Int).toNat) (some (.t .bool (false),[])) (some (.t .bool (ile (Qd (p0)) 8),[]))) none
theorem Ql8 {l:List ByteArray}{k:Nat}(h:0<k)(hk:k<l.length):lgt .str l (Int.toNat (QD .i64 (k:Int) 1))=l.getD (k-1) ByteArray.empty/\cIx l (QD .i64 (k:Int) 1)=decide (k-1<l.length)∨4611686018427387904<=k:=by
 rcases B7 k 4611686018427387904 with hb|hb
 ·left
  have e:QD .i64 (k:Int) 1=((k-1:Nat):Int):=by rw [Ze (by omega)];omega
  rw [e,Bd,QM]
  exact ⟨rfl,rfl⟩
 ·exact .inr hb
theorem Qw2 (x0 x5:List ByteArray)(x6 x7:Int)(h:(Qy x5 x6 x7&&Yv x0 x5&&ZY x5)=true):VB x0 x5 x6 x7=VC x0 x5 x6 x7:=by
 simp only [Bc] at h
 obtain ⟨⟨h0,hs⟩,hn⟩:=h
 have hs:=QeU hs
 subst hs
 obtain ⟨rfl,h3,k,rfl,hk⟩:=JE h0
 clear h0
 simp only [ZY,Bc,Bg] at hn
 refine QX x0 (fun k=>VB x0 x0 (x0.length:Int) (k:Int)=VC x0 x0 (x0.length:Int) (k:Int)) ?_ ?_ k hk
 ·rw [Ql6]
  simp only [Ib,VC,QA,BS,BV,Ql,Bd,QlZ,BI]
 ·intro k hk ih
  rw [Ql6]
  have hx:=hn.2 x0[k] (Bu hk)
  simp only [Ib,QA,QM,hk,Bx,Qg,Bd,QW (show k<4611686018427387904 by omega),QP (y:= .str) hk,hx,ih]
  simp only [VC,Bd,Ql0 hk]
  cases hg:Jv x0[k] with
  |false=>rfl
  |true=>
   simp only [BI,Ql,By]
   by_cases h0:k=0
   ·subst h0
    simp only [show igt ((0:Nat):Int) 0=false from rfl,Ql,Bx,Bool.true_or,By]
   ·rcases Ql8 (l:=x0) (k:=k) (by omega) hk with ⟨e1,e2⟩|hb
    ·rw [show igt (k:Int) 0=true from Be (by omega),Qg,e2,Be (show k-1<x0.length by omega),Qg,e1,Bt h0,Du]
     cases slt (x0.getD (k-1) ByteArray.empty) x0[k]<;>rfl
    ·omega
theorem Qw3:LO QeY QeW Ql4 0:=QI (s:=Vz) fun x y h _ q=>by simp only [QG,QH] at q;exact (Qw2 x.1 x.2.1 x.2.2.1 x.2.2.2.1 h).trans q
theorem s_f269 (l:List ByteArray)(h:ZY l=true):Ql7 l=some (.t .bool (XQ l),[]):=by
 have hl:l.length<=100000:=by simp only [ZY,Bc,Ba] at h;exact h.1
 simp only [Ql7,JF hl,QeT,h,B5,Qg,BE,QeR,XQ]
 cases ZK l 0<;>rfl
def Ql9:Ent:=Qn (.pr (.sl .str) .nil) (fun x=>(ZY x.1)) (fun x=>(.t .bool (XQ x.1)))
theorem Qw4:EM 269 Ql9:=mS (lk:=lkL (lkc Qw3 lkn)) QeY Ql3 [((.t 2),some .bool)] false (gB (gD Qjn gN)) fun m=>Qt m fun x hok=>kT (s_f269 x.1 hok)
def ZL (u:Keep)(k:Int):Bool:=Jq u&&ieq (ZZ u.1) k
def Qw5:TC:=aF Tryz.f270 []
def g_f270:G:=gG 14 [(92,UM),(218,VQ)] (fun _ _=>none)
def Qma (p0:Keep)(p1:Int):OV:=br (Jq p0) (some (.t .bool (ieq (ZZ p0.1) p1),[])) (some (.t .bool false,[]))
theorem s_f270 (u:Keep)(k:Int):Qma u k=some (.t .bool (ZL u k),[]):=by
 simp only [Qma]
 exact brA rfl
def Qmb:Ent:=Qn (.pr Qk (.pr tI .nil)) (fun x=>true) (fun x=>(.t .bool (ZL x.1 x.2.1)))
theorem Qw6:EM 270 Qmb:=mS g_f270 Qw5 [((.t 4),some .bool)] false (gB (gD GD (gD Qfj gN))) fun m=>Qt m fun x _=>kT (s_f270 x.1 x.2.1)
def Ic (u:Keep):Bool:=ZL u 2
def Qw7:TC:=aF Tryz.f229 []
def g_f229:G:=gG 11 [(105,Qg8),(186,Qfk)] (fun _ _=>none)
def Qmc (p0:Keep):OV:=br (Jq p0) (some (.t .bool (ieq (ZZ p0.1) 2),[])) (some (.t .bool false,[]))
theorem s_f229 (u:Keep):Qmc u=some (.t .bool (Ic u),[]):=by
 simp only [Qmc]
 exact brA rfl
def Qmd:Ent:=Qn (.pr Qk .nil) (fun x=>true) (fun x=>(.t .bool (Ic x.1)))
theorem Qw8:EM 229 Qmd:=mS g_f229 Qw7 [((.t 2),some .bool)] false (gB (gD Qpj (gD QmT gN))) fun m=>Qt m fun x _=>kT (s_f229 x.1)
abbrev QN (c:Certificate):List ByteArray:=c.2.2.2.2.2.2.2.2.2.2.1
abbrev XR (c:Certificate):Keep:=c.2.2.2.2.2.2.2.2.2.2.2.1
def JB (c:Certificate):Bool:=Jk c.2.1&&(Jk c.2.2.1&&ZY (QN c))
def QQ (c:Certificate):Bool:=
 !ilt c.1 0&&(!igt c.1 1099511627776&&(Jv c.2.1&&(Jv c.2.2.1&&(XQ (QN c)&&(ZL c.2.2.2.1 2&&(J3 c.2.2.2.2.1&&(ZL c.2.2.2.2.2.1 1&&(J3 (XR c).1&&(Ux (XR c).2.1&&
 (!ilt c.2.2.2.2.2.2.1 0&&(!igt c.2.2.2.2.2.2.1 c.2.2.2.2.2.2.2.1&&(!igt c.2.2.2.2.2.2.2.1 40000&&(!ilt c.2.2.2.2.2.2.2.2.2.1 0&&(!igt c.2.2.2.2.2.2.2.2.2.1 8&&(c.2.2.2.2.2.2.2.2.1||ieq c.2.2.2.2.2.2.2.2.2.1 0)))))))))))))))
def Qw9:TC:=aF Tryz.f250 []
def g_f250:G:=gG 91 [(175,Vy),(178,QcW),(269,Ql9),(270,Qmb),(271,QlY)] (fun _ _=>none)
def Qme (p0:Certificate):OV:=br (ilt p0.1 0) (some (.t .bool false,[])) (br (igt p0.1 1099511627776) (some (.t .bool false,[])) (br (Jk p0.2.1) (br (!(Jv p0.2.1)) (some (.t .bool false,[])) (br (Jk p0.2.2.1) (br (!(Jv p0.2.2.1)) (some (.t .bool false,[])) (br (ZY p0.2.2.2.2.2.2.2.2.2.2.1) (br (!(XQ p0.2.2.2.2.2.2.2.2.2.2.1)) (some (.t .bool false,[])) (br (!(ZL p0.2.2.2.1 2)) (some (.t .bool false,[])) (br (!(J3 p0.2.2.2.2.1)) (some (.t .bool false,[])) (br (!(ZL p0.2.2.2.2.2.1 1)) (some (.t .bool false,[])) (br (!(J3 p0.2.2.2.2.2.2.2.2.2.2.2.1.1)) (some (.t .bool false,[])) (br (!(Ux p0.2.2.2.2.2.2.2.2.2.2.2.1.2.1)) (some (.t .bool false,[])) (br (ilt p0.2.2.2.2.2.2.1 0) (some (.t .bool false,[])) (br (igt p0.2.2.2.2.2.2.1 p0.2.2.2.2.2.2.2.1) (some (.t .bool false,[])) (br (igt p0.2.2.2.2.2.2.2.1 40000) (some (.t .bool false,[])) (br (ige p0.2.2.2.2.2.2.2.2.2.1 0) (br (ile p0.2.2.2.2.2.2.2.2.2.1 8) (br (p0.2.2.2.2.2.2.2.2.1) (some (.t .bool true,[])) (some (.t .bool (ieq p0.2.2.2.2.2.2.2.2.2.1 0),[]))) (some (.t .bool false,[]))) (some (.t .bool false,[])))))))))))) none)) none)) none))
theorem s_f250 (c:Certificate)(h:JB c=true):Qme c=some (.t .bool (QQ c),[]):=by
 simp only [JB,Bc] at h
 obtain ⟨h1,h2,h3⟩:=h
 simp only [Qme,h1,h2,h3,Qg,Vx,QeR]
 refine (brB<|brB<|brB<|brB<|brB<|brB<|brB<|brB<|brB<|brB<|brB<|brB<|brB<|brA<|brA (r:=c.2.2.2.2.2.2.2.2.1||ieq c.2.2.2.2.2.2.2.2.2.1 0) ?_).trans ?_
 ·cases c.2.2.2.2.2.2.2.2.1<;>rfl
 ·simp only [Bool.not_not,QQ]
def Qmf:Ent:=Qn (.pr QT .nil) (fun x=>(JB x.1)) (fun x=>(.t .bool (QQ x.1)))
theorem Qxa:EM 250 Qmf:=mS g_f250 Qw9 [((.t 2),some .bool)] false (gB (gD QeV (gD Qjn (gD Qw4 (gD Qw6 (gD Qw0 gN)))))) fun m=>Qt m fun x hok=>kT (s_f250 x.1 hok)
def Xl (c:Certificate):Int:=bif QQ c then 0 else 9
theorem VD (c:Certificate):ine (Xl c) 0= !QQ c:=by
 unfold Xl
 cases QQ c<;>rfl
def Qxb:TC:=aF Tryz.f219 []
def g_f219:G:=gG 6 [(250,Qmf)] (fun _ _=>none)
def Qmg (p0:Certificate):OV:=br (JB p0) (br (!(QQ p0)) (some (.t tI 9,[])) (some (.t tI 0,[]))) none
theorem s_f219 (c:Certificate)(h:JB c=true):Qmg c=some (.t tI (Xl c),[]):=by
 simp only [Qmg,h,Qg,Xl]
 cases QQ c<;>rfl
def Qmh:Ent:=Qn (.pr QT .nil) (fun x=>(JB x.1)) (fun x=>(.t tI (Xl x.1)))
theorem Qxc:EM 219 Qmh:=mS g_f219 Qxb [((.t 2),some tI)] false (gB (gD Qxa gN)) fun m=>Qt m fun x hok=>kT (s_f219 x.1 hok)
abbrev VE:Sh:=⟨[(1,.ptr 1 0),(3,.ty tI)],[(1,.box QT)]⟩
abbrev Qmi:Sh:=⟨[(2,.ty tI)],[]⟩
abbrev Qmj:Sh:=⟨[(1,.ptr 1 0)],[(1,.box QT)]⟩
def QeZ:Fg:=VE.f
def Qmk:TC:=aF Tryz.f192 [(250,pL 0 QeZ),(4003,.fg Qmj.f),(8008,pD [(0,[1]),(1,[1]),(2,[]),(3,[]),(4,[]),(5,[]),(6,[]),(7,[]),(8,[]),(9,[]),(10,[]),(11,[1]),(12,[1]),(13,[]),(14,[]),(15,[]),(16,[]),(17,[1]),(18,[1]),(19,[]),(20,[]),(21,[]),(22,[]),(23,[]),(24,[])] (.of [0,1,2,3,4,5,6,7,8,9,10,11,12,13,14,15,16,17,18,19,20,21,22,23,24])),(32037,.fg Qmi.f)]
def Qml:TC:=lb 0 Qmk
def Qmm (x3:Int)(y1:Certificate):VS:=VE.st ((),x3,()) (y1,())
def VF (x2:Int):VS:=Qmi.st (x2,()) ()
def Qe0 (y1:Certificate):VS:=Qmj.st ((),()) (y1,())
def Qxd:VS->Option (Bool×List (Bool×Exit×VS)):=mkL VE (fun x y=>(decide (0<=x.2.1/\x.2.1<=(QN y.1).length)&&ZY (QN y.1))) (fun x y=>[((!ZK (QN y.1) x.2.1.toNat),.ret,VF (9)),(true,.exit 0,Qe0 (y.1))])
def Qe1:G:=gG 146 [(105,Qg8),(186,Qfk),(187,QtH),(229,Qmd)] (Ls [Qxd])
def VG (x3:Int)(y1:Certificate):OX:=Qx (Qz Qe1 QeZ Qml) (Qmm x3 y1)
def Id (kk:Int->Certificate->OX)(x3:Int)(y1:Certificate):OX:=
 let a1:=lgt .str y1.2.2.2.2.2.2.2.2.2.2.1 (Int.toNat x3)
 let a2:=cIx y1.2.2.2.2.2.2.2.2.2.2.1 x3
 br (ilt x3 (Qd y1.2.2.2.2.2.2.2.2.2.2.1)) (br a2 (br (Jk a1) (br (!(Jv a1)) (some (.ret,VF 9)) (br (igt x3 0) (br (cIx y1.2.2.2.2.2.2.2.2.2.2.1 (QD .i64 x3 1)) (br a2 (br (!slt (lgt .str y1.2.2.2.2.2.2.2.2.2.2.1 (Int.toNat (QD .i64 x3 1))) a1) (some (.ret,VF 9)) (kk (Qi .i64 x3 1) y1)) none) none) (kk (Qi .i64 x3 1) y1))) none) none) (some (.exit 0,Qe0 y1))
def VH (x3:Int)(y1:Certificate):OX:=br (!ZK (QN y1) x3.toNat) (some (.ret,VF (9)))<|some (.exit 0,Qe0 (y1))
theorem Qmn (x3:Int)(y1:Certificate):VG x3 y1=Id VG x3 y1:=lnT (x:=Id (fun x3 y1=>some (.normal,Qmm x3 y1)) x3 y1) (by simp only [Id,nxA];rfl)
def Qe2 (p0:Certificate):OV:=
 let a1:=(((((((((((((p0).2).2).2).2).2).2).2).2).2).2).2).1)
 br (igt (Qd p0.2.2.2.2.2.2.2.2.2.2.1) 8) (some (.t tI 9,[])) (br (decide (0<=(0:Int)/\(0:Int)<=(QN p0).length)&&ZY (QN p0)) (br (!ZK (QN p0) (0:Int).toNat) (some (.t tI (9),[])) (br (ilt (a1.1) 0) (some (.t tI 9,[])) (br (igt (a1.1) 2147483648) (some (.t tI 9,[])) (br (ilt ((a1.2).1) 0) (some (.t tI 9,[])) (br (ige ((a1.2).1) 4294967296) (some (.t tI 9,[])) (some (.t tI 0,[]))))))) none)
def Qmo (p0:Certificate):OV:=br (ilt p0.1 0) (some (.t tI 9,[])) (br (igt p0.1 1099511627776) (some (.t tI 9,[])) (br (Jk p0.2.1) (br (!(Jv p0.2.1)) (some (.t tI 9,[])) (br (Jk p0.2.2.1) (br (!(Jv p0.2.2.1)) (some (.t tI 9,[])) (br (!(Ic p0.2.2.2.1)) (some (.t tI 9,[])) (br (ilt p0.2.2.2.2.1 0) (some (.t tI 9,[])) (br (igt p0.2.2.2.2.1 2147483648) (some (.t tI 9,[])) (br (!(Jq p0.2.2.2.2.2.1)) (some (.t tI 9,[])) (br (ine (ZZ p0.2.2.2.2.2.1.1) 1) (some (.t tI 9,[])) (br (ilt p0.2.2.2.2.2.2.1 0) (some (.t tI 9,[])) (br (igt p0.2.2.2.2.2.2.1 p0.2.2.2.2.2.2.2.1) (some (.t tI 9,[])) (br (igt p0.2.2.2.2.2.2.2.1 40000) (some (.t tI 9,[])) (br (ilt p0.2.2.2.2.2.2.2.2.2.1 0) (some (.t tI 9,[])) (br (igt p0.2.2.2.2.2.2.2.2.2.1 8) (some (.t tI 9,[])) (br (!p0.2.2.2.2.2.2.2.2.1) (br (ine p0.2.2.2.2.2.2.2.2.2.1 0) (some (.t tI 9,[])) (Qe2 p0)) (Qe2 p0))))))))))))) none)) none))
theorem Qxe (x3:Int)(y1:Certificate)(h:(decide (0<=x3/\x3<=(QN y1).length)&&ZY (QN y1))=true):VG x3 y1=VH x3 y1:=by
 simp only [Bc,Ba] at h
 obtain ⟨⟨h0,h1⟩,hn⟩:=h
 obtain ⟨k,rfl⟩:=Br h0
 simp only [ZY,Bc,Bg,Ba] at hn
 refine QX (QN y1) (fun k=>VG (k:Int) y1=VH (k:Int) y1) ?_ ?_ k (by omega)
 ·rw [Qmn]
  simp only [Id,VH,show ilt ((QN y1).length:Int) (Qd (QN y1))=false from Bt (by simp only [Qd];omega),Ql,Bd,QlZ,BI]
 ·intro k hk ih
  rw [Qmn]
  have hx:=hn.2 (QN y1)[k] (Bu hk)
  simp only [Id,show ilt (k:Int) (Qd (QN y1))=true from Be (by simp only [Qd];omega),QM,hk,Bx,Qg,Bd,QW (show k<4611686018427387904 by omega),QP (y:= .str) hk,hx,ih]
  simp only [VH,Bd,Ql0 hk]
  cases hg:Jv (QN y1)[k] with
  |false=>rfl
  |true=>
   simp only [BI,Ql,By]
   by_cases h0:k=0
   ·subst h0
    simp only [show igt ((0:Nat):Int) 0=false from rfl,Ql,Bx,Bool.true_or,By]
   ·rcases Ql8 (l:=QN y1) (k:=k) (by omega) hk with ⟨e1,e2⟩|hb
    ·rw [show igt (k:Int) 0=true from Be (by omega),Qg,e2,Be (show k-1<(QN y1).length by omega),Qg,e1,Bt h0,Du]
     cases slt ((QN y1).getD (k-1) ByteArray.empty) (QN y1)[k]<;>rfl
    ·omega
theorem Qxf:LO Qe1 QeZ Qml 0:=QI (s:=VE) fun x y h _ q=>by simp only [QG,QH] at q;exact (Qxe x.2.1 y.1 h).trans q
theorem s_f192 (c:Certificate)(h:JB c=true):Qmo c=some (.t tI (Xl c),[]):=by
 simp only [JB,Bc] at h
 obtain ⟨h1,h2,h3⟩:=h
 have hd:decide ((0:Int)<=0/\(0:Int)<=(QN c).length)=true:=Be (by omega)
 unfold Xl
 simp only [Qmo,Qe2,h1,h2,h3,hd,B5,Qg,BE,QeS]
 refine br9 (fun g=>by simp [QQ,g]) fun g1=>br9 (fun g=>by simp [QQ,g]) fun g2=>br9 (fun g=>by simp only [Bw] at g;simp [QQ,g]) fun g3=>br9 (fun g=>by simp only [Bw] at g;simp [QQ,g]) fun g4=>br9 (fun g=>by simp only [Bw,Ic] at g;simp [QQ,g]) fun g5=>br9 (fun g=>by simp [QQ,J3,g]) fun g6=>br9 (fun g=>by simp [QQ,J3,g]) fun g7=>br9 (fun g=>by simp only [Bw] at g;simp [QQ,ZL,g]) fun g8=>br9 (fun g=>by simp only [Bw] at g;simp [QQ,ZL,g]) fun g9=>br9 (fun g=>by simp [QQ,g]) fun g10=>br9 (fun g=>by simp [QQ,g]) fun g11=>br9 (fun g=>by simp [QQ,g]) fun g12=>br9 (fun g=>by simp [QQ,g]) fun g13=>br9 (fun g=>by simp [QQ,g]) fun g14=> ?_
 have tail: ∀ (hp:(c.2.2.2.2.2.2.2.2.1||ieq c.2.2.2.2.2.2.2.2.2.1 0)=true),br (igt (Qd (QN c)) 8) (some (V.t tI 9,([]:List VO))) (br (!ZK (QN c) 0) (some (V.t tI 9,[])) (br (ilt (XR c).1 0) (some (V.t tI 9,[])) (br (igt (XR c).1 2147483648) (some (V.t tI 9,[])) (br (ilt (XR c).2.1 0) (some (V.t tI 9,[])) (br (ige (XR c).2.1 4294967296) (some (V.t tI 9,[])) (some (V.t tI 0,[])))))))=some (V.t tI (bif QQ c then 0 else 9),([]:List VO)):=by
  intro hp
  refine br9 (fun g=>by simp [QQ,XQ,g]) fun g15=>br9 (fun g=>by simp only [Bw] at g;simp [QQ,XQ,g]) fun g16=>br9 (fun g=>by simp [QQ,J3,g]) fun g17=>br9 (fun g=>by simp [QQ,J3,g]) fun g18=>br9 (fun g=>by simp [QQ,Ux,g]) fun g19=>br9 (fun g=>by simp [QQ,Ux,g]) fun g20=> ?_
  simp only [Bool.not_eq_false'] at g3 g4 g5 g8 g9 g16
  simp only [Ic] at g5
  have:QQ c=true:=by
   simp only [QQ,XQ,ZL,J3,Ux,g1,g2,g3,g4,g6,g7,g8,g9,g10,g11,g12,g13,g14,g15,g16,g17,g18,g19,g20,hp,DM,B5,By]
   simpa only [ZL,Dh] using g5
  rw [this]
  rfl
 cases ha:c.2.2.2.2.2.2.2.2.1 with
 |true=>
  rw [BI,Ql]
  exact tail (by rw [ha];rfl)
 |false=>
  rw [DM,Qg]
  refine br9 (fun g=>by simp only [Bw] at g;simp [QQ,ha,g]) fun g=> ?_
  exact tail (by simp only [Bool.not_eq_false'] at g;rw [g,Bool.or_true])
def Qe3:Ent:=Qn (.pr QT .nil) (fun x=>(JB x.1)) (fun x=>(.t tI (Xl x.1)))
theorem Qmp:EM 192 Qe3:=mS (lk:=lkL (lkc Qxf lkn)) Qe1 Qmk [((.t 2),some tI)] false (gB (gD Qpj (gD QmT (gD QE7 (gD Qw8 gN))))) fun m=>Qt m fun x hok=>kT (s_f192 x.1 hok)
end
end Go.Proofs.YthlcobdnemhcdaaGreat.K
noncomputable section
namespace Go.Proofs.YthlcobdnemhcdaaGreat.K
open Go.RowKit
noncomputable section
theorem Qs3 (n:Int):(Gu n).length<=8:=by
 rw [Gu,Qol]
 exact Qaw n
theorem GZ (n:Nat)(m:Int):okT (n+1) (Q1 m)=true:=by
 have:=Qs3 m
 show okV (n+1) (.mk 2 (Gu m) false [])=true
 simp only [okV,List.isEmpty_nil,B3,List.all_nil,Dh,BD]
 rw [Be (by omega)]
 rfl
theorem QcJ (n:Nat){s:ByteArray}(h:s.size<=100000):okT (n+1) (JM s)=true:=by
 have:=Ey s
 show okV (n+1) (.mk 12 (QU s) false [])=true
 simp only [okV,List.isEmpty_nil,B3,List.all_nil,Dh,BD]
 rw [Be (by omega)]
 rfl
theorem QEF (n:Nat)(b:Bool):okT (n+1) (Wy b)=true:=by cases b<;>rfl
theorem Qi2 {n:Nat}{l:List Qh}(hl:l.length<=100000)(h: ∀ x∈l,okT n x=true):okT (n+1) (Y5 l)=true:=by
 show okV (n+1) (.mk 48 [] true (l.map Val.of))=true
 simp only [okV,List.isEmpty_nil,Db,Dh,BD,BK,Bc,Bg,B8]
 refine ⟨⟨⟨rfl,rfl⟩,Be ⟨by omega,hl⟩⟩, ?_⟩
 rintro v ⟨x,hx,rfl⟩
 exact h x hx
theorem Qi3 {n:Nat}{l:List Qh}(hl:l.length<=100000)(h: ∀ x∈l,okT n x=true):JT (n+1) l=true:=by
 simp only [JT,Bc,Ba,Bg]
 exact ⟨hl,h⟩
theorem Qi4 (x:Qh):((x.1,(x.2.1,(x.2.2.1,(List.map Val.of (List.map Val.un x.2.2.2.1),())))):Qh)=x:=by
 rw [GM]
theorem G0 (m:Int):(J0 (Q1 m)).length<=18:=by
 have h1:=Qs3 m
 have h2:=Qa9 ((Gu m).length+0)
 rw [Qa8]
 simp only [Q1,Zq,Bp,Bm,BD]
 omega
theorem Qi5 (s:ByteArray):(J0 (JM s)).length<=10+s.size:=by
 have h1:=Ey s
 have h2:=Qa9 ((QU s).length+0)
 rw [Qa8]
 simp only [JM,Zq,Bp,Bm,BD]
 omega
theorem QEG (b:Bool):(J0 (Wy b)).length<=11:=by cases b<;>decide
theorem Qi6 (l:List Qh):(J0 (Y5 l)).length<=10+(J5 l).length:=by
 have h2:=Qa9 (0+(Zq (l.map Val.of)).length)
 rw [Qa8]
 simp only [Y5,J5,Bp,Bm,BD]
 omega
def Z8 (u:Keep):Qh:=Y5 [Q1 u.1,Q1 u.2.1]
def Ul (u:Keep):Bool:=Zo u.1&&Zo u.2.1
theorem Qs4 (n:Nat)(u:Keep):okT (n+2) (Z8 u)=true:=
 Qi2 (by simp) fun x hx=>by
  simp only [BJ,B1,DE] at hx
  rcases hx with rfl|rfl<;>exact GZ _ _
theorem Qs5 (u:Keep):(J0 (Z8 u)).length<=46:=by
 have h0:=Qi6 [Q1 u.1,Q1 u.2.1]
 have h1:=G0 u.1
 have h2:=G0 u.2.1
 simp only [GG,I1,Bm,BD] at h0
 unfold Z8
 omega
theorem QEH (u:Keep):Xz [Q1 u.1,Q1 u.2.1]=true:=
 Qi3 (n:=11) (by simp) fun x hx=>by
  simp only [BJ,B1,DE] at hx
  rcases hx with rfl|rfl<;>exact GZ _ _
def QEI:TC:=aF Tryz.f262 [(6,pD [(0,[1]),(1,[1]),(2,[]),(3,[1]),(4,[1]),(5,[]),(6,[]),(7,[]),(8,[2])] (.of [0,1,2,3,4,5,6,7,8]))]
def g_f262:G:=gG 11 [(164,Qe9),(167,Qht)] (fun _ _=>none)
def Qs6 (p0:Keep):OV:=
 let a1:=((Q1 p0.2.1).1,(((Q1 p0.2.1).2).1,((((Q1 p0.2.1).2).2).1,((List.map Val.of (List.map Val.un (((((Q1 p0.2.1).2).2).2).1))),()))))
 let a2:=((Q1 p0.1).1,(((Q1 p0.1).2).1,((((Q1 p0.1).2).2).1,((List.map Val.of (List.map Val.un (((((Q1 p0.1).2).2).2).1))),()))))
 br (Zo p0.1) (br (Zo p0.2.1) (br (Xz ([a2,a1])) (some (.t Qv (Y5 ([a2,a1])),[])) none) none) none
theorem s_f262 (u:Keep)(h:Ul u=true):Qs6 u=some (.t Qv (Z8 u),[]):=by
 simp only [Ul,Bc] at h
 simp only [Qs6,h.1,h.2,Qi4,QEH,Qg]
 rfl
def Qs7:Ent:=Qn (.pr Qk .nil) (fun x=>(Ul x.1)) (fun x=>(.t Qv (Z8 x.1)))
theorem QEJ:EM 262 Qs7:=mS g_f262 QEI [((.c 2 true 4),some Qv)] false (gB (gD Qmx (gD Qp7 gN))) fun m=>Qt m fun x hok=>kT (s_f262 x.1 hok)
def Wm (c:Certificate):List Qh:=[Q1 c.1,JM c.2.1,JM c.2.2.1,Z8 c.2.2.2.1,Q1 c.2.2.2.2.1,Z8 c.2.2.2.2.2.1,Q1 c.2.2.2.2.2.2.1,Q1 c.2.2.2.2.2.2.2.1,Wy c.2.2.2.2.2.2.2.2.1,Q1 c.2.2.2.2.2.2.2.2.2.1,Y5 ((QN c).map JM)]
def Wn (c:Certificate):Qh:=Y5 (Wm c)
def Ew (c:Certificate):Bool:=JB c&&QQ c
theorem QEK {u:Keep}(h:Jq u=true):0<=u.2.1/\u.2.1<=16384/\1<=u.1/\u.1<=22:=by
 simp only [Jq,Ba] at h
 have ham: ∀ (s t:List Int),(∀ x∈s,0<=x/\x<=16384)->JP u.2.1 s t > 0->0<=u.2.1/\u.2.1<=16384:=by
  intro s t hs hg
  unfold JP at hg
  split at hg
  ·rename_i k hk
   have hm:u.2.1∈s:=by
    have key: ∀ (s:List Int) (k:Nat),Js u.2.1 s=some k->u.2.1∈s:=by
     intro s
     induction s with
     |nil=>intro k hk;cases hk
     |cons a s ih=>
      intro k hk
      unfold Js at hk
      split at hk
      ·rename_i ha
       have:=eq_of_beq ha
       rw [this];exact Do
      ·obtain ⟨j,hj,_⟩:=Bf.1 hk
       exact BY _ (ih j hj)
    exact key s k hk
   exact hs _ hm
  ·omega
 rw [←and_assoc]
 unfold YC at h
 repeat' split at h
 ·refine ⟨?_,by omega⟩
  unfold UL at h
  split at h<;>omega
 ·refine ⟨?_,by omega⟩
  unfold FU at h
  split at h
  ·rename_i hc
   simp only [Zp,BH,BJ,B1,DE] at hc
   omega
  ·omega
 ·exact ⟨ham _ _ (by simp) h,by omega⟩
 ·exact ⟨ham _ _ (by simp) h,by omega⟩
 ·exact ⟨ham _ _ (by simp) h,by omega⟩
 ·exact ⟨ham _ _ (by simp) h,by omega⟩
 ·exact ⟨ham _ _ (by simp) h,by omega⟩
 ·refine ⟨ham _ _ (by simp) h, ?_⟩
  unfold JP at h
  split at h
  ·rename_i k hk
   unfold Js at hk
   split at hk
   ·injection hk with hk
    subst hk
    simp only [List.getD_cons_zero,YZ] at h
    repeat' split at h
    all_goals omega
   ·cases hk
  ·omega
theorem Qs8 {u:Keep}{k:Int}(h:ZL u k=true):Ul u=true:=by
 simp only [ZL,Bc] at h
 have:=QEK h.1
 simp only [Ul,Zo,Bc,Ba]
 omega
theorem Qi7 {s:ByteArray}(h:Jv s=true):s.size<=32:=by
 simp only [Jv,Bc,Ba] at h
 exact h.2.2
theorem QEL {l:List ByteArray}: ∀ {k:Nat},ZK l k=true→ ∀ j (hj:j<l.length),k<=j->Jv l[j]=true:=by
 intro k h j hj hk
 simp only [ZK,Bg,List.mem_range'_1,Bc] at h
 have:=(h j ⟨hk,by omega⟩).1
 simpa only [Bn,Bi hj,BU] using this
theorem QEM {l:List ByteArray}(h:XQ l=true):l.length<=8∧ ∀ s∈l,s.size<=32:=by
 simp only [XQ,Bc,Bw,igt,Qd,Bo] at h
 refine ⟨by omega,fun s hs=> ?_⟩
 obtain ⟨j,hj,rfl⟩:=List.mem_iff_getElem.1 hs
 exact Qi7 (QEL h.1 j hj (BZ _))
theorem QcK {c:Certificate}(h:QQ c=true):Zo c.1=true/\c.2.1.size<=32/\c.2.2.1.size<=32/\Ul c.2.2.2.1=true/\Zo c.2.2.2.2.1=true/\Ul c.2.2.2.2.2.1=true/\Zo c.2.2.2.2.2.2.1=true/\Zo c.2.2.2.2.2.2.2.1=true/\Zo c.2.2.2.2.2.2.2.2.2.1=true/\(QN c).length<=8∧ ∀ s∈QN c,s.size<=32:=by
 simp only [QQ,J3,Bc,Bw,ilt,igt,Bo] at h
 obtain ⟨h1,h2,h3,h4,h5,h6,⟨h7,h7'⟩,h8,⟨h9,h9'⟩,h10,h11,h12,h13,h14,h15,h16⟩:=h
 have hn:=QEM h5
 refine ⟨Be (by omega),Qi7 h3,Qi7 h4,Qs8 h6,Be (by omega),Qs8 h8,Be (by omega),Be (by omega),Be (by omega),hn.1,hn.2⟩
theorem QEN (n:Nat){l:List ByteArray}(h:l.length<=8)(hs: ∀ s∈l,s.size<=32):okT (n+2) (Y5 (l.map JM))=true:=
 Qi2 (by rw [BK];omega) fun x hx=>by
  obtain ⟨s,hm,rfl⟩:=B8.1 hx
  exact QcJ _ (by have:=hs s hm;omega)
theorem Qs9 (n:Nat){c:Certificate}(h:QQ c=true): ∀ x∈Wm c,okT (n+2) x=true:=by
 obtain ⟨h1,h2,h3,h4,h5,h6,h7,h8,h9,h10,h11⟩:=QcK h
 intro x hx
 simp only [Wm,BJ,B1,DE] at hx
 rcases hx with rfl|rfl|rfl|rfl|rfl|rfl|rfl|rfl|rfl|rfl|rfl
 ·exact GZ _ _
 ·exact QcJ _ (by omega)
 ·exact QcJ _ (by omega)
 ·exact Qs4 _ _
 ·exact GZ _ _
 ·exact Qs4 _ _
 ·exact GZ _ _
 ·exact GZ _ _
 ·exact QEF _ _
 ·exact GZ _ _
 ·exact QEN _ h10 h11
theorem Qta: ∀ {l:List ByteArray},(∀ s∈l,s.size<=32)->(J5 (l.map JM)).length<=42*l.length
 | [],_=>by simp [I1]
 |s::l,h=>by
  have h1:=h s (by simp)
  have h2:=Qi5 s
  have h3:=Qta (l:=l) fun u hu=>h u (by simp [hu])
  rw [BF,GG,Bm,Bp]
  omega
theorem Qi8 {c:Certificate}(h:QQ c=true):(J0 (Wn c)).length<=1000:=by
 obtain ⟨h1,h2,h3,h4,h5,h6,h7,h8,h9,h10,h11⟩:=QcK h
 have e0:=Qi6 (Wm c)
 have e1:=G0 c.1
 have e2:=Qi5 c.2.1
 have e3:=Qi5 c.2.2.1
 have e4:=Qs5 c.2.2.2.1
 have e5:=G0 c.2.2.2.2.1
 have e6:=Qs5 c.2.2.2.2.2.1
 have e7:=G0 c.2.2.2.2.2.2.1
 have e8:=G0 c.2.2.2.2.2.2.2.1
 have e9:=QEG c.2.2.2.2.2.2.2.2.1
 have e10:=G0 c.2.2.2.2.2.2.2.2.2.1
 have e11:=Qi6 ((QN c).map JM)
 have e12:=Qta h11
 simp only [Wm,GG,I1,Bm,BD] at e0
 unfold Wn
 simp only [Wm]
 omega
theorem enc_ok {c:Certificate}(h:QQ c=true):WU (Wn c)=true:=by
 have:=Qi8 h
 simp only [WU,Bc,Ba]
 refine ⟨Qi2 (by simp [Wm]) (Qs9 9 h),by omega⟩
theorem QEO {c:Certificate}(h:QQ c=true):Xz ((QN c).map JM)=true:=by
 obtain ⟨h1,h2,h3,h4,h5,h6,h7,h8,h9,h10,h11⟩:=QcK h
 exact Qi3 (n:=11) (by rw [BK];omega) fun x hx=>by
  obtain ⟨s,hm,rfl⟩:=B8.1 hx
  exact QcJ _ (by have:=h11 s hm;omega)
theorem QEP {c:Certificate}(h:QQ c=true):Xz (Wm c)=true:=Qi3 (n:=11) (by simp [Wm]) (Qs9 9 h)
theorem Qi9 {s:ByteArray}(h:s.size<=32):YA s=true:=Be (by omega)
abbrev QcL:Sh:=⟨[(1,.ptr 1 0),(2,.ptr 2 0),(3,.ms 3),(4,.ty tI)],[(1,.box QT),(2,.box Qv),(3,.arr 233 Qv),(20,.no)]⟩
abbrev Qtb:Sh:=⟨[(1,.ptr 1 0),(2,.ptr 2 0),(3,.ms 3)],[(1,.box QT),(2,.box Qv),(3,.arr 233 Qv),(20,.no)]⟩
def Qja:Fg:=QcL.f
def Qtc:TC:=aF Tryz.f234 [(58,.nw 3 233),(58,pL 0 Qja),(931,.fg Qtb.f),(30,pD [(0,[1]),(1,[1]),(2,[]),(3,[1]),(4,[1]),(5,[]),(6,[1]),(7,[1]),(8,[]),(9,[1]),(10,[1]),(11,[]),(12,[1]),(13,[1]),(14,[]),(15,[1]),(16,[1]),(17,[]),(18,[1]),(19,[1]),(20,[]),(21,[1]),(22,[1]),(23,[]),(24,[1]),(25,[1]),(26,[]),(27,[1]),(28,[1]),(29,[]),(30,[3,20]),(31,[3,20,52,5052,10052,15052]),(32,[]),(33,[]),(34,[2])] (.of [0,1,2,3,4,5,6,7,8,9,10,11,12,13,14,15,16,17,18,19,20,21,22,23,24,25,26,27,28,29,30,31,32,33,34]))]
def Qtd:TC:=lb 0 Qtc
def Qte (x4:Int)(y1:Certificate)(y2:Qh)(y3:List Qh):VS:=QcL.st ((),(),(),x4,()) (y1,y2,y3,(),())
def Qjb (y1:Certificate)(y2:Qh)(y3:List Qh):VS:=Qtb.st ((),(),(),()) (y1,y2,y3,(),())
def QEQ:VS->Option (Bool×List (Bool×Exit×VS)):=mkL QcL (fun x y=>(decide (0<=x.2.2.2.1/\x.2.2.2.1<=(QN y.1).length/\y.2.2.1.length<=x.2.2.2.1.toNat/\(QN y.1).length<=8)&&(QN y.1).all fun s=>decide (s.size<=32))) (fun x y=>[(true,.exit 0,Qjb (y.1) (y.2.1) (y.2.2.1++((QN y.1).drop x.2.2.2.1.toNat).map JM))])
def Qjc:G:=gG 55 [(164,Qe9),(165,Qmz),(167,Qht),(262,Qs7),(263,QmA)] (Ls [QEQ])
def QcM (x4:Int)(y1:Certificate)(y2:Qh)(y3:List Qh):OX:=Qx (Qz Qjc Qja Qtd) (Qte x4 y1 y2 y3)
def OG (kk:Int->Certificate->Qh->List Qh->OX)(x4:Int)(y1:Certificate)(y2:Qh)(y3:List Qh):OX:=
 let a1:=JM (lgt .str y1.2.2.2.2.2.2.2.2.2.2.1 (Int.toNat x4))
 let a2:=((a1.2).1,(((a1.2).2).1,((List.map Val.of (List.map Val.un ((((a1.2).2).2).1))),())))
 br (ilt x4 (Qd y1.2.2.2.2.2.2.2.2.2.2.1)) (br (cIx y1.2.2.2.2.2.2.2.2.2.2.1 x4) (br (YA (lgt .str y1.2.2.2.2.2.2.2.2.2.2.1 (Int.toNat x4))) (br (Qw y3 ([(a1.1,a2)]) 64) (kk (Qi .i64 x4 1) y1 y2 (y3++([(a1.1,a2)]))) none) none) none) (some (.exit 0,Qjb y1 y2 y3))
def QcN (x4:Int)(y1:Certificate)(y2:Qh)(y3:List Qh):OX:=some (.exit 0,Qjb (y1) (y2) (y3++((QN y1).drop x4.toNat).map JM))
theorem Qtf (x4:Int)(y1:Certificate)(y2:Qh)(y3:List Qh):QcM x4 y1 y2 y3=OG QcM x4 y1 y2 y3:=lnT (x:=OG (fun x4 y1 y2 y3=>some (.normal,Qte x4 y1 y2 y3)) x4 y1 y2 y3) (by simp only [OG,nxA];rfl)
def Qtg (p0:Certificate):OV:=
 let a3:=((((p0).2).2).2)
 let a1:=((a3.2).2)
 let a2:=(Y5 (([]:List Qh)++((QN p0).drop (0:Int).toNat).map JM))
 let a4:=((Q1 (((((a1.2).2).2).2).1)).1,(((Q1 (((((a1.2).2).2).2).1)).2).1,((((Q1 (((((a1.2).2).2).2).1)).2).2).1,((List.map Val.of (List.map Val.un (((((Q1 (((((a1.2).2).2).2).1)).2).2).2).1))),()))))
 let a5:=((Wy ((((a1.2).2).2).1)).1,(((Wy ((((a1.2).2).2).1)).2).1,((((Wy ((((a1.2).2).2).1)).2).2).1,((List.map Val.of (List.map Val.un (((((Wy ((((a1.2).2).2).1)).2).2).2).1))),()))))
 let a6:=((JM ((((p0).2).2).1)).1,(((JM ((((p0).2).2).1)).2).1,((((JM ((((p0).2).2).1)).2).2).1,((List.map Val.of (List.map Val.un (((((JM ((((p0).2).2).1)).2).2).2).1))),()))))
 let a7:=((Q1 (((a1.2).2).1)).1,(((Q1 (((a1.2).2).1)).2).1,((((Q1 (((a1.2).2).1)).2).2).1,((List.map Val.of (List.map Val.un (((((Q1 (((a1.2).2).1)).2).2).2).1))),()))))
 let a8:=((JM (((p0).2).1)).1,(((JM (((p0).2).1)).2).1,((((JM (((p0).2).1)).2).2).1,((List.map Val.of (List.map Val.un (((((JM (((p0).2).1)).2).2).2).1))),()))))
 let a9:=((Q1 ((a3.2).1)).1,(((Q1 ((a3.2).1)).2).1,((((Q1 ((a3.2).1)).2).2).1,((List.map Val.of (List.map Val.un (((((Q1 ((a3.2).1)).2).2).2).1))),()))))
 let a10:=((Q1 ((a1.2).1)).1,(((Q1 ((a1.2).1)).2).1,((((Q1 ((a1.2).1)).2).2).1,((List.map Val.of (List.map Val.un (((((Q1 ((a1.2).1)).2).2).2).1))),()))))
 let a11:=((Q1 ((p0).1)).1,(((Q1 ((p0).1)).2).1,((((Q1 ((p0).1)).2).2).1,((List.map Val.of (List.map Val.un (((((Q1 ((p0).1)).2).2).2).1))),()))))
 let a12:=((Z8 (a3.1)).1,(((Z8 (a3.1)).2).1,((((Z8 (a3.1)).2).2).1,((List.map Val.of (List.map Val.un (((((Z8 (a3.1)).2).2).2).1))),()))))
 let a13:=((Z8 (a1.1)).1,(((Z8 (a1.1)).2).1,((((Z8 (a1.1)).2).2).1,((List.map Val.of (List.map Val.un (((((Z8 (a1.1)).2).2).2).1))),()))))
 let a14:=((a2.2).1,(((a2.2).2).1,((List.map Val.of (List.map Val.un ((((a2.2).2).2).1))),())))
 br (decide (0<=(0:Int)/\(0:Int)<=(QN p0).length/\([]:List Qh).length<=(0:Int).toNat/\(QN p0).length<=8)&&(QN p0).all fun s=>decide (s.size<=32)) (br (Zo ((p0).1)) (br (YA (((p0).2).1)) (br (YA ((((p0).2).2).1)) (br (Ul (a3.1)) (br (Zo ((a3.2).1)) (br (Ul (a1.1)) (br (Zo ((a1.2).1)) (br (Zo (((a1.2).2).1)) (br (Zo (((((a1.2).2).2).2).1)) (br (Xz (([]:List Qh)++((QN p0).drop (0:Int).toNat).map JM)) (br (Xz ([a11,a8,a6,a12,a9,a13,a10,a7,a5,a4,(a2.1,a14)])) (some (.t Qv (Y5 ([a11,a8,a6,a12,a9,a13,a10,a7,a5,a4,(a2.1,a14)])),[])) none) none) none) none) none) none) none) none) none) none) none) none
theorem QER (x4:Int)(y1:Certificate)(y2:Qh)(y3:List Qh)(h:(decide (0<=x4/\x4<=(QN y1).length/\y3.length<=x4.toNat/\(QN y1).length<=8)&&(QN y1).all fun s=>decide (s.size<=32))=true):QcM x4 y1 y2 y3=QcN x4 y1 y2 y3:=by
 simp only [Bc,Ba,Bg] at h
 obtain ⟨⟨h0,h1,h2,h3⟩,hn⟩:=h
 obtain ⟨k,rfl⟩:=Br h0
 rw [Bd] at h2
 revert y3
 refine QX (QN y1) (fun k=> ∀ y3:List Qh,y3.length<=k->QcM (k:Int) y1 y2 y3=QcN (k:Int) y1 y2 y3) ?_ ?_ k (by omega)
 ·intro y3 _
  rw [Qtf]
  simp only [OG,QcN,show ilt ((QN y1).length:Int) (Qd (QN y1))=false from Bt (by simp only [Qd];omega),Ql,Bd,B6,List.map_nil,BP]
 ·intro k hk ih y3 hy
  rw [Qtf]
  have hx:=hn (QN y1)[k] (Bu hk)
  simp only [OG,show ilt (k:Int) (Qd (QN y1))=true from Be (by simp only [Qd];omega),QM,hk,Bx,Qg,Bd,QW (show k<4611686018427387904 by omega),QP (y:= .str) hk,Qi9 hx,Qi4]
  rw [Jr (by omega) (by simp only [Bl];omega),Qg,ih _ (by simp only [Bm,Bl];omega)]
  simp only [QcN,Bd,Bj hk,BF,BN,BM]
theorem QES:LO Qjc Qja Qtd 0:=QI (s:=QcL) fun x y h _ q=>by simp only [QG,QH] at q;exact (QER x.2.2.2.1 y.1 y.2.1 y.2.2.1 h).trans q
theorem s_f234 (c:Certificate)(h:Ew c=true):Qtg c=some (.t Qv (Wn c),[]):=by
 simp only [Ew,Bc] at h
 obtain ⟨_,hv⟩:=h
 obtain ⟨h1,h2,h3,h4,h5,h6,h7,h8,h9,h10,h11⟩:=QcK hv
 have hc:=QEO hv
 have hp:=QEP hv
 have ha:((QN c).all fun s=>decide (s.size<=32))=true:=Bg.2 fun s hs=>Be (h11 s hs)
 have hl:(0:Int)<=0/\(0:Int)<=(QN c).length/\([]:List Qh).length<=0/\(QN c).length<=8:=⟨by omega,by omega,by simp,h10⟩
 simp only [Wm] at hp
 simp only [Qtg,ha,B5,h1,Qi9 h2,Qi9 h3,h4,h5,h6,h7,h8,h9,Qg,BE,BL,BT,Qi4,hc,hp]
 rw [Be hl]
 rfl
def Qth:Ent:=Qn (.pr QT .nil) (fun x=>(Ew x.1)) (fun x=>(.t Qv (Wn x.1)))
theorem QET:EM 234 Qth:=mS (lk:=lkL (lkc QES lkn)) Qjc Qtc [((.c 2 true 4),some Qv)] false (gB (gD Qmx (gD Qxm (gD Qp7 (gD QEJ (gD Qxo gN)))))) fun m=>Qt m fun x hok=>kT (s_f234 x.1 hok)
end
end Go.Proofs.YthlcobdnemhcdaaGreat.K
noncomputable section
namespace Go.Proofs.YthlcobdnemhcdaaGreat.K
open Go.RowKit
noncomputable section
def Yd (c:Certificate):List Int×Int:=bif QQ c then WV (Wn c) else ([],9)
theorem Qws {c:Certificate}(h:QQ c=true):Yd c=(J0 (Wn c),0):=by
 have:=Qi8 h
 rw [Yd,h,Db,WV,if_neg (by omega)]
theorem Qwt (c:Certificate):(Yd c).1.length<=1000:=by
 cases h:QQ c with
 |true=>
  rw [Qws h]
  exact Qi8 h
 |false=>
  rw [Yd,h]
  simp
def Qwu:TC:=aF Tryz.f193 []
def g_f193:G:=gG 12 [(166,Qp5),(192,Qe3),(234,Qth)] (fun _ _=>none)
def QeB (p0:Certificate):OV:=br (JB p0) (br (ine (Xl p0) 0) (some (.tu [(.t (.sl (.int .u8)) ([]:List Int)),(.t tI 9)],[])) (br (Ew p0) (br (WU (Wn p0)) (some (.tu [(.t (.sl (.int .u8)) ((WV (Wn p0)).1)),(.t tI ((WV (Wn p0)).2))],[])) none) none)) none
theorem s_f193 (c:Certificate)(h:JB c=true):QeB c=some (.tu [.t (.sl (.int .u8)) (Yd c).1,.t tI (Yd c).2],[]):=by
 unfold Yd
 cases hv:QQ c with
 |true=>simp only [QeB,h,hv,VD,enc_ok hv,show Ew c=true from by rw [Ew,h,hv];rfl,BI,Qg,Ql,Db]
 |false=>simp only [QeB,h,hv,VD,DM,Qg,B3]
def Qlm:Ent:=Qn (.pr QT .nil) (fun x=>(JB x.1)) (fun x=>(.tu [(.t (.sl (.int .u8)) ((Yd x.1).1)),(.t tI ((Yd x.1).2))]))
theorem Qwv:EM 193 Qlm:=mS g_f193 Qwu [((.t 2),some (.sl (.int .u8))),((.t 3),some tI)] false (gB (gD QAS (gD Qmp (gD QET gN)))) fun m=>Qt m fun x hok=>kT (s_f193 x.1 hok)
def Uv (s x:Int):Int:=QgR .u32 (Em .u32 s (icv .u32 x)) 16777619
def E0 (b:List Int):Int:=icv .i64 (b.foldl Uv 2166136261)
def E1 (b:List Int):Bool:=decide (b.length<=100000)
abbrev QeC:Sh:=⟨[(3,.ty (.int .u32)),(6,.ty (.sl (.int .u8))),(7,.ty tI),(8,.ty tI)],[]⟩
abbrev QeD:Sh:=⟨[(3,.ty (.int .u32))],[]⟩
def Qww:Fg:=QeC.f
def Qwx:TC:=(.sq (.reg [(oP 9 (.bin false .lss (.t 8) (.t 7)))]) (.sq (.cd (.t 9) .sk (.fg QeD.f (.ex 0))) (.sq (.bk 1 (.sq (.reg [(oP 10 (.ix 1 (.t 6) (.t 8))),(oL 11 10),(oV 5 11)]) (.reg [(oV 12 3),(oV 13 5),(oP 14 (.cv .u32 (.t 13))),(oP 15 (.bin false .xor (.t 12) (.t 14))),(oP 16 (.bin false .mul (.t 15) (.c (.v (.int .u32 16777619))))),(oV 3 16)]))) (.reg [(oP 17 (.bin false .add (.t 8) (cI 1))),(oV 8 17)]))))
def Qln (x3:Int)(x6:List Int)(x7 x8:Int):VS:=QeC.st (x3,x6,x7,x8,()) ()
def Fn (x3:Int):VS:=QeD.st (x3,()) ()
def Qwy:VS->Option (Bool×List (Bool×Exit×VS)):=mkL QeC (fun x y=>(Qy x.2.1 x.2.2.1 x.2.2.2.1)) (fun x y=>[(true,.exit 0,Fn ((x.2.1.drop x.2.2.2.1.toNat).foldl Uv x.1))])
def g_f276:G:=gG 20 [] (Ls [Qwy])
def Vm (x3:Int)(x6:List Int)(x7 x8:Int):OX:=Qx (Qz g_f276 Qww Qwx) (Qln x3 x6 x7 x8)
def E2 (kk:Int->List Int->Int->Int->OX)(x3:Int)(x6:List Int)(x7 x8:Int):OX:=br (ilt x8 x7) (br (cIx x6 x8) (kk (QgR .u32 (Em .u32 x3 (icv .u32 (lgt (.int .u8) x6 (Int.toNat x8)))) 16777619) x6 x7 (Qi .i64 x8 1)) none) (some (.exit 0,Fn x3))
def Vn (x3:Int)(x6:List Int)(x7 x8:Int):OX:=some (.exit 0,Fn ((x6.drop x8.toNat).foldl Uv x3))
theorem Qlo (x3:Int)(x6:List Int)(x7 x8:Int):Vm x3 x6 x7 x8=E2 Vm x3 x6 x7 x8:=lnT (x:=E2 (fun x3 x6 x7 x8=>some (.normal,Qln x3 x6 x7 x8)) x3 x6 x7 x8) (by simp only [E2,nxA];rfl)
theorem l_f276_0 (x3:Int)(x6:List Int)(x7 x8:Int)(h:(Qy x6 x7 x8)=true):Vm x3 x6 x7 x8=Vn x3 x6 x7 x8:=by
 obtain ⟨rfl,h3,k,rfl,hk⟩:=JE h
 clear h
 revert x3
 refine QX x6 (fun k=> ∀ x3:Int,Vm x3 x6 (x6.length:Int) (k:Int)=Vn x3 x6 (x6.length:Int) (k:Int)) ?_ ?_ k hk
 ·intro x3
  rw [Qlo]
  simp only [E2,Vn,QA,BS,BV,Ql,Bd,B6,List.foldl_nil]
 ·intro k hk ih x3
  rw [Qlo]
  simp only [E2,QA,QM,hk,Bx,Qg,Bd,QW (show k<4611686018427387904 by omega),QP (y:= .int .u8) hk,ih]
  simp only [Vn,Bd,Bj hk,DH,Uv]
abbrev Vo:Sh:=⟨[(0,.ty (.sl (.int .u8))),(3,.ty (.int .u32)),(4,.ty tI)],[]⟩
def QeE:Fg:=Vo.f
def Qlp:TC:=aF Tryz.f118 [(58,pL 0 QeE),(931,.fg QeD.f)]
def Qlq:TC:=lb 0 Qlp
def Qlr (x0:List Int)(x3 x4:Int):VS:=Vo.st (x0,x3,x4,()) ()
def Qwz:VS->Option (Bool×List (Bool×Exit×VS)):=mkL Vo (fun x y=>(Ww x.1 x.2.2.1)) (fun x y=>[(true,.exit 0,Fn ((x.1.drop x.2.2.1.toNat).foldl Uv x.2.1))])
def QeF:G:=gG 21 [] (Ls [Qwz])
def Vp (x0:List Int)(x3 x4:Int):OX:=Qx (Qz QeF QeE Qlq) (Qlr x0 x3 x4)
def E3 (kk:List Int->Int->Int->OX)(x0:List Int)(x3 x4:Int):OX:=br (ilt x4 (Qd x0)) (br (cIx x0 x4) (kk x0 (QgR .u32 (Em .u32 x3 (icv .u32 (lgt (.int .u8) x0 (Int.toNat x4)))) 16777619) (Qi .i64 x4 1)) none) (some (.exit 0,Fn x3))
def Vq (x0:List Int)(x3 x4:Int):OX:=some (.exit 0,Fn ((x0.drop x4.toNat).foldl Uv x3))
theorem Qls (x0:List Int)(x3 x4:Int):Vp x0 x3 x4=E3 Vp x0 x3 x4:=lnT (x:=E3 (fun x0 x3 x4=>some (.normal,Qlr x0 x3 x4)) x0 x3 x4) (by simp only [E3,nxA];rfl)
def Qlt (p0:List Int):OV:=br (Ww p0 (0:Int)) (some (.t tI (icv .i64 ((p0.drop (0:Int).toNat).foldl Uv (2166136261:Int))),[])) none
theorem QwA (x0:List Int)(x3 x4:Int)(h:(Ww x0 x4)=true):Vp x0 x3 x4=Vq x0 x3 x4:=by
 simp only [Ww,Ba] at h
 obtain ⟨h0,h1,h2⟩:=h
 obtain ⟨k,rfl⟩:=Br h0
 revert x3
 refine QX x0 (fun k=> ∀ x3:Int,Vp x0 x3 (k:Int)=Vq x0 x3 (k:Int)) ?_ ?_ k (by omega)
 ·intro x3
  rw [Qls]
  simp only [E3,Vq,show ilt (x0.length:Int) (Qd x0)=false from Bt (by simp only [Qd];omega),Ql,Bd,B6,List.foldl_nil]
 ·intro k hk ih x3
  rw [Qls]
  simp only [E3,show ilt (k:Int) (Qd x0)=true from Be (by simp only [Qd];omega),QM,hk,Bx,Qg,Bd,QW (show k<4611686018427387904 by omega),QP (y:= .int .u8) hk,ih]
  simp only [Vq,Bd,Bj hk,DH,Uv]
theorem QwB:LO QeF QeE Qlq 0:=QI (s:=Vo) fun x y h _ q=>by simp only [QG,QH] at q;exact (QwA x.1 x.2.1 x.2.2.1 h).trans q
theorem s_f118 (b:List Int)(h:E1 b=true):Qlt b=some (.t tI (E0 b),[]):=by
 simp only [E1,Ba] at h
 simp only [Qlt,show Ww b 0=true from Be (by omega),Qg,BE,BL]
 rfl
def Qlu:Ent:=Qn (.pr (.sl (.int .u8)) .nil) (fun x=>(E1 x.1)) (fun x=>(.t tI (E0 x.1)))
theorem QwC:EM 118 Qlu:=mS (lk:=lkL (lkc QwB lkn)) QeF Qlp [((.t 2),some tI)] false (gB gN) fun m=>Qt m fun x hok=>kT (s_f118 x.1 hok)
theorem lenB_C (c:Certificate):E1 (Yd c).1=true:=Be (by have:=Qwt c;omega)
def QwD (c:Certificate)(k:Int):Bool:=ieq (Yd c).2 0&&(ieq (XR c).1 k&&ieq (XR c).2.1 (E0 (Yd c).1))
def QeG (c:Certificate)(_k:Int):Bool:=JB c
def Zn (c:Certificate):Certificate:=c
def QwE:TC:=aF Tryz.f191 []
def g_f191:G:=⟨TYs,[3],9,EL [],keeps,(fun _ _=>none),IL [],RL []⟩
def Qlv (p0:Certificate):OV:=br (Qw ([]:List ByteArray) p0.2.2.2.2.2.2.2.2.2.2.1 16) (some (.t QT (p0.1,(p0.2.1,(p0.2.2.1,((p0.2.2.2.1.1,(p0.2.2.2.1.2.1,())),(p0.2.2.2.2.1,((p0.2.2.2.2.2.1.1,(p0.2.2.2.2.2.1.2.1,())),(p0.2.2.2.2.2.2.1,(p0.2.2.2.2.2.2.2.1,(p0.2.2.2.2.2.2.2.2.1,(p0.2.2.2.2.2.2.2.2.2.1,((([]:List ByteArray)++p0.2.2.2.2.2.2.2.2.2.2.1),((p0.2.2.2.2.2.2.2.2.2.2.2.1.1,(p0.2.2.2.2.2.2.2.2.2.2.2.1.2.1,())),())))))))))))),[])) none
theorem QeH {c:Certificate}(h:JB c=true):(QN c).length<=100000:=by
 simp only [JB,ZY,Bc,Ba] at h
 exact h.2.2.1
theorem s_f191 (c:Certificate)(h:JB c=true):Qlv c=some (.t QT (Zn c),[]):=by
 have hn:c.2.2.2.2.2.2.2.2.2.2.1.length<=100000:=QeH h
 simp only [Qlv]
 rw [Jr (by omega) (by simp only [BD];omega),Qg]
 rfl
def Qlw:Ent:=Qn (.pr QT .nil) (fun x=>(JB x.1)) (fun x=>(.t QT (Zn x.1)))
theorem QwF:EM 191 Qlw:=mS g_f191 QwE [((.c 2 true 15),some QT)] false (Jg _ (fun p hp=>by cases hp)) fun m=>Qt m fun x hok=>kT (s_f191 x.1 hok)
def sealC (c:Certificate)(s:Keep):Certificate:=(c.1,(c.2.1,(c.2.2.1,(c.2.2.2.1,(c.2.2.2.2.1,(c.2.2.2.2.2.1,(c.2.2.2.2.2.2.1,(c.2.2.2.2.2.2.2.1,(c.2.2.2.2.2.2.2.2.1,(c.2.2.2.2.2.2.2.2.2.1,(c.2.2.2.2.2.2.2.2.2.2.1,(s,()))))))))))))
def E4 (c:Certificate):Certificate:=sealC c (0,(0,()))
def Qlx (c:Certificate)(k:Int):Bool:= !QQ (E4 c)||(ilt k 0||igt k 2147483648)
abbrev Vr:Certificate:=Ty.zero QT
def Wx (c:Certificate)(k:Int):Certificate×Int:=bif Qlx c k then (Vr,9) else (sealC c (k,(E0 (Yd (E4 c)).1,())),0)
def QwG:TC:=aF Tryz.f139 []
def g_f139:G:=gG 35 [(118,Qlu),(191,Qlw),(192,Qe3),(193,Qlm)] (fun _ _=>none)
def Qly (p0:Certificate)(p1:Int):OV:=
 let a4:=((Zn p0).2)
 let a1:=((((a4.2).2).2).2)
 let a5:=(((a1.2).2).2)
 let a2:=((Yd ((Zn p0).1,(a4.1,((a4.2).1,(((a4.2).2).1,((((a4.2).2).2).1,(a1.1,((a1.2).1,(((a1.2).2).1,(a5.1,((a5.2).1,(((a5.2).2).1,((0,(0,())),(((a5.2).2).2).2))))))))))))).1)
 let a3:=(JB ((Zn p0).1,(a4.1,((a4.2).1,(((a4.2).2).1,((((a4.2).2).2).1,(a1.1,((a1.2).1,(((a1.2).2).1,(a5.1,((a5.2).1,(((a5.2).2).1,((0,(0,())),(((a5.2).2).2).2)))))))))))))
 let a6:=ByteArray.mk #[]
 br (JB p0) (br a3 (br (ine (Xl ((Zn p0).1,(a4.1,((a4.2).1,(((a4.2).2).1,((((a4.2).2).2).1,(a1.1,((a1.2).1,(((a1.2).2).1,(a5.1,((a5.2).1,(((a5.2).2).1,((0,(0,())),(((a5.2).2).2).2))))))))))))) 0) (some (.tu [(.t QT (0,(a6,(a6,((0,(0,())),(0,((0,(0,())),(0,(0,(false,(0,(([]:List ByteArray),((0,(0,())),()))))))))))))),(.t tI 9)],[])) (br (ilt p1 0) (some (.tu [(.t QT (0,(a6,(a6,((0,(0,())),(0,((0,(0,())),(0,(0,(false,(0,(([]:List ByteArray),((0,(0,())),()))))))))))))),(.t tI 9)],[])) (br (igt p1 2147483648) (some (.tu [(.t QT (0,(a6,(a6,((0,(0,())),(0,((0,(0,())),(0,(0,(false,(0,(([]:List ByteArray),((0,(0,())),()))))))))))))),(.t tI 9)],[])) (br a3 (br (E1 a2) (some (.tu [(.t QT ((Zn p0).1,(a4.1,((a4.2).1,(((a4.2).2).1,((((a4.2).2).2).1,(a1.1,((a1.2).1,(((a1.2).2).1,(a5.1,((a5.2).1,(((a5.2).2).1,((p1,((E0 a2),())),(((a5.2).2).2).2))))))))))))),(.t tI 0)],[])) none) none)))) none) none
theorem s_f139 (c:Certificate)(k:Int)(h:QeG c k=true):Qly c k=some (.tu [.t QT (Wx c k).1,.t tI (Wx c k).2],[]):=by
 have h:JB c=true:=h
 have hu:JB (E4 c)=true:=h
 have e:((Zn c).1,((Zn c).2.1,((Zn c).2.2.1,((Zn c).2.2.2.1,((Zn c).2.2.2.2.1,((Zn c).2.2.2.2.2.1,((Zn c).2.2.2.2.2.2.1,((Zn c).2.2.2.2.2.2.2.1,((Zn c).2.2.2.2.2.2.2.2.1,((Zn c).2.2.2.2.2.2.2.2.2.1,((Zn c).2.2.2.2.2.2.2.2.2.2.1,((0,(0,())),()))))))))))))=E4 c:=rfl
 simp only [Qly,h,e,hu,VD,lenB_C,Qg]
 unfold Wx Qlx
 cases QQ (E4 c) with
 |false=>rfl
 |true=>
  rw [BI,Ql,Du]
  cases ilt k 0 with
  |true=>rfl
  |false=>
   rw [Ql,Du]
   cases igt k 2147483648<;>rfl
def Qlz:Ent:=Qn (.pr QT (.pr tI .nil)) (fun x=>(QeG x.1 x.2.1)) (fun x=>(.tu [(.t QT ((Wx x.1 x.2.1).1)),(.t tI ((Wx x.1 x.2.1).2))]))
theorem QwH:EM 139 Qlz:=mS g_f139 QwG [((.c 4 true 15),some QT),((.t 5),some tI)] false (gB (gD QwC (gD QwF (gD Qmp (gD Qwv gN))))) fun m=>Qt m fun x hok=>kT (s_f139 x.1 x.2.1 hok)
def JZ (l:List Certificate):Bool:=decide (l.length<=100000)&&l.all JB
def E5 (key:Keep)(id:Int)(l:List Certificate):Bool:=ieq (Qd l) 0||(((l.getD 0 Vr).2.2.2.1==key)&&ieq (l.getD 0 Vr).2.2.2.2.1 id)
def Uw (key:Keep)(id:Int)(l:List Certificate):Bool:=Jq key&&(!ine (ZZ key.1) 2&&(J3 id&&(!igt (Qd l) 8&&(l.all QQ&&E5 key id l))))
def Vs (_key:Keep)(_id:Int)(l:List Certificate):Bool:=JZ l
theorem QwI (key:Keep)(id:Int)(l:List Certificate):br (ieq (Qd l) 0) (some (V.t .bool true,([]:List VO))) (br (cIx l 0) (br ((lgt QT l 0).2.2.2.1==key) (br (cIx l 0) (some (V.t .bool (ieq (lgt QT l 0).2.2.2.2.1 id),[])) none) (some (V.t .bool false,[]))) none)=some (V.t .bool (E5 key id l),[]):=by
 unfold E5
 cases l with
 |nil=>rfl
 |cons c l=>
  have h1:ieq (Qd (c::l)) 0=false:=by
   simp only [ieq,Qd,Bp,beq_eq_false_iff_ne]
   omega
  have h2:cIx (c::l) 0=true:=by simp only [cIx,Bp,Ba];omega
  rw [h1,Ql,h2,Qg,Du,Qg]
  show br (c.2.2.2.1==key) _ _=some (V.t .bool ((c.2.2.2.1==key)&&ieq c.2.2.2.2.1 id),[])
  cases c.2.2.2.1==key<;>rfl
abbrev Vt:Sh:=⟨[(1,.ty tI),(2,.ty (.sl QT)),(3,.ptr 3 0),(28,.ty (.sl QT)),(29,.ty tI),(30,.ty tI)],[(3,.box Qk)]⟩
abbrev QlA:Sh:=⟨[(6,.ty .bool)],[]⟩
abbrev QlB:Sh:=⟨[(1,.ty tI),(2,.ty (.sl QT)),(3,.ptr 3 0)],[(3,.box Qk)]⟩
def QeI:Fg:=Vt.f
def QlC:TC:=aF Tryz.f171 [(58,pL 0 QeI),(933,.fg QlB.f),(29901,.fg QlA.f),(30,pD [(0,[]),(1,[]),(2,[]),(3,[]),(4,[]),(5,[]),(6,[]),(7,[]),(8,[3]),(9,[]),(10,[]),(11,[]),(12,[]),(13,[]),(14,[]),(15,[]),(16,[]),(17,[]),(18,[]),(19,[])] (.of [0,1,2,3,4,5,6,7,8,9,10,11,12,13,14,15,16,17,18,19]))]
def QlD:TC:=lb 0 QlC
def QlE (x1:Int)(x2 x28:List Certificate)(x29 x30:Int)(y3:Keep):VS:=Vt.st (x1,x2,(),x28,x29,x30,()) (y3,())
def QeJ (x6:Bool):VS:=QlA.st (x6,()) ()
def QeK (x1:Int)(x2:List Certificate)(y3:Keep):VS:=QlB.st (x1,x2,(),()) (y3,())
def QwJ:VS->Option (Bool×List (Bool×Exit×VS)):=mkL Vt (fun x y=>(Qy x.2.2.2.1 x.2.2.2.2.1 x.2.2.2.2.2.1&&JZ x.2.2.2.1)) (fun x y=>[((!(x.2.2.2.1.drop x.2.2.2.2.2.1.toNat).all QQ),.ret,QeJ (false)),(true,.exit 0,QeK (x.1) (x.2.1) (y.1))])
def QeL:G:=gG 57 [(92,UM),(175,Vy),(218,VQ),(219,Qmh)] (Ls [QwJ])
def Vu (x1:Int)(x2 x28:List Certificate)(x29 x30:Int)(y3:Keep):OX:=Qx (Qz QeL QeI QlD) (QlE x1 x2 x28 x29 x30 y3)
def E6 (kk:Int->List Certificate->List Certificate->Int->Int->Keep->OX)(x1:Int)(x2 x28:List Certificate)(x29 x30:Int)(y3:Keep):OX:=
 let a1:=lgt QT x28 (Int.toNat x30)
 br (ilt x30 x29) (br (cIx x28 x30) (br (JB a1) (br (ine (Xl a1) 0) (some (.ret,QeJ false)) (kk x1 x2 x28 x29 (Qi .i64 x30 1) y3)) none) none) (some (.exit 0,QeK x1 x2 y3))
def Vv (x1:Int)(x2 x28:List Certificate)(x29 x30:Int)(y3:Keep):OX:=br (!(x28.drop x30.toNat).all QQ) (some (.ret,QeJ (false)))<|some (.exit 0,QeK (x1) (x2) (y3))
theorem QlF (x1:Int)(x2 x28:List Certificate)(x29 x30:Int)(y3:Keep):Vu x1 x2 x28 x29 x30 y3=E6 Vu x1 x2 x28 x29 x30 y3:=lnT (x:=E6 (fun x1 x2 x28 x29 x30 y3=>some (.normal,QlE x1 x2 x28 x29 x30 y3)) x1 x2 x28 x29 x30 y3) (by simp only [E6,nxA];rfl)
def QlG (p0:Keep)(p1:Int)(p2:List Certificate):OV:=
 let a1:=((((lgt QT (p2) (Int.toNat 0)).2).2).2)
 br (!(Jq p0)) (some (.t .bool false,[])) (br (ine (ZZ p0.1) 2) (some (.t .bool false,[])) (br (!(J3 p1)) (some (.t .bool false,[])) (br (igt (Qd p2) 8) (some (.t .bool false,[])) (br (Qy p2 (Qd p2) (0:Int)&&JZ p2) (br (!(p2.drop (0:Int).toNat).all QQ) (some (.t .bool (false),[])) (br (ieq (Qd (p2)) 0) (some (.t .bool true,[])) (br (cIx (p2) 0) (br (and (ieq ((a1.1).1) ((p0).1)) (and (ieq (((a1.1).2).1) (((p0).2).1)) true)) (br (cIx (p2) 0) (some (.t .bool (ieq ((a1.2).1) (p1)),[])) none) (some (.t .bool false,[]))) none))) none))))
theorem QwK (x1:Int)(x2 x28:List Certificate)(x29 x30:Int)(y3:Keep)(h:(Qy x28 x29 x30&&JZ x28)=true):Vu x1 x2 x28 x29 x30 y3=Vv x1 x2 x28 x29 x30 y3:=by
 simp only [Bc] at h
 obtain ⟨h0,hc⟩:=h
 obtain ⟨rfl,h3,k,rfl,hk⟩:=JE h0
 clear h0
 simp only [JZ,Bc,Bg] at hc
 refine QX x28 (fun k=>Vu x1 x2 x28 (x28.length:Int) (k:Int) y3=Vv x1 x2 x28 (x28.length:Int) (k:Int) y3) ?_ ?_ k hk
 ·rw [QlF]
  simp only [E6,Vv,QA,BS,BV,Ql,Bd,B6,List.all_nil,BI]
 ·intro k hk ih
  rw [QlF]
  have hx:=hc.2 x28[k] (Bu hk)
  simp only [E6,QA,QM,hk,Bx,Qg,Bd,QW (show k<4611686018427387904 by omega),QP (y:=QT) hk,hx,VD,ih]
  simp only [Vv,Bd,Bj hk,B4]
  cases QQ x28[k]<;>rfl
theorem QwL:LO QeL QeI QlD 0:=QI (s:=Vt) fun x y h _ q=>by simp only [QG,QH] at q;exact (QwK x.1 x.2.1 x.2.2.2.1 x.2.2.2.2.1 x.2.2.2.2.2.1 y.1 h).trans q
theorem s_f171 (key:Keep)(id:Int)(l:List Certificate)(h:Vs key id l=true):QlG key id l=some (.t .bool (Uw key id l),[]):=by
 have h:JZ l=true:=h
 have hl:l.length<=100000:=by simp only [JZ,Bc,Ba] at h;exact h.1
 simp only [QlG,JF hl,h,B5,Qg,BE,BL,QxN]
 unfold Uw
 refine (brB<|brB<|brB<|brB<|brB (QwI key id l)).trans ?_
 simp only [Bool.not_not]
def QlH:Ent:=Qn (.pr Qk (.pr tI (.pr (.sl QT) .nil))) (fun x=>(Vs x.1 x.2.1 x.2.2.1)) (fun x=>(.t .bool (Uw x.1 x.2.1 x.2.2.1)))
theorem QwM:EM 171 QlH:=mS (lk:=lkL (lkc QwL lkn)) QeL QlC [((.t 6),some .bool)] false (gB (gD GD (gD QeV (gD Qfj (gD Qxc gN))))) fun m=>Qt m fun x hok=>kT (s_f171 x.1 x.2.1 x.2.2.1 hok)
end
end Go.Proofs.YthlcobdnemhcdaaGreat.K
noncomputable section
namespace Go.Proofs
open Go.Shelf
def Tryz.lays137_ren:Go.Shelf.Ren:=⟨fun|137=>248|217=>267|266=>278|n=>n,fun|9=>9|5=>5|3=>3|n=>n,fun|n=>n⟩
theorem Tryz.lays137:Go.Proofs.Lays.n137 Tryz.prog Tryz.lays137_ren:={
 mixed:=by kernel_rfl
 f137:=Tryz.func248.trans (congrArg some (by kernel_rfl))
 f217:=Tryz.func267.trans (congrArg some (by kernel_rfl))
 f266:=Tryz.func278.trans (congrArg some (by kernel_rfl))
 t3:=Tryz.underlying3
 a3:=Tryz.isAgg3
 z3:=Tryz.sizeOf3
 v3:=Tryz.zeroValue3
 t5:=Tryz.underlying5
 a5:=Tryz.isAgg5
 z5:=Tryz.sizeOf5
 v5:=Tryz.zeroValue5
 t9:=Tryz.underlying9
 a9:=Tryz.isAgg9
 z9:=Tryz.sizeOf9
 v9:=Tryz.zeroValue9}
end Go.Proofs
namespace Go.Proofs.YthlcobdnemhcdaaGreat.K
open Go.RowKit Go.Shelf
noncomputable section
def ixB (s:ByteArray)(c:Int):Int:=Lib.indexByte s.data.toList c.toNat.toUInt8
def Qqt:Ent:=Qn (.pr .str (.pr (.int .u8) .nil)) (fun x=>true) (fun x=>(.t tI (ixB x.1 x.2.1)))
theorem QBs:QV Tryz.prog 248:= .inr ⟨by decide,_,Tryz.func248,by kernel_rfl,by kernel_rfl⟩
theorem QBt:Qp Tryz.prog 248 (Qr Qqt):=QaQ fun x hok X w σ vs hfin hc=>by
 obtain ⟨s,c,u⟩:=x
 simp only [Ty.canon,V.ds,V.d,Ty.d,Cs,C] at hc
 obtain ⟨v1,r1,rfl,⟨rfl,_⟩,v2,r2,rfl,⟨rfl,_⟩,rfl⟩:=hc
 refine (Any.strings_IndexByte Tryz.lays137 s c w).mono ?_
 rintro e w' ⟨rfl,rfl⟩
 refine ⟨_,rfl, ?_,Below.refl _ _⟩
 simp only [V.d,Ty.d,C]
 exact ⟨rfl,rfl⟩
def F9 (c:Int)(o:ByteArray):Bool:=(ige c 97&&ile c 122)||((ige c 65&&ile c 90)||((ige c 48&&ile c 57)||ige (ixB o c) 0))
def QBu:TC:=aF Tryz.f216 []
def g_f216:G:=gG 33 [(248,Qqt)] (fun _ _=>none)
def Qh0 (p0:Int)(p1:ByteArray):OV:=br (ige p0 48) (br (ile p0 57) (some (.t .bool true,[])) (some (.t .bool (ige (ixB p1 p0) 0),[]))) (some (.t .bool (ige (ixB p1 p0) 0),[]))
def Qh1 (p0:Int)(p1:ByteArray):OV:=br (ige p0 65) (br (ile p0 90) (some (.t .bool true,[])) (Qh0 p0 p1)) (Qh0 p0 p1)
def Qqu (p0:Int)(p1:ByteArray):OV:=br (ige p0 97) (br (ile p0 122) (some (.t .bool true,[])) (Qh1 p0 p1)) (Qh1 p0 p1)
theorem brO {a b r:Bool}{X:OV}(h:X=some (.t .bool r,[])):br a (br b (some (.t .bool true,[])) X) X=some (.t .bool ((a&&b)||r),[]):=by
 subst h
 cases a<;>cases b<;>rfl
theorem s_f216 (c:Int)(o:ByteArray):Qqu c o=some (.t .bool (F9 c o),[]):=by
 simp only [Qqu,Qh1,Qh0]
 exact brO (brO (brO rfl))
def Qqv:Ent:=Qn (.pr (.int .u8) (.pr .str .nil)) (fun x=>true) (fun x=>(.t .bool (F9 x.1 x.2.1)))
theorem QBv:EM 216 Qqv:=mS g_f216 QBu [((.t 4),some .bool)] false (gB (gC QBs QBt gN)) fun m=>Qt m fun x _=>kT (s_f216 x.1 x.2.1)
def Ue (c:Int):Bool:= !(ilt c 97||igt c 122)||(!(ilt c 65||igt c 90)||(!(ilt c 48||igt c 57)||(ieq c 45||(ieq c 95||ieq c 46))))
def GN (s:ByteArray):Bool:=(QU s).all Ue&&decide (1<=s.size/\s.size<=32)
set_option maxRecDepth 100000 in
theorem QBw:((List.range 256).all fun n=>F9 (n:Int) (ByteArray.mk #[45,95,46])==Ue (n:Int))=true:=by kernel_rfl
theorem QBx {s:ByteArray}{c:Int}(h:c∈QU s):F9 c (ByteArray.mk #[45,95,46])=Ue c:=by
 obtain ⟨b,_,rfl⟩:=B8.1 h
 have:=Bg.1 QBw b.toNat (by rw [B2];exact b.toNat_lt)
 exact eq_of_beq this
abbrev Qbt:Sh:=⟨[(0,.ty .str),(6,.ty (.sl (.int .u8))),(7,.ty tI),(8,.ty tI)],[]⟩
abbrev Qbu:Sh:=⟨[(2,.ty .bool)],[]⟩
abbrev Qqw:Sh:=⟨[(0,.ty .str)],[]⟩
def Qh2:Fg:=Qbt.f
def Qqx:TC:=aF Tryz.f168 [(26,pL 0 Qh2),(421,.fg Qqw.f),(13517,.fg Qbu.f)]
def Qqy:TC:=lb 0 Qqx
def Qqz (x0:ByteArray)(x6:List Int)(x7 x8:Int):VS:=Qbt.st (x0,x6,x7,x8,()) ()
def Wf (x2:Bool):VS:=Qbu.st (x2,()) ()
def Qh3 (x0:ByteArray):VS:=Qqw.st (x0,()) ()
def QBy:VS->Option (Bool×List (Bool×Exit×VS)):=mkL Qbt (fun x y=>(Wo x.2.1 x.2.2.1 x.2.2.2.1&&Yv x.2.1 (QU x.1))) (fun x y=>[((!((x.2.1.drop x.2.2.2.1.toNat).all Ue)),.ret,Wf (false)),(true,.exit 0,Qh3 (x.1))])
def Qh4:G:=gG 24 [(216,Qqv),(29000144,IJ)] (Ls [QBy])
def Qbv (x0:ByteArray)(x6:List Int)(x7 x8:Int):OX:=Qx (Qz Qh4 Qh2 Qqy) (Qqz x0 x6 x7 x8)
def Of (kk:ByteArray->List Int->Int->Int->OX)(x0:ByteArray)(x6:List Int)(x7 x8:Int):OX:=br (ilt x8 x7) (br (cIx x6 x8) (br (!(F9 (lgt (.int .u8) x6 (Int.toNat x8)) (ByteArray.mk #[45,95,46]))) (some (.ret,Wf false)) (kk x0 x6 x7 (Qi .i64 x8 1))) none) (some (.exit 0,Qh3 x0))
def Qbw (x0:ByteArray)(x6:List Int)(x7 x8:Int):OX:=br (!((x6.drop x8.toNat).all Ue)) (some (.ret,Wf (false)))<|some (.exit 0,Qh3 (x0))
theorem QqA (x0:ByteArray)(x6:List Int)(x7 x8:Int):Qbv x0 x6 x7 x8=Of Qbv x0 x6 x7 x8:=lnT (x:=Of (fun x0 x6 x7 x8=>some (.normal,Qqz x0 x6 x7 x8)) x0 x6 x7 x8) (by simp only [Of,nxA];rfl)
def QqB (p0:ByteArray):OV:=br (YA p0) (br (Wo (QU p0) (Qd (QU p0)) (0:Int)&&Yv (QU p0) (QU p0)) (br (!(((QU p0).drop (0:Int).toNat).all Ue)) (some (.t .bool (false),[])) (br (ige (Zi (p0)) 1) (some (.t .bool (ile (Zi (p0)) 32),[])) (some (.t .bool false,[])))) none) none
theorem QBz (x0:ByteArray)(x6:List Int)(x7 x8:Int)(h:(Wo x6 x7 x8&&Yv x6 (QU x0))=true):Qbv x0 x6 x7 x8=Qbw x0 x6 x7 x8:=by
 simp only [Bc] at h
 obtain ⟨h,hs⟩:=h
 have hs:=QeU hs
 obtain ⟨rfl,h3,k,rfl,hk⟩:=Qts h
 clear h
 refine QX x6 (fun k=>Qbv x0 x6 (x6.length:Int) (k:Int)=Qbw x0 x6 (x6.length:Int) (k:Int)) ?_ ?_ k hk
 ·rw [QqA]
  simp [Of,Qbw,QA,Ql]
 ·intro k hk ih
  rw [QqA]
  have hw:F9 x6[k] (ByteArray.mk #[45,95,46])=Ue x6[k]:=QBx (s:=x0) (by rw [←hs];exact Bu hk)
  simp only [Of,QA,QM,hk,Bx,Qg,Bd,Qjh (show k<9223372036854775807 by omega),QP (y:= .int .u8) hk,ih,hw]
  simp only [Qbw,Bd,Bj hk,B4]
  cases Ue x6[k]<;>rfl
theorem QBA:LO Qh4 Qh2 Qqy 0:=QI (s:=Qbt) fun x y h _ q=>by simp only [QG,QH] at q;exact (QBz x.1 x.2.1 x.2.2.1 x.2.2.2.1 h).trans q
theorem s_f168 (s:ByteArray)(h:Jk s=true):QqB s=some (.t .bool (GN s),[]):=by
 simp only [Jk,Ba] at h
 have hl:=Ey s
 simp only [QqB,show YA s=true from Be (by omega),Qtt (show (QU s).length<=9223372036854775807 by omega),QeT,B5,Qg,BE,BL,GN]
 cases (QU s).all Ue with
 |false=>rfl
 |true=>
  simp only [BI,Ql,By]
  refine Q8 (fun g=> ?_) (fun g=> ?_)
  ·simp only [ige,Zi,Ba] at g
   apply ES
   rw [DI]
   simp only [ile,Zi,Ba]
   omega
  ·simp only [ige,Zi,Bo] at g
   apply ES
   rw [eq_comm,Bo]
   omega
def QqC:Ent:=Qn (.pr .str .nil) (fun x=>(Jk x.1)) (fun x=>(.t .bool (GN x.1)))
theorem QBB:EM 168 QqC:=mS (lk:=lkL (lkc QBA lkn)) Qh4 Qqx [((.t 2),some .bool)] false (gB (gD QBv (gC QaD QaE gN))) fun m=>Qt m fun x hok=>kT (s_f168 x.1 hok)
def JK {α:Type}(l:List α):Bool:=decide (l.length<=100000)
def Wg (l:List Int)(k:Nat):Bool:=(List.range' k (l.length-k)).all fun j=>decide (j=0)||ilt (l.getD (j-1) 0) (l.getD j 0)
def Uf (l:List Int):Bool:=Wg l 0
theorem QBC (l:List Int):Wg l l.length=true:=by
 unfold Wg
 rw [Nat.sub_self]
 rfl
theorem QBD {l:List Int}{k:Nat}(hk:k<l.length):Wg l k=((decide (k=0)||ilt (l.getD (k-1) 0) l[k])&&Wg l (k+1)):=by
 have:l.length-k=(l.length-(k+1))+1:=by omega
 unfold Wg
 rw [this,List.range'_succ,B4]
 simp only [Bn,Bi hk,BU]
theorem asc_br {β:Type}{l:List Int}{k:Nat}(hk:k<l.length)(hb:k<4611686018427387904)(bad ok:Option β):
  br (igt (k:Int) 0) (br (cIx l (QD .i64 (k:Int) 1)) (br (ige (lgt tI l (Int.toNat (QD .i64 (k:Int) 1))) l[k]) bad ok) none) ok=br (decide (k=0)||ilt (l.getD (k-1) 0) l[k]) ok bad:=by
 by_cases h0:k=0
 ·subst h0
  rw [show igt ((0:Nat):Int) 0=false from rfl,Ql,Be rfl,Bool.true_or,Qg]
 ·have e:QD .i64 (k:Int) 1=((k-1:Nat):Int):=by rw [Ze (by omega)];omega
  rw [show igt (k:Int) 0=true from Be (by omega),Qg,e,Bd,QM,Be (show k-1<l.length by omega),Qg,Bt h0,Du,Vx]
  show br (!ilt (l.getD (k-1) 0) l[k]) bad ok=_
  cases ilt (l.getD (k-1) 0) l[k]<;>rfl
abbrev Qbx:Sh:=⟨[(0,.ty (.sl tI)),(5,.ty tI),(6,.ty tI)],[]⟩
abbrev Qby:Sh:=⟨[],[]⟩
def Qh5:Fg:=Qbx.f
def QqD:TC:=aF Tryz.f170 [(26,pL 0 Qh5),(421,.fg Qby.f),(3378,pD [(0,[]),(1,[]),(2,[]),(3,[]),(4,[]),(5,[]),(6,[]),(7,[]),(8,[]),(9,[]),(10,[]),(11,[]),(12,[]),(13,[])] (.of [0,1,2,3,4,5,6,7,8,9,10,11,12,13])),(13517,.fg Qbu.f)]
def QqE:TC:=lb 0 QqD
def QqF (x0:List Int)(x5 x6:Int):VS:=Qbx.st (x0,x5,x6,()) ()
def Qh6  : VS:=Qby.st () ()
def QBE:VS->Option (Bool×List (Bool×Exit×VS)):=mkL Qbx (fun x y=>(Qy x.1 x.2.1 x.2.2.1)) (fun x y=>[((!Wg x.1 x.2.2.1.toNat),.ret,Wf (false)),(true,.exit 0,Qh6)])
def Qh7:G:=gG 24 [] (Ls [QBE])
def Qbz (x0:List Int)(x5 x6:Int):OX:=Qx (Qz Qh7 Qh5 QqE) (QqF x0 x5 x6)
def Og (kk:List Int->Int->Int->OX)(x0:List Int)(x5 x6:Int):OX:=br (ilt x6 x5) (br (igt x6 0) (br (cIx x0 (QD .i64 x6 1)) (br (cIx x0 x6) (br (ige (lgt tI x0 (Int.toNat (QD .i64 x6 1))) (lgt tI x0 (Int.toNat x6))) (some (.ret,Wf false)) (kk x0 x5 (Qi .i64 x6 1))) none) none) (kk x0 x5 (Qi .i64 x6 1))) (some (.exit 0,Qh6))
def QbA (x0:List Int)(x5 x6:Int):OX:=br (!Wg x0 x6.toNat) (some (.ret,Wf (false)))<|some (.exit 0,Qh6)
theorem QqG (x0:List Int)(x5 x6:Int):Qbz x0 x5 x6=Og Qbz x0 x5 x6:=lnT (x:=Og (fun x0 x5 x6=>some (.normal,QqF x0 x5 x6)) x0 x5 x6) (by simp only [Og,nxA];rfl)
def QqH (p0:List Int):OV:=br (Qy p0 (Qd p0) (0:Int)) (br (!Wg p0 (0:Int).toNat) (some (.t .bool (false),[])) (some (.t .bool true,[]))) none
theorem QBF (x0:List Int)(x5 x6:Int)(h:(Qy x0 x5 x6)=true):Qbz x0 x5 x6=QbA x0 x5 x6:=by
 obtain ⟨rfl,h3,k,rfl,hk⟩:=JE h
 clear h
 refine QX x0 (fun k=>Qbz x0 (x0.length:Int) (k:Int)=QbA x0 (x0.length:Int) (k:Int)) ?_ ?_ k hk
 ·rw [QqG]
  simp only [Og,QbA,QA,BS,BV,Ql,Bd,QBC,BI]
 ·intro k hk ih
  rw [QqG]
  simp only [Og,QA,QM,hk,Bx,Qg,Bd,QW (show k<4611686018427387904 by omega),QP (y:=tI) hk,ih,asc_br hk (show k<4611686018427387904 by omega)]
  simp only [QbA,Bd,QBD hk]
  cases decide (k=0)||ilt (x0.getD (k-1) 0) x0[k]<;>rfl
theorem QBG:LO Qh7 Qh5 QqE 0:=QI (s:=Qbx) fun x y h _ q=>by simp only [QG,QH] at q;exact (QBF x.1 x.2.1 x.2.2.1 h).trans q
theorem s_f170 (l:List Int)(h:JK l=true):QqH l=some (.t .bool (Uf l),[]):=by
 simp only [JK,Ba] at h
 simp only [QqH,JF h,Qg,BE]
 unfold Uf
 cases Wg l 0<;>rfl
def QqI:Ent:=Qn (.pr (.sl tI) .nil) (fun x=>(JK x.1)) (fun x=>(.t .bool (Uf x.1)))
theorem QBH:EM 170 QqI:=mS (lk:=lkL (lkc QBG lkn)) Qh7 QqD [((.t 2),some .bool)] false (gB gN) fun m=>Qt m fun x hok=>kT (s_f170 x.1 hok)
def GO (a:Int):Bool:=ieq (ZZ a) 1
def QBI:TC:=aF Tryz.f176 []
def g_f176:G:=gG 6 [(218,VQ)] (fun _ _=>none)
def r_f176 (p0:Int):OV:=some (.t .bool (ieq (ZZ p0) 1),[])
theorem s_f176 (a:Int):r_f176 a=some (.t .bool (GO a),[]):=rfl
def QqJ:Ent:=Qn (.pr tI .nil) (fun x=>true) (fun x=>(.t .bool (GO x.1)))
theorem QBJ:EM 176 QqJ:=mS g_f176 QBI [((.t 2),some .bool)] false (gB (gD Qfj gN)) fun m=>Qt m fun x _=>kT (s_f176 x.1)
def Xa (l:List Int)(k:Nat):Bool:=(List.range' k (l.length-k)).all fun j=>ieq (ZN (l.getD j 0)).2 0&& !Zp (l.take j) (l.getD j 0)
def XA (l:List Int):Bool:=Xa l 0
theorem QBK (l:List Int):Xa l l.length=true:=by
 unfold Xa
 rw [Nat.sub_self]
 rfl
theorem QBL {l:List Int}{k:Nat}(hk:k<l.length):Xa l k=((ieq (ZN l[k]).2 0&& !Zp (l.take k) l[k])&&Xa l (k+1)):=by
 have:l.length-k=(l.length-(k+1))+1:=by omega
 unfold Xa
 rw [this,List.range'_succ,B4]
 simp only [Bn,Bi hk,BU]
theorem QBM (l:List Int)(k:Nat):lsl l 0 (k:Int)=l.take k:=by
 simp [lsl]
theorem QBN {l:List Int}{k:Nat}(hk:k<=l.length):cSl l 0 (k:Int) ((List.length l:Nat):Int)=true:=by
 simp only [cSl,Ba]
 omega
abbrev QbB:Sh:=⟨[(0,.ty (.sl tI)),(7,.ty (.sl tI)),(8,.ty tI),(9,.ty tI)],[]⟩
def Qh8:Fg:=QbB.f
def QqK:TC:=aF Tryz.f169 [(26,pL 0 Qh8),(421,.fg Qby.f),(27037,.fg Qbu.f)]
def QqL:TC:=lb 0 QqK
def QqM (x0 x7:List Int)(x8 x9:Int):VS:=QbB.st (x0,x7,x8,x9,()) ()
def Qh9  : VS:=Qby.st () ()
def QBO:VS->Option (Bool×List (Bool×Exit×VS)):=mkL QbB (fun x y=>(Qy x.2.1 x.2.2.1 x.2.2.2.1&&Yv x.1 x.2.1)) (fun x y=>[((!Xa x.2.1 x.2.2.2.1.toNat),.ret,Wf (false)),(true,.exit 0,Qh9)])
def Qia:G:=gG 29 [(201,Qgp),(217,Qm4)] (Ls [QBO])
def QbC (x0 x7:List Int)(x8 x9:Int):OX:=Qx (Qz Qia Qh8 QqL) (QqM x0 x7 x8 x9)
def Oh (kk:List Int->List Int->Int->Int->OX)(x0 x7:List Int)(x8 x9:Int):OX:=
 let a1:=lgt tI x7 (Int.toNat x9)
 br (ilt x9 x8) (br (cIx x7 x9) (br (ine ((ZN a1).2) 0) (some (.ret,Wf false)) (br (cSl x0 0 x9 ((List.length x0:Nat):Int)) (br (Yx (lsl x0 0 x9) a1) (br (Zp (lsl x0 0 x9) a1) (some (.ret,Wf false)) (kk x0 x7 x8 (Qi .i64 x9 1))) none) none)) none) (some (.exit 0,Qh9))
def QbD (x0 x7:List Int)(x8 x9:Int):OX:=br (!Xa x7 x9.toNat) (some (.ret,Wf (false)))<|some (.exit 0,Qh9)
theorem QqN (x0 x7:List Int)(x8 x9:Int):QbC x0 x7 x8 x9=Oh QbC x0 x7 x8 x9:=lnT (x:=Oh (fun x0 x7 x8 x9=>some (.normal,QqM x0 x7 x8 x9)) x0 x7 x8 x9) (by simp only [Oh,nxA];rfl)
def QqO (p0:List Int):OV:=br (Qy p0 (Qd p0) (0:Int)&&Yv p0 p0) (br (!Xa p0 (0:Int).toNat) (some (.t .bool (false),[])) (some (.t .bool true,[]))) none
theorem QBP (x0 x7:List Int)(x8 x9:Int)(h:(Qy x7 x8 x9&&Yv x0 x7)=true):QbC x0 x7 x8 x9=QbD x0 x7 x8 x9:=by
 simp only [Bc] at h
 obtain ⟨h0,hs⟩:=h
 have hs:=QeU hs
 subst hs
 obtain ⟨rfl,h3,k,rfl,hk⟩:=JE h0
 clear h0
 refine QX x0 (fun k=>QbC x0 x0 (x0.length:Int) (k:Int)=QbD x0 x0 (x0.length:Int) (k:Int)) ?_ ?_ k hk
 ·rw [QqN]
  simp only [Oh,QbD,QA,BS,BV,Ql,Bd,QBK,BI]
 ·intro k hk ih
  rw [QqN]
  have hi:Yx (x0.take k) x0[k]=true:=Be (by rw [Dd];omega)
  simp only [Oh,QA,QM,hk,Bx,Qg,Bd,QW (show k<4611686018427387904 by omega),QP (y:=tI) hk,ih,QBM,QBN (show k<=x0.length by omega),hi,QeS]
  simp only [QbD,Bd,QBL hk]
  cases ieq (ZN x0[k]).2 0<;>cases Zp (x0.take k) x0[k]<;>rfl
theorem QBQ:LO Qia Qh8 QqL 0:=QI (s:=QbB) fun x y h _ q=>by simp only [QG,QH] at q;exact (QBP x.1 x.2.1 x.2.2.1 x.2.2.2.1 h).trans q
theorem s_f169 (l:List Int)(h:JK l=true):QqO l=some (.t .bool (XA l),[]):=by
 simp only [JK,Ba] at h
 simp only [QqO,JF h,QeT,B5,Qg,BE]
 unfold XA
 cases Xa l 0<;>rfl
def QqP:Ent:=Qn (.pr (.sl tI) .nil) (fun x=>(JK x.1)) (fun x=>(.t .bool (XA x.1)))
theorem QBR:EM 169 QqP:=mS (lk:=lkL (lkc QBQ lkn)) Qia QqK [((.t 2),some .bool)] false (gB (gD Qn4 (gD QxM gN))) fun m=>Qt m fun x hok=>kT (s_f169 x.1 hok)
def YI (n:Int):Bool:= !J3 n
def QBS:TC:=aF Tryz.f173 []
def QBT:G:=gG 8 [(175,Vy)] (fun _ _=>none)
def QqQ (p0:Int):OV:=some (.t .bool (!(J3 p0)),[.box (.c (.func (.func 175) #[] #[]))])
theorem QBU (n:Int):QqQ n=some (.t .bool (YI n),[.box (.c (.func (.func 175) #[] #[]))]):=by
 simp only [QqQ]
 rfl
def QqR:Ent:=WR [.ty tI,.ptr 50000 0] [.bc 175] (fun x y=>true) (fun x y=>(.t .bool (YI x.1))) (fun x y=>[.box (.c (.func (.func 175) #[] #[]))])
theorem QBV:EM 173 QqR:=mS QBT QBS [((.t 3),some .bool)] false (gB (gD QeV gN)) fun m=>UK (Xs m fun x y _=>kT (QBU x.1))
def Ea (l:List Int):Int:=match Ja YI l with|some k=>(k:Int)|none=> -1
abbrev QbE:Sh:=⟨[(0,.ty (.sl tI)),(1,.fn 173 [(50000,0)]),(7,.ty tI),(8,.ty tI)],[(50000,.bc 175)]⟩
abbrev QqS:Sh:=⟨[(4,.ty tI)],[(50000,.bc 175)]⟩
abbrev QqT:Sh:=⟨[],[(50000,.bc 175)]⟩
def Qib:Fg:=QbE.f
def QqU:TC:=aF Tryz.f220 [(26,pL 0 Qib),(421,.fg QqT.f),(13517,.fg QqS.f)]
def QqV:TC:=lb 0 QqU
def QqW (x0:List Int)(x7 x8:Int):VS:=QbE.st (x0,(),x7,x8,()) ((),())
def Qic (x4:Int):VS:=QqS.st (x4,()) ((),())
def Qid  : VS:=QqT.st () ((),())
def QBW:VS->Option (Bool×List (Bool×Exit×VS)):=mkL QbE (fun x y=>(Qy x.1 x.2.2.1 x.2.2.2.1)) (fun x y=>[(((Ja YI (x.1.drop x.2.2.2.1.toNat)).isSome),.ret,Qic (x.2.2.2.1+((Ja YI (x.1.drop x.2.2.2.1.toNat)).getD 0:Nat))),(true,.exit 0,Qid)])
def Qie:G:=gG 19 [(173,QqR)] (Ls [QBW])
def QbF (x0:List Int)(x7 x8:Int):OX:=Qx (Qz Qie Qib QqV) (QqW x0 x7 x8)
def Oi (kk:List Int->Int->Int->OX)(x0:List Int)(x7 x8:Int):OX:=br (ilt x8 x7) (br (cIx x0 x8) (br (YI (lgt tI x0 (Int.toNat x8))) (some (.ret,Qic x8)) (kk x0 x7 (Qi .i64 x8 1))) none) (some (.exit 0,Qid))
def QbG (x0:List Int)(x7 x8:Int):OX:=
 let a1:=Ja YI (x0.drop x8.toNat)
 br (a1.isSome) (some (.ret,Qic (x8+(a1.getD 0:Nat))))<|some (.exit 0,Qid)
theorem QqX (x0:List Int)(x7 x8:Int):QbF x0 x7 x8=Oi QbF x0 x7 x8:=lnT (x:=Oi (fun x0 x7 x8=>some (.normal,QqW x0 x7 x8)) x0 x7 x8) (by simp only [Oi,nxA];rfl)
def QqY (p0:List Int):OV:=
 let a1:=(Ja YI (p0.drop (0:Int).toNat))
 br (Qy p0 (Qd p0) (0:Int)) (br (a1.isSome) (some (.t tI ((0:Int)+(a1.getD 0:Nat)),[.box (.c (.func (.func 175) #[] #[]))])) (some (.t tI (-1),[.box (.c (.func (.func 175) #[] #[]))]))) none
theorem QBX (x0:List Int)(x7 x8:Int)(h:(Qy x0 x7 x8)=true):QbF x0 x7 x8=QbG x0 x7 x8:=by
 obtain ⟨rfl,h3,k,rfl,hk⟩:=JE h
 clear h
 refine QX x0 (fun k=>QbF x0 (x0.length:Int) (k:Int)=QbG x0 (x0.length:Int) (k:Int)) ?_ ?_ k hk
 ·rw [QqX]
  simp [Oi,QbG,QA,Ql,Ja]
 ·intro k hk ih
  rw [QqX]
  simp only [Oi,QA,QM,hk,Bx,Qg,Bd,QW (show k<4611686018427387904 by omega),ih,QP (y:=tI) hk]
  simp only [QbG,Bd,Bj hk,Ja]
  cases h:YI x0[k] with
  |true=>simp [Qg]
  |false=>
   simp only [Ql,BG,Df]
   cases hq:Ja YI (x0.drop (k+1)) with
   |none=>rfl
   |some j=>
    simp only [B0,Dn,BU,Qg]
    congr 3
    omega
theorem QBY:LO Qie Qib QqV 0:=QI (s:=QbE) fun x y h _ q=>by simp only [QG,QH] at q;exact (QBX x.1 x.2.2.1 x.2.2.2.1 h).trans q
theorem QBZ (l:List Int)(h:JK l=true):QqY l=some (.t tI (Ea l),[.box (.c (.func (.func 175) #[] #[]))]):=by
 simp only [JK,Ba] at h
 simp only [QqY,JF h,Qg,BE,BL,Ea]
 cases Ja YI l<;>simp [Qg,Ql]
def QqZ:Ent:=WR [.ty (.sl tI),.fn 173 [(50000,0)]] [.bc 175] (fun x y=>(JK x.1)) (fun x y=>(.t tI (Ea x.1))) (fun x y=>[.box (.c (.func (.func 175) #[] #[]))])
theorem QB0:EM 220 QqZ:=mS (lk:=lkL (lkc QBY lkn)) Qie QqU [((.t 4),some tI)] false (gB (gD QBV gN)) fun m=>UK (Xs m fun x y hok=>kT (QBZ x.1 hok))
def GP (l:List Int):Bool:= !l.all J3
def QB1:TC:=aF Tryz.f174 []
def QB2:G:=gG 9 [(220,QqZ)] (fun _ _=>none)
def Qq0 (p0:List Int):OV:=br (JK p0) (some (.t .bool (ige (Ea p0) 0),[.box (.c (.func (.func 175) #[] #[]))])) none
theorem QB3 (l:List Int)(h:JK l=true):Qq0 l=some (.t .bool (GP l),[.box (.c (.func (.func 175) #[] #[]))]):=by
 simp only [Qq0,h,Qg]
 have e:ige (Ea l) 0=GP l:=by
  have e2:GP l=l.any YI:=by
   unfold GP
   rw [List.not_all_eq_any_not]
   rfl
  rw [e2]
  unfold Ea
  cases hq:Ja YI l with
  |none=>rw [OI.1 hq];rfl
  |some k=>
   rw [←Qji,hq]
   simp only [ige,Dn,Ba]
   omega
 rw [e]
def Qq1:Ent:=WR [.ty (.sl tI),.fn 173 [(50000,0)]] [.bc 175] (fun x y=>(JK x.1)) (fun x y=>(.t .bool (GP x.1))) (fun x y=>[.box (.c (.func (.func 175) #[] #[]))])
theorem QB4:EM 174 Qq1:=mS QB2 QB1 [((.t 4),some .bool)] false (gB (gD QB0 gN)) fun m=>UK (Xs m fun x y hok=>kT (QB3 x.1 hok))
def Qq2:TC:=aF Tryz.f172 []
def Qq3:List (RV×Option Ty):=[((.t 2),none)]
def Qq4:G:=gG 4 [] (fun _ _=>none)
def Qq5  : OV:=some (.fn 173 [(.ptr 50000 0)],[.box (.c (.func (.func 175) #[] #[]))])
theorem QB5  : QK Qq4 Qq2 Qq3 true [.c (.func (.func 175) ⟨[]⟩ ⟨[]⟩)] []=Qq5  :=by kernel_rfl
theorem QB6:Qq5=some (.fn 173 [.ptr 50000 0],[.box (.c (.func (.func 175) #[] #[]))]):=rfl
def Qq6:Ent:=WR [.cf 175] [] (fun x y=>true) (fun x y=>(.fn 173 [(.ptr 50000 0)])) (fun x y=>[.box (.c (.func (.func 175) #[] #[]))])
theorem QB7:EM 172 Qq6:=mS Qq4 Qq2 Qq3 true (gB gN) fun m=>UK (Xs m fun x y _=>(QB5 ).trans (QB6 ))
def YJ (n:Int):Bool:= !GO n
def QB8:TC:=aF Tryz.f173 []
def QB9:G:=gG 8 [(176,QqJ)] (fun _ _=>none)
def Qq7 (p0:Int):OV:=some (.t .bool (!(GO p0)),[.box (.c (.func (.func 176) #[] #[]))])
theorem QCa (n:Int):Qq7 n=some (.t .bool (YJ n),[.box (.c (.func (.func 176) #[] #[]))]):=by
 simp only [Qq7]
 rfl
def Qq8:Ent:=WR [.ty tI,.ptr 50000 0] [.bc 176] (fun x y=>true) (fun x y=>(.t .bool (YJ x.1))) (fun x y=>[.box (.c (.func (.func 176) #[] #[]))])
theorem QCb:EM 173 Qq8:=mS QB9 QB8 [((.t 3),some .bool)] false (gB (gD QBJ gN)) fun m=>UK (Xs m fun x y _=>kT (QCa x.1))
def Eb (l:List Int):Int:=match Ja YJ l with|some k=>(k:Int)|none=> -1
abbrev QbH:Sh:=⟨[(0,.ty (.sl tI)),(1,.fn 173 [(50000,0)]),(7,.ty tI),(8,.ty tI)],[(50000,.bc 176)]⟩
abbrev Qq9:Sh:=⟨[(4,.ty tI)],[(50000,.bc 176)]⟩
abbrev Qra:Sh:=⟨[],[(50000,.bc 176)]⟩
def Qif:Fg:=QbH.f
def Qrb:TC:=aF Tryz.f220 [(26,pL 0 Qif),(421,.fg Qra.f),(13517,.fg Qq9.f)]
def Qrc:TC:=lb 0 Qrb
def Qrd (x0:List Int)(x7 x8:Int):VS:=QbH.st (x0,(),x7,x8,()) ((),())
def Qig (x4:Int):VS:=Qq9.st (x4,()) ((),())
def Qih  : VS:=Qra.st () ((),())
def QCc:VS->Option (Bool×List (Bool×Exit×VS)):=mkL QbH (fun x y=>(Qy x.1 x.2.2.1 x.2.2.2.1)) (fun x y=>[(((Ja YJ (x.1.drop x.2.2.2.1.toNat)).isSome),.ret,Qig (x.2.2.2.1+((Ja YJ (x.1.drop x.2.2.2.1.toNat)).getD 0:Nat))),(true,.exit 0,Qih)])
def Qii:G:=gG 19 [(173,Qq8)] (Ls [QCc])
def QbI (x0:List Int)(x7 x8:Int):OX:=Qx (Qz Qii Qif Qrc) (Qrd x0 x7 x8)
def Oj (kk:List Int->Int->Int->OX)(x0:List Int)(x7 x8:Int):OX:=br (ilt x8 x7) (br (cIx x0 x8) (br (YJ (lgt tI x0 (Int.toNat x8))) (some (.ret,Qig x8)) (kk x0 x7 (Qi .i64 x8 1))) none) (some (.exit 0,Qih))
def QbJ (x0:List Int)(x7 x8:Int):OX:=
 let a1:=Ja YJ (x0.drop x8.toNat)
 br (a1.isSome) (some (.ret,Qig (x8+(a1.getD 0:Nat))))<|some (.exit 0,Qih)
theorem Qre (x0:List Int)(x7 x8:Int):QbI x0 x7 x8=Oj QbI x0 x7 x8:=lnT (x:=Oj (fun x0 x7 x8=>some (.normal,Qrd x0 x7 x8)) x0 x7 x8) (by simp only [Oj,nxA];rfl)
def Qrf (p0:List Int):OV:=
 let a1:=(Ja YJ (p0.drop (0:Int).toNat))
 br (Qy p0 (Qd p0) (0:Int)) (br (a1.isSome) (some (.t tI ((0:Int)+(a1.getD 0:Nat)),[.box (.c (.func (.func 176) #[] #[]))])) (some (.t tI (-1),[.box (.c (.func (.func 176) #[] #[]))]))) none
theorem QCd (x0:List Int)(x7 x8:Int)(h:(Qy x0 x7 x8)=true):QbI x0 x7 x8=QbJ x0 x7 x8:=by
 obtain ⟨rfl,h3,k,rfl,hk⟩:=JE h
 clear h
 refine QX x0 (fun k=>QbI x0 (x0.length:Int) (k:Int)=QbJ x0 (x0.length:Int) (k:Int)) ?_ ?_ k hk
 ·rw [Qre]
  simp [Oj,QbJ,QA,Ql,Ja]
 ·intro k hk ih
  rw [Qre]
  simp only [Oj,QA,QM,hk,Bx,Qg,Bd,QW (show k<4611686018427387904 by omega),ih,QP (y:=tI) hk]
  simp only [QbJ,Bd,Bj hk,Ja]
  cases h:YJ x0[k] with
  |true=>simp [Qg]
  |false=>
   simp only [Ql,BG,Df]
   cases hq:Ja YJ (x0.drop (k+1)) with
   |none=>rfl
   |some j=>
    simp only [B0,Dn,BU,Qg]
    congr 3
    omega
theorem QCe:LO Qii Qif Qrc 0:=QI (s:=QbH) fun x y h _ q=>by simp only [QG,QH] at q;exact (QCd x.1 x.2.2.1 x.2.2.2.1 h).trans q
theorem QCf (l:List Int)(h:JK l=true):Qrf l=some (.t tI (Eb l),[.box (.c (.func (.func 176) #[] #[]))]):=by
 simp only [JK,Ba] at h
 simp only [Qrf,JF h,Qg,BE,BL,Eb]
 cases Ja YJ l<;>simp [Qg,Ql]
def Qrg:Ent:=WR [.ty (.sl tI),.fn 173 [(50000,0)]] [.bc 176] (fun x y=>(JK x.1)) (fun x y=>(.t tI (Eb x.1))) (fun x y=>[.box (.c (.func (.func 176) #[] #[]))])
theorem QCg:EM 220 Qrg:=mS (lk:=lkL (lkc QCe lkn)) Qii Qrb [((.t 4),some tI)] false (gB (gD QCb gN)) fun m=>UK (Xs m fun x y hok=>kT (QCf x.1 hok))
def GQ (l:List Int):Bool:= !l.all GO
def QCh:TC:=aF Tryz.f174 []
def QCi:G:=gG 9 [(220,Qrg)] (fun _ _=>none)
def Qrh (p0:List Int):OV:=br (JK p0) (some (.t .bool (ige (Eb p0) 0),[.box (.c (.func (.func 176) #[] #[]))])) none
theorem QCj (l:List Int)(h:JK l=true):Qrh l=some (.t .bool (GQ l),[.box (.c (.func (.func 176) #[] #[]))]):=by
 simp only [Qrh,h,Qg]
 have e:ige (Eb l) 0=GQ l:=by
  have e2:GQ l=l.any YJ:=by
   unfold GQ
   rw [List.not_all_eq_any_not]
   rfl
  rw [e2]
  unfold Eb
  cases hq:Ja YJ l with
  |none=>rw [OI.1 hq];rfl
  |some k=>
   rw [←Qji,hq]
   simp only [ige,Dn,Ba]
   omega
 rw [e]
def Qri:Ent:=WR [.ty (.sl tI),.fn 173 [(50000,0)]] [.bc 176] (fun x y=>(JK x.1)) (fun x y=>(.t .bool (GQ x.1))) (fun x y=>[.box (.c (.func (.func 176) #[] #[]))])
theorem QCk:EM 174 Qri:=mS QCi QCh [((.t 4),some .bool)] false (gB (gD QCg gN)) fun m=>UK (Xs m fun x y hok=>kT (QCj x.1 hok))
def Qrj:TC:=aF Tryz.f172 []
def Qrk:List (RV×Option Ty):=[((.t 2),none)]
def Qrl:G:=gG 4 [] (fun _ _=>none)
def Qrm  : OV:=some (.fn 173 [(.ptr 50000 0)],[.box (.c (.func (.func 176) #[] #[]))])
theorem QCl  : QK Qrl Qrj Qrk true [.c (.func (.func 176) ⟨[]⟩ ⟨[]⟩)] []=Qrm  :=by kernel_rfl
theorem QCm:Qrm=some (.fn 173 [.ptr 50000 0],[.box (.c (.func (.func 176) #[] #[]))]):=rfl
def Qrn:Ent:=WR [.cf 176] [] (fun x y=>true) (fun x y=>(.fn 173 [(.ptr 50000 0)])) (fun x y=>[.box (.c (.func (.func 176) #[] #[]))])
theorem QCn:EM 172 Qrn:=mS Qrl Qrj Qrk true (gB gN) fun m=>UK (Xs m fun x y _=>(QCl ).trans (QCm ))
end
end Go.Proofs.YthlcobdnemhcdaaGreat.K
noncomputable section
namespace Go.Proofs.YthlcobdnemhcdaaGreat.K
open Go.RowKit
noncomputable section
theorem QDq {c:Int}(h:ieq (ZN c).2 0=true):1<=c/\c<=16:=by
 unfold ZN at h
 split at h
 ·simp [ieq] at h
 ·omega
theorem Qss {l:List Int}(h:XA l=true): ∀ (k:Nat) (hk:k<l.length),(1<=l[k]/\l[k]<=16)∧ ¬ l[k]∈l.take k:=by
 intro k hk
 simp only [XA,Xa,Bg,List.mem_range'_1,Bc,Bw] at h
 obtain ⟨h1,h2⟩:=h k ⟨by omega,by omega⟩
 simp only [Bn,Bi hk,BU] at h1 h2
 refine ⟨QDq h1,fun hm=> ?_⟩
 simp only [Zp] at h2
 rw [BH.2 hm] at h2
 cases h2
theorem QDr {l:List Int}(h:XA l=true):l.Nodup:=by
 have h2:=Qss h
 rw [List.nodup_iff_pairwise_ne,List.pairwise_iff_getElem]
 intro i j hi hj hij he
 refine (h2 j hj).2 ?_
 rw [←he]
 exact List.mem_iff_getElem.2 ⟨i,by rw [Dd];omega,by rw [List.getElem_take]⟩
theorem suit_len {l:List Int}(h:XA l=true):l.length<=16:=by
 have h1:=QDr h
 have h2:=Qss h
 have h3:l ⊆ [1,2,3,4,5,6,7,8,9,10,11,12,13,14,15,16]:=by
  intro x hx
  obtain ⟨k,hk,rfl⟩:=List.mem_iff_getElem.1 hx
  have:=(h2 k hk).1
  simp only [BJ,B1,DE]
  omega
 exact h1.length_le_of_subset h3
abbrev Eh (e:Endpoint):List Int:=e.2.2.2.1
abbrev Xb (e:Endpoint):List Identity:=e.2.2.2.2.2.1
abbrev U2 (e:Endpoint):List Int:=e.2.2.2.2.2.2.1
abbrev GT (e:Endpoint):List Int:=e.2.2.2.2.2.2.2.1
def GU (x:Identity):Bool:=Uw x.1 x.2.1 x.2.2.1
def ZD (x:Identity):Bool:=JZ x.2.2.1
def Jy (e:Endpoint):Bool:=Jk e.1&&decide ((Eh e).length<=100000/\(Xb e).length<=100000/\(U2 e).length<=100000/\(GT e).length<=100000)&&(Xb e).all ZD
def JH (e:Endpoint):Bool:=
 GN e.1&&(!ilt e.2.1 1&&(!igt e.2.1 e.2.2.1&&(!igt e.2.2.1 4&&(XA (Eh e)&&(!igt (Qd (Xb e)) 4&&(!igt (Qd (U2 e)) 16&&(Uf (U2 e)&&(Uf (GT e)&&((Xb e).all GU&&((U2 e).all J3&&(GT e).all GO))))))))))
def Ei (e:Endpoint):Int:=bif JH e then 0 else 19
theorem QDs (e:Endpoint):ine (Ei e) 0= !JH e:=by
 unfold Ei
 cases JH e<;>rfl
abbrev Qcr:Sh:=⟨[(1,.ptr 1 0),(56,.ty (.sl Jd)),(57,.ty tI),(58,.ty tI)],[(1,.box QE)]⟩
abbrev Qst:Sh:=⟨[(2,.ty tI)],[]⟩
abbrev Qsu:Sh:=⟨[(1,.ptr 1 0)],[(1,.box QE)]⟩
def QiI:Fg:=Qcr.f
def Qsv:TC:=aF Tryz.f119 [(122,pL 0 QiI),(1957,.fg Qsu.f),(62669,.fg Qst.f),(252,pD [(0,[1]),(1,[1]),(2,[]),(3,[74,5074,10074,15074]),(4,[74,75,5074,5075,10074,10075,15074,15075]),(5,[]),(6,[1]),(7,[1]),(8,[]),(9,[80,5080,10080,15080]),(10,[80,81,5080,5081,10080,10081,15080,15081]),(11,[])] (.of [0,1,2,3,4,5,6,7,8,9,10,11]))]
def Qsw:TC:=lb 0 Qsv
def Qsx (x56:List Identity)(x57 x58:Int)(y1:Endpoint):VS:=Qcr.st ((),x56,x57,x58,()) (y1,())
def QiJ (x2:Int):VS:=Qst.st (x2,()) ()
def QiK (y1:Endpoint):VS:=Qsu.st ((),()) (y1,())
def QDt:VS->Option (Bool×List (Bool×Exit×VS)):=mkL Qcr (fun x y=>(Qy x.2.1 x.2.2.1 x.2.2.2.1&&x.2.1.all ZD)) (fun x y=>[((!(x.2.1.drop x.2.2.2.1.toNat).all GU),.ret,QiJ (19)),(true,.exit 0,QiK (y.1))])
def QiL:G:=gG 83 [(168,QqC),(169,QqP),(170,QqI),(171,QlH),(172,Qq6),(172,Qrn),(174,Qri),(174,Qq1)] (Ls [QDt])
def Qcs (x56:List Identity)(x57 x58:Int)(y1:Endpoint):OX:=Qx (Qz QiL QiI Qsw) (Qsx x56 x57 x58 y1)
def Oz (kk:List Identity->Int->Int->Endpoint->OX)(x56:List Identity)(x57 x58:Int)(y1:Endpoint):OX:=
 let a1:=lgt Jd x56 (Int.toNat x58)
 br (ilt x58 x57) (br (cIx x56 x58) (br (Vs (a1.1) ((a1.2).1) (((a1.2).2).1)) (br (!(Uw (a1.1) ((a1.2).1) (((a1.2).2).1))) (some (.ret,QiJ 19)) (kk x56 x57 (Qi .i64 x58 1) y1)) none) none) (some (.exit 0,QiK y1))
def Qct (x56:List Identity)(x57 x58:Int)(y1:Endpoint):OX:=br (!(x56.drop x58.toNat).all GU) (some (.ret,QiJ (19)))<|some (.exit 0,QiK (y1))
theorem Qsy (x56:List Identity)(x57 x58:Int)(y1:Endpoint):Qcs x56 x57 x58 y1=Oz Qcs x56 x57 x58 y1:=lnT (x:=Oz (fun x56 x57 x58 y1=>some (.normal,Qsx x56 x57 x58 y1)) x56 x57 x58 y1) (by simp only [Oz,nxA];rfl)
def Qsz (p0:Endpoint):OV:=
 let a1:=(((((((p0).2).2).2).2).2).2)
 br (Jk p0.1) (br (!(GN p0.1)) (some (.t tI 19,[])) (br (ilt p0.2.1 1) (some (.t tI 19,[])) (br (igt p0.2.1 p0.2.2.1) (some (.t tI 19,[])) (br (igt p0.2.2.1 4) (some (.t tI 19,[])) (br (JK p0.2.2.2.1) (br (!(XA p0.2.2.2.1)) (some (.t tI 19,[])) (br (igt (Qd p0.2.2.2.2.2.1) 4) (some (.t tI 19,[])) (br (igt (Qd p0.2.2.2.2.2.2.1) 16) (some (.t tI 19,[])) (br (JK p0.2.2.2.2.2.2.1) (br (!(Uf p0.2.2.2.2.2.2.1)) (some (.t tI 19,[])) (br (JK p0.2.2.2.2.2.2.2.1) (br (!(Uf p0.2.2.2.2.2.2.2.1)) (some (.t tI 19,[])) (br (Qy p0.2.2.2.2.2.1 (Qd p0.2.2.2.2.2.1) (0:Int)&&p0.2.2.2.2.2.1.all ZD) (br (!(p0.2.2.2.2.2.1.drop (0:Int).toNat).all GU) (some (.t tI (19),[])) (br (JK (a1.1)) (br (GP (a1.1)) (some (.t tI 19,[])) (br (JK ((a1.2).1)) (br (GQ ((a1.2).1)) (some (.t tI 19,[])) (some (.t tI 0,[]))) none)) none)) none)) none)) none)))) none))))) none
theorem QDu (x56:List Identity)(x57 x58:Int)(y1:Endpoint)(h:(Qy x56 x57 x58&&x56.all ZD)=true):Qcs x56 x57 x58 y1=Qct x56 x57 x58 y1:=by
 simp only [Bc,Bg] at h
 obtain ⟨h0,hc⟩:=h
 obtain ⟨rfl,h3,k,rfl,hk⟩:=JE h0
 clear h0
 refine QX x56 (fun k=>Qcs x56 (x56.length:Int) (k:Int) y1=Qct x56 (x56.length:Int) (k:Int) y1) ?_ ?_ k hk
 ·rw [Qsy]
  simp only [Oz,Qct,QA,BS,BV,Ql,Bd,B6,List.all_nil,BI]
 ·intro k hk ih
  rw [Qsy]
  have hx:Vs x56[k].1 x56[k].2.1 x56[k].2.2.1=true:=hc x56[k] (Bu hk)
  simp only [Oz,QA,QM,hk,Bx,Qg,Bd,QW (show k<4611686018427387904 by omega),QP (y:=Jd) hk,hx,ih]
  simp only [Qct,Bd,Bj hk,B4,GU]
  cases Uw x56[k].1 x56[k].2.1 x56[k].2.2.1<;>rfl
theorem QDv:LO QiL QiI Qsw 0:=QI (s:=Qcr) fun x y h _ q=>by simp only [QG,QH] at q;exact (QDu x.2.1 x.2.2.1 x.2.2.2.1 y.1 h).trans q
theorem s_f119 (e:Endpoint)(h:Jy e=true):Qsz e=some (.t tI (Ei e),[]):=by
 simp only [Jy,Bc,Ba] at h
 obtain ⟨⟨h1,h2,h3,h4,h5⟩,h6⟩:=h
 have q2:JK (Eh e)=true:=Be h2
 have q4:JK (U2 e)=true:=Be h4
 have q5:JK (GT e)=true:=Be h5
 unfold Ei
 simp only [Qsz,h1,q2,q4,q5,JF h3,h6,B5,Qg,BE,BL,GP,GQ]
 refine br9 (fun g=>by simp only [Bw] at g;simp [JH,g]) fun g1=>br9 (fun g=>by simp [JH,g]) fun g2=>br9 (fun g=>by simp [JH,g]) fun g3=>br9 (fun g=>by simp [JH,g]) fun g4=>br9 (fun g=>by simp only [Bw] at g;simp [JH,g]) fun g5=>br9 (fun g=>by simp [JH,g]) fun g6=>br9 (fun g=>by simp [JH,g]) fun g7=>br9 (fun g=>by simp only [Bw] at g;simp [JH,g]) fun g8=>br9 (fun g=>by simp only [Bw] at g;simp [JH,g]) fun g9=>br9 (fun g=>by simp only [Bw] at g;simp [JH,g]) fun g10=>br9 (fun g=>by simp only [Bw] at g;simp [JH,g]) fun g11=>br9 (fun g=>by simp only [Bw] at g;simp [JH,g]) fun g12=> ?_
 simp only [Bool.not_eq_false'] at g1 g5 g8 g9 g10 g11 g12
 have:JH e=true:=by
  simp only [JH,g1,g2,g3,g4,g5,g6,g7,g8,g9,g10,g11,g12,DM,B5]
 rw [this]
 rfl
def QsA:Ent:=Qn (.pr QE .nil) (fun x=>(Jy x.1)) (fun x=>(.t tI (Ei x.1)))
theorem QDw:EM 119 QsA:=mS (lk:=lkL (lkc QDv lkn)) QiL Qsv [((.t 2),some tI)] false (gB (gD QBB (gD QBR (gD QBH (gD QwM (gD QB7 (gD QCn (gD QCk (gD QB4 gN))))))))) fun m=>Qt m fun x hok=>kT (s_f119 x.1 hok)
end
end Go.Proofs.YthlcobdnemhcdaaGreat.K
noncomputable section
namespace Go.Proofs.YthlcobdnemhcdaaGreat.K
open Go.RowKit
section
variable {P:Program}{X:Nat->Nat->Prop}{w:World}{σ:Pl}
end
end Go.Proofs.YthlcobdnemhcdaaGreat.K
noncomputable section
namespace Go.Proofs.YthlcobdnemhcdaaGreat.K
open Go.RowKit
noncomputable section
theorem QlI {l:List Certificate}(h:JZ l=true){k:Nat}(hk:k<l.length):JB l[k]=true:=by
 simp only [JZ,Bc,Bg] at h
 exact h.2 _ (Bu hk)
theorem QeM {l:List Certificate}(h:JZ l=true):l.length<=100000:=by
 simp only [JZ,Bc,Ba] at h
 exact h.1
abbrev cAt (l:List Certificate)(k:Nat):Certificate:=l.getD k Vr
def pathF (l:List Certificate)(i:Int):Bool:= !ilt i 0&&(!ige i (Qd l)&&(ieq i 0||((cAt l i.toNat).2.2.2.2.2.2.2.2.1&&ige (cAt l i.toNat).2.2.2.2.2.2.2.2.2.1 (i-1))))
def QwN (l:List Certificate)(k:Nat):Int:=if k+1<l.length then (cAt l (k+1)).2.2.2.2.1 else (XR (cAt l k)).1
def QwO (l:List Certificate)(e:Int)(k:Nat):Bool:=
 bif ieq e 11 then decide (k+1<l.length)&&sne (cAt l k).2.1 (cAt l (k+1)).2.2.1
 else bif ieq e 15 then !pathF l k else !QwD (cAt l k) (QwN l k)
def failUp (l:List Certificate)(e:Int)(k:Nat):Bool:=(List.range' k (l.length-k)).any (QwO l e)
def QeN (l:List Certificate)(e:Int):Bool:=failUp l e 0
end
end Go.Proofs.YthlcobdnemhcdaaGreat.K
noncomputable section
namespace Go.Proofs.YthlcobdnemhcdaaGreat.K
open Go.RowKit
noncomputable section
end
end Go.Proofs.YthlcobdnemhcdaaGreat.K
noncomputable section
namespace Go.Proofs.YthlcobdnemhcdaaGreat.K
open Go.RowKit
noncomputable section
-- loop 0: (x0 : (List Identity)) (x7 : Int) (x8 : Int) (Qa : Suite); out: ('ret',) (x4 : Int) (Qa : Suite); ('exit', 0) (Qa : Suite)
-- loop 0: (x8 : Int) (y2 : Endpoint) (y6 : Suite); out: ('ret',) (x4 : Int) (x5 : Bool); ('exit', 0)
end
end Go.Proofs.YthlcobdnemhcdaaGreat.K
noncomputable section
namespace Go.Proofs.YthlcobdnemhcdaaGreat.K
open Go.RowKit
noncomputable section
-- loop 0: (x0 : (List Int)) (x1 : Talk) (x7 : Int) (x8 : Int); out: ('ret',) (x4 : Int); ('exit', 0)
abbrev zK:Keep:=(0,(0,()))
theorem QAr {e:Endpoint}(h:Jy e=true):Jk e.1=true/\(Eh e).length<=100000/\(Xb e).length<=100000/\(U2 e).length<=100000/\(GT e).length<=100000/\(Xb e).all ZD=true:=by
 simp only [Jy,Bc,Ba] at h
 exact ⟨h.1.1,h.1.2.1,h.1.2.2.1,h.1.2.2.2.1,h.1.2.2.2.2,h.2⟩
end
end Go.Proofs.YthlcobdnemhcdaaGreat.K
noncomputable section
namespace Go.Proofs.YthlcobdnemhcdaaGreat.K
open Go.RowKit
noncomputable section
theorem brN {β:Type}{p q:Bool}{X:Option β}:br p (br q X none) none=br (p&&q) X none:=by cases p<;>rfl
def QmM (c:Int):Int:=bif ine (ZN c).2 0 then 0 else YC (ZN c).1.2.2.2.2.1
def Qfi (x:Int)(l:List Int):Nat->Nat
 |0=>0
 |k+1=>if ilt (QmM (l.getD k 0)) (QmM x)=true then Qfi x l k else k+1
def insS (l:List Int)(x:Int):List Int:=(l.take (Qfi x l l.length)++[x])++l.drop (Qfi x l l.length)
def sortS (l:List Int):List Int:=l.foldl insS []
-- loop 0: (x0 : (List Int)) (x4 : Int) (x5 : Int) (y3 : (List Int)); out: ('exit', 2) (x0 : (List Int)) (x4 : Int) (x5 : Int) (y3 : (List Int))
-- loop 1: (x0 : (List Int)) (x4 : Int) (y3 : (List Int)); out: ('exit', 0) (y3 : (List Int))
end
end Go.Proofs.YthlcobdnemhcdaaGreat.K
noncomputable section
namespace Go.Proofs.YthlcobdnemhcdaaGreat.K
open Go.RowKit
noncomputable section
theorem Qd1 {d:Dice}{l:List Int}(h:dOk d=true)(h1:l≠[])(h2:l.length<=100):Q0 d l=true:=by
 have:0<l.length:=List.length_pos_iff.2 h1
 simp only [Q0,h,By,Ba]
 omega
theorem ZX {d:Dice}{n:Int}(h:dOk d=true)(hn:n<=1000000):QC d n=true:=by
 simp only [QC,h,By,Ba]
 omega
theorem Qd2 {d:Dice}{n:Int}(h:dOk d=true)(h0:0<=n)(hn:n<=1000000):Q5 d n=true:=by
 simp only [Q5,ZX h hn,By,Ba]
 omega
abbrev QkR (d:Dice):Int:=dof d [5,7,5,6,8,9]
def keyV (d:Dice):Keep:=(QkR d,(sizeV (Qs d [5,7,5,6,8,9]) (QkR d),()))
def keyN (d:Dice):Dice:=sizeN (Qs d [5,7,5,6,8,9]) (QkR d)
abbrev cD1 (d:Dice):Dice:=Qe d 1000
abbrev cD2 (d:Dice):Dice:=Qs (cD1 d) [3,2,4,1]
abbrev cD3 (d:Dice):Dice:=Qs (cD2 d) [0,5,10]
abbrev cD4 (d:Dice):Dice:=Qs (cD3 d) [1000,100,50,20]
def cD5 (d:Dice)(a:Bool):Dice:=bif a then Qs (cD4 d) [3,0,1] else cD4 d
def cPath (d:Dice)(a:Bool):Int:=bif a then dof (cD4 d) [3,0,1] else 0
def cNm (d:Dice)(a:Bool)(s:ByteArray):List ByteArray:=bif done (cD5 d a) 3 then [s,scat s (ByteArray.mk #[120])] else [s]
def cRaw (d:Dice)(i s:ByteArray)(k:Keep)(id:Int)(a:Bool):Certificate:=
 (Qj d 1000,(i,(s,(k,(id,((dof (cD1 d) [3,2,4,1],(0,())),(dof (cD2 d) [0,5,10],(dof (cD3 d) [1000,100,50,20],(a,(cPath d a,(cNm d a s,((0,(0,())),()))))))))))))
def cerV (d:Dice)(i s:ByteArray)(k:Keep)(id g:Int)(a:Bool):Certificate:=(Wx (cRaw d i s k id a) g).1
def cerN (d:Dice)(_i _s:ByteArray)(_k:Keep)(_id _g:Int)(a:Bool):Dice:=Qe (cD5 d a) 3
theorem QHo {i s:ByteArray}{k:Keep}{id:Int}{a:Bool}{q p:Int}{u v:Keep}{x y:Int}(hi:i.size<=1000)(hs:s.size<=1000){l:List ByteArray}(hl:l.length<=2)(hn: ∀ t∈l,t.size<=1001):
  JB (q,(i,(s,(k,(id,(u,(x,(y,(a,(p,(l,(v,()))))))))))))=true:=by
 have hg: ∀ t:ByteArray,t.size<=1001->Jk t=true:=fun t ht=>Be (by omega)
 simp only [JB,Bc]
 refine ⟨hg _ (by omega),hg _ (by omega), ?_⟩
 simp only [ZY,Bc,Bg]
 exact ⟨Be (by show l.length<=_;omega),fun t ht=>hg t (hn t ht)⟩
end
end Go.Proofs.YthlcobdnemhcdaaGreat.K
noncomputable section
namespace Go.Proofs.YthlcobdnemhcdaaGreat.K
open Go.RowKit
noncomputable section
abbrev sRoot:ByteArray:=ByteArray.mk #[114,111,111,116]
abbrev QkS:List ByteArray:=[ByteArray.mk #[99,97],ByteArray.mk #[99,98],ByteArray.mk #[99,99]]
abbrev Up:Type:=List Certificate×Dice×ByteArray×Int
def abvZ:Nat->Nat->Up->Up
 |0,_,u=>u
 |m+1,i,(ab,d,iss,g)=>abvZ m (i+1) (cerV d iss (QkS.getD i ByteArray.empty) (5,(2048,())) ((11+i:Nat):Int) g true::ab,cerN d iss (QkS.getD i ByteArray.empty) (5,(2048,())) ((11+i:Nat):Int) g true,QkS.getD i ByteArray.empty,((11+i:Nat):Int))
def chU (d:Dice):Up:=abvZ (dof d [1,0,2]).toNat 0 ([],Qe (Qs d [1,0,2]) 2,sRoot,1+Qj (Qs d [1,0,2]) 2)
def chnV (d:Dice)(nm:ByteArray)(k:Keep)(id:Int):List Certificate:=cerV (chU d).2.1 (chU d).2.2.1 nm k id (chU d).2.2.2 false::(chU d).1
def chnN (d:Dice)(nm:ByteArray)(k:Keep)(id:Int):Dice:=cerN (chU d).2.1 (chU d).2.2.1 nm k id (chU d).2.2.2 false
-- loop 0: (x1 : ByteArray) (x3 : Int) (x9 : Int) (x10 : Int) (x11 : ByteArray) (x13 : Int) (y6 : Keep) (y12 : (List Certificate)) (Qa : Dice); out: ('exit', 0) (x1 : ByteArray) (x3 : Int) (x10 : Int) (x11 : ByteArray) (y6 : Keep) (y12 : (List Certificate)) (Qa : Dice)
end
end Go.Proofs.YthlcobdnemhcdaaGreat.K
noncomputable section
namespace Go.Proofs.YthlcobdnemhcdaaGreat.K
open Go.RowKit
noncomputable section
def suZ:Nat->List Int->Dice->List Int×Dice
 |0,l,d=>(l,d)
 |n+1,l,d=>suZ n (bif !Zp l (1+Qj d 16) then l++[1+Qj d 16] else l) (Qe d 16)
def suI (d:Dice):List Int×Dice:=suZ (2+Qj d 9).toNat [] (Qe d 9)
def suiV (d:Dice):List Int:=bif done (suI d).2 4 then sortS (suI d).1 else (suI d).1
def suiN (d:Dice):Dice:=Qe (suI d).2 4
-- loop 0: (x4 : Int) (y3 : (List Int)) (Qa : Dice); out: ('exit', 0) (y3 : (List Int)) (Qa : Dice)
end
end Go.Proofs.YthlcobdnemhcdaaGreat.K
noncomputable section
namespace Go.Proofs.YthlcobdnemhcdaaGreat.K
open Go.RowKit
noncomputable section
abbrev iB (d:Dice):Bool:=igt (Qj (keyN d) 3) 0
abbrev iD2 (d:Dice):Dice:=Qe (keyN d) 3
abbrev iA (d:Dice):Int:=dof (iD2 d) [5,7]
def Qgb (d:Dice):Keep:=bif iB d then (iA d,(sizeV (Qs (iD2 d) [5,7]) (iA d),())) else keyV d
def iD3 (d:Dice):Dice:=bif iB d then sizeN (Qs (iD2 d) [5,7]) (iA d) else iD2 d
def iId (d:Dice):Int:=100+Qj (iD3 d) 20
abbrev iD4 (d:Dice):Dice:=Qe (iD3 d) 20
abbrev iD5 (d:Dice):Dice:=Qe (iD4 d) 9
def iCh (d:Dice)(nm:ByteArray):List Certificate:=bif !done (iD4 d) 9 then chnV (iD5 d) nm (Qgb d) (iId d) else []
def iD6 (d:Dice)(nm:ByteArray):Dice:=bif !done (iD4 d) 9 then chnN (iD5 d) nm (Qgb d) (iId d) else iD5 d
def idV (d:Dice)(nm:ByteArray):Identity:=(Qgb d,(iId d,(iCh d nm,())))
def Qgc:Nat->ByteArray->Dice->List Identity×Dice
 |0,_,d=>([],d)
 |n+1,nm,d=>(idV d nm::(Qgc n nm (iD6 d nm)).1,(Qgc n nm (iD6 d nm)).2)
abbrev eL0 (d:Dice):Int:=dof d [1,1,2,3]
abbrev eD1 (d:Dice):Dice:=Qs d [1,1,2,3]
abbrev eD2 (d:Dice):Dice:=suiN (eD1 d)
abbrev eD3 (d:Dice):Dice:=Qe (eD2 d) 2
abbrev eD4 (d:Dice):Dice:=Qe (eD3 d) 2
abbrev eD5 (d:Dice):Dice:=Qe (eD4 d) (5-eL0 d)
abbrev eD6 (d:Dice):Dice:=Qe (eD5 d) 3
abbrev eB (d:Dice):Bool:=igt (Qj (eD5 d) 3) 0
def eLst (d:Dice):Int:=bif eB d then 1 else eL0 d
def eMst (d:Dice):Int:=bif eB d then dof (eD6 d) [3,4,2] else eL0 d+Qj (eD4 d) (5-eL0 d)
def eD7 (d:Dice):Dice:=bif eB d then Qs (eD6 d) [3,4,2] else eD6 d
abbrev eD8 (d:Dice):Dice:=Qs (eD7 d) [1,2,1,3,0]
def Qgd (d:Dice)(nm:ByteArray):List Identity×Dice:=Qgc (dof (eD7 d) [1,2,1,3,0]).toNat nm (eD8 d)
abbrev eAn (d:Dice)(nm:ByteArray):List Int:=lgt (.sl tI) [[1,2],[1,2],[1],[2,11],([]:List Int)] (Qj (Qgd d nm).2 5).toNat
abbrev eD10 (d:Dice)(nm:ByteArray):Dice:=Qe (Qgd d nm).2 5
abbrev eHs (d:Dice)(nm:ByteArray):List Int:=lgt (.sl tI) [[1,2,3,4],[2,3,4],[3,4]] (Qj (eD10 d nm) 3).toNat
def epV (d:Dice)(nm:ByteArray):Endpoint:=(nm,(eLst d,(eMst d,(suiV (eD1 d),(done (eD2 d) 2,((Qgd d nm).1,(eAn d nm,(eHs d nm,(done (eD3 d) 2,())))))))))
def epN (d:Dice)(nm:ByteArray):Dice:=Qe (eD10 d nm) 3
-- loop 0: (x1 : ByteArray) (x6 : Int) (y4 : Endpoint) (y5_0 : ByteArray) (y5_1 : Int) (y5_2 : Int) (y5_4 : Bool) (y5_8 : Bool) (y15 : (List Int)) (QIm : (List Identity)) (Qa : Dice); out: ('exit', 0) (y4 : Endpoint) (y5_0 : ByteArray) (y5_1 : Int) (y5_2 : Int) (y5_4 : Bool) (y5_8 : Bool) (y15 : (List Int)) (QIm : (List Identity)) (Qa : Dice)
end
end Go.Proofs.YthlcobdnemhcdaaGreat.K
noncomputable section
namespace Go.Proofs.YthlcobdnemhcdaaGreat.K
open Go.RowKit
noncomputable section
def prZ:List Int->List Int->Dice->List Int×Dice
 | [],s,d=>(s,d)
 |x::r,s,d=>if ilt (Qd s) 16=true then (if Zp s x=true then prZ r s d else if done d 2=true then prZ r (s++[x]) (Qe d 2) else prZ r s (Qe d 2)) else (s,d)
end
end Go.Proofs.YthlcobdnemhcdaaGreat.K
noncomputable section
namespace Go.Proofs.YthlcobdnemhcdaaGreat.K
open Go.RowKit
noncomputable section
end
end Go.Proofs.YthlcobdnemhcdaaGreat.K
noncomputable section
namespace Go.Proofs.YthlcobdnemhcdaaGreat.K
open Go.RowKit
noncomputable section
end
end Go.Proofs.YthlcobdnemhcdaaGreat.K
noncomputable section
namespace Go.Proofs.YthlcobdnemhcdaaGreat.K
open Go.RowKit
noncomputable section
-- loop 0: (x6 : Int) (x7 : Int) (y2 : Endpoint) (y3 : Endpoint) (y5 : (List Keep)); out: ('exit', 2) (x6 : Int) (y2 : Endpoint) (y3 : Endpoint) (y5 : (List Keep))
-- loop 1: (x6 : Int) (y2 : Endpoint) (y3 : Endpoint) (y5 : (List Keep)); out: ('exit', 0) (y5 : (List Keep))
end
end Go.Proofs.YthlcobdnemhcdaaGreat.K
noncomputable section
namespace Go.Proofs.YthlcobdnemhcdaaGreat.K
open Go.RowKit
noncomputable section
end
end Go.Proofs.YthlcobdnemhcdaaGreat.K
noncomputable section
namespace Go.Proofs.YthlcobdnemhcdaaGreat.K
open Go.RowKit Go.Shelf
attribute [local go_sem] Oper.semAt_some
end Go.Proofs.YthlcobdnemhcdaaGreat.K
noncomputable section
namespace Go.Proofs.YthlcobdnemhcdaaGreat.K
open Go.RowKit
noncomputable section
-- loop 0: (QIk : (List Int)) (Qa : (List Int)); out: ('normal',) (QIk : (List Int)) (Qa : (List Int))
end
end Go.Proofs.YthlcobdnemhcdaaGreat.K
noncomputable section
namespace Go.Proofs.YthlcobdnemhcdaaGreat.K
open Go.RowKit
noncomputable section
-- loop 0: (x7 : Int) (x39 : Int) (x40 : Int) (y2 : Endpoint) (y3 : Endpoint) (y5 : (List Keep)) (y8 : Talk) (y18 : (List Int)); out: ('exit', 2) (x7 : Int) (y2 : Endpoint) (y3 : Endpoint) (y5 : (List Keep)) (y18 : (List Int))
-- loop 1: (x7 : Int) (y2 : Endpoint) (y3 : Endpoint) (y5 : (List Keep)) (y18 : (List Int)); out: ('exit', 0) (y5 : (List Keep))
end
end Go.Proofs.YthlcobdnemhcdaaGreat.K
noncomputable section
namespace Go.Proofs.YthlcobdnemhcdaaGreat.K
open Go.RowKit
noncomputable section
end
end Go.Proofs.YthlcobdnemhcdaaGreat.K
noncomputable section
namespace Go.Proofs.YthlcobdnemhcdaaGreat.K
open Go.RowKit
noncomputable section
theorem Qro {l:List (List Int)}(h: ∀ x∈l,x.length<=4)(k:Nat):(lgt (.sl tI) l k).length<=4:=by
 show (l.getD k []).length<=4
 rw [Bn]
 cases hk:l[k]? with
 |none=>exact BZ _
 |some x=>exact h x (Dw hk)
attribute [local irreducible] epV epN prZ
end
end Go.Proofs.YthlcobdnemhcdaaGreat.K
noncomputable section
namespace Go.Proofs.YthlcobdnemhcdaaGreat.K
open Go.RowKit
noncomputable section
end
end Go.Proofs.YthlcobdnemhcdaaGreat.K
