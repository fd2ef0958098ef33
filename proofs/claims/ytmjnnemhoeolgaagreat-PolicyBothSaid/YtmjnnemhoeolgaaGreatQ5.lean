import Derived.Test.YtmjnnemhoeolgaaGreatQ4
import Derived.Shelf.Small.Strs
import Derived.Ground.NamesProg
set_option linter.unusedSimpArgs false
set_option linter.unusedVariables false
noncomputable section
namespace Go.Proofs.YtmjnnemhoeolgaaGreat.K
open Go.RowKit
noncomputable section
def Z5 (a:Int):Int:=(ofF a).1.2.1
def QHT:TC:=aF Tryz.f126 []
def g_f126:G:=gG 12 [(166,QfD)] (fun _ _=>none)
def r_f126 (p0:Int):OV:=some (.t tI ((((ofF p0).1).2).1),[])
theorem s_f126 (a:Int):r_f126 a=some (.t tI (Z5 a),[]):=rfl
def QdH:Ent:=Qk (.pr tI .nil) (fun x=>true) (fun x=>(.t tI (Z5 x.1)))
theorem Qkk:EM 126 QdH:=mS g_f126 QHT [((.t 2),some tI)] false (gB (gD QmX gN)) fun m=>Qm m fun x _=>kT (s_f126 x.1)
def Qvs:TC:=aF Tryz.f141 []
def Qvt:List (RV×Option Ty):=[((.t 0),some (.sl W6))]
def Qvu:G:=gG 25 [] (fun _ _=>none)
def Qvv  : OV:=some (.t (.sl W6) ([((ByteArray.mk #[]),(0,())),((ByteArray.mk #[109,100,53]),(1,())),((ByteArray.mk #[115,104,97,49]),(1,())),((ByteArray.mk #[115,104,97,50,53,54]),(1,())),((ByteArray.mk #[115,104,97,51,56,52]),(1,())),((ByteArray.mk #[114,115,97]),(2,())),((ByteArray.mk #[100,115,97]),(2,())),((ByteArray.mk #[101,99,100,115,97]),(2,())),((ByteArray.mk #[101,100,50,53,53,49,57]),(2,())),((ByteArray.mk #[109,108,100,115,97]),(2,())),((ByteArray.mk #[114,115,97,107,120]),(3,())),((ByteArray.mk #[100,104,101]),(3,())),((ByteArray.mk #[101,99,100,104,101]),(3,())),((ByteArray.mk #[109,108,107,101,109]),(3,())),((ByteArray.mk #[114,99,52]),(4,())),((ByteArray.mk #[100,101,115,51]),(4,())),((ByteArray.mk #[97,101,115,99,98,99]),(4,())),((ByteArray.mk #[97,101,115,103,99,109]),(4,())),((ByteArray.mk #[99,104,97,99,104,97]),(4,())),((ByteArray.mk #[104,109,97,99,109,100,53]),(5,())),((ByteArray.mk #[104,109,97,99,115,104,97,49]),(5,())),((ByteArray.mk #[104,109,97,99,115,104,97,50,53,54]),(5,())),((ByteArray.mk #[97,101,97,100]),(5,()))]),[])
theorem e_f141  : JS Qvu Qvs Qvt false [] []=Qvv  :=by kernel_rfl
def QdI:Ty.T (.sl W6):=([((ByteArray.mk #[]),(0,())),((ByteArray.mk #[109,100,53]),(1,())),((ByteArray.mk #[115,104,97,49]),(1,())),((ByteArray.mk #[115,104,97,50,53,54]),(1,())),((ByteArray.mk #[115,104,97,51,56,52]),(1,())),((ByteArray.mk #[114,115,97]),(2,())),((ByteArray.mk #[100,115,97]),(2,())),((ByteArray.mk #[101,99,100,115,97]),(2,())),((ByteArray.mk #[101,100,50,53,53,49,57]),(2,())),((ByteArray.mk #[109,108,100,115,97]),(2,())),((ByteArray.mk #[114,115,97,107,120]),(3,())),((ByteArray.mk #[100,104,101]),(3,())),((ByteArray.mk #[101,99,100,104,101]),(3,())),((ByteArray.mk #[109,108,107,101,109]),(3,())),((ByteArray.mk #[114,99,52]),(4,())),((ByteArray.mk #[100,101,115,51]),(4,())),((ByteArray.mk #[97,101,115,99,98,99]),(4,())),((ByteArray.mk #[97,101,115,103,99,109]),(4,())),((ByteArray.mk #[99,104,97,99,104,97]),(4,())),((ByteArray.mk #[104,109,97,99,109,100,53]),(5,())),((ByteArray.mk #[104,109,97,99,115,104,97,49]),(5,())),((ByteArray.mk #[104,109,97,99,115,104,97,50,53,54]),(5,())),((ByteArray.mk #[97,101,97,100]),(5,()))])
theorem s_f141:Qvv=some (.t (.sl W6) QdI,[]):=rfl
def Qvw:Ent:=Qk .nil (fun x=>true) (fun x=>(.t (.sl W6) QdI))
theorem QHU:EM 141 Qvw:=mS Qvu Qvs Qvt false (gB gN) fun m=>Qm m fun x _=>(e_f141 ).trans (s_f141)
def QHV:TC:=aF Tryz.f101 []
def g_f101:G:=gG 14 [(141,Qvw)] (fun _ _=>none)
def Qvx (p0:Int):OV:=br (ilt p0 1) (some (.t tI 0,[])) (br (igt p0 22) (some (.t tI 0,[])) (br (cIx QdI p0) (some (.t tI (((lgt W6 QdI (Int.toNat p0)).2).1),[])) none))
theorem QHW {a:Int}(h1:1<=a)(h2:a<=22):a=1∨a=2∨a=3∨a=4∨a=5∨a=6∨a=7∨a=8∨a=9∨a=10∨a=11∨a=12∨a=13∨a=14∨a=15∨a=16∨a=17∨a=18∨a=19∨a=20∨a=21∨a=22:=by omega
theorem s_f101 (a:Int):Qvx a=some (.t tI (Z5 a),[]):=by
 simp only [Qvx]
 refine QY (fun h1=> ?_) (fun h1=>QY (fun h2=> ?_) (fun h2=> ?_))
 ·have h1:a<1:=by simpa [ilt] using h1
  simp [Z5,ofF,h1,E8]
 ·have h2:22<a:=by simpa [igt] using h2
  simp [Z5,ofF,h2,E8]
 ·have h1: ¬ a<1:=by simpa [ilt] using h1
  have h2: ¬ 22<a:=by simpa [igt] using h2
  rcases QHW (a:=a) (by omega) (by omega) with rfl|rfl|rfl|rfl|rfl|rfl|rfl|rfl|rfl|rfl|rfl|rfl|rfl|rfl|rfl|rfl|rfl|rfl|rfl|rfl|rfl|rfl<;>rfl
def QdJ:Ent:=Qk (.pr tI .nil) (fun x=>true) (fun x=>(.t tI (Z5 x.1)))
theorem Qkl:EM 101 QdJ:=mS g_f101 QHV [((.t 2),some tI)] false (gB (gD QHU gN)) fun m=>Qm m fun x _=>kT (s_f101 x.1)
def Qq (a b:Int):Keep:=(a,(b,()))
def QHX:TC:=aF Tryz.f196 []
def g_f196:G:=gG 8 [] (fun _ _=>none)
def r_f196 (p0 p1:Int):OV:=some (.t Qd (p0,(p1,())),[])
theorem s_f196 (a b:Int):r_f196 a b=some (.t Qd (Qq a b),[]):=rfl
def Qvy:Ent:=Qk (.pr tI (.pr tI .nil)) (fun x=>true) (fun x=>(.t Qd (Qq x.1 x.2.1)))
theorem QHY:EM 196 Qvy:=mS g_f196 QHX [((.c 4 true 2),some Qd)] false (gB gN) fun m=>Qm m fun x _=>kT (s_f196 x.1 x.2.1)
def QHZ:TC:=aF Tryz.f143 []
def g_f143:G:=gG 8 [] (fun _ _=>none)
def r_f143 (p0 p1:Int):OV:=some (.t Qd (p0,(p1,())),[])
theorem s_f143 (a b:Int):r_f143 a b=some (.t Qd (Qq a b),[]):=rfl
def Qvz:Ent:=Qk (.pr tI (.pr tI .nil)) (fun x=>true) (fun x=>(.t Qd (Qq x.1 x.2.1)))
theorem QH0:EM 143 Qvz:=mS g_f143 QHZ [((.c 4 true 2),some Qd)] false (gB gN) fun m=>Qm m fun x _=>kT (s_f143 x.1 x.2.1)
def ZT (c:Int)(n:ByteArray)(e s f m:Keep)(l o:Int):Suite:=(c,(n,(e,(s,(f,(m,(l,(o,()))))))))
def QH1:TC:=aF Tryz.f144 []
def g_f144:G:=gG 26 [] (fun _ _=>none)
def r_f144 (p0:Int)(p1:ByteArray)(p2 p3 p4 p5:Keep)(p6 p7:Int):OV:=some (.t Q2 (p0,(p1,((p2.1,(p2.2.1,())),((p3.1,(p3.2.1,())),((p4.1,(p4.2.1,())),((p5.1,(p5.2.1,())),(p6,(p7,())))))))),[])
theorem s_f144 (c:Int)(n:ByteArray)(e s f m:Keep)(l o:Int):r_f144 c n e s f m l o=some (.t Q2 (ZT c n e s f m l o),[]):=rfl
def QvA:Ent:=Qk (.pr tI (.pr .str (.pr Qd (.pr Qd (.pr Qd (.pr Qd (.pr tI (.pr tI .nil)))))))) (fun x=>true) (fun x=>(.t Q2 (ZT x.1 x.2.1 x.2.2.1 x.2.2.2.1 x.2.2.2.2.1 x.2.2.2.2.2.1 x.2.2.2.2.2.2.1 x.2.2.2.2.2.2.2.1)))
theorem QH2:EM 144 QvA:=mS g_f144 QH1 [((.c 16 true 12),some Q2)] false (gB gN) fun m=>Qm m fun x _=>kT (s_f144 x.1 x.2.1 x.2.2.1 x.2.2.2.1 x.2.2.2.2.1 x.2.2.2.2.2.1 x.2.2.2.2.2.2.1 x.2.2.2.2.2.2.2.1)
def QvB:TC:=aF Tryz.f105 [(254,pD [(0,[1]),(1,[2]),(2,[4]),(3,[9]),(4,[]),(5,[1]),(6,[2]),(7,[4]),(8,[10]),(9,[]),(10,[1]),(11,[2]),(12,[5]),(13,[10]),(14,[]),(15,[]),(16,[]),(17,[5]),(18,[10]),(19,[]),(20,[]),(21,[2]),(22,[5]),(23,[10]),(24,[]),(25,[1]),(26,[2]),(27,[6]),(28,[10]),(29,[]),(30,[]),(31,[2]),(32,[6]),(33,[10]),(34,[]),(35,[13]),(36,[2]),(37,[6]),(38,[10]),(39,[]),(40,[13]),(41,[]),(42,[]),(43,[11]),(44,[]),(45,[13]),(46,[2]),(47,[7]),(48,[12]),(49,[]),(50,[]),(51,[]),(52,[8]),(53,[12]),(54,[]),(55,[13]),(56,[2]),(57,[14]),(58,[12]),(59,[]),(60,[1]),(61,[2]),(62,[8]),(63,[12]),(64,[]),(65,[13]),(66,[3]),(67,[7]),(68,[12]),(69,[]),(70,[13]),(71,[3]),(72,[14]),(73,[12]),(74,[]),(75,[]),(76,[3]),(77,[8]),(78,[12]),(79,[]),(80,[]),(81,[])] (.of [0,1,2,3,4,5,6,7,8,9,10,11,12,13,14,15,16,17,18,19,20,21,22,23,24,25,26,27,28,29,30,31,32,33,34,35,36,37,38,39,40,41,42,43,44,45,46,47,48,49,50,51,52,53,54,55,56,57,58,59,60,61,62,63,64,65,66,67,68,69,70,71,72,73,74,75,76,77,78,79,80,81]))]
def QvC:List (RV×Option Ty):=[((.t 0),some (.sl Q2))]
def QvD:G:=gG 110 [(143,Qvz),(144,QvA)] (fun _ _=>none)
def YP:Ty.T (.sl Q2):=
 let a1:=(ZT 9 (ByteArray.mk #[101,99,100,104,101,45,101,99,100,115,97,45,97,101,115,50,53,54,45,115,104,97,50,53,54]) (Qq 12 256) (Qq 7 0) (Qq 16 256) (Qq 21 0) 3 3)
 let a2:=(ZT 11 (ByteArray.mk #[101,99,100,104,101,45,101,99,100,115,97,45,97,101,115,50,53,54,45,103,99,109]) (Qq 12 384) (Qq 7 0) (Qq 17 256) (Qq 22 0) 3 3)
 let a3:=(ZT 10 (ByteArray.mk #[101,99,100,104,101,45,114,115,97,45,97,101,115,49,50,56,45,103,99,109]) (Qq 12 256) (Qq 5 0) (Qq 17 128) (Qq 22 0) 3 3)
 let a4:=(ZT 8 (ByteArray.mk #[101,99,100,104,101,45,114,115,97,45,97,101,115,49,50,56,45,115,104,97]) (Qq 12 256) (Qq 5 0) (Qq 16 128) (Qq 20 0) 1 3)
 let a5:=(ZT 7 (ByteArray.mk #[100,104,101,45,114,115,97,45,97,101,115,49,50,56,45,115,104,97]) (Qq 11 2048) (Qq 5 0) (Qq 16 128) (Qq 20 0) 1 3)
 let a6:=(ZT 16 (ByteArray.mk #[109,108,107,101,109,45,97,101,115,50,53,54,45,103,99,109]) (Qq 13 768) (0,(0,())) (Qq 17 256) (Qq 22 0) 4 4)
 let a7:=(ZT 4 (ByteArray.mk #[100,104,101,45,100,115,97,45,100,101,115,51,45,115,104,97]) (Qq 11 1024) (Qq 6 0) (Qq 15 168) (Qq 20 0) 1 3)
 let a8:=(ZT 5 (ByteArray.mk #[100,104,101,45,114,115,97,45,100,101,115,51,45,115,104,97]) (Qq 11 1024) (Qq 5 0) (Qq 15 168) (Qq 20 0) 1 3)
 let a9:=(ZT 12 (ByteArray.mk #[101,99,100,104,101,45,114,115,97,45,99,104,97,99,104,97]) (Qq 12 256) (Qq 5 0) (Qq 18 0) (Qq 22 0) 3 3)
 let a10:=(ZT 13 (ByteArray.mk #[114,115,97,45,97,101,115,50,53,54,45,103,99,109]) (Qq 10 0) (Qq 5 0) (Qq 17 256) (Qq 22 0) 3 3)
 let a11:=(ZT 6 (ByteArray.mk #[114,115,97,45,97,101,115,49,50,56,45,115,104,97]) (Qq 10 0) (Qq 5 0) (Qq 16 128) (Qq 20 0) 1 3)
 let a12:=(ZT 3 (ByteArray.mk #[114,115,97,45,100,101,115,51,45,115,104,97]) (Qq 10 0) (Qq 5 0) (Qq 15 168) (Qq 20 0) 1 3)
 let a13:=(ZT 1 (ByteArray.mk #[114,115,97,45,114,99,52,45,109,100,53]) (Qq 10 0) (Qq 5 0) (Qq 14 128) (Qq 19 0) 1 2)
 let a14:=(ZT 2 (ByteArray.mk #[114,115,97,45,114,99,52,45,115,104,97]) (Qq 10 0) (Qq 5 0) (Qq 14 128) (Qq 20 0) 1 3)
 let a15:=(ZT 14 (ByteArray.mk #[97,101,115,49,50,56,45,103,99,109]) (Qq 12 256) (0,(0,())) (Qq 17 128) (Qq 22 0) 4 4)
 let a16:=(ZT 15 (ByteArray.mk #[99,104,97,99,104,97]) (Qq 12 256) (0,(0,())) (Qq 18 0) (Qq 22 0) 4 4)
 let a17:=(((a13.2).2).2)
 let a18:=(((a14.2).2).2)
 let a19:=(((a12.2).2).2)
 let a20:=(((a11.2).2).2)
 let a21:=(((a10.2).2).2)
 let a22:=(((a15.2).2).2)
 let a23:=(((a16.2).2).2)
 let a24:=(((a7.2).2).2)
 let a25:=(((a8.2).2).2)
 let a26:=(((a5.2).2).2)
 let a27:=(((a4.2).2).2)
 let a28:=(((a1.2).2).2)
 let a29:=(((a3.2).2).2)
 let a30:=(((a2.2).2).2)
 let a31:=(((a9.2).2).2)
 let a32:=(((a6.2).2).2)
 ([(a13.1,((a13.2).1,(((((a13.2).2).1).1,(((((a13.2).2).1).2).1,())),(((a17.1).1,(((a17.1).2).1,())),((((a17.2).1).1,((((a17.2).1).2).1,())),(((((a17.2).2).1).1,(((((a17.2).2).1).2).1,())),((((a17.2).2).2).1,(((((a17.2).2).2).2).1,())))))))),(a14.1,((a14.2).1,(((((a14.2).2).1).1,(((((a14.2).2).1).2).1,())),(((a18.1).1,(((a18.1).2).1,())),((((a18.2).1).1,((((a18.2).1).2).1,())),(((((a18.2).2).1).1,(((((a18.2).2).1).2).1,())),((((a18.2).2).2).1,(((((a18.2).2).2).2).1,())))))))),(a12.1,((a12.2).1,(((((a12.2).2).1).1,(((((a12.2).2).1).2).1,())),(((a19.1).1,(((a19.1).2).1,())),((((a19.2).1).1,((((a19.2).1).2).1,())),(((((a19.2).2).1).1,(((((a19.2).2).1).2).1,())),((((a19.2).2).2).1,(((((a19.2).2).2).2).1,())))))))),(a7.1,((a7.2).1,(((((a7.2).2).1).1,(((((a7.2).2).1).2).1,())),(((a24.1).1,(((a24.1).2).1,())),((((a24.2).1).1,((((a24.2).1).2).1,())),(((((a24.2).2).1).1,(((((a24.2).2).1).2).1,())),((((a24.2).2).2).1,(((((a24.2).2).2).2).1,())))))))),(a8.1,((a8.2).1,(((((a8.2).2).1).1,(((((a8.2).2).1).2).1,())),(((a25.1).1,(((a25.1).2).1,())),((((a25.2).1).1,((((a25.2).1).2).1,())),(((((a25.2).2).1).1,(((((a25.2).2).1).2).1,())),((((a25.2).2).2).1,(((((a25.2).2).2).2).1,())))))))),(a11.1,((a11.2).1,(((((a11.2).2).1).1,(((((a11.2).2).1).2).1,())),(((a20.1).1,(((a20.1).2).1,())),((((a20.2).1).1,((((a20.2).1).2).1,())),(((((a20.2).2).1).1,(((((a20.2).2).1).2).1,())),((((a20.2).2).2).1,(((((a20.2).2).2).2).1,())))))))),(a5.1,((a5.2).1,(((((a5.2).2).1).1,(((((a5.2).2).1).2).1,())),(((a26.1).1,(((a26.1).2).1,())),((((a26.2).1).1,((((a26.2).1).2).1,())),(((((a26.2).2).1).1,(((((a26.2).2).1).2).1,())),((((a26.2).2).2).1,(((((a26.2).2).2).2).1,())))))))),(a4.1,((a4.2).1,(((((a4.2).2).1).1,(((((a4.2).2).1).2).1,())),(((a27.1).1,(((a27.1).2).1,())),((((a27.2).1).1,((((a27.2).1).2).1,())),(((((a27.2).2).1).1,(((((a27.2).2).1).2).1,())),((((a27.2).2).2).1,(((((a27.2).2).2).2).1,())))))))),(a1.1,((a1.2).1,(((((a1.2).2).1).1,(((((a1.2).2).1).2).1,())),(((a28.1).1,(((a28.1).2).1,())),((((a28.2).1).1,((((a28.2).1).2).1,())),(((((a28.2).2).1).1,(((((a28.2).2).1).2).1,())),((((a28.2).2).2).1,(((((a28.2).2).2).2).1,())))))))),(a3.1,((a3.2).1,(((((a3.2).2).1).1,(((((a3.2).2).1).2).1,())),(((a29.1).1,(((a29.1).2).1,())),((((a29.2).1).1,((((a29.2).1).2).1,())),(((((a29.2).2).1).1,(((((a29.2).2).1).2).1,())),((((a29.2).2).2).1,(((((a29.2).2).2).2).1,())))))))),(a2.1,((a2.2).1,(((((a2.2).2).1).1,(((((a2.2).2).1).2).1,())),(((a30.1).1,(((a30.1).2).1,())),((((a30.2).1).1,((((a30.2).1).2).1,())),(((((a30.2).2).1).1,(((((a30.2).2).1).2).1,())),((((a30.2).2).2).1,(((((a30.2).2).2).2).1,())))))))),(a9.1,((a9.2).1,(((((a9.2).2).1).1,(((((a9.2).2).1).2).1,())),(((a31.1).1,(((a31.1).2).1,())),((((a31.2).1).1,((((a31.2).1).2).1,())),(((((a31.2).2).1).1,(((((a31.2).2).1).2).1,())),((((a31.2).2).2).1,(((((a31.2).2).2).2).1,())))))))),(a10.1,((a10.2).1,(((((a10.2).2).1).1,(((((a10.2).2).1).2).1,())),(((a21.1).1,(((a21.1).2).1,())),((((a21.2).1).1,((((a21.2).1).2).1,())),(((((a21.2).2).1).1,(((((a21.2).2).1).2).1,())),((((a21.2).2).2).1,(((((a21.2).2).2).2).1,())))))))),(a15.1,((a15.2).1,(((((a15.2).2).1).1,(((((a15.2).2).1).2).1,())),(((a22.1).1,(((a22.1).2).1,())),((((a22.2).1).1,((((a22.2).1).2).1,())),(((((a22.2).2).1).1,(((((a22.2).2).1).2).1,())),((((a22.2).2).2).1,(((((a22.2).2).2).2).1,())))))))),(a16.1,((a16.2).1,(((((a16.2).2).1).1,(((((a16.2).2).1).2).1,())),(((a23.1).1,(((a23.1).2).1,())),((((a23.2).1).1,((((a23.2).1).2).1,())),(((((a23.2).2).1).1,(((((a23.2).2).1).2).1,())),((((a23.2).2).2).1,(((((a23.2).2).2).2).1,())))))))),(a6.1,((a6.2).1,(((((a6.2).2).1).1,(((((a6.2).2).1).2).1,())),(((a32.1).1,(((a32.1).2).1,())),((((a32.2).1).1,((((a32.2).1).2).1,())),(((((a32.2).2).1).1,(((((a32.2).2).1).2).1,())),((((a32.2).2).2).1,(((((a32.2).2).2).2).1,()))))))))])
def QvE  : OV:=some (.t (.sl Q2) YP,[])
theorem e_f105  : JS QvD QvB QvC false [] []=QvE  :=by kernel_rfl
theorem s_f105:QvE=some (.t (.sl Q2) YP,[]):=rfl
def QvF:Ent:=Qk .nil (fun x=>true) (fun x=>(.t (.sl Q2) YP))
theorem QH3:EM 105 QvF:=mS QvD QvB QvC false (gB (gD QH0 (gD QH2 gN))) fun m=>Qm m fun x _=>(e_f105 ).trans (s_f105)
abbrev Qkm:Suite:=Ty.zero Q2
def Ex (k:Nat)(l:List Suite):List Suite:=(List.range' k (16-k)).foldl (fun l i=>l.set i (((i+1:Nat):Int),(l.getD i Qkm).2)) l
abbrev QdK:Sh:=⟨[(15,.ms 111),(113,.ty tI),(114,.ty tI)],[(111,.arr 139 Q2)]⟩
abbrev QvG:Sh:=⟨[(15,.ms 111)],[(111,.arr 139 Q2)]⟩
def Qkn:Fg:=QdK.f
def Qko:TC:=aF Tryz.f164 [(62,pD [(0,[1]),(1,[2]),(2,[]),(3,[11]),(4,[]),(5,[1]),(6,[2]),(7,[]),(8,[12]),(9,[]),(10,[1]),(11,[2]),(12,[6]),(13,[12]),(14,[]),(15,[]),(16,[3]),(17,[6]),(18,[12]),(19,[]),(20,[]),(21,[2]),(22,[6]),(23,[12]),(24,[]),(25,[1]),(26,[2]),(27,[7]),(28,[12]),(29,[]),(30,[]),(31,[2]),(32,[7]),(33,[12]),(34,[]),(35,[14]),(36,[2]),(37,[7]),(38,[12]),(39,[]),(40,[14]),(41,[4]),(42,[]),(43,[]),(44,[]),(45,[14]),(46,[2]),(47,[8]),(48,[13]),(49,[]),(50,[]),(51,[4]),(52,[9]),(53,[13]),(54,[]),(55,[14]),(56,[2]),(57,[10]),(58,[13]),(59,[]),(60,[1]),(61,[2]),(62,[9]),(63,[13]),(64,[]),(65,[14]),(66,[5]),(67,[8]),(68,[13]),(69,[]),(70,[14]),(71,[5]),(72,[10]),(73,[13]),(74,[]),(75,[]),(76,[5]),(77,[9]),(78,[13]),(79,[]),(80,[111,5111,10111,15111]),(81,[111])] (.of [0,1,2,3,4,5,6,7,8,9,10,11,12,13,14,15,16,17,18,19,20,21,22,23,24,25,26,27,28,29,30,31,32,33,34,35,36,37,38,39,40,41,42,43,44,45,46,47,48,49,50,51,52,53,54,55,56,57,58,59,60,61,62,63,64,65,66,67,68,69,70,71,72,73,74,75,76,77,78,79,80,81])),(506,pL 0 Qkn),(8101,.fg QvG.f)]
def QvH:TC:=lb 0 Qko
def QvI:List (RV×Option Ty):=[((.t 0),some (.sl Q2))]
def QvJ (x113 x114:Int)(y111:List Suite):VS:=QdK.st ((),x113,x114,()) (y111,())
def Qkp (y111:List Suite):VS:=QvG.st ((),()) (y111,())
def QH4:VS->Option (Bool×List (Bool×Exit×VS)):=mkL QdK (fun x y=>(decide (0<=x.2.2.1/\x.2.2.1<=16/\x.2.1=16/\y.1.length=16))) (fun x y=>[(true,.exit 0,Qkp (Ex x.2.2.1.toNat y.1))])
def QdL:G:=⟨TYs,[111],125,EL [(196,Qvy)],Wp,(Ls [QH4]),IL [],RL []⟩
def QdM (x113 x114:Int)(y111:List Suite):OX:=Qv (QB QdL Qkn QvH) (QvJ x113 x114 y111)
def QdN (kk:Int->Int->List Suite->OX)(x113 x114:Int)(y111:List Suite):OX:=
 let a1:=Int.toNat x114
 br (ilt x114 x113) (br (cIx y111 x114) (br (cLd y111 a1) (kk x113 (Qg .i64 x114 1) (List.set y111 a1 ((Qg .i64 x114 1),(lgt Q2 y111 a1).2))) none) none) (some (.exit 0,Qkp y111))
def Qkq (x113 x114:Int)(y111:List Suite):OX:=some (.exit 0,Qkp (Ex x114.toNat y111))
theorem QvK (x113 x114:Int)(y111:List Suite):QdM x113 x114 y111=QdN QdM x113 x114 y111:=lnT (x:=QdN (fun x113 x114 y111=>some (.normal,QvJ x113 x114 y111)) x113 x114 y111) (by simp only [QdN,nxA];rfl)
def QvL  : OV:=
 let a1:=((Qq 5 0).1,(((Qq 5 0).2).1,()))
 let a2:=((Qq 20 0).1,(((Qq 20 0).2).1,()))
 let a3:=((Qq 22 0).1,(((Qq 22 0).2).1,()))
 let a4:=((Qq 12 256).1,(((Qq 12 256).2).1,()))
 let a5:=((Qq 10 0).1,(((Qq 10 0).2).1,()))
 let a6:=((Qq 15 168).1,(((Qq 15 168).2).1,()))
 let a7:=((Qq 16 128).1,(((Qq 16 128).2).1,()))
 let a8:=((Qq 17 256).1,(((Qq 17 256).2).1,()))
 let a9:=(ByteArray.mk #[101,99,100,104,101,45,101,99,100,115,97,45,97,101,115,50,53,54,45,115,104,97,50,53,54])
 let a10:=(ByteArray.mk #[101,99,100,104,101,45,101,99,100,115,97,45,97,101,115,50,53,54,45,103,99,109])
 let a11:=((Qq 11 1024).1,(((Qq 11 1024).2).1,()))
 let a12:=(ByteArray.mk #[101,99,100,104,101,45,114,115,97,45,97,101,115,49,50,56,45,115,104,97])
 let a13:=(ByteArray.mk #[101,99,100,104,101,45,114,115,97,45,97,101,115,49,50,56,45,103,99,109])
 let a14:=((Qq 14 128).1,(((Qq 14 128).2).1,()))
 let a15:=((Qq 17 128).1,(((Qq 17 128).2).1,()))
 let a16:=(ByteArray.mk #[100,104,101,45,114,115,97,45,97,101,115,49,50,56,45,115,104,97])
 let a17:=((Qq 18 0).1,(((Qq 18 0).2).1,()))
 let a18:=((Qq 7 0).1,(((Qq 7 0).2).1,()))
 let a19:=(ByteArray.mk #[100,104,101,45,100,115,97,45,100,101,115,51,45,115,104,97])
 let a20:=(ByteArray.mk #[100,104,101,45,114,115,97,45,100,101,115,51,45,115,104,97])
 let a21:=(ByteArray.mk #[109,108,107,101,109,45,97,101,115,50,53,54,45,103,99,109])
 let a22:=(ByteArray.mk #[101,99,100,104,101,45,114,115,97,45,99,104,97,99,104,97])
 let a23:=(ByteArray.mk #[114,115,97,45,97,101,115,49,50,56,45,115,104,97])
 let a24:=(ByteArray.mk #[114,115,97,45,97,101,115,50,53,54,45,103,99,109])
 let a25:=(ByteArray.mk #[114,115,97,45,100,101,115,51,45,115,104,97])
 let a26:=(ByteArray.mk #[114,115,97,45,114,99,52,45,109,100,53])
 let a27:=(ByteArray.mk #[114,115,97,45,114,99,52,45,115,104,97])
 let a28:=(ByteArray.mk #[97,101,115,49,50,56,45,103,99,109])
 let a29:=((Qq 11 2048).1,(((Qq 11 2048).2).1,()))
 let a30:=((Qq 16 256).1,(((Qq 16 256).2).1,()))
 let a31:=((Qq 12 384).1,(((Qq 12 384).2).1,()))
 let a32:=((Qq 13 768).1,(((Qq 13 768).2).1,()))
 let a33:=(ByteArray.mk #[99,104,97,99,104,97])
 let a34:=((Qq 19 0).1,(((Qq 19 0).2).1,()))
 let a35:=((Qq 21 0).1,(((Qq 21 0).2).1,()))
 let a36:=((Qq 6 0).1,(((Qq 6 0).2).1,()))
 br (decide (0<=(0:Int)/\(0:Int)<=16/\(Qa ([(0,(a26,(a5,(a1,(a14,(a34,(1,(2,())))))))),(0,(a27,(a5,(a1,(a14,(a2,(1,(3,())))))))),(0,(a25,(a5,(a1,(a6,(a2,(1,(3,())))))))),(0,(a19,(a11,(a36,(a6,(a2,(1,(3,())))))))),(0,(a20,(a11,(a1,(a6,(a2,(1,(3,())))))))),(0,(a23,(a5,(a1,(a7,(a2,(1,(3,())))))))),(0,(a16,(a29,(a1,(a7,(a2,(1,(3,())))))))),(0,(a12,(a4,(a1,(a7,(a2,(1,(3,())))))))),(0,(a9,(a4,(a18,(a30,(a35,(3,(3,())))))))),(0,(a13,(a4,(a1,(a15,(a3,(3,(3,())))))))),(0,(a10,(a31,(a18,(a8,(a3,(3,(3,())))))))),(0,(a22,(a4,(a1,(a17,(a3,(3,(3,())))))))),(0,(a24,(a5,(a1,(a8,(a3,(3,(3,())))))))),(0,(a28,(a4,((0,(0,())),(a15,(a3,(4,(4,())))))))),(0,(a33,(a4,((0,(0,())),(a17,(a3,(4,(4,())))))))),(0,(a21,(a32,((0,(0,())),(a8,(a3,(4,(4,()))))))))]))=16/\([(0,(a26,(a5,(a1,(a14,(a34,(1,(2,())))))))),(0,(a27,(a5,(a1,(a14,(a2,(1,(3,())))))))),(0,(a25,(a5,(a1,(a6,(a2,(1,(3,())))))))),(0,(a19,(a11,(a36,(a6,(a2,(1,(3,())))))))),(0,(a20,(a11,(a1,(a6,(a2,(1,(3,())))))))),(0,(a23,(a5,(a1,(a7,(a2,(1,(3,())))))))),(0,(a16,(a29,(a1,(a7,(a2,(1,(3,())))))))),(0,(a12,(a4,(a1,(a7,(a2,(1,(3,())))))))),(0,(a9,(a4,(a18,(a30,(a35,(3,(3,())))))))),(0,(a13,(a4,(a1,(a15,(a3,(3,(3,())))))))),(0,(a10,(a31,(a18,(a8,(a3,(3,(3,())))))))),(0,(a22,(a4,(a1,(a17,(a3,(3,(3,())))))))),(0,(a24,(a5,(a1,(a8,(a3,(3,(3,())))))))),(0,(a28,(a4,((0,(0,())),(a15,(a3,(4,(4,())))))))),(0,(a33,(a4,((0,(0,())),(a17,(a3,(4,(4,())))))))),(0,(a21,(a32,((0,(0,())),(a8,(a3,(4,(4,()))))))))]).length=16)) (some (.t (.sl Q2) (Ex (0:Int).toNat ([(0,(a26,(a5,(a1,(a14,(a34,(1,(2,())))))))),(0,(a27,(a5,(a1,(a14,(a2,(1,(3,())))))))),(0,(a25,(a5,(a1,(a6,(a2,(1,(3,())))))))),(0,(a19,(a11,(a36,(a6,(a2,(1,(3,())))))))),(0,(a20,(a11,(a1,(a6,(a2,(1,(3,())))))))),(0,(a23,(a5,(a1,(a7,(a2,(1,(3,())))))))),(0,(a16,(a29,(a1,(a7,(a2,(1,(3,())))))))),(0,(a12,(a4,(a1,(a7,(a2,(1,(3,())))))))),(0,(a9,(a4,(a18,(a30,(a35,(3,(3,())))))))),(0,(a13,(a4,(a1,(a15,(a3,(3,(3,())))))))),(0,(a10,(a31,(a18,(a8,(a3,(3,(3,())))))))),(0,(a22,(a4,(a1,(a17,(a3,(3,(3,())))))))),(0,(a24,(a5,(a1,(a8,(a3,(3,(3,())))))))),(0,(a28,(a4,((0,(0,())),(a15,(a3,(4,(4,())))))))),(0,(a33,(a4,((0,(0,())),(a17,(a3,(4,(4,())))))))),(0,(a21,(a32,((0,(0,())),(a8,(a3,(4,(4,()))))))))])),[])) none
theorem e_f164  : JS QdL Qko QvI false [] []=QvL  :=by kernel_rfl
theorem QH5 (x113 x114:Int)(y111:List Suite)(h:(decide (0<=x114/\x114<=16/\x113=16/\y111.length=16))=true):QdM x113 x114 y111=Qkq x113 x114 y111:=by
 simp only [Ba] at h
 obtain ⟨h1,h2,rfl,h4⟩:=h
 obtain ⟨k,rfl⟩:=Bq h1
 revert y111
 refine Qne 16 (fun k=> ∀ y111:List Suite,y111.length=16->QdM 16 (k:Int) y111=Qkq 16 (k:Int) y111) ?_ ?_ k (by omega)
 ·intro y111 _
  rw [QvK]
  rfl
 ·intro k hk ih y111 hy
  rw [QvK]
  have e1:ilt (k:Int) 16=true:=Be (by omega)
  have e2:cLd y111 k=true:=Be (by omega)
  have e3:Ex k y111=Ex (k+1) (y111.set k (((k+1:Nat):Int),(y111.getD k Qkm).2)):=by
   have:16-k=(16-(k+1))+1:=by omega
   unfold Ex
   rw [this,Du,List.foldl_cons]
  simp only [QdN,e1,Qc,QI,show decide (k<y111.length)=true from Be (by omega),Bd,e2,QQ (show k<4611686018427387904 by omega)]
  rw [ih _ (by rw [List.length_set];exact hy)]
  simp only [Qkq,Bd,e3]
theorem QH6:LO QdL Qkn QvH 0:=QH (s:=QdK) fun x y h _ q=>by simp only [QF,QG] at q;exact (QH5 x.2.1 x.2.2.1 y.1 h).trans q
set_option maxRecDepth 100000 in
theorem s_f164:QvL=some (.t (.sl Q2) YP,[]):=by kernel_rfl
def QvM:Ent:=Qk .nil (fun x=>true) (fun x=>(.t (.sl Q2) YP))
theorem QH7:EM 164 QvM:=mS (lk:=lkL (lkc QH6 lkn)) QdL Qko QvI false (ZW _ (gA (gD QHY gN))) fun m=>Qm m fun x _=>(e_f164 ).trans (s_f164)
theorem QH8:(List.length (α:=Q2.T) YP)=16:=by kernel_rfl
theorem QvN:Qa (α:=Q2.T) YP=16:=by kernel_rfl
theorem QvO {c:Int}(h:1<=c/\c<=16):cIx (α:=Q2.T) YP (c-1)=true:=by
 have:=QH8
 simp only [cIx,Ba]
 omega
def QW (c:Int):Suite×Int:=if c<1∨16<c then (Qkm,8) else (lgt Q2 YP (c-1).toNat,0)
def QH9:TC:=aF Tryz.f124 []
def g_f124:G:=gG 20 [(164,QvM)] (fun _ _=>none)
def QvP (p0:Int):OV:=br (ilt p0 1) (some (.tu [(.t Q2 (0,((ByteArray.mk #[]),((0,(0,())),((0,(0,())),((0,(0,())),((0,(0,())),(0,(0,()))))))))),(.t tI 8)],[])) (br (igt p0 (Qa YP)) (some (.tu [(.t Q2 (0,((ByteArray.mk #[]),((0,(0,())),((0,(0,())),((0,(0,())),((0,(0,())),(0,(0,()))))))))),(.t tI 8)],[])) (br (cIx YP (Jc .i64 p0 1)) (some (.tu [(.t Q2 (lgt Q2 YP (Int.toNat (Jc .i64 p0 1)))),(.t tI 0)],[])) none))
theorem s_f124 (c:Int):QvP c=some (.tu [.t Q2 (QW c).1,.t tI (QW c).2],[]):=by
 simp only [QvP]
 unfold QW
 refine QY (fun h1=> ?_) (fun h1=>QY (fun h2=> ?_) (fun h2=> ?_))
 ·simp only [ilt,Ba] at h1
  rw [if_pos (.inl h1)]
  rfl
 ·have h2:=Bx h2
  have:=QvN
  rw [if_pos (.inr (by omega))]
  rfl
 ·simp only [ilt,Bo] at h1
  have h2:=DB h2
  have:=QvN
  rw [if_neg (by omega),XG (by omega),QvO (by omega),Qc]
def OU:Ent:=Qk (.pr tI .nil) (fun x=>true) (fun x=>(.tu [(.t Q2 ((QW x.1).1)),(.t tI ((QW x.1).2))]))
theorem QdO:EM 124 OU:=mS g_f124 QH9 [((.c 2 true 12),some Q2),((.t 3),some tI)] false (gB (gD QH7 gN)) fun m=>Qm m fun x _=>kT (s_f124 x.1)
def tc_f64:TC:=aF Tryz.f64 []
def g_f64:G:=gG 16 [(105,QvF)] (fun _ _=>none)
def r_f64 (p0:Int):OV:=br (ilt p0 1) (some (.tu [(.t Q2 (0,((ByteArray.mk #[]),((0,(0,())),((0,(0,())),((0,(0,())),((0,(0,())),(0,(0,()))))))))),(.t tI 8)],[])) (br (igt p0 16) (some (.tu [(.t Q2 (0,((ByteArray.mk #[]),((0,(0,())),((0,(0,())),((0,(0,())),((0,(0,())),(0,(0,()))))))))),(.t tI 8)],[])) (br (cIx YP (Jc .i64 p0 1)) (some (.tu [(.t Q2 (lgt Q2 YP (Int.toNat (Jc .i64 p0 1)))),(.t tI 0)],[])) none))
theorem s_f64 (c:Int):r_f64 c=some (.tu [.t Q2 (QW c).1,.t tI (QW c).2],[]):=by
 simp only [r_f64]
 unfold QW
 refine QY (fun h1=> ?_) (fun h1=>QY (fun h2=> ?_) (fun h2=> ?_))
 ·simp only [ilt,Ba] at h1
  rw [if_pos (.inl h1)]
  rfl
 ·simp only [igt,Ba] at h2
  rw [if_pos (.inr (by omega))]
  rfl
 ·simp only [ilt,Bo] at h1
  simp only [igt,Bo] at h2
  rw [if_neg (by omega),XG (by omega),QvO (by omega),Qc]
def QvQ:Ent:=Qk (.pr tI .nil) (fun x=>true) (fun x=>(.tu [(.t Q2 ((QW x.1).1)),(.t tI ((QW x.1).2))]))
theorem ms_f64:EM 64 QvQ:=mS g_f64 tc_f64 [((.c 2 true 12),some Q2),((.t 3),some tI)] false (gB (gD QH3 gN)) fun m=>Qm m fun x _=>kT (s_f64 x.1)
abbrev QdP:Sh:=⟨[(0,.ty (.sl tI)),(1,.ty tI),(5,.ty tI)],[]⟩
abbrev QvR:Sh:=⟨[(4,.ty .bool)],[]⟩
abbrev QvS:Sh:=⟨[],[]⟩
def Qkr:Fg:=QdP.f
def QvT:TC:=aF Tryz.f99 [(26,pL 0 Qkr),(419,.fg QvS.f),(3365,.fg QvR.f)]
def QvU:TC:=lb 0 QvT
def QvV (x0:List Int)(x1 x5:Int):VS:=QdP.st (x0,x1,x5,()) ()
def Qks (x4:Bool):VS:=QvR.st (x4,()) ()
def Qkt  : VS:=QvS.st () ()
def QIa:VS->Option (Bool×List (Bool×Exit×VS)):=mkL QdP (fun x y=>(decide (x.1.length<=100000/\0<=x.2.2.1/\x.2.2.1<=x.1.length))) (fun x y=>[(((x.1.drop x.2.2.1.toNat).contains x.2.1),.ret,Qks (true)),(true,.exit 0,Qkt)])
def Qku:G:=gG 18 [] (Ls [QIa])
def QdQ (x0:List Int)(x1 x5:Int):OX:=Qv (QB Qku Qkr QvU) (QvV x0 x1 x5)
def OW (kk:List Int->Int->Int->OX)(x0:List Int)(x1 x5:Int):OX:=br (ilt x5 (Qa x0)) (br (cIx x0 x5) (br (ieq (lgt tI x0 (Int.toNat x5)) x1) (some (.ret,Qks true)) (kk x0 x1 (Qg .i64 x5 1))) none) (some (.exit 0,Qkt))
def QdR (x0:List Int)(x1 x5:Int):OX:=br ((x0.drop x5.toNat).contains x1) (some (.ret,Qks (true)))<|some (.exit 0,Qkt)
theorem QvW (x0:List Int)(x1 x5:Int):QdQ x0 x1 x5=OW QdQ x0 x1 x5:=lnT (x:=OW (fun x0 x1 x5=>some (.normal,QvV x0 x1 x5)) x0 x1 x5) (by simp only [OW,nxA];rfl)
def r_f99 (p0:List Int)(p1:Int):OV:=br (decide (p0.length<=100000/\0<=(0:Int)/\(0:Int)<=p0.length)) (br ((p0.drop (0:Int).toNat).contains p1) (some (.t .bool (true),[])) (some (.t .bool false,[]))) none
theorem QIb (x0:List Int)(x1 x5:Int)(h:(decide (x0.length<=100000/\0<=x5/\x5<=x0.length))=true):QdQ x0 x1 x5=QdR x0 x1 x5:=by
 simp only [Ba] at h
 obtain ⟨h2,h3,h4⟩:=h
 obtain ⟨k,rfl⟩:=Bq h3
 refine QR x0 (fun k=>QdQ x0 x1 (k:Int)=QdR x0 x1 (k:Int)) ?_ ?_ k (by omega)
 ·rw [QvW]
  simp [OW,QdR,QC,Qa,Qf]
 ·intro k hk ih
  rw [QvW]
  simp only [OW,QC,Qa,QI,hk,Bv,Qc,Bd,QQ (show k<4611686018427387904 by omega),ih,QP (y:=tI) hk]
  simp only [QdR,Bd,Bj hk,List.contains_cons,ieq]
  have hc:(x1==x0[k])=(x0[k]==x1):=Bool.beq_comm
  rw [hc]
  cases x0[k]==x1<;>rfl
theorem QIc:LO Qku Qkr QvU 0:=QH (s:=QdP) fun x y h _ q=>by simp only [QF,QG] at q;exact (QIb x.1 x.2.1 x.2.2.1 h).trans q
theorem s_f99 (l:List Int)(n:Int)(h:Jk l n=true):r_f99 l n=some (.t .bool (QO l n),[]):=by
 simp only [Jk,Ba] at h
 simp only [r_f99,Bu,BA]
 rw [G7 ⟨h,BX 0,by omega⟩,Qc]
 unfold QO
 cases l.contains n<;>rfl
def QvX:Ent:=Qk (.pr (.sl tI) (.pr tI .nil)) (fun x=>(Jk x.1 x.2.1)) (fun x=>(.t .bool (QO x.1 x.2.1)))
theorem ms_f99:EM 99 QvX:=mS (lk:=lkL (lkc QIc lkn)) Qku QvT [((.t 4),some .bool)] false (gB gN) fun m=>Qm m fun x hok=>kT (s_f99 x.1 x.2.1 hok)
theorem QvY (a b:Keep):(and (ieq a.1 b.1) (and (ieq a.2.1 b.2.1) true))=(a==b):=by
 obtain ⟨a1,a2,_⟩:=a
 obtain ⟨b1,b2,_⟩:=b
 show _=((a1==b1)&&((a2==b2)&&true))
 rfl
end
end Go.Proofs.YtmjnnemhoeolgaaGreat.K
noncomputable section
namespace Go.Proofs.YtmjnnemhoeolgaaGreat.K
open Go.RowKit
noncomputable section
theorem QdS (a b:Int):ige a b= !ilt a b:=by
 simp only [ige,ilt]
 rw [DD]
 simp
theorem Qkw (a b:Int):ile a b= !igt a b:=by
 simp only [ile,igt]
 rw [DD]
 simp
theorem GD (a b:Int):ine a b= !ieq a b:=rfl
theorem brB {q r:Bool}{X:OV}(h:X=some (.t .bool r,[])):br q (some (.t .bool false,[])) X=some (.t .bool (!q&&r),[]):=by
 subst h
 cases q<;>rfl
theorem brA {q r:Bool}{X:OV}(h:X=some (.t .bool r,[])):br q X (some (.t .bool false,[]))=some (.t .bool (q&&r),[]):=by
 subst h
 cases q<;>rfl
theorem br9 {q v:Bool}{n:Int}{X:OV}(h0:q=true->v=false)(hX:q=false->X=some (.t tI (bif v then 0 else n),[])):br q (some (.t tI n,[])) X=some (.t tI (bif v then 0 else n),[]):=by
 cases q with
 |true=>rw [Qc,h0 rfl];rfl
 |false=>rw [Qf,hX rfl]
open Classical in
def Xh {α:Type}(a b:α):Bool:=decide (a=b)
theorem Qkx {α:Type}(a:α):Xh a a=true:=by
 unfold Xh
 simp
theorem Qky {α:Type}{a b:α}(h:Xh a b=true):a=b:=by
 unfold Xh at h
 simpa using h
def JY (n:Int):Bool:= !ilt n 0&& !igt n 2147483648
def tc_f83:TC:=aF Tryz.f83 []
def g_f83:G:=gG 9 [] (fun _ _=>none)
def r_f83 (p0:Int):OV:=br (ige p0 0) (some (.t .bool (ile p0 2147483648),[])) (some (.t .bool false,[]))
theorem s_f83 (n:Int):r_f83 n=some (.t .bool (JY n),[]):=by
 simp only [r_f83,QdS,Qkw]
 exact brA rfl
def OZ:Ent:=Qk (.pr tI .nil) (fun x=>true) (fun x=>(.t .bool (JY x.1)))
theorem QdT:EM 83 OZ:=mS g_f83 tc_f83 [((.t 2),some .bool)] false (gB gN) fun m=>Qm m fun x _=>kT (s_f83 x.1)
def UL (n:Int):Bool:= !ilt n 0&& !ige n 4294967296
def QIh:TC:=aF Tryz.f200 []
def g_f200:G:=gG 9 [] (fun _ _=>none)
def Qv2 (p0:Int):OV:=br (ige p0 0) (some (.t .bool (ilt p0 4294967296),[])) (some (.t .bool false,[]))
theorem s_f200 (n:Int):Qv2 n=some (.t .bool (UL n),[]):=by
 simp only [Qv2,UL,QdS,Bool.not_not]
 exact brA rfl
def Qv3:Ent:=Qk (.pr tI .nil) (fun x=>true) (fun x=>(.t .bool (UL x.1)))
theorem QIi:EM 200 Qv3:=mS g_f200 QIh [((.t 2),some .bool)] false (gB gN) fun m=>Qm m fun x _=>kT (s_f200 x.1)
def Yh (l:List ByteArray)(k:Nat):Bool:=(List.range' k (l.length-k)).all fun j=>Jt (l.getD j ByteArray.empty)&&(decide (j=0)||slt (l.getD (j-1) ByteArray.empty) (l.getD j ByteArray.empty))
theorem Qv4 (l:List ByteArray):Yh l l.length=true:=by
 unfold Yh
 rw [Nat.sub_self]
 rfl
theorem Qv5 {l:List ByteArray}{k:Nat}(hk:k<l.length):Yh l k=((Jt l[k]&&(decide (k=0)||slt (l.getD (k-1) ByteArray.empty) l[k]))&&Yh l (k+1)):=by
 have:l.length-k=(l.length-(k+1))+1:=by omega
 unfold Yh
 rw [this,Du,BU]
 simp only [Bk,Bf hk,BI]
def Wq (l:List ByteArray):Bool:=Yh l 0&& !igt (Qa l) 8
def Yv (l:List ByteArray):Bool:=decide (l.length<=100000)&&l.all Ja
abbrev QdU:Sh:=⟨[(0,.ty (.sl .str)),(5,.ty (.sl .str)),(6,.ty tI),(7,.ty tI)],[]⟩
abbrev Qv6:Sh:=⟨[(2,.ty .bool)],[]⟩
abbrev Qv7:Sh:=⟨[(0,.ty (.sl .str))],[]⟩
def Qkz:Fg:=QdU.f
def Qv8:TC:=aF Tryz.f198 [(26,pL 0 Qkz),(421,.fg Qv7.f),(13517,.fg Qv6.f)]
def Qv9:TC:=lb 0 Qv8
def Qwa (x0 x5:List ByteArray)(x6 x7:Int):VS:=QdU.st (x0,x5,x6,x7,()) ()
def QdV (x2:Bool):VS:=Qv6.st (x2,()) ()
def QkA (x0:List ByteArray):VS:=Qv7.st (x0,()) ()
def QIj:VS->Option (Bool×List (Bool×Exit×VS)):=mkL QdU (fun x y=>(Qt x.2.1 x.2.2.1 x.2.2.2.1&&Xh x.1 x.2.1&&Yv x.2.1)) (fun x y=>[((!Yh x.2.1 x.2.2.2.1.toNat),.ret,QdV (false)),(true,.exit 0,QkA (x.1))])
def QkB:G:=gG 32 [(86,I3)] (Ls [QIj])
def QdW (x0 x5:List ByteArray)(x6 x7:Int):OX:=Qv (QB QkB Qkz Qv9) (Qwa x0 x5 x6 x7)
def O0 (kk:List ByteArray->List ByteArray->Int->Int->OX)(x0 x5:List ByteArray)(x6 x7:Int):OX:=
 let a1:=lgt .str x5 (Int.toNat x7)
 br (ilt x7 x6) (br (cIx x5 x7) (br (Ja a1) (br (!(Jt a1)) (some (.ret,QdV false)) (br (igt x7 0) (br (cIx x0 (Jc .i64 x7 1)) (br (!slt (lgt .str x0 (Int.toNat (Jc .i64 x7 1))) a1) (some (.ret,QdV false)) (kk x0 x5 x6 (Qg .i64 x7 1))) none) (kk x0 x5 x6 (Qg .i64 x7 1)))) none) none) (some (.exit 0,QkA x0))
def QdX (x0 x5:List ByteArray)(x6 x7:Int):OX:=br (!Yh x5 x7.toNat) (some (.ret,QdV (false)))<|some (.exit 0,QkA (x0))
theorem Qwb (x0 x5:List ByteArray)(x6 x7:Int):QdW x0 x5 x6 x7=O0 QdW x0 x5 x6 x7:=lnT (x:=O0 (fun x0 x5 x6 x7=>some (.normal,Qwa x0 x5 x6 x7)) x0 x5 x6 x7) (by simp only [O0,nxA];rfl)
def Qwc (p0:List ByteArray):OV:=br (Qt p0 (Qa p0) (0:Int)&&Xh p0 p0&&Yv p0) (br (!Yh p0 (0:Int).toNat) (some (.t .bool (false),[])) (some (.t .bool (ile (Qa (p0)) 8),[]))) none
theorem Qwd {l:List ByteArray}{k:Nat}(h:0<k)(hk:k<l.length):lgt .str l (Int.toNat (Jc .i64 (k:Int) 1))=l.getD (k-1) ByteArray.empty/\cIx l (Jc .i64 (k:Int) 1)=decide (k-1<l.length)∨4611686018427387904<=k:=by
 rcases B9 k 4611686018427387904 with hb|hb
 ·left
  have e:Jc .i64 (k:Int) 1=((k-1:Nat):Int):=by rw [XG (by omega)];omega
  rw [e,Bd,QI]
  exact ⟨rfl,rfl⟩
 ·exact .inr hb
theorem QIk (x0 x5:List ByteArray)(x6 x7:Int)(h:(Qt x5 x6 x7&&Xh x0 x5&&Yv x5)=true):QdW x0 x5 x6 x7=QdX x0 x5 x6 x7:=by
 simp only [Bc] at h
 obtain ⟨⟨h0,hs⟩,hn⟩:=h
 have hs:=Qky hs
 subst hs
 obtain ⟨rfl,h3,k,rfl,hk⟩:=Jy h0
 clear h0
 simp only [Yv,Bc,Bg] at hn
 refine QR x0 (fun k=>QdW x0 x0 (x0.length:Int) (k:Int)=QdX x0 x0 (x0.length:Int) (k:Int)) ?_ ?_ k hk
 ·rw [Qwb]
  simp only [O0,QdX,QC,BV,B2,Qf,Bd,Qv4,BG]
 ·intro k hk ih
  rw [Qwb]
  have hx:=hn.2 x0[k] (Bw hk)
  simp only [O0,QC,QI,hk,Bv,Qc,Bd,QQ (show k<4611686018427387904 by omega),QP (y:= .str) hk,hx,ih]
  simp only [QdX,Bd,Qv5 hk]
  cases hg:Jt x0[k] with
  |false=>rfl
  |true=>
   simp only [BG,Qf,BE]
   by_cases h0:k=0
   ·subst h0
    simp only [show igt ((0:Nat):Int) 0=false from rfl,Qf,Bv,Bool.true_or,BE]
   ·rcases Qwd (l:=x0) (k:=k) (by omega) hk with ⟨e1,e2⟩|hb
    ·rw [show igt (k:Int) 0=true from Be (by omega),Qc,e2,Be (show k-1<x0.length by omega),Qc,e1,Bn h0,Df]
     cases slt (x0.getD (k-1) ByteArray.empty) x0[k]<;>rfl
    ·omega
theorem QIl:LO QkB Qkz Qv9 0:=QH (s:=QdU) fun x y h _ q=>by simp only [QF,QG] at q;exact (QIk x.1 x.2.1 x.2.2.1 x.2.2.2.1 h).trans q
theorem s_f198 (l:List ByteArray)(h:Yv l=true):Qwc l=some (.t .bool (Wq l),[]):=by
 have hl:l.length<=100000:=by simp only [Yv,Bc,Ba] at h;exact h.1
 simp only [Qwc,Jz hl,Qkx,h,B3,Qc,Bu,Qkw,Wq]
 cases Yh l 0<;>rfl
def Qwe:Ent:=Qk (.pr (.sl .str) .nil) (fun x=>(Yv x.1)) (fun x=>(.t .bool (Wq x.1)))
theorem QIm:EM 198 Qwe:=mS (lk:=lkL (lkc QIl lkn)) QkB Qv8 [((.t 2),some .bool)] false (gB (gD QbX gN)) fun m=>Qm m fun x hok=>kT (s_f198 x.1 hok)
def Z6 (u:Keep)(k:Int):Bool:=JR u&&ieq (Z5 u.1) k
def QIn:TC:=aF Tryz.f199 []
def g_f199:G:=gG 14 [(87,EO),(126,QdH)] (fun _ _=>none)
def Qwf (p0:Keep)(p1:Int):OV:=br (JR p0) (some (.t .bool (ieq (Z5 p0.1) p1),[])) (some (.t .bool false,[]))
theorem s_f199 (u:Keep)(k:Int):Qwf u k=some (.t .bool (Z6 u k),[]):=by
 simp only [Qwf]
 exact brA rfl
def Qwg:Ent:=Qk (.pr Qd (.pr tI .nil)) (fun x=>true) (fun x=>(.t .bool (Z6 x.1 x.2.1)))
theorem QIo:EM 199 Qwg:=mS g_f199 QIn [((.t 4),some .bool)] false (gB (gD Vr (gD Qkk gN))) fun m=>Qm m fun x _=>kT (s_f199 x.1 x.2.1)
def GE (u:Keep):Bool:=Z6 u 2
def QIp:TC:=aF Tryz.f140 []
def g_f140:G:=gG 11 [(101,QdJ),(117,QeF)] (fun _ _=>none)
def Qwh (p0:Keep):OV:=br (JR p0) (some (.t .bool (ieq (Z5 p0.1) 2),[])) (some (.t .bool false,[]))
theorem s_f140 (u:Keep):Qwh u=some (.t .bool (GE u),[]):=by
 simp only [Qwh]
 exact brA rfl
def QkC:Ent:=Qk (.pr Qd .nil) (fun x=>true) (fun x=>(.t .bool (GE x.1)))
theorem Qwi:EM 140 QkC:=mS g_f140 QIp [((.t 2),some .bool)] false (gB (gD Qkl (gD QlB gN))) fun m=>Qm m fun x _=>kT (s_f140 x.1)
abbrev Qr (c:Certificate):List ByteArray:=c.2.2.2.2.2.2.2.2.2.2.1
abbrev Wr (c:Certificate):Keep:=c.2.2.2.2.2.2.2.2.2.2.2.1
def JM (c:Certificate):Bool:=Ja c.2.1&&(Ja c.2.2.1&&Yv (Qr c))
def QN (c:Certificate):Bool:=
 !ilt c.1 0&&(!igt c.1 1099511627776&&(Jt c.2.1&&(Jt c.2.2.1&&(Wq (Qr c)&&(Z6 c.2.2.2.1 2&&(JY c.2.2.2.2.1&&(Z6 c.2.2.2.2.2.1 1&&(JY (Wr c).1&&(UL (Wr c).2.1&&
 (!ilt c.2.2.2.2.2.2.1 0&&(!igt c.2.2.2.2.2.2.1 c.2.2.2.2.2.2.2.1&&(!igt c.2.2.2.2.2.2.2.1 40000&&(!ilt c.2.2.2.2.2.2.2.2.2.1 0&&(!igt c.2.2.2.2.2.2.2.2.2.1 8&&(c.2.2.2.2.2.2.2.2.1||ieq c.2.2.2.2.2.2.2.2.2.1 0)))))))))))))))
def QIq:TC:=aF Tryz.f167 []
def g_f167:G:=gG 91 [(83,OZ),(86,I3),(198,Qwe),(199,Qwg),(200,Qv3)] (fun _ _=>none)
def Qwj (p0:Certificate):OV:=br (ilt p0.1 0) (some (.t .bool false,[])) (br (igt p0.1 1099511627776) (some (.t .bool false,[])) (br (Ja p0.2.1) (br (!(Jt p0.2.1)) (some (.t .bool false,[])) (br (Ja p0.2.2.1) (br (!(Jt p0.2.2.1)) (some (.t .bool false,[])) (br (Yv p0.2.2.2.2.2.2.2.2.2.2.1) (br (!(Wq p0.2.2.2.2.2.2.2.2.2.2.1)) (some (.t .bool false,[])) (br (!(Z6 p0.2.2.2.1 2)) (some (.t .bool false,[])) (br (!(JY p0.2.2.2.2.1)) (some (.t .bool false,[])) (br (!(Z6 p0.2.2.2.2.2.1 1)) (some (.t .bool false,[])) (br (!(JY p0.2.2.2.2.2.2.2.2.2.2.2.1.1)) (some (.t .bool false,[])) (br (!(UL p0.2.2.2.2.2.2.2.2.2.2.2.1.2.1)) (some (.t .bool false,[])) (br (ilt p0.2.2.2.2.2.2.1 0) (some (.t .bool false,[])) (br (igt p0.2.2.2.2.2.2.1 p0.2.2.2.2.2.2.2.1) (some (.t .bool false,[])) (br (igt p0.2.2.2.2.2.2.2.1 40000) (some (.t .bool false,[])) (br (ige p0.2.2.2.2.2.2.2.2.2.1 0) (br (ile p0.2.2.2.2.2.2.2.2.2.1 8) (br (p0.2.2.2.2.2.2.2.2.1) (some (.t .bool true,[])) (some (.t .bool (ieq p0.2.2.2.2.2.2.2.2.2.1 0),[]))) (some (.t .bool false,[]))) (some (.t .bool false,[])))))))))))) none)) none)) none))
theorem s_f167 (c:Certificate)(h:JM c=true):Qwj c=some (.t .bool (QN c),[]):=by
 simp only [JM,Bc] at h
 obtain ⟨h1,h2,h3⟩:=h
 simp only [Qwj,h1,h2,h3,Qc,QdS,Qkw]
 refine (brB<|brB<|brB<|brB<|brB<|brB<|brB<|brB<|brB<|brB<|brB<|brB<|brB<|brA<|brA (r:=c.2.2.2.2.2.2.2.2.1||ieq c.2.2.2.2.2.2.2.2.2.1 0) ?_).trans ?_
 ·cases c.2.2.2.2.2.2.2.2.1<;>rfl
 ·simp only [Bool.not_not,QN]
def Qwk:Ent:=Qk (.pr QV .nil) (fun x=>(JM x.1)) (fun x=>(.t .bool (QN x.1)))
theorem QIr:EM 167 Qwk:=mS g_f167 QIq [((.t 2),some .bool)] false (gB (gD QdT (gD QbX (gD QIm (gD QIo (gD QIi gN)))))) fun m=>Qm m fun x hok=>kT (s_f167 x.1 hok)
def XB (c:Certificate):Int:=bif QN c then 0 else 9
theorem O1 (c:Certificate):ine (XB c) 0= !QN c:=by
 unfold XB
 cases QN c<;>rfl
def QIs:TC:=aF Tryz.f127 []
def g_f127:G:=gG 6 [(167,Qwk)] (fun _ _=>none)
def Qwl (p0:Certificate):OV:=br (JM p0) (br (!(QN p0)) (some (.t tI 9,[])) (some (.t tI 0,[]))) none
theorem s_f127 (c:Certificate)(h:JM c=true):Qwl c=some (.t tI (XB c),[]):=by
 simp only [Qwl,h,Qc,XB]
 cases QN c<;>rfl
def Qwm:Ent:=Qk (.pr QV .nil) (fun x=>(JM x.1)) (fun x=>(.t tI (XB x.1)))
theorem QIt:EM 127 Qwm:=mS g_f127 QIs [((.t 2),some tI)] false (gB (gD QIr gN)) fun m=>Qm m fun x hok=>kT (s_f127 x.1 hok)
abbrev QdY:Sh:=⟨[(1,.ptr 1 0),(3,.ty tI)],[(1,.box QV)]⟩
abbrev Qwn:Sh:=⟨[(2,.ty tI)],[]⟩
abbrev Qwo:Sh:=⟨[(1,.ptr 1 0)],[(1,.box QV)]⟩
def QkD:Fg:=QdY.f
def Qwp:TC:=aF Tryz.f113 [(250,pL 0 QkD),(4003,.fg Qwo.f),(8008,pD [(0,[1]),(1,[1]),(2,[]),(3,[]),(4,[]),(5,[]),(6,[]),(7,[]),(8,[]),(9,[]),(10,[]),(11,[1]),(12,[1]),(13,[]),(14,[]),(15,[]),(16,[]),(17,[1]),(18,[1]),(19,[]),(20,[]),(21,[]),(22,[]),(23,[]),(24,[])] (.of [0,1,2,3,4,5,6,7,8,9,10,11,12,13,14,15,16,17,18,19,20,21,22,23,24])),(32037,.fg Qwn.f)]
def Qwq:TC:=lb 0 Qwp
def Qwr (x3:Int)(y1:Certificate):VS:=QdY.st ((),x3,()) (y1,())
def QdZ (x2:Int):VS:=Qwn.st (x2,()) ()
def QkE (y1:Certificate):VS:=Qwo.st ((),()) (y1,())
def QIu:VS->Option (Bool×List (Bool×Exit×VS)):=mkL QdY (fun x y=>(decide (0<=x.2.1/\x.2.1<=(Qr y.1).length)&&Yv (Qr y.1))) (fun x y=>[((!Yh (Qr y.1) x.2.1.toNat),.ret,QdZ (9)),(true,.exit 0,QkE (y.1))])
def QkF:G:=gG 146 [(101,QdJ),(116,Qh6),(117,QeF),(140,QkC)] (Ls [QIu])
def Qd0 (x3:Int)(y1:Certificate):OX:=Qv (QB QkF QkD Qwq) (Qwr x3 y1)
def O2 (kk:Int->Certificate->OX)(x3:Int)(y1:Certificate):OX:=
 let a1:=lgt .str y1.2.2.2.2.2.2.2.2.2.2.1 (Int.toNat x3)
 let a2:=cIx y1.2.2.2.2.2.2.2.2.2.2.1 x3
 br (ilt x3 (Qa y1.2.2.2.2.2.2.2.2.2.2.1)) (br a2 (br (Ja a1) (br (!(Jt a1)) (some (.ret,QdZ 9)) (br (igt x3 0) (br (cIx y1.2.2.2.2.2.2.2.2.2.2.1 (Jc .i64 x3 1)) (br a2 (br (!slt (lgt .str y1.2.2.2.2.2.2.2.2.2.2.1 (Int.toNat (Jc .i64 x3 1))) a1) (some (.ret,QdZ 9)) (kk (Qg .i64 x3 1) y1)) none) none) (kk (Qg .i64 x3 1) y1))) none) none) (some (.exit 0,QkE y1))
def Qd1 (x3:Int)(y1:Certificate):OX:=br (!Yh (Qr y1) x3.toNat) (some (.ret,QdZ (9)))<|some (.exit 0,QkE (y1))
theorem Qws (x3:Int)(y1:Certificate):Qd0 x3 y1=O2 Qd0 x3 y1:=lnT (x:=O2 (fun x3 y1=>some (.normal,Qwr x3 y1)) x3 y1) (by simp only [O2,nxA];rfl)
def QkG (p0:Certificate):OV:=
 let a1:=(((((((((((((p0).2).2).2).2).2).2).2).2).2).2).2).1)
 br (igt (Qa p0.2.2.2.2.2.2.2.2.2.2.1) 8) (some (.t tI 9,[])) (br (decide (0<=(0:Int)/\(0:Int)<=(Qr p0).length)&&Yv (Qr p0)) (br (!Yh (Qr p0) (0:Int).toNat) (some (.t tI (9),[])) (br (ilt (a1.1) 0) (some (.t tI 9,[])) (br (igt (a1.1) 2147483648) (some (.t tI 9,[])) (br (ilt ((a1.2).1) 0) (some (.t tI 9,[])) (br (ige ((a1.2).1) 4294967296) (some (.t tI 9,[])) (some (.t tI 0,[]))))))) none)
def Qwt (p0:Certificate):OV:=br (ilt p0.1 0) (some (.t tI 9,[])) (br (igt p0.1 1099511627776) (some (.t tI 9,[])) (br (Ja p0.2.1) (br (!(Jt p0.2.1)) (some (.t tI 9,[])) (br (Ja p0.2.2.1) (br (!(Jt p0.2.2.1)) (some (.t tI 9,[])) (br (!(GE p0.2.2.2.1)) (some (.t tI 9,[])) (br (ilt p0.2.2.2.2.1 0) (some (.t tI 9,[])) (br (igt p0.2.2.2.2.1 2147483648) (some (.t tI 9,[])) (br (!(JR p0.2.2.2.2.2.1)) (some (.t tI 9,[])) (br (ine (Z5 p0.2.2.2.2.2.1.1) 1) (some (.t tI 9,[])) (br (ilt p0.2.2.2.2.2.2.1 0) (some (.t tI 9,[])) (br (igt p0.2.2.2.2.2.2.1 p0.2.2.2.2.2.2.2.1) (some (.t tI 9,[])) (br (igt p0.2.2.2.2.2.2.2.1 40000) (some (.t tI 9,[])) (br (ilt p0.2.2.2.2.2.2.2.2.2.1 0) (some (.t tI 9,[])) (br (igt p0.2.2.2.2.2.2.2.2.2.1 8) (some (.t tI 9,[])) (br (!p0.2.2.2.2.2.2.2.2.1) (br (ine p0.2.2.2.2.2.2.2.2.2.1 0) (some (.t tI 9,[])) (QkG p0)) (QkG p0))))))))))))) none)) none))
theorem QIv (x3:Int)(y1:Certificate)(h:(decide (0<=x3/\x3<=(Qr y1).length)&&Yv (Qr y1))=true):Qd0 x3 y1=Qd1 x3 y1:=by
 simp only [Bc,Ba] at h
 obtain ⟨⟨h0,h1⟩,hn⟩:=h
 obtain ⟨k,rfl⟩:=Bq h0
 simp only [Yv,Bc,Bg,Ba] at hn
 refine QR (Qr y1) (fun k=>Qd0 (k:Int) y1=Qd1 (k:Int) y1) ?_ ?_ k (by omega)
 ·rw [Qws]
  simp only [O2,Qd1,show ilt ((Qr y1).length:Int) (Qa (Qr y1))=false from Bn (by simp only [Qa];omega),Qf,Bd,Qv4,BG]
 ·intro k hk ih
  rw [Qws]
  have hx:=hn.2 (Qr y1)[k] (Bw hk)
  simp only [O2,show ilt (k:Int) (Qa (Qr y1))=true from Be (by simp only [Qa];omega),QI,hk,Bv,Qc,Bd,QQ (show k<4611686018427387904 by omega),QP (y:= .str) hk,hx,ih]
  simp only [Qd1,Bd,Qv5 hk]
  cases hg:Jt (Qr y1)[k] with
  |false=>rfl
  |true=>
   simp only [BG,Qf,BE]
   by_cases h0:k=0
   ·subst h0
    simp only [show igt ((0:Nat):Int) 0=false from rfl,Qf,Bv,Bool.true_or,BE]
   ·rcases Qwd (l:=Qr y1) (k:=k) (by omega) hk with ⟨e1,e2⟩|hb
    ·rw [show igt (k:Int) 0=true from Be (by omega),Qc,e2,Be (show k-1<(Qr y1).length by omega),Qc,e1,Bn h0,Df]
     cases slt ((Qr y1).getD (k-1) ByteArray.empty) (Qr y1)[k]<;>rfl
    ·omega
theorem QIw:LO QkF QkD Qwq 0:=QH (s:=QdY) fun x y h _ q=>by simp only [QF,QG] at q;exact (QIv x.2.1 y.1 h).trans q
theorem s_f113 (c:Certificate)(h:JM c=true):Qwt c=some (.t tI (XB c),[]):=by
 simp only [JM,Bc] at h
 obtain ⟨h1,h2,h3⟩:=h
 have hd:decide ((0:Int)<=0/\(0:Int)<=(Qr c).length)=true:=Be (by omega)
 unfold XB
 simp only [Qwt,QkG,h1,h2,h3,hd,B3,Qc,Bu,GD]
 refine br9 (fun g=>by simp [QN,g]) fun g1=>br9 (fun g=>by simp [QN,g]) fun g2=>br9 (fun g=>by simp only [Br] at g;simp [QN,g]) fun g3=>br9 (fun g=>by simp only [Br] at g;simp [QN,g]) fun g4=>br9 (fun g=>by simp only [Br,GE] at g;simp [QN,g]) fun g5=>br9 (fun g=>by simp [QN,JY,g]) fun g6=>br9 (fun g=>by simp [QN,JY,g]) fun g7=>br9 (fun g=>by simp only [Br] at g;simp [QN,Z6,g]) fun g8=>br9 (fun g=>by simp only [Br] at g;simp [QN,Z6,g]) fun g9=>br9 (fun g=>by simp [QN,g]) fun g10=>br9 (fun g=>by simp [QN,g]) fun g11=>br9 (fun g=>by simp [QN,g]) fun g12=>br9 (fun g=>by simp [QN,g]) fun g13=>br9 (fun g=>by simp [QN,g]) fun g14=> ?_
 have tail: ∀ (hp:(c.2.2.2.2.2.2.2.2.1||ieq c.2.2.2.2.2.2.2.2.2.1 0)=true),br (igt (Qa (Qr c)) 8) (some (V.t tI 9,([]:List VO))) (br (!Yh (Qr c) 0) (some (V.t tI 9,[])) (br (ilt (Wr c).1 0) (some (V.t tI 9,[])) (br (igt (Wr c).1 2147483648) (some (V.t tI 9,[])) (br (ilt (Wr c).2.1 0) (some (V.t tI 9,[])) (br (ige (Wr c).2.1 4294967296) (some (V.t tI 9,[])) (some (V.t tI 0,[])))))))=some (V.t tI (bif QN c then 0 else 9),([]:List VO)):=by
  intro hp
  refine br9 (fun g=>by simp [QN,Wq,g]) fun g15=>br9 (fun g=>by simp only [Br] at g;simp [QN,Wq,g]) fun g16=>br9 (fun g=>by simp [QN,JY,g]) fun g17=>br9 (fun g=>by simp [QN,JY,g]) fun g18=>br9 (fun g=>by simp [QN,UL,g]) fun g19=>br9 (fun g=>by simp [QN,UL,g]) fun g20=> ?_
  simp only [Bool.not_eq_false'] at g3 g4 g5 g8 g9 g16
  simp only [GE] at g5
  have:QN c=true:=by
   simp only [QN,Wq,Z6,JY,UL,g1,g2,g3,g4,g6,g7,g8,g9,g10,g11,g12,g13,g14,g15,g16,g17,g18,g19,g20,hp,Bool.not_false,B3,BE]
   simpa only [Z6,B6] using g5
  rw [this]
  rfl
 cases ha:c.2.2.2.2.2.2.2.2.1 with
 |true=>
  rw [BG,Qf]
  exact tail (by rw [ha];rfl)
 |false=>
  rw [Bool.not_false,Qc]
  refine br9 (fun g=>by simp only [Br] at g;simp [QN,ha,g]) fun g=> ?_
  exact tail (by simp only [Bool.not_eq_false'] at g;rw [g,Bool.or_true])
def Qd2:Ent:=Qk (.pr QV .nil) (fun x=>(JM x.1)) (fun x=>(.t tI (XB x.1)))
theorem QkH:EM 113 Qd2:=mS (lk:=lkL (lkc QIw lkn)) QkF Qwp [((.t 2),some tI)] false (gB (gD Qkl (gD QrE (gD QlB (gD Qwi gN))))) fun m=>Qm m fun x hok=>kT (s_f113 x.1 hok)
end
end Go.Proofs.YtmjnnemhoeolgaaGreat.K
noncomputable section
namespace Go.Proofs.YtmjnnemhoeolgaaGreat.K
open Go.RowKit
noncomputable section
theorem Qu1 (n:Int):(U6 n).length<=8:=by
 rw [U6,Qnn]
 exact Qaj n
theorem Gz (n:Nat)(m:Int):okT (n+1) (Q9 m)=true:=by
 have:=Qu1 m
 show okV (n+1) (.mk 2 (U6 m) false [])=true
 simp only [okV,List.isEmpty_nil,Di,Dw,B6,BD]
 rw [Be (by omega)]
 rfl
theorem Qdw (n:Nat){s:ByteArray}(h:s.size<=100000):okT (n+1) (J1 s)=true:=by
 have:=Gq s
 show okV (n+1) (.mk 12 (QS s) false [])=true
 simp only [okV,List.isEmpty_nil,Di,Dw,B6,BD]
 rw [Be (by omega)]
 rfl
theorem QHr (n:Nat)(b:Bool):okT (n+1) (WQ b)=true:=by cases b<;>rfl
theorem Qj4 {n:Nat}{l:List Qe}(hl:l.length<=100000)(h: ∀ x∈l,okT n x=true):okT (n+1) (Xt l)=true:=by
 show okV (n+1) (.mk 48 [] true (l.map Val.of))=true
 simp only [okV,List.isEmpty_nil,Dl,B6,BD,BM,Bc,Bg,B5]
 refine ⟨⟨⟨rfl,rfl⟩,Be ⟨by omega,hl⟩⟩, ?_⟩
 rintro v ⟨x,hx,rfl⟩
 exact h x hx
theorem Qj5 {n:Nat}{l:List Qe}(hl:l.length<=100000)(h: ∀ x∈l,okT n x=true):Zi (n+1) l=true:=by
 simp only [Zi,Bc,Ba,Bg]
 exact ⟨hl,h⟩
theorem Qj6 (x:Qe):((x.1,(x.2.1,(x.2.2.1,(List.map Val.of (List.map Val.un x.2.2.2.1),())))):Qe)=x:=by
 rw [Gv]
theorem GA (m:Int):(Zl (Q9 m)).length<=18:=by
 have h1:=Qu1 m
 have h2:=QbM ((U6 m).length+0)
 rw [QbL]
 simp only [Q9,ZL,Bt,Bl,BD]
 omega
theorem Qj7 (s:ByteArray):(Zl (J1 s)).length<=10+s.size:=by
 have h1:=Gq s
 have h2:=QbM ((QS s).length+0)
 rw [QbL]
 simp only [J1,ZL,Bt,Bl,BD]
 omega
theorem QHs (b:Bool):(Zl (WQ b)).length<=11:=by cases b<;>decide
theorem Qj8 (l:List Qe):(Zl (Xt l)).length<=10+(Zp l).length:=by
 have h2:=QbM (0+(ZL (l.map Val.of)).length)
 rw [QbL]
 simp only [Xt,Zp,Bt,Bl,BD]
 omega
def Yu (u:Keep):Qe:=Xt [Q9 u.1,Q9 u.2.1]
def W4 (u:Keep):Bool:=ZP u.1&&ZP u.2.1
theorem Qu2 (n:Nat)(u:Keep):okT (n+2) (Yu u)=true:=
 Qj4 (by simp) fun x hx=>by
  simp only [BY,Dk,or_false] at hx
  rcases hx with rfl|rfl<;>exact Gz _ _
theorem Qu3 (u:Keep):(Zl (Yu u)).length<=46:=by
 have h0:=Qj8 [Q9 u.1,Q9 u.2.1]
 have h1:=GA u.1
 have h2:=GA u.2.1
 simp only [Gp,IY,Bl,BD] at h0
 unfold Yu
 omega
theorem QHt (u:Keep):XW [Q9 u.1,Q9 u.2.1]=true:=
 Qj5 (n:=11) (by simp) fun x hx=>by
  simp only [BY,Dk,or_false] at hx
  rcases hx with rfl|rfl<;>exact Gz _ _
def QHu:TC:=aF Tryz.f191 [(6,pD [(0,[1]),(1,[1]),(2,[]),(3,[1]),(4,[1]),(5,[]),(6,[]),(7,[]),(8,[2])] (.of [0,1,2,3,4,5,6,7,8]))]
def g_f191:G:=gG 11 [(189,QhY),(190,QhF)] (fun _ _=>none)
def Qu4 (p0:Keep):OV:=
 let a1:=((Q9 p0.2.1).1,(((Q9 p0.2.1).2).1,((((Q9 p0.2.1).2).2).1,((List.map Val.of (List.map Val.un (((((Q9 p0.2.1).2).2).2).1))),()))))
 let a2:=((Q9 p0.1).1,(((Q9 p0.1).2).1,((((Q9 p0.1).2).2).1,((List.map Val.of (List.map Val.un (((((Q9 p0.1).2).2).2).1))),()))))
 br (ZP p0.1) (br (ZP p0.2.1) (br (XW ([a2,a1])) (some (.t Qs (Xt ([a2,a1])),[])) none) none) none
theorem s_f191 (u:Keep)(h:W4 u=true):Qu4 u=some (.t Qs (Yu u),[]):=by
 simp only [W4,Bc] at h
 simp only [Qu4,h.1,h.2,Qj6,QHt,Qc]
 rfl
def Qu5:Ent:=Qk (.pr Qd .nil) (fun x=>(W4 x.1)) (fun x=>(.t Qs (Yu x.1)))
theorem QHv:EM 191 Qu5:=mS g_f191 QHu [((.c 2 true 4),some Qs)] false (gB (gD Qrp (gD QqI gN))) fun m=>Qm m fun x hok=>kT (s_f191 x.1 hok)
def Wn (c:Certificate):List Qe:=[Q9 c.1,J1 c.2.1,J1 c.2.2.1,Yu c.2.2.2.1,Q9 c.2.2.2.2.1,Yu c.2.2.2.2.2.1,Q9 c.2.2.2.2.2.2.1,Q9 c.2.2.2.2.2.2.2.1,WQ c.2.2.2.2.2.2.2.2.1,Q9 c.2.2.2.2.2.2.2.2.2.1,Xt ((Qr c).map J1)]
def Wo (c:Certificate):Qe:=Xt (Wn c)
def Ev (c:Certificate):Bool:=JM c&&QN c
theorem QHw {u:Keep}(h:JR u=true):0<=u.2.1/\u.2.1<=16384/\1<=u.1/\u.1<=22:=by
 simp only [JR,Ba] at h
 have ham: ∀ (s t:List Int),(∀ x∈s,0<=x/\x<=16384)->Zc u.2.1 s t > 0->0<=u.2.1/\u.2.1<=16384:=by
  intro s t hs hg
  unfold Zc at hg
  split at hg
  ·rename_i k hk
   have hm:u.2.1∈s:=by
    have key: ∀ (s:List Int) (k:Nat),Jw u.2.1 s=some k->u.2.1∈s:=by
     intro s
     induction s with
     |nil=>intro k hk;cases hk
     |cons a s ih=>
      intro k hk
      unfold Jw at hk
      split at hk
      ·rename_i ha
       have:=eq_of_beq ha
       rw [this];exact Dh
      ·obtain ⟨j,hj,_⟩:=Bh.1 hk
       exact B1 _ (ih j hj)
    exact key s k hk
   exact hs _ hm
  ·omega
 rw [←and_assoc]
 unfold Xj at h
 repeat' split at h
 ·refine ⟨?_,by omega⟩
  unfold UV at h
  split at h<;>omega
 ·refine ⟨?_,by omega⟩
  unfold EN at h
  split at h
  ·rename_i hc
   simp only [QO,BH,BY,Dk,or_false] at hc
   omega
  ·omega
 ·exact ⟨ham _ _ (by simp) h,by omega⟩
 ·exact ⟨ham _ _ (by simp) h,by omega⟩
 ·exact ⟨ham _ _ (by simp) h,by omega⟩
 ·exact ⟨ham _ _ (by simp) h,by omega⟩
 ·exact ⟨ham _ _ (by simp) h,by omega⟩
 ·refine ⟨ham _ _ (by simp) h, ?_⟩
  unfold Zc at h
  split at h
  ·rename_i k hk
   unfold Jw at hk
   split at hk
   ·injection hk with hk
    subst hk
    simp only [List.getD_cons_zero,XE] at h
    repeat' split at h
    all_goals omega
   ·cases hk
  ·omega
theorem Qu6 {u:Keep}{k:Int}(h:Z6 u k=true):W4 u=true:=by
 simp only [Z6,Bc] at h
 have:=QHw h.1
 simp only [W4,ZP,Bc,Ba]
 omega
theorem Qj9 {s:ByteArray}(h:Jt s=true):s.size<=32:=by
 simp only [Jt,Bc,Ba] at h
 exact h.2.2
theorem QHx {l:List ByteArray}: ∀ {k:Nat},Yh l k=true→ ∀ j (hj:j<l.length),k<=j->Jt l[j]=true:=by
 intro k h j hj hk
 simp only [Yh,Bg,List.mem_range'_1,Bc] at h
 have:=(h j ⟨hk,by omega⟩).1
 simpa only [Bk,Bf hj,BI] using this
theorem QHy {l:List ByteArray}(h:Wq l=true):l.length<=8∧ ∀ s∈l,s.size<=32:=by
 simp only [Wq,Bc,Br,igt,Qa,Bo] at h
 refine ⟨by omega,fun s hs=> ?_⟩
 obtain ⟨j,hj,rfl⟩:=List.mem_iff_getElem.1 hs
 exact Qj9 (QHx h.1 j hj (B4 _))
theorem Qdx {c:Certificate}(h:QN c=true):ZP c.1=true/\c.2.1.size<=32/\c.2.2.1.size<=32/\W4 c.2.2.2.1=true/\ZP c.2.2.2.2.1=true/\W4 c.2.2.2.2.2.1=true/\ZP c.2.2.2.2.2.2.1=true/\ZP c.2.2.2.2.2.2.2.1=true/\ZP c.2.2.2.2.2.2.2.2.2.1=true/\(Qr c).length<=8∧ ∀ s∈Qr c,s.size<=32:=by
 simp only [QN,JY,Bc,Br,ilt,igt,Bo] at h
 obtain ⟨h1,h2,h3,h4,h5,h6,⟨h7,h7'⟩,h8,⟨h9,h9'⟩,h10,h11,h12,h13,h14,h15,h16⟩:=h
 have hn:=QHy h5
 refine ⟨Be (by omega),Qj9 h3,Qj9 h4,Qu6 h6,Be (by omega),Qu6 h8,Be (by omega),Be (by omega),Be (by omega),hn.1,hn.2⟩
theorem QHz (n:Nat){l:List ByteArray}(h:l.length<=8)(hs: ∀ s∈l,s.size<=32):okT (n+2) (Xt (l.map J1))=true:=
 Qj4 (by rw [BM];omega) fun x hx=>by
  obtain ⟨s,hm,rfl⟩:=B5.1 hx
  exact Qdw _ (by have:=hs s hm;omega)
theorem Qu7 (n:Nat){c:Certificate}(h:QN c=true): ∀ x∈Wn c,okT (n+2) x=true:=by
 obtain ⟨h1,h2,h3,h4,h5,h6,h7,h8,h9,h10,h11⟩:=Qdx h
 intro x hx
 simp only [Wn,BY,Dk,or_false] at hx
 rcases hx with rfl|rfl|rfl|rfl|rfl|rfl|rfl|rfl|rfl|rfl|rfl
 ·exact Gz _ _
 ·exact Qdw _ (by omega)
 ·exact Qdw _ (by omega)
 ·exact Qu2 _ _
 ·exact Gz _ _
 ·exact Qu2 _ _
 ·exact Gz _ _
 ·exact Gz _ _
 ·exact QHr _ _
 ·exact Gz _ _
 ·exact QHz _ h10 h11
theorem Qu8: ∀ {l:List ByteArray},(∀ s∈l,s.size<=32)->(Zp (l.map J1)).length<=42*l.length
 | [],_=>by simp [IY]
 |s::l,h=>by
  have h1:=h s (by simp)
  have h2:=Qj7 s
  have h3:=Qu8 (l:=l) fun u hu=>h u (by simp [hu])
  rw [BF,Gp,Bl,Bt]
  omega
theorem Qka {c:Certificate}(h:QN c=true):(Zl (Wo c)).length<=1000:=by
 obtain ⟨h1,h2,h3,h4,h5,h6,h7,h8,h9,h10,h11⟩:=Qdx h
 have e0:=Qj8 (Wn c)
 have e1:=GA c.1
 have e2:=Qj7 c.2.1
 have e3:=Qj7 c.2.2.1
 have e4:=Qu3 c.2.2.2.1
 have e5:=GA c.2.2.2.2.1
 have e6:=Qu3 c.2.2.2.2.2.1
 have e7:=GA c.2.2.2.2.2.2.1
 have e8:=GA c.2.2.2.2.2.2.2.1
 have e9:=QHs c.2.2.2.2.2.2.2.2.1
 have e10:=GA c.2.2.2.2.2.2.2.2.2.1
 have e11:=Qj8 ((Qr c).map J1)
 have e12:=Qu8 h11
 simp only [Wn,Gp,IY,Bl,BD] at e0
 unfold Wo
 simp only [Wn]
 omega
theorem enc_ok {c:Certificate}(h:QN c=true):WR (Wo c)=true:=by
 have:=Qka h
 simp only [WR,Bc,Ba]
 refine ⟨Qj4 (by simp [Wn]) (Qu7 9 h),by omega⟩
theorem QHA {c:Certificate}(h:QN c=true):XW ((Qr c).map J1)=true:=by
 obtain ⟨h1,h2,h3,h4,h5,h6,h7,h8,h9,h10,h11⟩:=Qdx h
 exact Qj5 (n:=11) (by rw [BM];omega) fun x hx=>by
  obtain ⟨s,hm,rfl⟩:=B5.1 hx
  exact Qdw _ (by have:=h11 s hm;omega)
theorem QHB {c:Certificate}(h:QN c=true):XW (Wn c)=true:=Qj5 (n:=11) (by simp [Wn]) (Qu7 9 h)
theorem Qkb {s:ByteArray}(h:s.size<=32):Y5 s=true:=Be (by omega)
abbrev Qdy:Sh:=⟨[(1,.ptr 1 0),(2,.ptr 2 0),(3,.ms 3),(4,.ty tI)],[(1,.box QV),(2,.box Qs),(3,.arr 225 Qs),(20,.no)]⟩
abbrev Qu9:Sh:=⟨[(1,.ptr 1 0),(2,.ptr 2 0),(3,.ms 3)],[(1,.box QV),(2,.box Qs),(3,.arr 225 Qs),(20,.no)]⟩
def Qkc:Fg:=Qdy.f
def Qva:TC:=aF Tryz.f152 [(58,.nw 3 225),(58,pL 0 Qkc),(931,.fg Qu9.f),(30,pD [(0,[1]),(1,[1]),(2,[]),(3,[1]),(4,[1]),(5,[]),(6,[1]),(7,[1]),(8,[]),(9,[1]),(10,[1]),(11,[]),(12,[1]),(13,[1]),(14,[]),(15,[1]),(16,[1]),(17,[]),(18,[1]),(19,[1]),(20,[]),(21,[1]),(22,[1]),(23,[]),(24,[1]),(25,[1]),(26,[]),(27,[1]),(28,[1]),(29,[]),(30,[3,20]),(31,[3,20,52,5052,10052,15052]),(32,[]),(33,[]),(34,[2])] (.of [0,1,2,3,4,5,6,7,8,9,10,11,12,13,14,15,16,17,18,19,20,21,22,23,24,25,26,27,28,29,30,31,32,33,34]))]
def Qvb:TC:=lb 0 Qva
def Qvc (x4:Int)(y1:Certificate)(y2:Qe)(y3:List Qe):VS:=Qdy.st ((),(),(),x4,()) (y1,y2,y3,(),())
def Qkd (y1:Certificate)(y2:Qe)(y3:List Qe):VS:=Qu9.st ((),(),(),()) (y1,y2,y3,(),())
def QHC:VS->Option (Bool×List (Bool×Exit×VS)):=mkL Qdy (fun x y=>(decide (0<=x.2.2.2.1/\x.2.2.2.1<=(Qr y.1).length/\y.2.2.1.length<=x.2.2.2.1.toNat/\(Qr y.1).length<=8)&&(Qr y.1).all fun s=>decide (s.size<=32))) (fun x y=>[(true,.exit 0,Qkd (y.1) (y.2.1) (y.2.2.1++((Qr y.1).drop x.2.2.2.1.toNat).map J1))])
def Qke:G:=gG 55 [(188,QqK),(189,QhY),(190,QhF),(191,Qu5),(192,QqL)] (Ls [QHC])
def Qdz (x4:Int)(y1:Certificate)(y2:Qe)(y3:List Qe):OX:=Qv (QB Qke Qkc Qvb) (Qvc x4 y1 y2 y3)
def OK (kk:Int->Certificate->Qe->List Qe->OX)(x4:Int)(y1:Certificate)(y2:Qe)(y3:List Qe):OX:=
 let a1:=J1 (lgt .str y1.2.2.2.2.2.2.2.2.2.2.1 (Int.toNat x4))
 let a2:=((a1.2).1,(((a1.2).2).1,((List.map Val.of (List.map Val.un ((((a1.2).2).2).1))),())))
 br (ilt x4 (Qa y1.2.2.2.2.2.2.2.2.2.2.1)) (br (cIx y1.2.2.2.2.2.2.2.2.2.2.1 x4) (br (Y5 (lgt .str y1.2.2.2.2.2.2.2.2.2.2.1 (Int.toNat x4))) (br (QJ y3 ([(a1.1,a2)]) 64) (kk (Qg .i64 x4 1) y1 y2 (y3++([(a1.1,a2)]))) none) none) none) (some (.exit 0,Qkd y1 y2 y3))
def QdA (x4:Int)(y1:Certificate)(y2:Qe)(y3:List Qe):OX:=some (.exit 0,Qkd (y1) (y2) (y3++((Qr y1).drop x4.toNat).map J1))
theorem Qvd (x4:Int)(y1:Certificate)(y2:Qe)(y3:List Qe):Qdz x4 y1 y2 y3=OK Qdz x4 y1 y2 y3:=lnT (x:=OK (fun x4 y1 y2 y3=>some (.normal,Qvc x4 y1 y2 y3)) x4 y1 y2 y3) (by simp only [OK,nxA];rfl)
def Qve (p0:Certificate):OV:=
 let a3:=((((p0).2).2).2)
 let a1:=((a3.2).2)
 let a2:=(Xt (([]:List Qe)++((Qr p0).drop (0:Int).toNat).map J1))
 let a4:=((Q9 (((((a1.2).2).2).2).1)).1,(((Q9 (((((a1.2).2).2).2).1)).2).1,((((Q9 (((((a1.2).2).2).2).1)).2).2).1,((List.map Val.of (List.map Val.un (((((Q9 (((((a1.2).2).2).2).1)).2).2).2).1))),()))))
 let a5:=((WQ ((((a1.2).2).2).1)).1,(((WQ ((((a1.2).2).2).1)).2).1,((((WQ ((((a1.2).2).2).1)).2).2).1,((List.map Val.of (List.map Val.un (((((WQ ((((a1.2).2).2).1)).2).2).2).1))),()))))
 let a6:=((J1 ((((p0).2).2).1)).1,(((J1 ((((p0).2).2).1)).2).1,((((J1 ((((p0).2).2).1)).2).2).1,((List.map Val.of (List.map Val.un (((((J1 ((((p0).2).2).1)).2).2).2).1))),()))))
 let a7:=((Q9 (((a1.2).2).1)).1,(((Q9 (((a1.2).2).1)).2).1,((((Q9 (((a1.2).2).1)).2).2).1,((List.map Val.of (List.map Val.un (((((Q9 (((a1.2).2).1)).2).2).2).1))),()))))
 let a8:=((J1 (((p0).2).1)).1,(((J1 (((p0).2).1)).2).1,((((J1 (((p0).2).1)).2).2).1,((List.map Val.of (List.map Val.un (((((J1 (((p0).2).1)).2).2).2).1))),()))))
 let a9:=((Q9 ((a3.2).1)).1,(((Q9 ((a3.2).1)).2).1,((((Q9 ((a3.2).1)).2).2).1,((List.map Val.of (List.map Val.un (((((Q9 ((a3.2).1)).2).2).2).1))),()))))
 let a10:=((Q9 ((a1.2).1)).1,(((Q9 ((a1.2).1)).2).1,((((Q9 ((a1.2).1)).2).2).1,((List.map Val.of (List.map Val.un (((((Q9 ((a1.2).1)).2).2).2).1))),()))))
 let a11:=((Q9 ((p0).1)).1,(((Q9 ((p0).1)).2).1,((((Q9 ((p0).1)).2).2).1,((List.map Val.of (List.map Val.un (((((Q9 ((p0).1)).2).2).2).1))),()))))
 let a12:=((Yu (a3.1)).1,(((Yu (a3.1)).2).1,((((Yu (a3.1)).2).2).1,((List.map Val.of (List.map Val.un (((((Yu (a3.1)).2).2).2).1))),()))))
 let a13:=((Yu (a1.1)).1,(((Yu (a1.1)).2).1,((((Yu (a1.1)).2).2).1,((List.map Val.of (List.map Val.un (((((Yu (a1.1)).2).2).2).1))),()))))
 let a14:=((a2.2).1,(((a2.2).2).1,((List.map Val.of (List.map Val.un ((((a2.2).2).2).1))),())))
 br (decide (0<=(0:Int)/\(0:Int)<=(Qr p0).length/\([]:List Qe).length<=(0:Int).toNat/\(Qr p0).length<=8)&&(Qr p0).all fun s=>decide (s.size<=32)) (br (ZP ((p0).1)) (br (Y5 (((p0).2).1)) (br (Y5 ((((p0).2).2).1)) (br (W4 (a3.1)) (br (ZP ((a3.2).1)) (br (W4 (a1.1)) (br (ZP ((a1.2).1)) (br (ZP (((a1.2).2).1)) (br (ZP (((((a1.2).2).2).2).1)) (br (XW (([]:List Qe)++((Qr p0).drop (0:Int).toNat).map J1)) (br (XW ([a11,a8,a6,a12,a9,a13,a10,a7,a5,a4,(a2.1,a14)])) (some (.t Qs (Xt ([a11,a8,a6,a12,a9,a13,a10,a7,a5,a4,(a2.1,a14)])),[])) none) none) none) none) none) none) none) none) none) none) none) none
theorem QHD (x4:Int)(y1:Certificate)(y2:Qe)(y3:List Qe)(h:(decide (0<=x4/\x4<=(Qr y1).length/\y3.length<=x4.toNat/\(Qr y1).length<=8)&&(Qr y1).all fun s=>decide (s.size<=32))=true):Qdz x4 y1 y2 y3=QdA x4 y1 y2 y3:=by
 simp only [Bc,Ba,Bg] at h
 obtain ⟨⟨h0,h1,h2,h3⟩,hn⟩:=h
 obtain ⟨k,rfl⟩:=Bq h0
 rw [Bd] at h2
 revert y3
 refine QR (Qr y1) (fun k=> ∀ y3:List Qe,y3.length<=k->Qdz (k:Int) y1 y2 y3=QdA (k:Int) y1 y2 y3) ?_ ?_ k (by omega)
 ·intro y3 _
  rw [Qvd]
  simp only [OK,QdA,show ilt ((Qr y1).length:Int) (Qa (Qr y1))=false from Bn (by simp only [Qa];omega),Qf,Bd,BQ,List.map_nil,BO]
 ·intro k hk ih y3 hy
  rw [Qvd]
  have hx:=hn (Qr y1)[k] (Bw hk)
  simp only [OK,show ilt (k:Int) (Qa (Qr y1))=true from Be (by simp only [Qa];omega),QI,hk,Bv,Qc,Bd,QQ (show k<4611686018427387904 by omega),QP (y:= .str) hk,Qkb hx,Qj6]
  rw [Ji (by omega) (by simp only [Bp];omega),Qc,ih _ (by simp only [Bl,Bp];omega)]
  simp only [QdA,Bd,Bj hk,BF,BR,BN]
theorem QHE:LO Qke Qkc Qvb 0:=QH (s:=Qdy) fun x y h _ q=>by simp only [QF,QG] at q;exact (QHD x.2.2.2.1 y.1 y.2.1 y.2.2.1 h).trans q
theorem s_f152 (c:Certificate)(h:Ev c=true):Qve c=some (.t Qs (Wo c),[]):=by
 simp only [Ev,Bc] at h
 obtain ⟨_,hv⟩:=h
 obtain ⟨h1,h2,h3,h4,h5,h6,h7,h8,h9,h10,h11⟩:=Qdx hv
 have hc:=QHA hv
 have hp:=QHB hv
 have ha:((Qr c).all fun s=>decide (s.size<=32))=true:=Bg.2 fun s hs=>Be (h11 s hs)
 have hl:(0:Int)<=0/\(0:Int)<=(Qr c).length/\([]:List Qe).length<=0/\(Qr c).length<=8:=⟨by omega,by omega,by simp,h10⟩
 simp only [Wn] at hp
 simp only [Qve,ha,B3,h1,Qkb h2,Qkb h3,h4,h5,h6,h7,h8,h9,Qc,Bu,BA,BT,Qj6,hc,hp]
 rw [Be hl]
 rfl
def Qvf:Ent:=Qk (.pr QV .nil) (fun x=>(Ev x.1)) (fun x=>(.t Qs (Wo x.1)))
theorem QHF:EM 152 Qvf:=mS (lk:=lkL (lkc QHE lkn)) Qke Qva [((.c 2 true 4),some Qs)] false (gB (gD QCY (gD Qrp (gD QqI (gD QHv (gD QC0 gN)))))) fun m=>Qm m fun x hok=>kT (s_f152 x.1 hok)
end
end Go.Proofs.YtmjnnemhoeolgaaGreat.K
noncomputable section
namespace Go.Proofs.YtmjnnemhoeolgaaGreat.K
open Go.RowKit
noncomputable section
def Yz (c:Certificate):List Int×Int:=bif QN c then WS (Wo c) else ([],9)
theorem QyB {c:Certificate}(h:QN c=true):Yz c=(Zl (Wo c),0):=by
 have:=Qka h
 rw [Yz,h,Dl,WS,if_neg (by omega)]
theorem QyC (c:Certificate):(Yz c).1.length<=1000:=by
 cases h:QN c with
 |true=>
  rw [QyB h]
  exact Qka h
 |false=>
  rw [Yz,h]
  simp
def QyD:TC:=aF Tryz.f114 []
def g_f114:G:=gG 12 [(113,Qd2),(151,Qrn),(152,Qvf)] (fun _ _=>none)
def Qfb (p0:Certificate):OV:=br (JM p0) (br (ine (XB p0) 0) (some (.tu [(.t (.sl (.int .u8)) ([]:List Int)),(.t tI 9)],[])) (br (Ev p0) (br (WR (Wo p0)) (some (.tu [(.t (.sl (.int .u8)) ((WS (Wo p0)).1)),(.t tI ((WS (Wo p0)).2))],[])) none) none)) none
theorem s_f114 (c:Certificate)(h:JM c=true):Qfb c=some (.tu [.t (.sl (.int .u8)) (Yz c).1,.t tI (Yz c).2],[]):=by
 unfold Yz
 cases hv:QN c with
 |true=>simp only [Qfb,h,hv,O1,enc_ok hv,show Ev c=true from by rw [Ev,h,hv];rfl,BG,Qc,Qf,Dl]
 |false=>simp only [Qfb,h,hv,O1,Bool.not_false,Qc,Di]
def Ql1:Ent:=Qk (.pr QV .nil) (fun x=>(JM x.1)) (fun x=>(.tu [(.t (.sl (.int .u8)) ((Yz x.1).1)),(.t tI ((Yz x.1).2))]))
theorem QyE:EM 114 Ql1:=mS g_f114 QyD [((.t 2),some (.sl (.int .u8))),((.t 3),some tI)] false (gB (gD QkH (gD QDG (gD QHF gN)))) fun m=>Qm m fun x hok=>kT (s_f114 x.1 hok)
def Ui (s x:Int):Int:=QgS .u32 (FN .u32 s (icv .u32 x)) 16777619
def ET (b:List Int):Int:=icv .i64 (b.foldl Ui 2166136261)
def EU (b:List Int):Bool:=decide (b.length<=100000)
abbrev Qfc:Sh:=⟨[(3,.ty (.int .u32)),(6,.ty (.sl (.int .u8))),(7,.ty tI),(8,.ty tI)],[]⟩
abbrev Qfd:Sh:=⟨[(3,.ty (.int .u32))],[]⟩
def QyF:Fg:=Qfc.f
def QyG:TC:=(.sq (.reg [(oP 9 (.bin false .lss (.t 8) (.t 7)))]) (.sq (.cd (.t 9) .sk (.fg Qfd.f (.ex 0))) (.sq (.bk 1 (.sq (.reg [(oP 10 (.ix 1 (.t 6) (.t 8))),(oL 11 10),(oV 5 11)]) (.reg [(oV 12 3),(oV 13 5),(oP 14 (.cv .u32 (.t 13))),(oP 15 (.bin false .xor (.t 12) (.t 14))),(oP 16 (.bin false .mul (.t 15) (.c (.v (.int .u32 16777619))))),(oV 3 16)]))) (.reg [(oP 17 (.bin false .add (.t 8) (cI 1))),(oV 8 17)]))))
def Ql2 (x3:Int)(x6:List Int)(x7 x8:Int):VS:=Qfc.st (x3,x6,x7,x8,()) ()
def G1 (x3:Int):VS:=Qfd.st (x3,()) ()
def QyH:VS->Option (Bool×List (Bool×Exit×VS)):=mkL Qfc (fun x y=>(Qt x.2.1 x.2.2.1 x.2.2.2.1)) (fun x y=>[(true,.exit 0,G1 ((x.2.1.drop x.2.2.2.1.toNat).foldl Ui x.1))])
def g_f207:G:=gG 20 [] (Ls [QyH])
def VG (x3:Int)(x6:List Int)(x7 x8:Int):OX:=Qv (QB g_f207 QyF QyG) (Ql2 x3 x6 x7 x8)
def EV (kk:Int->List Int->Int->Int->OX)(x3:Int)(x6:List Int)(x7 x8:Int):OX:=br (ilt x8 x7) (br (cIx x6 x8) (kk (QgS .u32 (FN .u32 x3 (icv .u32 (lgt (.int .u8) x6 (Int.toNat x8)))) 16777619) x6 x7 (Qg .i64 x8 1)) none) (some (.exit 0,G1 x3))
def VH (x3:Int)(x6:List Int)(x7 x8:Int):OX:=some (.exit 0,G1 ((x6.drop x8.toNat).foldl Ui x3))
theorem Ql3 (x3:Int)(x6:List Int)(x7 x8:Int):VG x3 x6 x7 x8=EV VG x3 x6 x7 x8:=lnT (x:=EV (fun x3 x6 x7 x8=>some (.normal,Ql2 x3 x6 x7 x8)) x3 x6 x7 x8) (by simp only [EV,nxA];rfl)
theorem l_f207_0 (x3:Int)(x6:List Int)(x7 x8:Int)(h:(Qt x6 x7 x8)=true):VG x3 x6 x7 x8=VH x3 x6 x7 x8:=by
 obtain ⟨rfl,h3,k,rfl,hk⟩:=Jy h
 clear h
 revert x3
 refine QR x6 (fun k=> ∀ x3:Int,VG x3 x6 (x6.length:Int) (k:Int)=VH x3 x6 (x6.length:Int) (k:Int)) ?_ ?_ k hk
 ·intro x3
  rw [Ql3]
  simp only [EV,VH,QC,BV,B2,Qf,Bd,BQ,List.foldl_nil]
 ·intro k hk ih x3
  rw [Ql3]
  simp only [EV,QC,QI,hk,Bv,Qc,Bd,QQ (show k<4611686018427387904 by omega),QP (y:= .int .u8) hk,ih]
  simp only [VH,Bd,Bj hk,List.foldl_cons,Ui]
abbrev VI:Sh:=⟨[(0,.ty (.sl (.int .u8))),(3,.ty (.int .u32)),(4,.ty tI)],[]⟩
def Qfe:Fg:=VI.f
def Ql4:TC:=aF Tryz.f115 [(58,pL 0 Qfe),(931,.fg Qfd.f)]
def Ql5:TC:=lb 0 Ql4
def Ql6 (x0:List Int)(x3 x4:Int):VS:=VI.st (x0,x3,x4,()) ()
def QyI:VS->Option (Bool×List (Bool×Exit×VS)):=mkL VI (fun x y=>(X8 x.1 x.2.2.1)) (fun x y=>[(true,.exit 0,G1 ((x.1.drop x.2.2.1.toNat).foldl Ui x.2.1))])
def Qff:G:=gG 21 [] (Ls [QyI])
def VJ (x0:List Int)(x3 x4:Int):OX:=Qv (QB Qff Qfe Ql5) (Ql6 x0 x3 x4)
def EW (kk:List Int->Int->Int->OX)(x0:List Int)(x3 x4:Int):OX:=br (ilt x4 (Qa x0)) (br (cIx x0 x4) (kk x0 (QgS .u32 (FN .u32 x3 (icv .u32 (lgt (.int .u8) x0 (Int.toNat x4)))) 16777619) (Qg .i64 x4 1)) none) (some (.exit 0,G1 x3))
def VK (x0:List Int)(x3 x4:Int):OX:=some (.exit 0,G1 ((x0.drop x4.toNat).foldl Ui x3))
theorem Ql7 (x0:List Int)(x3 x4:Int):VJ x0 x3 x4=EW VJ x0 x3 x4:=lnT (x:=EW (fun x0 x3 x4=>some (.normal,Ql6 x0 x3 x4)) x0 x3 x4) (by simp only [EW,nxA];rfl)
def Ql8 (p0:List Int):OV:=br (X8 p0 (0:Int)) (some (.t tI (icv .i64 ((p0.drop (0:Int).toNat).foldl Ui (2166136261:Int))),[])) none
theorem QyJ (x0:List Int)(x3 x4:Int)(h:(X8 x0 x4)=true):VJ x0 x3 x4=VK x0 x3 x4:=by
 simp only [X8,Ba] at h
 obtain ⟨h0,h1,h2⟩:=h
 obtain ⟨k,rfl⟩:=Bq h0
 revert x3
 refine QR x0 (fun k=> ∀ x3:Int,VJ x0 x3 (k:Int)=VK x0 x3 (k:Int)) ?_ ?_ k (by omega)
 ·intro x3
  rw [Ql7]
  simp only [EW,VK,show ilt (x0.length:Int) (Qa x0)=false from Bn (by simp only [Qa];omega),Qf,Bd,BQ,List.foldl_nil]
 ·intro k hk ih x3
  rw [Ql7]
  simp only [EW,show ilt (k:Int) (Qa x0)=true from Be (by simp only [Qa];omega),QI,hk,Bv,Qc,Bd,QQ (show k<4611686018427387904 by omega),QP (y:= .int .u8) hk,ih]
  simp only [VK,Bd,Bj hk,List.foldl_cons,Ui]
theorem QyK:LO Qff Qfe Ql5 0:=QH (s:=VI) fun x y h _ q=>by simp only [QF,QG] at q;exact (QyJ x.1 x.2.1 x.2.2.1 h).trans q
theorem s_f115 (b:List Int)(h:EU b=true):Ql8 b=some (.t tI (ET b),[]):=by
 simp only [EU,Ba] at h
 simp only [Ql8,show X8 b 0=true from Be (by omega),Qc,Bu,BA]
 rfl
def Ql9:Ent:=Qk (.pr (.sl (.int .u8)) .nil) (fun x=>(EU x.1)) (fun x=>(.t tI (ET x.1)))
theorem QyL:EM 115 Ql9:=mS (lk:=lkL (lkc QyK lkn)) Qff Ql4 [((.t 2),some tI)] false (gB gN) fun m=>Qm m fun x hok=>kT (s_f115 x.1 hok)
theorem lenB_C (c:Certificate):EU (Yz c).1=true:=Be (by have:=QyC c;omega)
def QyM (c:Certificate)(k:Int):Bool:=ieq (Yz c).2 0&&(ieq (Wr c).1 k&&ieq (Wr c).2.1 (ET (Yz c).1))
def Qfg (c:Certificate)(_k:Int):Bool:=JM c
def ZK (c:Certificate):Certificate:=c
def QyN:TC:=aF Tryz.f112 []
def g_f112:G:=⟨TYs,[3],9,EL [],Wp,(fun _ _=>none),IL [],RL []⟩
def Qma (p0:Certificate):OV:=br (QJ ([]:List ByteArray) p0.2.2.2.2.2.2.2.2.2.2.1 16) (some (.t QV (p0.1,(p0.2.1,(p0.2.2.1,((p0.2.2.2.1.1,(p0.2.2.2.1.2.1,())),(p0.2.2.2.2.1,((p0.2.2.2.2.2.1.1,(p0.2.2.2.2.2.1.2.1,())),(p0.2.2.2.2.2.2.1,(p0.2.2.2.2.2.2.2.1,(p0.2.2.2.2.2.2.2.2.1,(p0.2.2.2.2.2.2.2.2.2.1,((([]:List ByteArray)++p0.2.2.2.2.2.2.2.2.2.2.1),((p0.2.2.2.2.2.2.2.2.2.2.2.1.1,(p0.2.2.2.2.2.2.2.2.2.2.2.1.2.1,())),())))))))))))),[])) none
theorem Qfh {c:Certificate}(h:JM c=true):(Qr c).length<=100000:=by
 simp only [JM,Yv,Bc,Ba] at h
 exact h.2.2.1
theorem s_f112 (c:Certificate)(h:JM c=true):Qma c=some (.t QV (ZK c),[]):=by
 have hn:c.2.2.2.2.2.2.2.2.2.2.1.length<=100000:=Qfh h
 simp only [Qma]
 rw [Ji (by omega) (by simp only [BD];omega),Qc]
 rfl
def Qmb:Ent:=Qk (.pr QV .nil) (fun x=>(JM x.1)) (fun x=>(.t QV (ZK x.1)))
theorem QyO:EM 112 Qmb:=mS g_f112 QyN [((.c 2 true 15),some QV)] false (ZW _ (fun p hp=>by cases hp)) fun m=>Qm m fun x hok=>kT (s_f112 x.1 hok)
def sealC (c:Certificate)(s:Keep):Certificate:=(c.1,(c.2.1,(c.2.2.1,(c.2.2.2.1,(c.2.2.2.2.1,(c.2.2.2.2.2.1,(c.2.2.2.2.2.2.1,(c.2.2.2.2.2.2.2.1,(c.2.2.2.2.2.2.2.2.1,(c.2.2.2.2.2.2.2.2.2.1,(c.2.2.2.2.2.2.2.2.2.2.1,(s,()))))))))))))
def EX (c:Certificate):Certificate:=sealC c (0,(0,()))
def Qmc (c:Certificate)(k:Int):Bool:= !QN (EX c)||(ilt k 0||igt k 2147483648)
abbrev VL:Certificate:=Ty.zero QV
def Wy (c:Certificate)(k:Int):Certificate×Int:=bif Qmc c k then (VL,9) else (sealC c (k,(ET (Yz (EX c)).1,())),0)
def tc_f68:TC:=aF Tryz.f68 []
def g_f68:G:=gG 35 [(112,Qmb),(113,Qd2),(114,Ql1),(115,Ql9)] (fun _ _=>none)
def r_f68 (p0:Certificate)(p1:Int):OV:=
 let a4:=((ZK p0).2)
 let a1:=((((a4.2).2).2).2)
 let a5:=(((a1.2).2).2)
 let a2:=((Yz ((ZK p0).1,(a4.1,((a4.2).1,(((a4.2).2).1,((((a4.2).2).2).1,(a1.1,((a1.2).1,(((a1.2).2).1,(a5.1,((a5.2).1,(((a5.2).2).1,((0,(0,())),(((a5.2).2).2).2))))))))))))).1)
 let a3:=(JM ((ZK p0).1,(a4.1,((a4.2).1,(((a4.2).2).1,((((a4.2).2).2).1,(a1.1,((a1.2).1,(((a1.2).2).1,(a5.1,((a5.2).1,(((a5.2).2).1,((0,(0,())),(((a5.2).2).2).2)))))))))))))
 let a6:=ByteArray.mk #[]
 br (JM p0) (br a3 (br (ine (XB ((ZK p0).1,(a4.1,((a4.2).1,(((a4.2).2).1,((((a4.2).2).2).1,(a1.1,((a1.2).1,(((a1.2).2).1,(a5.1,((a5.2).1,(((a5.2).2).1,((0,(0,())),(((a5.2).2).2).2))))))))))))) 0) (some (.tu [(.t QV (0,(a6,(a6,((0,(0,())),(0,((0,(0,())),(0,(0,(false,(0,(([]:List ByteArray),((0,(0,())),()))))))))))))),(.t tI 9)],[])) (br (ilt p1 0) (some (.tu [(.t QV (0,(a6,(a6,((0,(0,())),(0,((0,(0,())),(0,(0,(false,(0,(([]:List ByteArray),((0,(0,())),()))))))))))))),(.t tI 9)],[])) (br (igt p1 2147483648) (some (.tu [(.t QV (0,(a6,(a6,((0,(0,())),(0,((0,(0,())),(0,(0,(false,(0,(([]:List ByteArray),((0,(0,())),()))))))))))))),(.t tI 9)],[])) (br a3 (br (EU a2) (some (.tu [(.t QV ((ZK p0).1,(a4.1,((a4.2).1,(((a4.2).2).1,((((a4.2).2).2).1,(a1.1,((a1.2).1,(((a1.2).2).1,(a5.1,((a5.2).1,(((a5.2).2).1,((p1,((ET a2),())),(((a5.2).2).2).2))))))))))))),(.t tI 0)],[])) none) none)))) none) none
theorem s_f68 (c:Certificate)(k:Int)(h:Qfg c k=true):r_f68 c k=some (.tu [.t QV (Wy c k).1,.t tI (Wy c k).2],[]):=by
 have h:JM c=true:=h
 have hu:JM (EX c)=true:=h
 have e:((ZK c).1,((ZK c).2.1,((ZK c).2.2.1,((ZK c).2.2.2.1,((ZK c).2.2.2.2.1,((ZK c).2.2.2.2.2.1,((ZK c).2.2.2.2.2.2.1,((ZK c).2.2.2.2.2.2.2.1,((ZK c).2.2.2.2.2.2.2.2.1,((ZK c).2.2.2.2.2.2.2.2.2.1,((ZK c).2.2.2.2.2.2.2.2.2.2.1,((0,(0,())),()))))))))))))=EX c:=rfl
 simp only [r_f68,h,e,hu,O1,lenB_C,Qc]
 unfold Wy Qmc
 cases QN (EX c) with
 |false=>rfl
 |true=>
  rw [BG,Qf,Df]
  cases ilt k 0 with
  |true=>rfl
  |false=>
   rw [Qf,Df]
   cases igt k 2147483648<;>rfl
def Qmd:Ent:=Qk (.pr QV (.pr tI .nil)) (fun x=>(Qfg x.1 x.2.1)) (fun x=>(.tu [(.t QV ((Wy x.1 x.2.1).1)),(.t tI ((Wy x.1 x.2.1).2))]))
theorem ms_f68:EM 68 Qmd:=mS g_f68 tc_f68 [((.c 4 true 15),some QV),((.t 5),some tI)] false (gB (gD QyO (gD QkH (gD QyE (gD QyL gN))))) fun m=>Qm m fun x hok=>kT (s_f68 x.1 x.2.1 hok)
def Js (l:List Certificate):Bool:=decide (l.length<=100000)&&l.all JM
def EY (key:Keep)(id:Int)(l:List Certificate):Bool:=ieq (Qa l) 0||(((l.getD 0 VL).2.2.2.1==key)&&ieq (l.getD 0 VL).2.2.2.2.1 id)
def YV (key:Keep)(id:Int)(l:List Certificate):Bool:=JR key&&(!ine (Z5 key.1) 2&&(JY id&&(!igt (Qa l) 8&&(l.all QN&&EY key id l))))
def Uj (_key:Keep)(_id:Int)(l:List Certificate):Bool:=Js l
theorem Qme (key:Keep)(id:Int)(l:List Certificate):br (ieq (Qa l) 0) (some (V.t .bool true,([]:List VO))) (br (cIx l 0) (br ((lgt QV l 0).2.2.2.1==key) (br (cIx l 0) (some (V.t .bool (ieq (lgt QV l 0).2.2.2.2.1 id),[])) none) (some (V.t .bool false,[]))) none)=some (V.t .bool (EY key id l),[]):=by
 unfold EY
 cases l with
 |nil=>rfl
 |cons c l=>
  have h1:ieq (Qa (c::l)) 0=false:=by
   simp only [ieq,Qa,Bt,beq_eq_false_iff_ne]
   omega
  have h2:cIx (c::l) 0=true:=by simp only [cIx,Bt,Ba];omega
  rw [h1,Qf,h2,Qc,Df,Qc]
  show br (c.2.2.2.1==key) _ _=some (V.t .bool ((c.2.2.2.1==key)&&ieq c.2.2.2.2.1 id),[])
  cases c.2.2.2.1==key<;>rfl
abbrev VM:Sh:=⟨[(1,.ty tI),(2,.ty (.sl QV)),(3,.ptr 3 0),(28,.ty (.sl QV)),(29,.ty tI),(30,.ty tI)],[(3,.box Qd)]⟩
abbrev Qfi:Sh:=⟨[(6,.ty .bool)],[]⟩
abbrev Qfj:Sh:=⟨[(1,.ty tI),(2,.ty (.sl QV)),(3,.ptr 3 0)],[(3,.box Qd)]⟩
def Qfk:Fg:=VM.f
def Qmf:TC:=aF Tryz.f79 [(58,pL 0 Qfk),(933,.fg Qfj.f),(29901,.fg Qfi.f),(30,pD [(0,[]),(1,[]),(2,[]),(3,[]),(4,[]),(5,[]),(6,[]),(7,[]),(8,[3]),(9,[]),(10,[]),(11,[]),(12,[]),(13,[]),(14,[]),(15,[]),(16,[]),(17,[]),(18,[]),(19,[])] (.of [0,1,2,3,4,5,6,7,8,9,10,11,12,13,14,15,16,17,18,19]))]
def Qmg:TC:=lb 0 Qmf
def Qmh (x1:Int)(x2 x28:List Certificate)(x29 x30:Int)(y3:Keep):VS:=VM.st (x1,x2,(),x28,x29,x30,()) (y3,())
def G2 (x6:Bool):VS:=Qfi.st (x6,()) ()
def G3 (x1:Int)(x2:List Certificate)(y3:Keep):VS:=Qfj.st (x1,x2,(),()) (y3,())
def QyP:VS->Option (Bool×List (Bool×Exit×VS)):=mkL VM (fun x y=>(Qt x.2.2.2.1 x.2.2.2.2.1 x.2.2.2.2.2.1&&Js x.2.2.2.1)) (fun x y=>[((!(x.2.2.2.1.drop x.2.2.2.2.2.1.toNat).all QN),.ret,G2 (false)),(true,.exit 0,G3 (x.1) (x.2.1) (y.1))])
def Qfl:G:=gG 57 [(83,OZ),(87,EO),(126,QdH),(127,Qwm)] (Ls [QyP])
def VN (x1:Int)(x2 x28:List Certificate)(x29 x30:Int)(y3:Keep):OX:=Qv (QB Qfl Qfk Qmg) (Qmh x1 x2 x28 x29 x30 y3)
def EZ (kk:Int->List Certificate->List Certificate->Int->Int->Keep->OX)(x1:Int)(x2 x28:List Certificate)(x29 x30:Int)(y3:Keep):OX:=
 let a1:=lgt QV x28 (Int.toNat x30)
 br (ilt x30 x29) (br (cIx x28 x30) (br (JM a1) (br (ine (XB a1) 0) (some (.ret,G2 false)) (kk x1 x2 x28 x29 (Qg .i64 x30 1) y3)) none) none) (some (.exit 0,G3 x1 x2 y3))
def VP (x1:Int)(x2 x28:List Certificate)(x29 x30:Int)(y3:Keep):OX:=br (!(x28.drop x30.toNat).all QN) (some (.ret,G2 (false)))<|some (.exit 0,G3 (x1) (x2) (y3))
theorem Qmi (x1:Int)(x2 x28:List Certificate)(x29 x30:Int)(y3:Keep):VN x1 x2 x28 x29 x30 y3=EZ VN x1 x2 x28 x29 x30 y3:=lnT (x:=EZ (fun x1 x2 x28 x29 x30 y3=>some (.normal,Qmh x1 x2 x28 x29 x30 y3)) x1 x2 x28 x29 x30 y3) (by simp only [EZ,nxA];rfl)
def r_f79 (p0:Keep)(p1:Int)(p2:List Certificate):OV:=
 let a1:=((((lgt QV (p2) (Int.toNat 0)).2).2).2)
 br (!(JR p0)) (some (.t .bool false,[])) (br (ine (Z5 p0.1) 2) (some (.t .bool false,[])) (br (!(JY p1)) (some (.t .bool false,[])) (br (igt (Qa p2) 8) (some (.t .bool false,[])) (br (Qt p2 (Qa p2) (0:Int)&&Js p2) (br (!(p2.drop (0:Int).toNat).all QN) (some (.t .bool (false),[])) (br (ieq (Qa (p2)) 0) (some (.t .bool true,[])) (br (cIx (p2) 0) (br (and (ieq ((a1.1).1) ((p0).1)) (and (ieq (((a1.1).2).1) (((p0).2).1)) true)) (br (cIx (p2) 0) (some (.t .bool (ieq ((a1.2).1) (p1)),[])) none) (some (.t .bool false,[]))) none))) none))))
theorem QyQ (x1:Int)(x2 x28:List Certificate)(x29 x30:Int)(y3:Keep)(h:(Qt x28 x29 x30&&Js x28)=true):VN x1 x2 x28 x29 x30 y3=VP x1 x2 x28 x29 x30 y3:=by
 simp only [Bc] at h
 obtain ⟨h0,hc⟩:=h
 obtain ⟨rfl,h3,k,rfl,hk⟩:=Jy h0
 clear h0
 simp only [Js,Bc,Bg] at hc
 refine QR x28 (fun k=>VN x1 x2 x28 (x28.length:Int) (k:Int) y3=VP x1 x2 x28 (x28.length:Int) (k:Int) y3) ?_ ?_ k hk
 ·rw [Qmi]
  simp only [EZ,VP,QC,BV,B2,Qf,Bd,BQ,Dw,BG]
 ·intro k hk ih
  rw [Qmi]
  have hx:=hc.2 x28[k] (Bw hk)
  simp only [EZ,QC,QI,hk,Bv,Qc,Bd,QQ (show k<4611686018427387904 by omega),QP (y:=QV) hk,hx,O1,ih]
  simp only [VP,Bd,Bj hk,BU]
  cases QN x28[k]<;>rfl
theorem QyR:LO Qfl Qfk Qmg 0:=QH (s:=VM) fun x y h _ q=>by simp only [QF,QG] at q;exact (QyQ x.1 x.2.1 x.2.2.2.1 x.2.2.2.2.1 x.2.2.2.2.2.1 y.1 h).trans q
theorem s_f79 (key:Keep)(id:Int)(l:List Certificate)(h:Uj key id l=true):r_f79 key id l=some (.t .bool (YV key id l),[]):=by
 have h:Js l=true:=h
 have hl:l.length<=100000:=by simp only [Js,Bc,Ba] at h;exact h.1
 simp only [r_f79,Jz hl,h,B3,Qc,Bu,BA,QvY]
 unfold YV
 refine (brB<|brB<|brB<|brB<|brB (Qme key id l)).trans ?_
 simp only [Bool.not_not]
def Qmj:Ent:=Qk (.pr Qd (.pr tI (.pr (.sl QV) .nil))) (fun x=>(Uj x.1 x.2.1 x.2.2.1)) (fun x=>(.t .bool (YV x.1 x.2.1 x.2.2.1)))
theorem ms_f79:EM 79 Qmj:=mS (lk:=lkL (lkc QyR lkn)) Qfl Qmf [((.t 6),some .bool)] false (gB (gD QdT (gD Vr (gD Qkk (gD QIt gN))))) fun m=>Qm m fun x hok=>kT (s_f79 x.1 x.2.1 x.2.2.1 hok)
abbrev VQ:Sh:=⟨[(1,.ty tI),(2,.ty (.sl QV)),(3,.ptr 3 0),(7,.ty tI)],[(3,.box Qd)]⟩
def Qfm:Fg:=VQ.f
def Qmk:TC:=aF Tryz.f100 [(58,pL 0 Qfm),(931,.fg Qfj.f),(7461,.fg Qfi.f),(30,pD [(0,[]),(1,[]),(2,[]),(3,[]),(4,[]),(5,[]),(6,[]),(7,[]),(8,[3]),(9,[]),(10,[]),(11,[]),(12,[]),(13,[]),(14,[]),(15,[]),(16,[]),(17,[]),(18,[]),(19,[])] (.of [0,1,2,3,4,5,6,7,8,9,10,11,12,13,14,15,16,17,18,19]))]
def Qml:TC:=lb 0 Qmk
def Qmm (x1:Int)(x2:List Certificate)(x7:Int)(y3:Keep):VS:=VQ.st (x1,x2,(),x7,()) (y3,())
def QyS:VS->Option (Bool×List (Bool×Exit×VS)):=mkL VQ (fun x y=>(decide (0<=x.2.2.2.1/\x.2.2.2.1<=x.2.1.length)&&Js x.2.1)) (fun x y=>[((!(x.2.1.drop x.2.2.2.1.toNat).all QN),.ret,G2 (false)),(true,.exit 0,G3 (x.1) (x.2.1) (y.1))])
def Qfn:G:=gG 55 [(113,Qd2),(140,QkC)] (Ls [QyS])
def VR (x1:Int)(x2:List Certificate)(x7:Int)(y3:Keep):OX:=Qv (QB Qfn Qfm Qml) (Qmm x1 x2 x7 y3)
def E0 (kk:Int->List Certificate->Int->Keep->OX)(x1:Int)(x2:List Certificate)(x7:Int)(y3:Keep):OX:=
 let a1:=lgt QV x2 (Int.toNat x7)
 br (ilt x7 (Qa x2)) (br (cIx x2 x7) (br (JM a1) (br (ine (XB a1) 0) (some (.ret,G2 false)) (kk x1 x2 (Qg .i64 x7 1) y3)) none) none) (some (.exit 0,G3 x1 x2 y3))
def VT (x1:Int)(x2:List Certificate)(x7:Int)(y3:Keep):OX:=br (!(x2.drop x7.toNat).all QN) (some (.ret,G2 (false)))<|some (.exit 0,G3 (x1) (x2) (y3))
theorem Qmn (x1:Int)(x2:List Certificate)(x7:Int)(y3:Keep):VR x1 x2 x7 y3=E0 VR x1 x2 x7 y3:=lnT (x:=E0 (fun x1 x2 x7 y3=>some (.normal,Qmm x1 x2 x7 y3)) x1 x2 x7 y3) (by simp only [E0,nxA];rfl)
def Qmo (p0:Keep)(p1:Int)(p2:List Certificate):OV:=
 let a1:=((((lgt QV (p2) (Int.toNat 0)).2).2).2)
 br (!(GE p0)) (some (.t .bool false,[])) (br (ilt p1 0) (some (.t .bool false,[])) (br (igt p1 2147483648) (some (.t .bool false,[])) (br (igt (Qa p2) 8) (some (.t .bool false,[])) (br (decide (0<=(0:Int)/\(0:Int)<=p2.length)&&Js p2) (br (!(p2.drop (0:Int).toNat).all QN) (some (.t .bool (false),[])) (br (ieq (Qa (p2)) 0) (some (.t .bool true,[])) (br (cIx (p2) 0) (br (and (ieq ((a1.1).1) ((p0).1)) (and (ieq (((a1.1).2).1) (((p0).2).1)) true)) (br (cIx (p2) 0) (some (.t .bool (ieq ((a1.2).1) (p1)),[])) none) (some (.t .bool false,[]))) none))) none))))
theorem QyT (x1:Int)(x2:List Certificate)(x7:Int)(y3:Keep)(h:(decide (0<=x7/\x7<=x2.length)&&Js x2)=true):VR x1 x2 x7 y3=VT x1 x2 x7 y3:=by
 simp only [Js,Bc,Ba,Bg] at h
 obtain ⟨⟨h0,h1⟩,h3,hc⟩:=h
 obtain ⟨k,rfl⟩:=Bq h0
 refine QR x2 (fun k=>VR x1 x2 (k:Int) y3=VT x1 x2 (k:Int) y3) ?_ ?_ k (by omega)
 ·rw [Qmn]
  simp only [E0,VT,show ilt (x2.length:Int) (Qa x2)=false from Bn (by simp only [Qa];omega),Qf,Bd,BQ,Dw,BG]
 ·intro k hk ih
  rw [Qmn]
  have hx:=hc x2[k] (Bw hk)
  simp only [E0,show ilt (k:Int) (Qa x2)=true from Be (by simp only [Qa];omega),QI,hk,Bv,Qc,Bd,QQ (show k<4611686018427387904 by omega),QP (y:=QV) hk,hx,O1,ih]
  simp only [VT,Bd,Bj hk,BU]
  cases QN x2[k]<;>rfl
theorem QyU:LO Qfn Qfm Qml 0:=QH (s:=VQ) fun x y h _ q=>by simp only [QF,QG] at q;exact (QyT x.1 x.2.1 x.2.2.2.1 y.1 h).trans q
theorem s_f100 (key:Keep)(id:Int)(l:List Certificate)(h:Uj key id l=true):Qmo key id l=some (.t .bool (YV key id l),[]):=by
 have h:Js l=true:=h
 have hl:l.length<=100000:=by simp only [Js,Bc,Ba] at h;exact h.1
 have hd:(0:Int)<=0/\(0:Int)<=l.length:=⟨by omega,by omega⟩
 simp only [Qmo,h,Be hd,B3,Qc,Bu,BA,QvY]
 unfold YV GE Z6 JY
 refine (brB<|brB<|brB<|brB<|brB (Qme key id l)).trans ?_
 simp only [Bool.not_not,GD,Bool.and_assoc]
def Qmp:Ent:=Qk (.pr Qd (.pr tI (.pr (.sl QV) .nil))) (fun x=>(Uj x.1 x.2.1 x.2.2.1)) (fun x=>(.t .bool (YV x.1 x.2.1 x.2.2.1)))
theorem QyV:EM 100 Qmp:=mS (lk:=lkL (lkc QyU lkn)) Qfn Qmk [((.t 6),some .bool)] false (gB (gD QkH (gD Qwi gN))) fun m=>Qm m fun x hok=>kT (s_f100 x.1 x.2.1 x.2.2.1 hok)
end
end Go.Proofs.YtmjnnemhoeolgaaGreat.K
noncomputable section
namespace Go.Proofs
open Go.Shelf
def Tryz.lays137_ren:Go.Shelf.Ren:=⟨fun|137=>163|217=>195|266=>214|n=>n,fun|9=>9|5=>5|3=>3|n=>n,fun|n=>n⟩
theorem Tryz.lays137:Go.Proofs.Lays.n137 Tryz.prog Tryz.lays137_ren:={
 mixed:=by kernel_rfl
 f137:=Tryz.func163.trans (congrArg some (by kernel_rfl))
 f217:=Tryz.func195.trans (congrArg some (by kernel_rfl))
 f266:=Tryz.func214.trans (congrArg some (by kernel_rfl))
 t3:=Tryz.underlying3
 a3:=Tryz.isAgg3
 z3:=Tryz.sizeOf3
 v3:=Tryz.zeroValue3
 t5:=Tryz.underlying5
 a5:=Tryz.isAgg5
 z5:=Tryz.sizeOf5
 v5:=Tryz.zeroValue5
 t9:=Tryz.underlying9
 a9:=Tryz.isAgg9
 z9:=Tryz.sizeOf9
 v9:=Tryz.zeroValue9}
end Go.Proofs
namespace Go.Proofs.YtmjnnemhoeolgaaGreat.K
open Go.RowKit Go.Shelf
noncomputable section
def ixB (s:ByteArray)(c:Int):Int:=Lib.indexByte s.data.toList c.toNat.toUInt8
def QnT:Ent:=Qk (.pr .str (.pr (.int .u8) .nil)) (fun x=>true) (fun x=>(.t tI (ixB x.1 x.2.1)))
theorem Qz7:JZ Tryz.prog 163:= .inr ⟨by decide,_,Tryz.func163,by kernel_rfl,by kernel_rfl⟩
theorem Qz8:Qz Tryz.prog 163 (Qy QnT):=Qpo fun x hok X w σ vs hfin hc=>by
 obtain ⟨s,c,u⟩:=x
 simp only [Ty.canon,V.ds,V.d,Ty.d,Cs,C] at hc
 obtain ⟨v1,r1,rfl,⟨rfl,_⟩,v2,r2,rfl,⟨rfl,_⟩,rfl⟩:=hc
 refine (Any.strings_IndexByte Tryz.lays137 s c w).mono ?_
 rintro e w' ⟨rfl,rfl⟩
 refine ⟨_,rfl, ?_,Below.refl _ _⟩
 simp only [V.d,Ty.d,C]
 exact ⟨rfl,rfl⟩
def Fj (c:Int)(o:ByteArray):Bool:=(ige c 97&&ile c 122)||((ige c 65&&ile c 90)||((ige c 48&&ile c 57)||ige (ixB o c) 0))
def Qz9:TC:=aF Tryz.f123 []
def g_f123:G:=gG 33 [(163,QnT)] (fun _ _=>none)
def Qge (p0:Int)(p1:ByteArray):OV:=br (ige p0 48) (br (ile p0 57) (some (.t .bool true,[])) (some (.t .bool (ige (ixB p1 p0) 0),[]))) (some (.t .bool (ige (ixB p1 p0) 0),[]))
def Qgf (p0:Int)(p1:ByteArray):OV:=br (ige p0 65) (br (ile p0 90) (some (.t .bool true,[])) (Qge p0 p1)) (Qge p0 p1)
def QnU (p0:Int)(p1:ByteArray):OV:=br (ige p0 97) (br (ile p0 122) (some (.t .bool true,[])) (Qgf p0 p1)) (Qgf p0 p1)
theorem brO {a b r:Bool}{X:OV}(h:X=some (.t .bool r,[])):br a (br b (some (.t .bool true,[])) X) X=some (.t .bool ((a&&b)||r),[]):=by
 subst h
 cases a<;>cases b<;>rfl
theorem s_f123 (c:Int)(o:ByteArray):QnU c o=some (.t .bool (Fj c o),[]):=by
 simp only [QnU,Qgf,Qge]
 exact brO (brO (brO rfl))
def QnV:Ent:=Qk (.pr (.int .u8) (.pr .str .nil)) (fun x=>true) (fun x=>(.t .bool (Fj x.1 x.2.1)))
theorem QAa:EM 123 QnV:=mS g_f123 Qz9 [((.t 4),some .bool)] false (gB (gC Qz7 Qz8 gN)) fun m=>Qm m fun x _=>kT (s_f123 x.1 x.2.1)
def Yb (c:Int):Bool:= !(ilt c 97||igt c 122)||(!(ilt c 65||igt c 90)||(!(ilt c 48||igt c 57)||(ieq c 45||(ieq c 95||ieq c 46))))
def XH (s:ByteArray):Bool:=(QS s).all Yb&&decide (1<=s.size/\s.size<=32)
set_option maxRecDepth 100000 in
theorem QAb:((List.range 256).all fun n=>Fj (n:Int) (ByteArray.mk #[45,95,46])==Yb (n:Int))=true:=by kernel_rfl
theorem QAc {s:ByteArray}{c:Int}(h:c∈QS s):Fj c (ByteArray.mk #[45,95,46])=Yb c:=by
 obtain ⟨b,_,rfl⟩:=B5.1 h
 have:=Bg.1 QAb b.toNat (by rw [Dd];exact b.toNat_lt)
 exact eq_of_beq this
abbrev Qax:Sh:=⟨[(0,.ty .str),(6,.ty (.sl (.int .u8))),(7,.ty tI),(8,.ty tI)],[]⟩
abbrev Ii:Sh:=⟨[(2,.ty .bool)],[]⟩
abbrev QnW:Sh:=⟨[(0,.ty .str)],[]⟩
def Qgg:Fg:=Qax.f
def QnX:TC:=aF Tryz.f76 [(26,pL 0 Qgg),(421,.fg QnW.f),(13517,.fg Ii.f)]
def QnY:TC:=lb 0 QnX
def QnZ (x0:ByteArray)(x6:List Int)(x7 x8:Int):VS:=Qax.st (x0,x6,x7,x8,()) ()
def YZ (x2:Bool):VS:=Ii.st (x2,()) ()
def Qgh (x0:ByteArray):VS:=QnW.st (x0,()) ()
def QAd:VS->Option (Bool×List (Bool×Exit×VS)):=mkL Qax (fun x y=>(Wi x.2.1 x.2.2.1 x.2.2.2.1&&Xh x.2.1 (QS x.1))) (fun x y=>[((!((x.2.1.drop x.2.2.2.1.toNat).all Yb)),.ret,YZ (false)),(true,.exit 0,Qgh (x.1))])
def Qgi:G:=gG 24 [(123,QnV),(31080144,OT)] (Ls [QAd])
def Qay (x0:ByteArray)(x6:List Int)(x7 x8:Int):OX:=Qv (QB Qgi Qgg QnY) (QnZ x0 x6 x7 x8)
def Ij (kk:ByteArray->List Int->Int->Int->OX)(x0:ByteArray)(x6:List Int)(x7 x8:Int):OX:=br (ilt x8 x7) (br (cIx x6 x8) (br (!(Fj (lgt (.int .u8) x6 (Int.toNat x8)) (ByteArray.mk #[45,95,46]))) (some (.ret,YZ false)) (kk x0 x6 x7 (Qg .i64 x8 1))) none) (some (.exit 0,Qgh x0))
def Qaz (x0:ByteArray)(x6:List Int)(x7 x8:Int):OX:=br (!((x6.drop x8.toNat).all Yb)) (some (.ret,YZ (false)))<|some (.exit 0,Qgh (x0))
theorem Qn0 (x0:ByteArray)(x6:List Int)(x7 x8:Int):Qay x0 x6 x7 x8=Ij Qay x0 x6 x7 x8:=lnT (x:=Ij (fun x0 x6 x7 x8=>some (.normal,QnZ x0 x6 x7 x8)) x0 x6 x7 x8) (by simp only [Ij,nxA];rfl)
def r_f76 (p0:ByteArray):OV:=br (Y5 p0) (br (Wi (QS p0) (Qa (QS p0)) (0:Int)&&Xh (QS p0) (QS p0)) (br (!(((QS p0).drop (0:Int).toNat).all Yb)) (some (.t .bool (false),[])) (br (ige (JQ (p0)) 1) (some (.t .bool (ile (JQ (p0)) 32),[])) (some (.t .bool false,[])))) none) none
theorem QAe (x0:ByteArray)(x6:List Int)(x7 x8:Int)(h:(Wi x6 x7 x8&&Xh x6 (QS x0))=true):Qay x0 x6 x7 x8=Qaz x0 x6 x7 x8:=by
 simp only [Bc] at h
 obtain ⟨h,hs⟩:=h
 have hs:=Qky hs
 obtain ⟨rfl,h3,k,rfl,hk⟩:=Qrq h
 clear h
 refine QR x6 (fun k=>Qay x0 x6 (x6.length:Int) (k:Int)=Qaz x0 x6 (x6.length:Int) (k:Int)) ?_ ?_ k hk
 ·rw [Qn0]
  simp [Ij,Qaz,QC,Qf]
 ·intro k hk ih
  rw [Qn0]
  have hw:Fj x6[k] (ByteArray.mk #[45,95,46])=Yb x6[k]:=QAc (s:=x0) (by rw [←hs];exact Bw hk)
  simp only [Ij,QC,QI,hk,Bv,Qc,Bd,QbR (show k<9223372036854775807 by omega),QP (y:= .int .u8) hk,ih,hw]
  simp only [Qaz,Bd,Bj hk,BU]
  cases Yb x6[k]<;>rfl
theorem QAf:LO Qgi Qgg QnY 0:=QH (s:=Qax) fun x y h _ q=>by simp only [QF,QG] at q;exact (QAe x.1 x.2.1 x.2.2.1 x.2.2.2.1 h).trans q
theorem s_f76 (s:ByteArray)(h:Ja s=true):r_f76 s=some (.t .bool (XH s),[]):=by
 simp only [Ja,Ba] at h
 have hl:=Gq s
 simp only [r_f76,show Y5 s=true from Be (by omega),Qrr (show (QS s).length<=9223372036854775807 by omega),Qkx,B3,Qc,Bu,BA,XH]
 cases (QS s).all Yb with
 |false=>rfl
 |true=>
  simp only [BG,Qf,BE]
  refine QY (fun g=> ?_) (fun g=> ?_)
  ·simp only [ige,JQ,Ba] at g
   apply G8
   rw [DD]
   simp only [ile,JQ,Ba]
   omega
  ·simp only [ige,JQ,Bo] at g
   apply G8
   rw [eq_comm,Bo]
   omega
def Qn1:Ent:=Qk (.pr .str .nil) (fun x=>(Ja x.1)) (fun x=>(.t .bool (XH x.1)))
theorem ms_f76:EM 76 Qn1:=mS (lk:=lkL (lkc QAf lkn)) Qgi QnX [((.t 2),some .bool)] false (gB (gD QAa (gC QdE QdF gN))) fun m=>Qm m fun x hok=>kT (s_f76 x.1 hok)
abbrev QaA:Sh:=⟨[(0,.ty .str),(3,.ty tI)],[]⟩
abbrev Fk:Sh:=⟨[],[]⟩
def Qgj:Fg:=QaA.f
def Qn2:TC:=aF Tryz.f98 [(58,pL 0 Qgj),(931,.fg Fk.f),(14925,.fg Ii.f)]
def Qn3:TC:=lb 0 Qn2
def Qn4 (x0:ByteArray)(x3:Int):VS:=QaA.st (x0,x3,()) ()
def Qgk  : VS:=Fk.st () ()
def QAg:VS->Option (Bool×List (Bool×Exit×VS)):=mkL QaA (fun x y=>(Ja x.1&&decide (0<=x.2.1/\x.2.1<=x.1.size))) (fun x y=>[((!(((QS x.1).drop x.2.1.toNat).all Yb)),.ret,YZ (false)),(true,.exit 0,Qgk)])
def Qgl:G:=gG 56 [] (Ls [QAg])
def QaB (x0:ByteArray)(x3:Int):OX:=Qv (QB Qgl Qgj Qn3) (Qn4 x0 x3)
def QaC (kk:ByteArray->Int->OX)(x0:ByteArray)(x3:Int):OX:=
 let a1:=Qg .i64 x3 1
 br (ine (sgt x0 x3) 45) (br (ine (sgt x0 x3) 95) (br (ine (sgt x0 x3) 46) (some (.ret,YZ false)) (kk x0 a1)) (kk x0 a1)) (kk x0 a1)
def QaD (kk:ByteArray->Int->OX)(x0:ByteArray)(x3:Int):OX:=br (ilt (sgt x0 x3) 48) (QaC kk x0 x3) (br (igt (sgt x0 x3) 57) (QaC kk x0 x3) (kk x0 (Qg .i64 x3 1)))
def QaE (kk:ByteArray->Int->OX)(x0:ByteArray)(x3:Int):OX:=br (ilt (sgt x0 x3) 65) (QaD kk x0 x3) (br (igt (sgt x0 x3) 90) (QaD kk x0 x3) (kk x0 (Qg .i64 x3 1)))
def Ik (kk:ByteArray->Int->OX)(x0:ByteArray)(x3:Int):OX:=br (ilt x3 (JQ x0)) (br (cSx x0 x3) (br (ilt (sgt x0 x3) 97) (QaE kk x0 x3) (br (igt (sgt x0 x3) 122) (QaE kk x0 x3) (kk x0 (Qg .i64 x3 1)))) none) (some (.exit 0,Qgk))
def QaF (x0:ByteArray)(x3:Int):OX:=br (!(((QS x0).drop x3.toNat).all Yb)) (some (.ret,YZ (false)))<|some (.exit 0,Qgk)
theorem Qn5 (x0:ByteArray)(x3:Int):QaB x0 x3=Ik QaB x0 x3:=lnT (x:=Ik (fun x0 x3=>some (.normal,Qn4 x0 x3)) x0 x3) (by simp only [Ik,QaE,QaD,QaC,nxA];rfl)
def r_f98 (p0:ByteArray):OV:=br (ilt (JQ p0) 1) (some (.t .bool false,[])) (br (igt (JQ p0) 32) (some (.t .bool false,[])) (br (Ja p0&&decide (0<=(0:Int)/\(0:Int)<=p0.size)) (br (!(((QS p0).drop (0:Int).toNat).all Yb)) (some (.t .bool (false),[])) (some (.t .bool true,[]))) none))
theorem QAh {β:Type}(c:Int)(bad ok:Option β):(br (ilt c 97) (br (ilt c 65) (br (ilt c 48) (br (ine c 45) (br (ine c 95) (br (ine c 46) bad ok) ok) ok) (br (igt c 57) (br (ine c 45) (br (ine c 95) (br (ine c 46) bad ok) ok) ok) ok)) (br (igt c 90) (br (ilt c 48) (br (ine c 45) (br (ine c 95) (br (ine c 46) bad ok) ok) ok) (br (igt c 57) (br (ine c 45) (br (ine c 95) (br (ine c 46) bad ok) ok) ok) ok)) ok)) (br (igt c 122) (br (ilt c 65) (br (ilt c 48) (br (ine c 45) (br (ine c 95) (br (ine c 46) bad ok) ok) ok) (br (igt c 57) (br (ine c 45) (br (ine c 95) (br (ine c 46) bad ok) ok) ok) ok)) (br (igt c 90) (br (ilt c 48) (br (ine c 45) (br (ine c 95) (br (ine c 46) bad ok) ok) ok) (br (igt c 57) (br (ine c 45) (br (ine c 95) (br (ine c 46) bad ok) ok) ok) ok)) ok)) ok))=br (Yb c) ok bad:=by
 simp only [Yb,GD]
 cases ilt c 97<;>cases igt c 122<;>cases ilt c 65<;>cases igt c 90<;>cases ilt c 48<;>cases igt c 57<;>cases ieq c 45<;>cases ieq c 95<;>cases ieq c 46<;>rfl
theorem QAi (x0:ByteArray)(x3:Int)(h:(Ja x0&&decide (0<=x3/\x3<=x0.size))=true):QaB x0 x3=QaF x0 x3:=by
 simp only [Ja,Bc,Ba] at h
 obtain ⟨h0,h1,h2⟩:=h
 obtain ⟨k,rfl⟩:=Bq h1
 have hl:=Gq x0
 refine QR (QS x0) (fun k=>QaB x0 (k:Int)=QaF x0 (k:Int)) ?_ ?_ k (by omega)
 ·rw [Qn5]
  simp [Ik,QaF,ilt,JQ,hl,Qf,DT (show (QS x0).length<=x0.size by omega)]
 ·intro k hk ih
  have hk2:k<x0.size:=by omega
  rw [Qn5]
  simp only [Ik,QaE,QaD,QaC,show ilt (k:Int) (JQ x0)=true from by simp only [ilt,JQ,Ba];omega,show cSx x0 (k:Int)=true from by simp only [cSx,Ba];omega,Qc,Qrx hk2,QbR (show k<9223372036854775807 by omega),ih,QAh]
  simp only [QaF,Bd,Bj hk,BU]
  cases Yb (QS x0)[k]<;>rfl
theorem QAj:LO Qgl Qgj Qn3 0:=QH (s:=QaA) fun x y h _ q=>by simp only [QF,QG] at q;exact (QAi x.1 x.2.1 h).trans q
theorem s_f98 (s:ByteArray)(h:Ja s=true):r_f98 s=some (.t .bool (XH s),[]):=by
 simp only [r_f98]
 unfold XH
 refine QY (fun g=> ?_) (fun g=>QY (fun g2=> ?_) (fun g2=> ?_))
 ·simp only [ilt,JQ,Ba] at g
  rw [Bn (show ¬ (1<=s.size/\s.size<=32) by omega),DL]
 ·simp only [igt,JQ,Ba] at g2
  rw [Bn (show ¬ (1<=s.size/\s.size<=32) by omega),DL]
 ·simp only [ilt,igt,JQ,Bo] at g g2
  rw [h,Be (show (0:Int)<=0/\(0:Int)<=s.size by omega),Be (show 1<=s.size/\s.size<=32 by omega),B6,B6,Qc,Bu,BA]
  cases (QS s).all Yb<;>rfl
def Qn6:Ent:=Qk (.pr .str .nil) (fun x=>(Ja x.1)) (fun x=>(.t .bool (XH x.1)))
theorem ms_f98:EM 98 Qn6:=mS (lk:=lkL (lkc QAj lkn)) Qgl Qn2 [((.t 2),some .bool)] false (gB gN) fun m=>Qm m fun x hok=>kT (s_f98 x.1 hok)
def JU {α:Type}(l:List α):Bool:=decide (l.length<=100000)
def Yc (l:List Int)(k:Nat):Bool:=(List.range' k (l.length-k)).all fun j=>decide (j=0)||ilt (l.getD (j-1) 0) (l.getD j 0)
def Y0 (l:List Int):Bool:=Yc l 0
theorem Qgm (l:List Int):Yc l l.length=true:=by
 unfold Yc
 rw [Nat.sub_self]
 rfl
theorem Qgn {l:List Int}{k:Nat}(hk:k<l.length):Yc l k=((decide (k=0)||ilt (l.getD (k-1) 0) l[k])&&Yc l (k+1)):=by
 have:l.length-k=(l.length-(k+1))+1:=by omega
 unfold Yc
 rw [this,Du,BU]
 simp only [Bk,Bf hk,BI]
theorem Qgo {β:Type}{l:List Int}{k:Nat}(hk:k<l.length)(hb:k<4611686018427387904)(bad ok:Option β):
  br (igt (k:Int) 0) (br (cIx l (Jc .i64 (k:Int) 1)) (br (ige (lgt tI l (Int.toNat (Jc .i64 (k:Int) 1))) l[k]) bad ok) none) ok=br (decide (k=0)||ilt (l.getD (k-1) 0) l[k]) ok bad:=by
 by_cases h0:k=0
 ·subst h0
  rw [show igt ((0:Nat):Int) 0=false from rfl,Qf,Be rfl,Bool.true_or,Qc]
 ·have e:Jc .i64 (k:Int) 1=((k-1:Nat):Int):=by rw [XG (by omega)];omega
  rw [show igt (k:Int) 0=true from Be (by omega),Qc,e,Bd,QI,Be (show k-1<l.length by omega),Qc,Bn h0,Df,QdS]
  show br (!ilt (l.getD (k-1) 0) l[k]) bad ok=_
  cases ilt (l.getD (k-1) 0) l[k]<;>rfl
abbrev QaG:Sh:=⟨[(0,.ty (.sl tI)),(5,.ty tI),(6,.ty tI)],[]⟩
def Qgp:Fg:=QaG.f
def Qn7:TC:=aF Tryz.f78 [(26,pL 0 Qgp),(421,.fg Fk.f),(3378,pD [(0,[]),(1,[]),(2,[]),(3,[]),(4,[]),(5,[]),(6,[]),(7,[]),(8,[]),(9,[]),(10,[]),(11,[]),(12,[]),(13,[])] (.of [0,1,2,3,4,5,6,7,8,9,10,11,12,13])),(13517,.fg Ii.f)]
def Qn8:TC:=lb 0 Qn7
def Qn9 (x0:List Int)(x5 x6:Int):VS:=QaG.st (x0,x5,x6,()) ()
def Qgq  : VS:=Fk.st () ()
def QAk:VS->Option (Bool×List (Bool×Exit×VS)):=mkL QaG (fun x y=>(Qt x.1 x.2.1 x.2.2.1)) (fun x y=>[((!Yc x.1 x.2.2.1.toNat),.ret,YZ (false)),(true,.exit 0,Qgq)])
def Qgr:G:=gG 24 [] (Ls [QAk])
def QaH (x0:List Int)(x5 x6:Int):OX:=Qv (QB Qgr Qgp Qn8) (Qn9 x0 x5 x6)
def Il (kk:List Int->Int->Int->OX)(x0:List Int)(x5 x6:Int):OX:=br (ilt x6 x5) (br (igt x6 0) (br (cIx x0 (Jc .i64 x6 1)) (br (cIx x0 x6) (br (ige (lgt tI x0 (Int.toNat (Jc .i64 x6 1))) (lgt tI x0 (Int.toNat x6))) (some (.ret,YZ false)) (kk x0 x5 (Qg .i64 x6 1))) none) none) (kk x0 x5 (Qg .i64 x6 1))) (some (.exit 0,Qgq))
def QaI (x0:List Int)(x5 x6:Int):OX:=br (!Yc x0 x6.toNat) (some (.ret,YZ (false)))<|some (.exit 0,Qgq)
theorem Qoa (x0:List Int)(x5 x6:Int):QaH x0 x5 x6=Il QaH x0 x5 x6:=lnT (x:=Il (fun x0 x5 x6=>some (.normal,Qn9 x0 x5 x6)) x0 x5 x6) (by simp only [Il,nxA];rfl)
def r_f78 (p0:List Int):OV:=br (Qt p0 (Qa p0) (0:Int)) (br (!Yc p0 (0:Int).toNat) (some (.t .bool (false),[])) (some (.t .bool true,[]))) none
theorem QAl (x0:List Int)(x5 x6:Int)(h:(Qt x0 x5 x6)=true):QaH x0 x5 x6=QaI x0 x5 x6:=by
 obtain ⟨rfl,h3,k,rfl,hk⟩:=Jy h
 clear h
 refine QR x0 (fun k=>QaH x0 (x0.length:Int) (k:Int)=QaI x0 (x0.length:Int) (k:Int)) ?_ ?_ k hk
 ·rw [Qoa]
  simp only [Il,QaI,QC,BV,B2,Qf,Bd,Qgm,BG]
 ·intro k hk ih
  rw [Qoa]
  simp only [Il,QC,QI,hk,Bv,Qc,Bd,QQ (show k<4611686018427387904 by omega),QP (y:=tI) hk,ih,Qgo hk (show k<4611686018427387904 by omega)]
  simp only [QaI,Bd,Qgn hk]
  cases decide (k=0)||ilt (x0.getD (k-1) 0) x0[k]<;>rfl
theorem QAm:LO Qgr Qgp Qn8 0:=QH (s:=QaG) fun x y h _ q=>by simp only [QF,QG] at q;exact (QAl x.1 x.2.1 x.2.2.1 h).trans q
theorem s_f78 (l:List Int)(h:JU l=true):r_f78 l=some (.t .bool (Y0 l),[]):=by
 simp only [JU,Ba] at h
 simp only [r_f78,Jz h,Qc,Bu]
 unfold Y0
 cases Yc l 0<;>rfl
def Qob:Ent:=Qk (.pr (.sl tI) .nil) (fun x=>(JU x.1)) (fun x=>(.t .bool (Y0 x.1)))
theorem ms_f78:EM 78 Qob:=mS (lk:=lkL (lkc QAm lkn)) Qgr Qn7 [((.t 2),some .bool)] false (gB gN) fun m=>Qm m fun x hok=>kT (s_f78 x.1 hok)
def XI (a:Int):Bool:=ieq (Z5 a) 1
def tc_f84:TC:=aF Tryz.f84 []
def g_f84:G:=gG 6 [(126,QdH)] (fun _ _=>none)
def r_f84 (p0:Int):OV:=some (.t .bool (ieq (Z5 p0) 1),[])
theorem s_f84 (a:Int):r_f84 a=some (.t .bool (XI a),[]):=rfl
def Qoc:Ent:=Qk (.pr tI .nil) (fun x=>true) (fun x=>(.t .bool (XI x.1)))
theorem ms_f84:EM 84 Qoc:=mS g_f84 tc_f84 [((.t 2),some .bool)] false (gB (gD Qkk gN)) fun m=>Qm m fun x _=>kT (s_f84 x.1)
def Ym (l:List Int)(k:Nat):Bool:=(List.range' k (l.length-k)).all fun j=>ieq (QW (l.getD j 0)).2 0&& !QO (l.take j) (l.getD j 0)
def ZA (l:List Int):Bool:=Ym l 0
theorem Qod (l:List Int):Ym l l.length=true:=by
 unfold Ym
 rw [Nat.sub_self]
 rfl
theorem Qoe {l:List Int}{k:Nat}(hk:k<l.length):Ym l k=((ieq (QW l[k]).2 0&& !QO (l.take k) l[k])&&Ym l (k+1)):=by
 have:l.length-k=(l.length-(k+1))+1:=by omega
 unfold Ym
 rw [this,Du,BU]
 simp only [Bk,Bf hk,BI]
theorem Qof (l:List Int)(k:Nat):lsl l 0 (k:Int)=l.take k:=by
 simp [lsl]
theorem Qog {l:List Int}{k:Nat}(hk:k<=l.length):cSl l 0 (k:Int) ((List.length l:Nat):Int)=true:=by
 simp only [cSl,Ba]
 omega
abbrev QaJ:Sh:=⟨[(0,.ty (.sl tI)),(7,.ty (.sl tI)),(8,.ty tI),(9,.ty tI)],[]⟩
def Qgs:Fg:=QaJ.f
def Qoh:TC:=aF Tryz.f77 [(26,pL 0 Qgs),(421,.fg Fk.f),(27037,.fg Ii.f)]
def Qoi:TC:=lb 0 Qoh
def Qoj (x0 x7:List Int)(x8 x9:Int):VS:=QaJ.st (x0,x7,x8,x9,()) ()
def Qgt  : VS:=Fk.st () ()
def QAn:VS->Option (Bool×List (Bool×Exit×VS)):=mkL QaJ (fun x y=>(Qt x.2.1 x.2.2.1 x.2.2.2.1&&Xh x.1 x.2.1)) (fun x y=>[((!Ym x.2.1 x.2.2.2.1.toNat),.ret,YZ (false)),(true,.exit 0,Qgt)])
def Qgu:G:=gG 29 [(124,OU),(125,Qai)] (Ls [QAn])
def QaK (x0 x7:List Int)(x8 x9:Int):OX:=Qv (QB Qgu Qgs Qoi) (Qoj x0 x7 x8 x9)
def Im (kk:List Int->List Int->Int->Int->OX)(x0 x7:List Int)(x8 x9:Int):OX:=
 let a1:=lgt tI x7 (Int.toNat x9)
 br (ilt x9 x8) (br (cIx x7 x9) (br (ine ((QW a1).2) 0) (some (.ret,YZ false)) (br (cSl x0 0 x9 ((List.length x0:Nat):Int)) (br (Jk (lsl x0 0 x9) a1) (br (QO (lsl x0 0 x9) a1) (some (.ret,YZ false)) (kk x0 x7 x8 (Qg .i64 x9 1))) none) none)) none) (some (.exit 0,Qgt))
def QaL (x0 x7:List Int)(x8 x9:Int):OX:=br (!Ym x7 x9.toNat) (some (.ret,YZ (false)))<|some (.exit 0,Qgt)
theorem Qok (x0 x7:List Int)(x8 x9:Int):QaK x0 x7 x8 x9=Im QaK x0 x7 x8 x9:=lnT (x:=Im (fun x0 x7 x8 x9=>some (.normal,Qoj x0 x7 x8 x9)) x0 x7 x8 x9) (by simp only [Im,nxA];rfl)
def r_f77 (p0:List Int):OV:=br (Qt p0 (Qa p0) (0:Int)&&Xh p0 p0) (br (!Ym p0 (0:Int).toNat) (some (.t .bool (false),[])) (some (.t .bool true,[]))) none
theorem QAo (x0 x7:List Int)(x8 x9:Int)(h:(Qt x7 x8 x9&&Xh x0 x7)=true):QaK x0 x7 x8 x9=QaL x0 x7 x8 x9:=by
 simp only [Bc] at h
 obtain ⟨h0,hs⟩:=h
 have hs:=Qky hs
 subst hs
 obtain ⟨rfl,h3,k,rfl,hk⟩:=Jy h0
 clear h0
 refine QR x0 (fun k=>QaK x0 x0 (x0.length:Int) (k:Int)=QaL x0 x0 (x0.length:Int) (k:Int)) ?_ ?_ k hk
 ·rw [Qok]
  simp only [Im,QaL,QC,BV,B2,Qf,Bd,Qod,BG]
 ·intro k hk ih
  rw [Qok]
  have hi:Jk (x0.take k) x0[k]=true:=Be (by rw [B7];omega)
  simp only [Im,QC,QI,hk,Bv,Qc,Bd,QQ (show k<4611686018427387904 by omega),QP (y:=tI) hk,ih,Qof,Qog (show k<=x0.length by omega),hi,GD]
  simp only [QaL,Bd,Qoe hk]
  cases ieq (QW x0[k]).2 0<;>cases QO (x0.take k) x0[k]<;>rfl
theorem QAp:LO Qgu Qgs Qoi 0:=QH (s:=QaJ) fun x y h _ q=>by simp only [QF,QG] at q;exact (QAo x.1 x.2.1 x.2.2.1 x.2.2.2.1 h).trans q
theorem s_f77 (l:List Int)(h:JU l=true):r_f77 l=some (.t .bool (ZA l),[]):=by
 simp only [JU,Ba] at h
 simp only [r_f77,Jz h,Qkx,B3,Qc,Bu]
 unfold ZA
 cases Ym l 0<;>rfl
def Qol:Ent:=Qk (.pr (.sl tI) .nil) (fun x=>(JU x.1)) (fun x=>(.t .bool (ZA x.1)))
theorem ms_f77:EM 77 Qol:=mS (lk:=lkL (lkc QAp lkn)) Qgu Qoh [((.t 2),some .bool)] false (gB (gD QdO (gD QfO gN))) fun m=>Qm m fun x hok=>kT (s_f77 x.1 hok)
def Y2 (n:Int):Bool:= !JY n
def QAq:TC:=aF Tryz.f81 []
def QAr:G:=gG 8 [(83,OZ)] (fun _ _=>none)
def Qom (p0:Int):OV:=some (.t .bool (!(JY p0)),[.box (.c (.func (.func 83) #[] #[]))])
theorem QAs (n:Int):Qom n=some (.t .bool (Y2 n),[.box (.c (.func (.func 83) #[] #[]))]):=by
 simp only [Qom]
 rfl
def Qon:Ent:=Xo [.ty tI,.ptr 50000 0] [.bc 83] (fun x y=>true) (fun x y=>(.t .bool (Y2 x.1))) (fun x y=>[.box (.c (.func (.func 83) #[] #[]))])
theorem QAt:EM 81 Qon:=mS QAr QAq [((.t 3),some .bool)] false (gB (gD QdT gN)) fun m=>XJ (XK m fun x y _=>kT (QAs x.1))
def Fl (l:List Int):Int:=match QD Y2 l with|some k=>(k:Int)|none=> -1
abbrev QaM:Sh:=⟨[(0,.ty (.sl tI)),(1,.fn 81 [(50000,0)]),(7,.ty tI),(8,.ty tI)],[(50000,.bc 83)]⟩
abbrev Qoo:Sh:=⟨[(4,.ty tI)],[(50000,.bc 83)]⟩
abbrev Qop:Sh:=⟨[],[(50000,.bc 83)]⟩
def Qgv:Fg:=QaM.f
def Qoq:TC:=aF Tryz.f128 [(26,pL 0 Qgv),(421,.fg Qop.f),(13517,.fg Qoo.f)]
def Qor:TC:=lb 0 Qoq
def Qos (x0:List Int)(x7 x8:Int):VS:=QaM.st (x0,(),x7,x8,()) ((),())
def Qgw (x4:Int):VS:=Qoo.st (x4,()) ((),())
def Qgx  : VS:=Qop.st () ((),())
def QAu:VS->Option (Bool×List (Bool×Exit×VS)):=mkL QaM (fun x y=>(Qt x.1 x.2.2.1 x.2.2.2.1)) (fun x y=>[(((QD Y2 (x.1.drop x.2.2.2.1.toNat)).isSome),.ret,Qgw (x.2.2.2.1+((QD Y2 (x.1.drop x.2.2.2.1.toNat)).getD 0:Nat))),(true,.exit 0,Qgx)])
def Qgy:G:=gG 19 [(81,Qon)] (Ls [QAu])
def QaN (x0:List Int)(x7 x8:Int):OX:=Qv (QB Qgy Qgv Qor) (Qos x0 x7 x8)
def Io (kk:List Int->Int->Int->OX)(x0:List Int)(x7 x8:Int):OX:=br (ilt x8 x7) (br (cIx x0 x8) (br (Y2 (lgt tI x0 (Int.toNat x8))) (some (.ret,Qgw x8)) (kk x0 x7 (Qg .i64 x8 1))) none) (some (.exit 0,Qgx))
def QaO (x0:List Int)(x7 x8:Int):OX:=
 let a1:=QD Y2 (x0.drop x8.toNat)
 br (a1.isSome) (some (.ret,Qgw (x8+(a1.getD 0:Nat))))<|some (.exit 0,Qgx)
theorem Qot (x0:List Int)(x7 x8:Int):QaN x0 x7 x8=Io QaN x0 x7 x8:=lnT (x:=Io (fun x0 x7 x8=>some (.normal,Qos x0 x7 x8)) x0 x7 x8) (by simp only [Io,nxA];rfl)
def Qou (p0:List Int):OV:=
 let a1:=(QD Y2 (p0.drop (0:Int).toNat))
 br (Qt p0 (Qa p0) (0:Int)) (br (a1.isSome) (some (.t tI ((0:Int)+(a1.getD 0:Nat)),[.box (.c (.func (.func 83) #[] #[]))])) (some (.t tI (-1),[.box (.c (.func (.func 83) #[] #[]))]))) none
theorem QAv (x0:List Int)(x7 x8:Int)(h:(Qt x0 x7 x8)=true):QaN x0 x7 x8=QaO x0 x7 x8:=by
 obtain ⟨rfl,h3,k,rfl,hk⟩:=Jy h
 clear h
 refine QR x0 (fun k=>QaN x0 (x0.length:Int) (k:Int)=QaO x0 (x0.length:Int) (k:Int)) ?_ ?_ k hk
 ·rw [Qot]
  simp [Io,QaO,QC,Qf,QD]
 ·intro k hk ih
  rw [Qot]
  simp only [Io,QC,QI,hk,Bv,Qc,Bd,QQ (show k<4611686018427387904 by omega),ih,QP (y:=tI) hk]
  simp only [QaO,Bd,Bj hk,QD]
  cases h:Y2 x0[k] with
  |true=>simp [Qc]
  |false=>
   simp only [Qf,BK,Do]
   cases hq:QD Y2 (x0.drop (k+1)) with
   |none=>rfl
   |some j=>
    simp only [B0,B8,BI,Qc]
    congr 3
    omega
theorem QAw:LO Qgy Qgv Qor 0:=QH (s:=QaM) fun x y h _ q=>by simp only [QF,QG] at q;exact (QAv x.1 x.2.2.1 x.2.2.2.1 h).trans q
theorem QAx (l:List Int)(h:JU l=true):Qou l=some (.t tI (Fl l),[.box (.c (.func (.func 83) #[] #[]))]):=by
 simp only [JU,Ba] at h
 simp only [Qou,Jz h,Qc,Bu,BA,Fl]
 cases QD Y2 l<;>simp [Qc,Qf]
def Qov:Ent:=Xo [.ty (.sl tI),.fn 81 [(50000,0)]] [.bc 83] (fun x y=>(JU x.1)) (fun x y=>(.t tI (Fl x.1))) (fun x y=>[.box (.c (.func (.func 83) #[] #[]))])
theorem QAy:EM 128 Qov:=mS (lk:=lkL (lkc QAw lkn)) Qgy Qoq [((.t 4),some tI)] false (gB (gD QAt gN)) fun m=>XJ (XK m fun x y hok=>kT (QAx x.1 hok))
def U8 (l:List Int):Bool:= !l.all JY
def QAz:TC:=aF Tryz.f82 []
def QAA:G:=gG 9 [(128,Qov)] (fun _ _=>none)
def Qow (p0:List Int):OV:=br (JU p0) (some (.t .bool (ige (Fl p0) 0),[.box (.c (.func (.func 83) #[] #[]))])) none
theorem QAB (l:List Int)(h:JU l=true):Qow l=some (.t .bool (U8 l),[.box (.c (.func (.func 83) #[] #[]))]):=by
 simp only [Qow,h,Qc]
 have e:ige (Fl l) 0=U8 l:=by
  have e2:U8 l=l.any Y2:=by
   unfold U8
   rw [List.not_all_eq_any_not]
   rfl
  rw [e2]
  unfold Fl
  cases hq:QD Y2 l with
  |none=>rw [I1.1 hq];rfl
  |some k=>
   rw [←QbT,hq]
   simp only [ige,B8,Ba]
   omega
 rw [e]
def Qox:Ent:=Xo [.ty (.sl tI),.fn 81 [(50000,0)]] [.bc 83] (fun x y=>(JU x.1)) (fun x y=>(.t .bool (U8 x.1))) (fun x y=>[.box (.c (.func (.func 83) #[] #[]))])
theorem QAC:EM 82 Qox:=mS QAA QAz [((.t 4),some .bool)] false (gB (gD QAy gN)) fun m=>XJ (XK m fun x y hok=>kT (QAB x.1 hok))
def Qoy:TC:=aF Tryz.f80 []
def Qoz:List (RV×Option Ty):=[((.t 2),none)]
def QoA:G:=gG 4 [] (fun _ _=>none)
def QoB  : OV:=some (.fn 81 [(.ptr 50000 0)],[.box (.c (.func (.func 83) #[] #[]))])
theorem QAD  : JS QoA Qoy Qoz true [.c (.func (.func 83) ⟨[]⟩ ⟨[]⟩)] []=QoB  :=by kernel_rfl
theorem QAE:QoB=some (.fn 81 [.ptr 50000 0],[.box (.c (.func (.func 83) #[] #[]))]):=rfl
def QoC:Ent:=Xo [.cf 83] [] (fun x y=>true) (fun x y=>(.fn 81 [(.ptr 50000 0)])) (fun x y=>[.box (.c (.func (.func 83) #[] #[]))])
theorem QAF:EM 80 QoC:=mS QoA Qoy Qoz true (gB gN) fun m=>XJ (XK m fun x y _=>(QAD ).trans (QAE ))
def Y3 (n:Int):Bool:= !XI n
def QAG:TC:=aF Tryz.f81 []
def QAH:G:=gG 8 [(84,Qoc)] (fun _ _=>none)
def QoD (p0:Int):OV:=some (.t .bool (!(XI p0)),[.box (.c (.func (.func 84) #[] #[]))])
theorem QAI (n:Int):QoD n=some (.t .bool (Y3 n),[.box (.c (.func (.func 84) #[] #[]))]):=by
 simp only [QoD]
 rfl
def QoE:Ent:=Xo [.ty tI,.ptr 50000 0] [.bc 84] (fun x y=>true) (fun x y=>(.t .bool (Y3 x.1))) (fun x y=>[.box (.c (.func (.func 84) #[] #[]))])
theorem QAJ:EM 81 QoE:=mS QAH QAG [((.t 3),some .bool)] false (gB (gD ms_f84 gN)) fun m=>XJ (XK m fun x y _=>kT (QAI x.1))
def Fm (l:List Int):Int:=match QD Y3 l with|some k=>(k:Int)|none=> -1
abbrev QaP:Sh:=⟨[(0,.ty (.sl tI)),(1,.fn 81 [(50000,0)]),(7,.ty tI),(8,.ty tI)],[(50000,.bc 84)]⟩
abbrev QoF:Sh:=⟨[(4,.ty tI)],[(50000,.bc 84)]⟩
abbrev QoG:Sh:=⟨[],[(50000,.bc 84)]⟩
def Qgz:Fg:=QaP.f
def QoH:TC:=aF Tryz.f128 [(26,pL 0 Qgz),(421,.fg QoG.f),(13517,.fg QoF.f)]
def QoI:TC:=lb 0 QoH
def QoJ (x0:List Int)(x7 x8:Int):VS:=QaP.st (x0,(),x7,x8,()) ((),())
def QgA (x4:Int):VS:=QoF.st (x4,()) ((),())
def QgB  : VS:=QoG.st () ((),())
def QAK:VS->Option (Bool×List (Bool×Exit×VS)):=mkL QaP (fun x y=>(Qt x.1 x.2.2.1 x.2.2.2.1)) (fun x y=>[(((QD Y3 (x.1.drop x.2.2.2.1.toNat)).isSome),.ret,QgA (x.2.2.2.1+((QD Y3 (x.1.drop x.2.2.2.1.toNat)).getD 0:Nat))),(true,.exit 0,QgB)])
def QgC:G:=gG 19 [(81,QoE)] (Ls [QAK])
def QaQ (x0:List Int)(x7 x8:Int):OX:=Qv (QB QgC Qgz QoI) (QoJ x0 x7 x8)
def Ip (kk:List Int->Int->Int->OX)(x0:List Int)(x7 x8:Int):OX:=br (ilt x8 x7) (br (cIx x0 x8) (br (Y3 (lgt tI x0 (Int.toNat x8))) (some (.ret,QgA x8)) (kk x0 x7 (Qg .i64 x8 1))) none) (some (.exit 0,QgB))
def QaR (x0:List Int)(x7 x8:Int):OX:=
 let a1:=QD Y3 (x0.drop x8.toNat)
 br (a1.isSome) (some (.ret,QgA (x8+(a1.getD 0:Nat))))<|some (.exit 0,QgB)
theorem QoK (x0:List Int)(x7 x8:Int):QaQ x0 x7 x8=Ip QaQ x0 x7 x8:=lnT (x:=Ip (fun x0 x7 x8=>some (.normal,QoJ x0 x7 x8)) x0 x7 x8) (by simp only [Ip,nxA];rfl)
def QoL (p0:List Int):OV:=
 let a1:=(QD Y3 (p0.drop (0:Int).toNat))
 br (Qt p0 (Qa p0) (0:Int)) (br (a1.isSome) (some (.t tI ((0:Int)+(a1.getD 0:Nat)),[.box (.c (.func (.func 84) #[] #[]))])) (some (.t tI (-1),[.box (.c (.func (.func 84) #[] #[]))]))) none
theorem QAL (x0:List Int)(x7 x8:Int)(h:(Qt x0 x7 x8)=true):QaQ x0 x7 x8=QaR x0 x7 x8:=by
 obtain ⟨rfl,h3,k,rfl,hk⟩:=Jy h
 clear h
 refine QR x0 (fun k=>QaQ x0 (x0.length:Int) (k:Int)=QaR x0 (x0.length:Int) (k:Int)) ?_ ?_ k hk
 ·rw [QoK]
  simp [Ip,QaR,QC,Qf,QD]
 ·intro k hk ih
  rw [QoK]
  simp only [Ip,QC,QI,hk,Bv,Qc,Bd,QQ (show k<4611686018427387904 by omega),ih,QP (y:=tI) hk]
  simp only [QaR,Bd,Bj hk,QD]
  cases h:Y3 x0[k] with
  |true=>simp [Qc]
  |false=>
   simp only [Qf,BK,Do]
   cases hq:QD Y3 (x0.drop (k+1)) with
   |none=>rfl
   |some j=>
    simp only [B0,B8,BI,Qc]
    congr 3
    omega
theorem QAM:LO QgC Qgz QoI 0:=QH (s:=QaP) fun x y h _ q=>by simp only [QF,QG] at q;exact (QAL x.1 x.2.2.1 x.2.2.2.1 h).trans q
theorem QAN (l:List Int)(h:JU l=true):QoL l=some (.t tI (Fm l),[.box (.c (.func (.func 84) #[] #[]))]):=by
 simp only [JU,Ba] at h
 simp only [QoL,Jz h,Qc,Bu,BA,Fm]
 cases QD Y3 l<;>simp [Qc,Qf]
def QoM:Ent:=Xo [.ty (.sl tI),.fn 81 [(50000,0)]] [.bc 84] (fun x y=>(JU x.1)) (fun x y=>(.t tI (Fm x.1))) (fun x y=>[.box (.c (.func (.func 84) #[] #[]))])
theorem QAO:EM 128 QoM:=mS (lk:=lkL (lkc QAM lkn)) QgC QoH [((.t 4),some tI)] false (gB (gD QAJ gN)) fun m=>XJ (XK m fun x y hok=>kT (QAN x.1 hok))
def U9 (l:List Int):Bool:= !l.all XI
def QAP:TC:=aF Tryz.f82 []
def QAQ:G:=gG 9 [(128,QoM)] (fun _ _=>none)
def QoN (p0:List Int):OV:=br (JU p0) (some (.t .bool (ige (Fm p0) 0),[.box (.c (.func (.func 84) #[] #[]))])) none
theorem QAR (l:List Int)(h:JU l=true):QoN l=some (.t .bool (U9 l),[.box (.c (.func (.func 84) #[] #[]))]):=by
 simp only [QoN,h,Qc]
 have e:ige (Fm l) 0=U9 l:=by
  have e2:U9 l=l.any Y3:=by
   unfold U9
   rw [List.not_all_eq_any_not]
   rfl
  rw [e2]
  unfold Fm
  cases hq:QD Y3 l with
  |none=>rw [I1.1 hq];rfl
  |some k=>
   rw [←QbT,hq]
   simp only [ige,B8,Ba]
   omega
 rw [e]
def QoO:Ent:=Xo [.ty (.sl tI),.fn 81 [(50000,0)]] [.bc 84] (fun x y=>(JU x.1)) (fun x y=>(.t .bool (U9 x.1))) (fun x y=>[.box (.c (.func (.func 84) #[] #[]))])
theorem QAS:EM 82 QoO:=mS QAQ QAP [((.t 4),some .bool)] false (gB (gD QAO gN)) fun m=>XJ (XK m fun x y hok=>kT (QAR x.1 hok))
def QoP:TC:=aF Tryz.f80 []
def QoQ:List (RV×Option Ty):=[((.t 2),none)]
def QoR:G:=gG 4 [] (fun _ _=>none)
def QoS  : OV:=some (.fn 81 [(.ptr 50000 0)],[.box (.c (.func (.func 84) #[] #[]))])
theorem QAT  : JS QoR QoP QoQ true [.c (.func (.func 84) ⟨[]⟩ ⟨[]⟩)] []=QoS  :=by kernel_rfl
theorem QAU:QoS=some (.fn 81 [.ptr 50000 0],[.box (.c (.func (.func 84) #[] #[]))]):=rfl
def QoT:Ent:=Xo [.cf 84] [] (fun x y=>true) (fun x y=>(.fn 81 [(.ptr 50000 0)])) (fun x y=>[.box (.c (.func (.func 84) #[] #[]))])
theorem QAV:EM 80 QoT:=mS QoR QoP QoQ true (gB gN) fun m=>XJ (XK m fun x y _=>(QAT ).trans (QAU ))
end
end Go.Proofs.YtmjnnemhoeolgaaGreat.K
