import Derived.Test.YtmjnnemhoeolgaaGreatQ4
import Derived.Shelf.Small.Strs
import Derived.Ground.NamesProg
set_option linter.unusedSimpArgs false
set_option linter.unusedVariables false
noncomputable section
namespace Go.Proofs.YtmjnnemhoeolgaaGreat.K
open Go.RowKit
noncomputable section
def Z9 (a:Int):Int:=(ofF a).1.2.1
def QIz:TC:=aF Tryz.f126 []
def g_f126:G:=gG 12 [(166,QfZ)] (fun _ _=>none)
def r_f126 (p0:Int):OV:=some (.t tI ((((ofF p0).1).2).1),[])
theorem s_f126 (a:Int):r_f126 a=some (.t tI (Z9 a),[]):=rfl
def Qd3:Ent:=Ql (.pr tI .nil) (fun x=>true) (fun x=>(.t tI (Z9 x.1)))
theorem QkU:EM 126 Qd3:=mS g_f126 QIz [((.t 2),some tI)] false (gB (gD QnB gN)) fun m=>Qn m fun x _=>kT (s_f126 x.1)
def Qwc:TC:=aF Tryz.f141 []
def Qwd:List (RV×Option Ty):=[((.t 0),some (.sl Ud))]
def Qwe:G:=gG 25 [] (fun _ _=>none)
def Qwf  : OV:=some (.t (.sl Ud) ([((ByteArray.mk #[]),(0,())),((ByteArray.mk #[109,100,53]),(1,())),((ByteArray.mk #[115,104,97,49]),(1,())),((ByteArray.mk #[115,104,97,50,53,54]),(1,())),((ByteArray.mk #[115,104,97,51,56,52]),(1,())),((ByteArray.mk #[114,115,97]),(2,())),((ByteArray.mk #[100,115,97]),(2,())),((ByteArray.mk #[101,99,100,115,97]),(2,())),((ByteArray.mk #[101,100,50,53,53,49,57]),(2,())),((ByteArray.mk #[109,108,100,115,97]),(2,())),((ByteArray.mk #[114,115,97,107,120]),(3,())),((ByteArray.mk #[100,104,101]),(3,())),((ByteArray.mk #[101,99,100,104,101]),(3,())),((ByteArray.mk #[109,108,107,101,109]),(3,())),((ByteArray.mk #[114,99,52]),(4,())),((ByteArray.mk #[100,101,115,51]),(4,())),((ByteArray.mk #[97,101,115,99,98,99]),(4,())),((ByteArray.mk #[97,101,115,103,99,109]),(4,())),((ByteArray.mk #[99,104,97,99,104,97]),(4,())),((ByteArray.mk #[104,109,97,99,109,100,53]),(5,())),((ByteArray.mk #[104,109,97,99,115,104,97,49]),(5,())),((ByteArray.mk #[104,109,97,99,115,104,97,50,53,54]),(5,())),((ByteArray.mk #[97,101,97,100]),(5,()))]),[])
theorem e_f141  : JS Qwe Qwc Qwd false [] []=Qwf  :=by kernel_rfl
def Qd4:Ty.T (.sl Ud):=([((ByteArray.mk #[]),(0,())),((ByteArray.mk #[109,100,53]),(1,())),((ByteArray.mk #[115,104,97,49]),(1,())),((ByteArray.mk #[115,104,97,50,53,54]),(1,())),((ByteArray.mk #[115,104,97,51,56,52]),(1,())),((ByteArray.mk #[114,115,97]),(2,())),((ByteArray.mk #[100,115,97]),(2,())),((ByteArray.mk #[101,99,100,115,97]),(2,())),((ByteArray.mk #[101,100,50,53,53,49,57]),(2,())),((ByteArray.mk #[109,108,100,115,97]),(2,())),((ByteArray.mk #[114,115,97,107,120]),(3,())),((ByteArray.mk #[100,104,101]),(3,())),((ByteArray.mk #[101,99,100,104,101]),(3,())),((ByteArray.mk #[109,108,107,101,109]),(3,())),((ByteArray.mk #[114,99,52]),(4,())),((ByteArray.mk #[100,101,115,51]),(4,())),((ByteArray.mk #[97,101,115,99,98,99]),(4,())),((ByteArray.mk #[97,101,115,103,99,109]),(4,())),((ByteArray.mk #[99,104,97,99,104,97]),(4,())),((ByteArray.mk #[104,109,97,99,109,100,53]),(5,())),((ByteArray.mk #[104,109,97,99,115,104,97,49]),(5,())),((ByteArray.mk #[104,109,97,99,115,104,97,50,53,54]),(5,())),((ByteArray.mk #[97,101,97,100]),(5,()))])
theorem s_f141:Qwf=some (.t (.sl Ud) Qd4,[]):=rfl
def Qwg:Ent:=Ql .nil (fun x=>true) (fun x=>(.t (.sl Ud) Qd4))
theorem QIA:EM 141 Qwg:=mS Qwe Qwc Qwd false (gB gN) fun m=>Qn m fun x _=>(e_f141 ).trans (s_f141)
def QIB:TC:=aF Tryz.f101 []
def g_f101:G:=gG 14 [(141,Qwg)] (fun _ _=>none)
def Qwh (p0:Int):OV:=br (ilt p0 1) (some (.t tI 0,[])) (br (igt p0 22) (some (.t tI 0,[])) (br (cIx Qd4 p0) (some (.t tI (((lgt Ud Qd4 (Int.toNat p0)).2).1),[])) none))
theorem QIC {a:Int}(h1:1<=a)(h2:a<=22):a=1∨a=2∨a=3∨a=4∨a=5∨a=6∨a=7∨a=8∨a=9∨a=10∨a=11∨a=12∨a=13∨a=14∨a=15∨a=16∨a=17∨a=18∨a=19∨a=20∨a=21∨a=22:=by omega
theorem s_f101 (a:Int):Qwh a=some (.t tI (Z9 a),[]):=by
 simp only [Qwh]
 refine QZ (fun h1=> ?_) (fun h1=>QZ (fun h2=> ?_) (fun h2=> ?_))
 ·have h1:a<1:=by simpa [ilt] using h1
  simp [Z9,ofF,h1,Ii]
 ·have h2:22<a:=by simpa [igt] using h2
  simp [Z9,ofF,h2,Ii]
 ·have h1: ¬ a<1:=by simpa [ilt] using h1
  have h2: ¬ 22<a:=by simpa [igt] using h2
  rcases QIC (a:=a) (by omega) (by omega) with rfl|rfl|rfl|rfl|rfl|rfl|rfl|rfl|rfl|rfl|rfl|rfl|rfl|rfl|rfl|rfl|rfl|rfl|rfl|rfl|rfl|rfl<;>rfl
def Qd5:Ent:=Ql (.pr tI .nil) (fun x=>true) (fun x=>(.t tI (Z9 x.1)))
theorem QkV:EM 101 Qd5:=mS g_f101 QIB [((.t 2),some tI)] false (gB (gD QIA gN)) fun m=>Qn m fun x _=>kT (s_f101 x.1)
def Qq (a b:Int):Keep:=(a,(b,()))
def QID:TC:=aF Tryz.f196 []
def g_f196:G:=gG 8 [] (fun _ _=>none)
def r_f196 (p0 p1:Int):OV:=some (.t Qe (p0,(p1,())),[])
theorem s_f196 (a b:Int):r_f196 a b=some (.t Qe (Qq a b),[]):=rfl
def Qwi:Ent:=Ql (.pr tI (.pr tI .nil)) (fun x=>true) (fun x=>(.t Qe (Qq x.1 x.2.1)))
theorem QIE:EM 196 Qwi:=mS g_f196 QID [((.c 4 true 2),some Qe)] false (gB gN) fun m=>Qn m fun x _=>kT (s_f196 x.1 x.2.1)
def QIF:TC:=aF Tryz.f143 []
def g_f143:G:=gG 8 [] (fun _ _=>none)
def r_f143 (p0 p1:Int):OV:=some (.t Qe (p0,(p1,())),[])
theorem s_f143 (a b:Int):r_f143 a b=some (.t Qe (Qq a b),[]):=rfl
def Qwj:Ent:=Ql (.pr tI (.pr tI .nil)) (fun x=>true) (fun x=>(.t Qe (Qq x.1 x.2.1)))
theorem QIG:EM 143 Qwj:=mS g_f143 QIF [((.c 4 true 2),some Qe)] false (gB gN) fun m=>Qn m fun x _=>kT (s_f143 x.1 x.2.1)
def ZY (c:Int)(n:ByteArray)(e s f m:Keep)(l o:Int):Suite:=(c,(n,(e,(s,(f,(m,(l,(o,()))))))))
def QIH:TC:=aF Tryz.f144 []
def g_f144:G:=gG 26 [] (fun _ _=>none)
def r_f144 (p0:Int)(p1:ByteArray)(p2 p3 p4 p5:Keep)(p6 p7:Int):OV:=some (.t Q3 (p0,(p1,((p2.1,(p2.2.1,())),((p3.1,(p3.2.1,())),((p4.1,(p4.2.1,())),((p5.1,(p5.2.1,())),(p6,(p7,())))))))),[])
theorem s_f144 (c:Int)(n:ByteArray)(e s f m:Keep)(l o:Int):r_f144 c n e s f m l o=some (.t Q3 (ZY c n e s f m l o),[]):=rfl
def Qwk:Ent:=Ql (.pr tI (.pr .str (.pr Qe (.pr Qe (.pr Qe (.pr Qe (.pr tI (.pr tI .nil)))))))) (fun x=>true) (fun x=>(.t Q3 (ZY x.1 x.2.1 x.2.2.1 x.2.2.2.1 x.2.2.2.2.1 x.2.2.2.2.2.1 x.2.2.2.2.2.2.1 x.2.2.2.2.2.2.2.1)))
theorem QII:EM 144 Qwk:=mS g_f144 QIH [((.c 16 true 12),some Q3)] false (gB gN) fun m=>Qn m fun x _=>kT (s_f144 x.1 x.2.1 x.2.2.1 x.2.2.2.1 x.2.2.2.2.1 x.2.2.2.2.2.1 x.2.2.2.2.2.2.1 x.2.2.2.2.2.2.2.1)
def Qwl:TC:=aF Tryz.f105 [(254,pD [(0,[1]),(1,[2]),(2,[4]),(3,[9]),(4,[]),(5,[1]),(6,[2]),(7,[4]),(8,[10]),(9,[]),(10,[1]),(11,[2]),(12,[5]),(13,[10]),(14,[]),(15,[]),(16,[]),(17,[5]),(18,[10]),(19,[]),(20,[]),(21,[2]),(22,[5]),(23,[10]),(24,[]),(25,[1]),(26,[2]),(27,[6]),(28,[10]),(29,[]),(30,[]),(31,[2]),(32,[6]),(33,[10]),(34,[]),(35,[13]),(36,[2]),(37,[6]),(38,[10]),(39,[]),(40,[13]),(41,[]),(42,[]),(43,[11]),(44,[]),(45,[13]),(46,[2]),(47,[7]),(48,[12]),(49,[]),(50,[]),(51,[]),(52,[8]),(53,[12]),(54,[]),(55,[13]),(56,[2]),(57,[14]),(58,[12]),(59,[]),(60,[1]),(61,[2]),(62,[8]),(63,[12]),(64,[]),(65,[13]),(66,[3]),(67,[7]),(68,[12]),(69,[]),(70,[13]),(71,[3]),(72,[14]),(73,[12]),(74,[]),(75,[]),(76,[3]),(77,[8]),(78,[12]),(79,[]),(80,[]),(81,[])] (.of [0,1,2,3,4,5,6,7,8,9,10,11,12,13,14,15,16,17,18,19,20,21,22,23,24,25,26,27,28,29,30,31,32,33,34,35,36,37,38,39,40,41,42,43,44,45,46,47,48,49,50,51,52,53,54,55,56,57,58,59,60,61,62,63,64,65,66,67,68,69,70,71,72,73,74,75,76,77,78,79,80,81]))]
def Qwm:List (RV×Option Ty):=[((.t 0),some (.sl Q3))]
def Qwn:G:=gG 110 [(143,Qwj),(144,Qwk)] (fun _ _=>none)
def YU:Ty.T (.sl Q3):=
 let a1:=(ZY 9 (ByteArray.mk #[101,99,100,104,101,45,101,99,100,115,97,45,97,101,115,50,53,54,45,115,104,97,50,53,54]) (Qq 12 256) (Qq 7 0) (Qq 16 256) (Qq 21 0) 3 3)
 let a2:=(ZY 11 (ByteArray.mk #[101,99,100,104,101,45,101,99,100,115,97,45,97,101,115,50,53,54,45,103,99,109]) (Qq 12 384) (Qq 7 0) (Qq 17 256) (Qq 22 0) 3 3)
 let a3:=(ZY 10 (ByteArray.mk #[101,99,100,104,101,45,114,115,97,45,97,101,115,49,50,56,45,103,99,109]) (Qq 12 256) (Qq 5 0) (Qq 17 128) (Qq 22 0) 3 3)
 let a4:=(ZY 8 (ByteArray.mk #[101,99,100,104,101,45,114,115,97,45,97,101,115,49,50,56,45,115,104,97]) (Qq 12 256) (Qq 5 0) (Qq 16 128) (Qq 20 0) 1 3)
 let a5:=(ZY 7 (ByteArray.mk #[100,104,101,45,114,115,97,45,97,101,115,49,50,56,45,115,104,97]) (Qq 11 2048) (Qq 5 0) (Qq 16 128) (Qq 20 0) 1 3)
 let a6:=(ZY 16 (ByteArray.mk #[109,108,107,101,109,45,97,101,115,50,53,54,45,103,99,109]) (Qq 13 768) (0,(0,())) (Qq 17 256) (Qq 22 0) 4 4)
 let a7:=(ZY 4 (ByteArray.mk #[100,104,101,45,100,115,97,45,100,101,115,51,45,115,104,97]) (Qq 11 1024) (Qq 6 0) (Qq 15 168) (Qq 20 0) 1 3)
 let a8:=(ZY 5 (ByteArray.mk #[100,104,101,45,114,115,97,45,100,101,115,51,45,115,104,97]) (Qq 11 1024) (Qq 5 0) (Qq 15 168) (Qq 20 0) 1 3)
 let a9:=(ZY 12 (ByteArray.mk #[101,99,100,104,101,45,114,115,97,45,99,104,97,99,104,97]) (Qq 12 256) (Qq 5 0) (Qq 18 0) (Qq 22 0) 3 3)
 let a10:=(ZY 13 (ByteArray.mk #[114,115,97,45,97,101,115,50,53,54,45,103,99,109]) (Qq 10 0) (Qq 5 0) (Qq 17 256) (Qq 22 0) 3 3)
 let a11:=(ZY 6 (ByteArray.mk #[114,115,97,45,97,101,115,49,50,56,45,115,104,97]) (Qq 10 0) (Qq 5 0) (Qq 16 128) (Qq 20 0) 1 3)
 let a12:=(ZY 3 (ByteArray.mk #[114,115,97,45,100,101,115,51,45,115,104,97]) (Qq 10 0) (Qq 5 0) (Qq 15 168) (Qq 20 0) 1 3)
 let a13:=(ZY 1 (ByteArray.mk #[114,115,97,45,114,99,52,45,109,100,53]) (Qq 10 0) (Qq 5 0) (Qq 14 128) (Qq 19 0) 1 2)
 let a14:=(ZY 2 (ByteArray.mk #[114,115,97,45,114,99,52,45,115,104,97]) (Qq 10 0) (Qq 5 0) (Qq 14 128) (Qq 20 0) 1 3)
 let a15:=(ZY 14 (ByteArray.mk #[97,101,115,49,50,56,45,103,99,109]) (Qq 12 256) (0,(0,())) (Qq 17 128) (Qq 22 0) 4 4)
 let a16:=(ZY 15 (ByteArray.mk #[99,104,97,99,104,97]) (Qq 12 256) (0,(0,())) (Qq 18 0) (Qq 22 0) 4 4)
 let a17:=(((a13.2).2).2)
 let a18:=(((a14.2).2).2)
 let a19:=(((a12.2).2).2)
 let a20:=(((a11.2).2).2)
 let a21:=(((a10.2).2).2)
 let a22:=(((a15.2).2).2)
 let a23:=(((a16.2).2).2)
 let a24:=(((a7.2).2).2)
 let a25:=(((a8.2).2).2)
 let a26:=(((a5.2).2).2)
 let a27:=(((a4.2).2).2)
 let a28:=(((a1.2).2).2)
 let a29:=(((a3.2).2).2)
 let a30:=(((a2.2).2).2)
 let a31:=(((a9.2).2).2)
 let a32:=(((a6.2).2).2)
 ([(a13.1,((a13.2).1,(((((a13.2).2).1).1,(((((a13.2).2).1).2).1,())),(((a17.1).1,(((a17.1).2).1,())),((((a17.2).1).1,((((a17.2).1).2).1,())),(((((a17.2).2).1).1,(((((a17.2).2).1).2).1,())),((((a17.2).2).2).1,(((((a17.2).2).2).2).1,())))))))),(a14.1,((a14.2).1,(((((a14.2).2).1).1,(((((a14.2).2).1).2).1,())),(((a18.1).1,(((a18.1).2).1,())),((((a18.2).1).1,((((a18.2).1).2).1,())),(((((a18.2).2).1).1,(((((a18.2).2).1).2).1,())),((((a18.2).2).2).1,(((((a18.2).2).2).2).1,())))))))),(a12.1,((a12.2).1,(((((a12.2).2).1).1,(((((a12.2).2).1).2).1,())),(((a19.1).1,(((a19.1).2).1,())),((((a19.2).1).1,((((a19.2).1).2).1,())),(((((a19.2).2).1).1,(((((a19.2).2).1).2).1,())),((((a19.2).2).2).1,(((((a19.2).2).2).2).1,())))))))),(a7.1,((a7.2).1,(((((a7.2).2).1).1,(((((a7.2).2).1).2).1,())),(((a24.1).1,(((a24.1).2).1,())),((((a24.2).1).1,((((a24.2).1).2).1,())),(((((a24.2).2).1).1,(((((a24.2).2).1).2).1,())),((((a24.2).2).2).1,(((((a24.2).2).2).2).1,())))))))),(a8.1,((a8.2).1,(((((a8.2).2).1).1,(((((a8.2).2).1).2).1,())),(((a25.1).1,(((a25.1).2).1,())),((((a25.2).1).1,((((a25.2).1).2).1,())),(((((a25.2).2).1).1,(((((a25.2).2).1).2).1,())),((((a25.2).2).2).1,(((((a25.2).2).2).2).1,())))))))),(a11.1,((a11.2).1,(((((a11.2).2).1).1,(((((a11.2).2).1).2).1,())),(((a20.1).1,(((a20.1).2).1,())),((((a20.2).1).1,((((a20.2).1).2).1,())),(((((a20.2).2).1).1,(((((a20.2).2).1).2).1,())),((((a20.2).2).2).1,(((((a20.2).2).2).2).1,())))))))),(a5.1,((a5.2).1,(((((a5.2).2).1).1,(((((a5.2).2).1).2).1,())),(((a26.1).1,(((a26.1).2).1,())),((((a26.2).1).1,((((a26.2).1).2).1,())),(((((a26.2).2).1).1,(((((a26.2).2).1).2).1,())),((((a26.2).2).2).1,(((((a26.2).2).2).2).1,())))))))),(a4.1,((a4.2).1,(((((a4.2).2).1).1,(((((a4.2).2).1).2).1,())),(((a27.1).1,(((a27.1).2).1,())),((((a27.2).1).1,((((a27.2).1).2).1,())),(((((a27.2).2).1).1,(((((a27.2).2).1).2).1,())),((((a27.2).2).2).1,(((((a27.2).2).2).2).1,())))))))),(a1.1,((a1.2).1,(((((a1.2).2).1).1,(((((a1.2).2).1).2).1,())),(((a28.1).1,(((a28.1).2).1,())),((((a28.2).1).1,((((a28.2).1).2).1,())),(((((a28.2).2).1).1,(((((a28.2).2).1).2).1,())),((((a28.2).2).2).1,(((((a28.2).2).2).2).1,())))))))),(a3.1,((a3.2).1,(((((a3.2).2).1).1,(((((a3.2).2).1).2).1,())),(((a29.1).1,(((a29.1).2).1,())),((((a29.2).1).1,((((a29.2).1).2).1,())),(((((a29.2).2).1).1,(((((a29.2).2).1).2).1,())),((((a29.2).2).2).1,(((((a29.2).2).2).2).1,())))))))),(a2.1,((a2.2).1,(((((a2.2).2).1).1,(((((a2.2).2).1).2).1,())),(((a30.1).1,(((a30.1).2).1,())),((((a30.2).1).1,((((a30.2).1).2).1,())),(((((a30.2).2).1).1,(((((a30.2).2).1).2).1,())),((((a30.2).2).2).1,(((((a30.2).2).2).2).1,())))))))),(a9.1,((a9.2).1,(((((a9.2).2).1).1,(((((a9.2).2).1).2).1,())),(((a31.1).1,(((a31.1).2).1,())),((((a31.2).1).1,((((a31.2).1).2).1,())),(((((a31.2).2).1).1,(((((a31.2).2).1).2).1,())),((((a31.2).2).2).1,(((((a31.2).2).2).2).1,())))))))),(a10.1,((a10.2).1,(((((a10.2).2).1).1,(((((a10.2).2).1).2).1,())),(((a21.1).1,(((a21.1).2).1,())),((((a21.2).1).1,((((a21.2).1).2).1,())),(((((a21.2).2).1).1,(((((a21.2).2).1).2).1,())),((((a21.2).2).2).1,(((((a21.2).2).2).2).1,())))))))),(a15.1,((a15.2).1,(((((a15.2).2).1).1,(((((a15.2).2).1).2).1,())),(((a22.1).1,(((a22.1).2).1,())),((((a22.2).1).1,((((a22.2).1).2).1,())),(((((a22.2).2).1).1,(((((a22.2).2).1).2).1,())),((((a22.2).2).2).1,(((((a22.2).2).2).2).1,())))))))),(a16.1,((a16.2).1,(((((a16.2).2).1).1,(((((a16.2).2).1).2).1,())),(((a23.1).1,(((a23.1).2).1,())),((((a23.2).1).1,((((a23.2).1).2).1,())),(((((a23.2).2).1).1,(((((a23.2).2).1).2).1,())),((((a23.2).2).2).1,(((((a23.2).2).2).2).1,())))))))),(a6.1,((a6.2).1,(((((a6.2).2).1).1,(((((a6.2).2).1).2).1,())),(((a32.1).1,(((a32.1).2).1,())),((((a32.2).1).1,((((a32.2).1).2).1,())),(((((a32.2).2).1).1,(((((a32.2).2).1).2).1,())),((((a32.2).2).2).1,(((((a32.2).2).2).2).1,()))))))))])
def Qwo  : OV:=some (.t (.sl Q3) YU,[])
theorem e_f105  : JS Qwn Qwl Qwm false [] []=Qwo  :=by kernel_rfl
theorem s_f105:Qwo=some (.t (.sl Q3) YU,[]):=rfl
def Qwp:Ent:=Ql .nil (fun x=>true) (fun x=>(.t (.sl Q3) YU))
theorem QIJ:EM 105 Qwp:=mS Qwn Qwl Qwm false (gB (gD QIG (gD QII gN))) fun m=>Qn m fun x _=>(e_f105 ).trans (s_f105)
abbrev QkW:Suite:=Ty.zero Q3
def EH (k:Nat)(l:List Suite):List Suite:=(List.range' k (16-k)).foldl (fun l i=>l.set i (((i+1:Nat):Int),(l.getD i QkW).2)) l
abbrev Qd6:Sh:=⟨[(15,.ms 111),(113,.ty tI),(114,.ty tI)],[(111,.arr 139 Q3)]⟩
abbrev Qwq:Sh:=⟨[(15,.ms 111)],[(111,.arr 139 Q3)]⟩
def QkX:Fg:=Qd6.f
def QkY:TC:=aF Tryz.f164 [(62,pD [(0,[1]),(1,[2]),(2,[]),(3,[11]),(4,[]),(5,[1]),(6,[2]),(7,[]),(8,[12]),(9,[]),(10,[1]),(11,[2]),(12,[6]),(13,[12]),(14,[]),(15,[]),(16,[3]),(17,[6]),(18,[12]),(19,[]),(20,[]),(21,[2]),(22,[6]),(23,[12]),(24,[]),(25,[1]),(26,[2]),(27,[7]),(28,[12]),(29,[]),(30,[]),(31,[2]),(32,[7]),(33,[12]),(34,[]),(35,[14]),(36,[2]),(37,[7]),(38,[12]),(39,[]),(40,[14]),(41,[4]),(42,[]),(43,[]),(44,[]),(45,[14]),(46,[2]),(47,[8]),(48,[13]),(49,[]),(50,[]),(51,[4]),(52,[9]),(53,[13]),(54,[]),(55,[14]),(56,[2]),(57,[10]),(58,[13]),(59,[]),(60,[1]),(61,[2]),(62,[9]),(63,[13]),(64,[]),(65,[14]),(66,[5]),(67,[8]),(68,[13]),(69,[]),(70,[14]),(71,[5]),(72,[10]),(73,[13]),(74,[]),(75,[]),(76,[5]),(77,[9]),(78,[13]),(79,[]),(80,[111,5111,10111,15111]),(81,[111])] (.of [0,1,2,3,4,5,6,7,8,9,10,11,12,13,14,15,16,17,18,19,20,21,22,23,24,25,26,27,28,29,30,31,32,33,34,35,36,37,38,39,40,41,42,43,44,45,46,47,48,49,50,51,52,53,54,55,56,57,58,59,60,61,62,63,64,65,66,67,68,69,70,71,72,73,74,75,76,77,78,79,80,81])),(506,pL 0 QkX),(8101,.fg Qwq.f)]
def Qwr:TC:=lb 0 QkY
def Qws:List (RV×Option Ty):=[((.t 0),some (.sl Q3))]
def Qwt (x113 x114:Int)(y111:List Suite):VS:=Qd6.st ((),x113,x114,()) (y111,())
def QkZ (y111:List Suite):VS:=Qwq.st ((),()) (y111,())
def QIK:VS->Option (Bool×List (Bool×Exit×VS)):=mkL Qd6 (fun x y=>(decide (0<=x.2.2.1/\x.2.2.1<=16/\x.2.1=16/\y.1.length=16))) (fun x y=>[(true,.exit 0,QkZ (EH x.2.2.1.toNat y.1))])
def Qd7:G:=⟨TYs,[111],125,EL [(196,Qwi)],Wr,(Ls [QIK]),IL [],RL []⟩
def Qd8 (x113 x114:Int)(y111:List Suite):OX:=Qv (QB Qd7 QkX Qwr) (Qwt x113 x114 y111)
def Qd9 (kk:Int->Int->List Suite->OX)(x113 x114:Int)(y111:List Suite):OX:=
 let a1:=Int.toNat x114
 br (ilt x114 x113) (br (cIx y111 x114) (br (cLd y111 a1) (kk x113 (Qf .i64 x114 1) (List.set y111 a1 ((Qf .i64 x114 1),(lgt Q3 y111 a1).2))) none) none) (some (.exit 0,QkZ y111))
def Qk0 (x113 x114:Int)(y111:List Suite):OX:=some (.exit 0,QkZ (EH x114.toNat y111))
theorem Qwu (x113 x114:Int)(y111:List Suite):Qd8 x113 x114 y111=Qd9 Qd8 x113 x114 y111:=lnT (x:=Qd9 (fun x113 x114 y111=>some (.normal,Qwt x113 x114 y111)) x113 x114 y111) (by simp only [Qd9,nxA];rfl)
def Qwv  : OV:=
 let a1:=((Qq 5 0).1,(((Qq 5 0).2).1,()))
 let a2:=((Qq 20 0).1,(((Qq 20 0).2).1,()))
 let a3:=((Qq 22 0).1,(((Qq 22 0).2).1,()))
 let a4:=((Qq 12 256).1,(((Qq 12 256).2).1,()))
 let a5:=((Qq 10 0).1,(((Qq 10 0).2).1,()))
 let a6:=((Qq 15 168).1,(((Qq 15 168).2).1,()))
 let a7:=((Qq 16 128).1,(((Qq 16 128).2).1,()))
 let a8:=((Qq 17 256).1,(((Qq 17 256).2).1,()))
 let a9:=(ByteArray.mk #[101,99,100,104,101,45,101,99,100,115,97,45,97,101,115,50,53,54,45,115,104,97,50,53,54])
 let a10:=(ByteArray.mk #[101,99,100,104,101,45,101,99,100,115,97,45,97,101,115,50,53,54,45,103,99,109])
 let a11:=((Qq 11 1024).1,(((Qq 11 1024).2).1,()))
 let a12:=(ByteArray.mk #[101,99,100,104,101,45,114,115,97,45,97,101,115,49,50,56,45,115,104,97])
 let a13:=(ByteArray.mk #[101,99,100,104,101,45,114,115,97,45,97,101,115,49,50,56,45,103,99,109])
 let a14:=((Qq 14 128).1,(((Qq 14 128).2).1,()))
 let a15:=((Qq 17 128).1,(((Qq 17 128).2).1,()))
 let a16:=(ByteArray.mk #[100,104,101,45,114,115,97,45,97,101,115,49,50,56,45,115,104,97])
 let a17:=((Qq 18 0).1,(((Qq 18 0).2).1,()))
 let a18:=((Qq 7 0).1,(((Qq 7 0).2).1,()))
 let a19:=(ByteArray.mk #[100,104,101,45,100,115,97,45,100,101,115,51,45,115,104,97])
 let a20:=(ByteArray.mk #[100,104,101,45,114,115,97,45,100,101,115,51,45,115,104,97])
 let a21:=(ByteArray.mk #[109,108,107,101,109,45,97,101,115,50,53,54,45,103,99,109])
 let a22:=(ByteArray.mk #[101,99,100,104,101,45,114,115,97,45,99,104,97,99,104,97])
 let a23:=(ByteArray.mk #[114,115,97,45,97,101,115,49,50,56,45,115,104,97])
 let a24:=(ByteArray.mk #[114,115,97,45,97,101,115,50,53,54,45,103,99,109])
 let a25:=(ByteArray.mk #[114,115,97,45,100,101,115,51,45,115,104,97])
 let a26:=(ByteArray.mk #[114,115,97,45,114,99,52,45,109,100,53])
 let a27:=(ByteArray.mk #[114,115,97,45,114,99,52,45,115,104,97])
 let a28:=(ByteArray.mk #[97,101,115,49,50,56,45,103,99,109])
 let a29:=((Qq 11 2048).1,(((Qq 11 2048).2).1,()))
 let a30:=((Qq 16 256).1,(((Qq 16 256).2).1,()))
 let a31:=((Qq 12 384).1,(((Qq 12 384).2).1,()))
 let a32:=((Qq 13 768).1,(((Qq 13 768).2).1,()))
 let a33:=(ByteArray.mk #[99,104,97,99,104,97])
 let a34:=((Qq 19 0).1,(((Qq 19 0).2).1,()))
 let a35:=((Qq 21 0).1,(((Qq 21 0).2).1,()))
 let a36:=((Qq 6 0).1,(((Qq 6 0).2).1,()))
 br (decide (0<=(0:Int)/\(0:Int)<=16/\(Qa ([(0,(a26,(a5,(a1,(a14,(a34,(1,(2,())))))))),(0,(a27,(a5,(a1,(a14,(a2,(1,(3,())))))))),(0,(a25,(a5,(a1,(a6,(a2,(1,(3,())))))))),(0,(a19,(a11,(a36,(a6,(a2,(1,(3,())))))))),(0,(a20,(a11,(a1,(a6,(a2,(1,(3,())))))))),(0,(a23,(a5,(a1,(a7,(a2,(1,(3,())))))))),(0,(a16,(a29,(a1,(a7,(a2,(1,(3,())))))))),(0,(a12,(a4,(a1,(a7,(a2,(1,(3,())))))))),(0,(a9,(a4,(a18,(a30,(a35,(3,(3,())))))))),(0,(a13,(a4,(a1,(a15,(a3,(3,(3,())))))))),(0,(a10,(a31,(a18,(a8,(a3,(3,(3,())))))))),(0,(a22,(a4,(a1,(a17,(a3,(3,(3,())))))))),(0,(a24,(a5,(a1,(a8,(a3,(3,(3,())))))))),(0,(a28,(a4,((0,(0,())),(a15,(a3,(4,(4,())))))))),(0,(a33,(a4,((0,(0,())),(a17,(a3,(4,(4,())))))))),(0,(a21,(a32,((0,(0,())),(a8,(a3,(4,(4,()))))))))]))=16/\([(0,(a26,(a5,(a1,(a14,(a34,(1,(2,())))))))),(0,(a27,(a5,(a1,(a14,(a2,(1,(3,())))))))),(0,(a25,(a5,(a1,(a6,(a2,(1,(3,())))))))),(0,(a19,(a11,(a36,(a6,(a2,(1,(3,())))))))),(0,(a20,(a11,(a1,(a6,(a2,(1,(3,())))))))),(0,(a23,(a5,(a1,(a7,(a2,(1,(3,())))))))),(0,(a16,(a29,(a1,(a7,(a2,(1,(3,())))))))),(0,(a12,(a4,(a1,(a7,(a2,(1,(3,())))))))),(0,(a9,(a4,(a18,(a30,(a35,(3,(3,())))))))),(0,(a13,(a4,(a1,(a15,(a3,(3,(3,())))))))),(0,(a10,(a31,(a18,(a8,(a3,(3,(3,())))))))),(0,(a22,(a4,(a1,(a17,(a3,(3,(3,())))))))),(0,(a24,(a5,(a1,(a8,(a3,(3,(3,())))))))),(0,(a28,(a4,((0,(0,())),(a15,(a3,(4,(4,())))))))),(0,(a33,(a4,((0,(0,())),(a17,(a3,(4,(4,())))))))),(0,(a21,(a32,((0,(0,())),(a8,(a3,(4,(4,()))))))))]).length=16)) (some (.t (.sl Q3) (EH (0:Int).toNat ([(0,(a26,(a5,(a1,(a14,(a34,(1,(2,())))))))),(0,(a27,(a5,(a1,(a14,(a2,(1,(3,())))))))),(0,(a25,(a5,(a1,(a6,(a2,(1,(3,())))))))),(0,(a19,(a11,(a36,(a6,(a2,(1,(3,())))))))),(0,(a20,(a11,(a1,(a6,(a2,(1,(3,())))))))),(0,(a23,(a5,(a1,(a7,(a2,(1,(3,())))))))),(0,(a16,(a29,(a1,(a7,(a2,(1,(3,())))))))),(0,(a12,(a4,(a1,(a7,(a2,(1,(3,())))))))),(0,(a9,(a4,(a18,(a30,(a35,(3,(3,())))))))),(0,(a13,(a4,(a1,(a15,(a3,(3,(3,())))))))),(0,(a10,(a31,(a18,(a8,(a3,(3,(3,())))))))),(0,(a22,(a4,(a1,(a17,(a3,(3,(3,())))))))),(0,(a24,(a5,(a1,(a8,(a3,(3,(3,())))))))),(0,(a28,(a4,((0,(0,())),(a15,(a3,(4,(4,())))))))),(0,(a33,(a4,((0,(0,())),(a17,(a3,(4,(4,())))))))),(0,(a21,(a32,((0,(0,())),(a8,(a3,(4,(4,()))))))))])),[])) none
theorem e_f164  : JS Qd7 QkY Qws false [] []=Qwv  :=by kernel_rfl
theorem QIL (x113 x114:Int)(y111:List Suite)(h:(decide (0<=x114/\x114<=16/\x113=16/\y111.length=16))=true):Qd8 x113 x114 y111=Qk0 x113 x114 y111:=by
 simp only [Ba] at h
 obtain ⟨h1,h2,rfl,h4⟩:=h
 obtain ⟨k,rfl⟩:=Bq h1
 revert y111
 refine QnS 16 (fun k=> ∀ y111:List Suite,y111.length=16->Qd8 16 (k:Int) y111=Qk0 16 (k:Int) y111) ?_ ?_ k (by omega)
 ·intro y111 _
  rw [Qwu]
  rfl
 ·intro k hk ih y111 hy
  rw [Qwu]
  have e1:ilt (k:Int) 16=true:=Be (by omega)
  have e2:cLd y111 k=true:=Be (by omega)
  have e3:EH k y111=EH (k+1) (y111.set k (((k+1:Nat):Int),(y111.getD k QkW).2)):=by
   have:16-k=(16-(k+1))+1:=by omega
   unfold EH
   rw [this,Du,List.foldl_cons]
  simp only [Qd9,e1,Qd,QJ,show decide (k<y111.length)=true from Be (by omega),Bd,e2,QT (show k<4611686018427387904 by omega)]
  rw [ih _ (by rw [List.length_set];exact hy)]
  simp only [Qk0,Bd,e3]
theorem QIM:LO Qd7 QkX Qwr 0:=QH (s:=Qd6) fun x y h _ q=>by simp only [QE,QF] at q;exact (QIL x.2.1 x.2.2.1 y.1 h).trans q
set_option maxRecDepth 100000 in
theorem s_f164:Qwv=some (.t (.sl Q3) YU,[]):=by kernel_rfl
def Qww:Ent:=Ql .nil (fun x=>true) (fun x=>(.t (.sl Q3) YU))
theorem QIN:EM 164 Qww:=mS (lk:=lkL (lkc QIM lkn)) Qd7 QkY Qws false (Z2 _ (gA (gD QIE gN))) fun m=>Qn m fun x _=>(e_f164 ).trans (s_f164)
theorem QIO:(List.length (α:=Q3.T) YU)=16:=by kernel_rfl
theorem Qwx:Qa (α:=Q3.T) YU=16:=by kernel_rfl
theorem Qwy {c:Int}(h:1<=c/\c<=16):cIx (α:=Q3.T) YU (c-1)=true:=by
 have:=QIO
 simp only [cIx,Ba]
 omega
def QX (c:Int):Suite×Int:=if c<1∨16<c then (QkW,8) else (lgt Q3 YU (c-1).toNat,0)
def QIP:TC:=aF Tryz.f124 []
def g_f124:G:=gG 20 [(164,Qww)] (fun _ _=>none)
def Qwz (p0:Int):OV:=br (ilt p0 1) (some (.tu [(.t Q3 (0,((ByteArray.mk #[]),((0,(0,())),((0,(0,())),((0,(0,())),((0,(0,())),(0,(0,()))))))))),(.t tI 8)],[])) (br (igt p0 (Qa YU)) (some (.tu [(.t Q3 (0,((ByteArray.mk #[]),((0,(0,())),((0,(0,())),((0,(0,())),((0,(0,())),(0,(0,()))))))))),(.t tI 8)],[])) (br (cIx YU (Q6 .i64 p0 1)) (some (.tu [(.t Q3 (lgt Q3 YU (Int.toNat (Q6 .i64 p0 1)))),(.t tI 0)],[])) none))
theorem s_f124 (c:Int):Qwz c=some (.tu [.t Q3 (QX c).1,.t tI (QX c).2],[]):=by
 simp only [Qwz]
 unfold QX
 refine QZ (fun h1=> ?_) (fun h1=>QZ (fun h2=> ?_) (fun h2=> ?_))
 ·simp only [ilt,Ba] at h1
  rw [if_pos (.inl h1)]
  rfl
 ·have h2:=Bx h2
  have:=Qwx
  rw [if_pos (.inr (by omega))]
  rfl
 ·simp only [ilt,Bn] at h1
  have h2:=DA h2
  have:=Qwx
  rw [if_neg (by omega),Xk (by omega),Qwy (by omega),Qd]
def O8:Ent:=Ql (.pr tI .nil) (fun x=>true) (fun x=>(.tu [(.t Q3 ((QX x.1).1)),(.t tI ((QX x.1).2))]))
theorem Qea:EM 124 O8:=mS g_f124 QIP [((.c 2 true 12),some Q3),((.t 3),some tI)] false (gB (gD QIN gN)) fun m=>Qn m fun x _=>kT (s_f124 x.1)
def tc_f64:TC:=aF Tryz.f64 []
def g_f64:G:=gG 16 [(105,Qwp)] (fun _ _=>none)
def r_f64 (p0:Int):OV:=br (ilt p0 1) (some (.tu [(.t Q3 (0,((ByteArray.mk #[]),((0,(0,())),((0,(0,())),((0,(0,())),((0,(0,())),(0,(0,()))))))))),(.t tI 8)],[])) (br (igt p0 16) (some (.tu [(.t Q3 (0,((ByteArray.mk #[]),((0,(0,())),((0,(0,())),((0,(0,())),((0,(0,())),(0,(0,()))))))))),(.t tI 8)],[])) (br (cIx YU (Q6 .i64 p0 1)) (some (.tu [(.t Q3 (lgt Q3 YU (Int.toNat (Q6 .i64 p0 1)))),(.t tI 0)],[])) none))
theorem s_f64 (c:Int):r_f64 c=some (.tu [.t Q3 (QX c).1,.t tI (QX c).2],[]):=by
 simp only [r_f64]
 unfold QX
 refine QZ (fun h1=> ?_) (fun h1=>QZ (fun h2=> ?_) (fun h2=> ?_))
 ·simp only [ilt,Ba] at h1
  rw [if_pos (.inl h1)]
  rfl
 ·simp only [igt,Ba] at h2
  rw [if_pos (.inr (by omega))]
  rfl
 ·simp only [ilt,Bn] at h1
  simp only [igt,Bn] at h2
  rw [if_neg (by omega),Xk (by omega),Qwy (by omega),Qd]
def QwA:Ent:=Ql (.pr tI .nil) (fun x=>true) (fun x=>(.tu [(.t Q3 ((QX x.1).1)),(.t tI ((QX x.1).2))]))
theorem ms_f64:EM 64 QwA:=mS g_f64 tc_f64 [((.c 2 true 12),some Q3),((.t 3),some tI)] false (gB (gD QIJ gN)) fun m=>Qn m fun x _=>kT (s_f64 x.1)
abbrev Qeb:Sh:=⟨[(0,.ty (.sl tI)),(1,.ty tI),(5,.ty tI)],[]⟩
abbrev QwB:Sh:=⟨[(4,.ty .bool)],[]⟩
abbrev QwC:Sh:=⟨[],[]⟩
def Qk1:Fg:=Qeb.f
def QwD:TC:=aF Tryz.f99 [(26,pL 0 Qk1),(419,.fg QwC.f),(3365,.fg QwB.f)]
def QwE:TC:=lb 0 QwD
def QwF (x0:List Int)(x1 x5:Int):VS:=Qeb.st (x0,x1,x5,()) ()
def Qk2 (x4:Bool):VS:=QwB.st (x4,()) ()
def Qk3  : VS:=QwC.st () ()
def QIQ:VS->Option (Bool×List (Bool×Exit×VS)):=mkL Qeb (fun x y=>(decide (x.1.length<=100000/\0<=x.2.2.1/\x.2.2.1<=x.1.length))) (fun x y=>[(((x.1.drop x.2.2.1.toNat).contains x.2.1),.ret,Qk2 (true)),(true,.exit 0,Qk3)])
def Qk4:G:=gG 18 [] (Ls [QIQ])
def Qec (x0:List Int)(x1 x5:Int):OX:=Qv (QB Qk4 Qk1 QwE) (QwF x0 x1 x5)
def O9 (kk:List Int->Int->Int->OX)(x0:List Int)(x1 x5:Int):OX:=br (ilt x5 (Qa x0)) (br (cIx x0 x5) (br (ieq (lgt tI x0 (Int.toNat x5)) x1) (some (.ret,Qk2 true)) (kk x0 x1 (Qf .i64 x5 1))) none) (some (.exit 0,Qk3))
def Qed (x0:List Int)(x1 x5:Int):OX:=br ((x0.drop x5.toNat).contains x1) (some (.ret,Qk2 (true)))<|some (.exit 0,Qk3)
theorem QwG (x0:List Int)(x1 x5:Int):Qec x0 x1 x5=O9 Qec x0 x1 x5:=lnT (x:=O9 (fun x0 x1 x5=>some (.normal,QwF x0 x1 x5)) x0 x1 x5) (by simp only [O9,nxA];rfl)
def r_f99 (p0:List Int)(p1:Int):OV:=br (decide (p0.length<=100000/\0<=(0:Int)/\(0:Int)<=p0.length)) (br ((p0.drop (0:Int).toNat).contains p1) (some (.t .bool (true),[])) (some (.t .bool false,[]))) none
theorem QIR (x0:List Int)(x1 x5:Int)(h:(decide (x0.length<=100000/\0<=x5/\x5<=x0.length))=true):Qec x0 x1 x5=Qed x0 x1 x5:=by
 simp only [Ba] at h
 obtain ⟨h2,h3,h4⟩:=h
 obtain ⟨k,rfl⟩:=Bq h3
 refine QU x0 (fun k=>Qec x0 x1 (k:Int)=Qed x0 x1 (k:Int)) ?_ ?_ k (by omega)
 ·rw [QwG]
  simp [O9,Qed,QD,Qa,Qh]
 ·intro k hk ih
  rw [QwG]
  simp only [O9,QD,Qa,QJ,hk,Bv,Qd,Bd,QT (show k<4611686018427387904 by omega),ih,QS (y:=tI) hk]
  simp only [Qed,Bd,Bj hk,List.contains_cons,ieq]
  have hc:(x1==x0[k])=(x0[k]==x1):=Bool.beq_comm
  rw [hc]
  cases x0[k]==x1<;>rfl
theorem QIS:LO Qk4 Qk1 QwE 0:=QH (s:=Qeb) fun x y h _ q=>by simp only [QE,QF] at q;exact (QIR x.1 x.2.1 x.2.2.1 h).trans q
theorem s_f99 (l:List Int)(n:Int)(h:Jz l n=true):r_f99 l n=some (.t .bool (Jo l n),[]):=by
 simp only [Jz,Ba] at h
 simp only [r_f99,Bw,BD]
 rw [Fi ⟨h,BT 0,by omega⟩,Qd]
 unfold Jo
 cases l.contains n<;>rfl
def QwH:Ent:=Ql (.pr (.sl tI) (.pr tI .nil)) (fun x=>(Jz x.1 x.2.1)) (fun x=>(.t .bool (Jo x.1 x.2.1)))
theorem ms_f99:EM 99 QwH:=mS (lk:=lkL (lkc QIS lkn)) Qk4 QwD [((.t 4),some .bool)] false (gB gN) fun m=>Qn m fun x hok=>kT (s_f99 x.1 x.2.1 hok)
theorem QwI (a b:Keep):(and (ieq a.1 b.1) (and (ieq a.2.1 b.2.1) true))=(a==b):=by
 obtain ⟨a1,a2,_⟩:=a
 obtain ⟨b1,b2,_⟩:=b
 show _=((a1==b1)&&((a2==b2)&&true))
 rfl
end
end Go.Proofs.YtmjnnemhoeolgaaGreat.K
noncomputable section
namespace Go.Proofs.YtmjnnemhoeolgaaGreat.K
open Go.RowKit
noncomputable section
theorem Qee (a b:Int):ige a b= !ilt a b:=by
 simp only [ige,ilt]
 rw [DC]
 simp
theorem Qk6 (a b:Int):ile a b= !igt a b:=by
 simp only [ile,igt]
 rw [DC]
 simp
theorem GN (a b:Int):ine a b= !ieq a b:=rfl
theorem brB {q r:Bool}{X:OV}(h:X=some (.t .bool r,[])):br q (some (.t .bool false,[])) X=some (.t .bool (!q&&r),[]):=by
 subst h
 cases q<;>rfl
theorem brA {q r:Bool}{X:OV}(h:X=some (.t .bool r,[])):br q X (some (.t .bool false,[]))=some (.t .bool (q&&r),[]):=by
 subst h
 cases q<;>rfl
theorem br9 {q v:Bool}{n:Int}{X:OV}(h0:q=true->v=false)(hX:q=false->X=some (.t tI (bif v then 0 else n),[])):br q (some (.t tI n,[])) X=some (.t tI (bif v then 0 else n),[]):=by
 cases q with
 |true=>rw [Qd,h0 rfl];rfl
 |false=>rw [Qh,hX rfl]
open Classical in
def Xe {α:Type}(a b:α):Bool:=decide (a=b)
theorem Qk7 {α:Type}(a:α):Xe a a=true:=by
 unfold Xe
 simp
theorem Qk8 {α:Type}{a b:α}(h:Xe a b=true):a=b:=by
 unfold Xe at h
 simpa using h
def J2 (n:Int):Bool:= !ilt n 0&& !igt n 2147483648
def tc_f83:TC:=aF Tryz.f83 []
def g_f83:G:=gG 9 [] (fun _ _=>none)
def r_f83 (p0:Int):OV:=br (ige p0 0) (some (.t .bool (ile p0 2147483648),[])) (some (.t .bool false,[]))
theorem s_f83 (n:Int):r_f83 n=some (.t .bool (J2 n),[]):=by
 simp only [r_f83,Qee,Qk6]
 exact brA rfl
def Vb:Ent:=Ql (.pr tI .nil) (fun x=>true) (fun x=>(.t .bool (J2 x.1)))
theorem Qef:EM 83 Vb:=mS g_f83 tc_f83 [((.t 2),some .bool)] false (gB gN) fun m=>Qn m fun x _=>kT (s_f83 x.1)
def UT (n:Int):Bool:= !ilt n 0&& !ige n 4294967296
def QIX:TC:=aF Tryz.f200 []
def g_f200:G:=gG 9 [] (fun _ _=>none)
def QwM (p0:Int):OV:=br (ige p0 0) (some (.t .bool (ilt p0 4294967296),[])) (some (.t .bool false,[]))
theorem s_f200 (n:Int):QwM n=some (.t .bool (UT n),[]):=by
 simp only [QwM,UT,Qee,Bool.not_not]
 exact brA rfl
def QwN:Ent:=Ql (.pr tI .nil) (fun x=>true) (fun x=>(.t .bool (UT x.1)))
theorem QIY:EM 200 QwN:=mS g_f200 QIX [((.t 2),some .bool)] false (gB gN) fun m=>Qn m fun x _=>kT (s_f200 x.1)
def Yn (l:List ByteArray)(k:Nat):Bool:=(List.range' k (l.length-k)).all fun j=>Jv (l.getD j ByteArray.empty)&&(decide (j=0)||slt (l.getD (j-1) ByteArray.empty) (l.getD j ByteArray.empty))
theorem QwO (l:List ByteArray):Yn l l.length=true:=by
 unfold Yn
 rw [Nat.sub_self]
 rfl
theorem QwP {l:List ByteArray}{k:Nat}(hk:k<l.length):Yn l k=((Jv l[k]&&(decide (k=0)||slt (l.getD (k-1) ByteArray.empty) l[k]))&&Yn l (k+1)):=by
 have:l.length-k=(l.length-(k+1))+1:=by omega
 unfold Yn
 rw [this,Du,BV]
 simp only [Bk,Bh hk,BI]
def Ws (l:List ByteArray):Bool:=Yn l 0&& !igt (Qa l) 8
def Yz (l:List ByteArray):Bool:=decide (l.length<=100000)&&l.all Jb
abbrev Qeg:Sh:=⟨[(0,.ty (.sl .str)),(5,.ty (.sl .str)),(6,.ty tI),(7,.ty tI)],[]⟩
abbrev QwQ:Sh:=⟨[(2,.ty .bool)],[]⟩
abbrev QwR:Sh:=⟨[(0,.ty (.sl .str))],[]⟩
def Qk9:Fg:=Qeg.f
def QwS:TC:=aF Tryz.f198 [(26,pL 0 Qk9),(421,.fg QwR.f),(13517,.fg QwQ.f)]
def QwT:TC:=lb 0 QwS
def QwU (x0 x5:List ByteArray)(x6 x7:Int):VS:=Qeg.st (x0,x5,x6,x7,()) ()
def Qeh (x2:Bool):VS:=QwQ.st (x2,()) ()
def Qla (x0:List ByteArray):VS:=QwR.st (x0,()) ()
def QIZ:VS->Option (Bool×List (Bool×Exit×VS)):=mkL Qeg (fun x y=>(Qz x.2.1 x.2.2.1 x.2.2.2.1&&Xe x.1 x.2.1&&Yz x.2.1)) (fun x y=>[((!Yn x.2.1 x.2.2.2.1.toNat),.ret,Qeh (false)),(true,.exit 0,Qla (x.1))])
def Qlb:G:=gG 32 [(86,Ob)] (Ls [QIZ])
def Qei (x0 x5:List ByteArray)(x6 x7:Int):OX:=Qv (QB Qlb Qk9 QwT) (QwU x0 x5 x6 x7)
def Vc (kk:List ByteArray->List ByteArray->Int->Int->OX)(x0 x5:List ByteArray)(x6 x7:Int):OX:=
 let a1:=lgt .str x5 (Int.toNat x7)
 br (ilt x7 x6) (br (cIx x5 x7) (br (Jb a1) (br (!(Jv a1)) (some (.ret,Qeh false)) (br (igt x7 0) (br (cIx x0 (Q6 .i64 x7 1)) (br (!slt (lgt .str x0 (Int.toNat (Q6 .i64 x7 1))) a1) (some (.ret,Qeh false)) (kk x0 x5 x6 (Qf .i64 x7 1))) none) (kk x0 x5 x6 (Qf .i64 x7 1)))) none) none) (some (.exit 0,Qla x0))
def Qej (x0 x5:List ByteArray)(x6 x7:Int):OX:=br (!Yn x5 x7.toNat) (some (.ret,Qeh (false)))<|some (.exit 0,Qla (x0))
theorem QwV (x0 x5:List ByteArray)(x6 x7:Int):Qei x0 x5 x6 x7=Vc Qei x0 x5 x6 x7:=lnT (x:=Vc (fun x0 x5 x6 x7=>some (.normal,QwU x0 x5 x6 x7)) x0 x5 x6 x7) (by simp only [Vc,nxA];rfl)
def QwW (p0:List ByteArray):OV:=br (Qz p0 (Qa p0) (0:Int)&&Xe p0 p0&&Yz p0) (br (!Yn p0 (0:Int).toNat) (some (.t .bool (false),[])) (some (.t .bool (ile (Qa (p0)) 8),[]))) none
theorem QwX {l:List ByteArray}{k:Nat}(h:0<k)(hk:k<l.length):lgt .str l (Int.toNat (Q6 .i64 (k:Int) 1))=l.getD (k-1) ByteArray.empty/\cIx l (Q6 .i64 (k:Int) 1)=decide (k-1<l.length)∨4611686018427387904<=k:=by
 rcases B8 k 4611686018427387904 with hb|hb
 ·left
  have e:Q6 .i64 (k:Int) 1=((k-1:Nat):Int):=by rw [Xk (by omega)];omega
  rw [e,Bd,QJ]
  exact ⟨rfl,rfl⟩
 ·exact .inr hb
theorem QI0 (x0 x5:List ByteArray)(x6 x7:Int)(h:(Qz x5 x6 x7&&Xe x0 x5&&Yz x5)=true):Qei x0 x5 x6 x7=Qej x0 x5 x6 x7:=by
 simp only [Bc] at h
 obtain ⟨⟨h0,hs⟩,hn⟩:=h
 have hs:=Qk8 hs
 subst hs
 obtain ⟨rfl,h3,k,rfl,hk⟩:=JJ h0
 clear h0
 simp only [Yz,Bc,Bf] at hn
 refine QU x0 (fun k=>Qei x0 x0 (x0.length:Int) (k:Int)=Qej x0 x0 (x0.length:Int) (k:Int)) ?_ ?_ k hk
 ·rw [QwV]
  simp only [Vc,Qej,QD,B0,B4,Qh,Bd,QwO,BH]
 ·intro k hk ih
  rw [QwV]
  have hx:=hn.2 x0[k] (Bu hk)
  simp only [Vc,QD,QJ,hk,Bv,Qd,Bd,QT (show k<4611686018427387904 by omega),QS (y:= .str) hk,hx,ih]
  simp only [Qej,Bd,QwP hk]
  cases hg:Jv x0[k] with
  |false=>rfl
  |true=>
   simp only [BH,Qh,BC]
   by_cases h0:k=0
   ·subst h0
    simp only [show igt ((0:Nat):Int) 0=false from rfl,Qh,Bv,Bool.true_or,BC]
   ·rcases QwX (l:=x0) (k:=k) (by omega) hk with ⟨e1,e2⟩|hb
    ·rw [show igt (k:Int) 0=true from Be (by omega),Qd,e2,Be (show k-1<x0.length by omega),Qd,e1,Bo h0,Dk]
     cases slt (x0.getD (k-1) ByteArray.empty) x0[k]<;>rfl
    ·omega
theorem QI1:LO Qlb Qk9 QwT 0:=QH (s:=Qeg) fun x y h _ q=>by simp only [QE,QF] at q;exact (QI0 x.1 x.2.1 x.2.2.1 x.2.2.2.1 h).trans q
theorem s_f198 (l:List ByteArray)(h:Yz l=true):QwW l=some (.t .bool (Ws l),[]):=by
 have hl:l.length<=100000:=by simp only [Yz,Bc,Ba] at h;exact h.1
 simp only [QwW,JK hl,Qk7,h,B2,Qd,Bw,Qk6,Ws]
 cases Yn l 0<;>rfl
def QwY:Ent:=Ql (.pr (.sl .str) .nil) (fun x=>(Yz x.1)) (fun x=>(.t .bool (Ws x.1)))
theorem QI2:EM 198 QwY:=mS (lk:=lkL (lkc QI1 lkn)) Qlb QwS [((.t 2),some .bool)] false (gB (gD Qcc gN)) fun m=>Qn m fun x hok=>kT (s_f198 x.1 hok)
def Ya (u:Keep)(k:Int):Bool:=JU u&&ieq (Z9 u.1) k
def QI3:TC:=aF Tryz.f199 []
def g_f199:G:=gG 14 [(87,EZ),(126,Qd3)] (fun _ _=>none)
def QwZ (p0:Keep)(p1:Int):OV:=br (JU p0) (some (.t .bool (ieq (Z9 p0.1) p1),[])) (some (.t .bool false,[]))
theorem s_f199 (u:Keep)(k:Int):QwZ u k=some (.t .bool (Ya u k),[]):=by
 simp only [QwZ]
 exact brA rfl
def Qw0:Ent:=Ql (.pr Qe (.pr tI .nil)) (fun x=>true) (fun x=>(.t .bool (Ya x.1 x.2.1)))
theorem QI4:EM 199 Qw0:=mS g_f199 QI3 [((.t 4),some .bool)] false (gB (gD VC (gD QkU gN))) fun m=>Qn m fun x _=>kT (s_f199 x.1 x.2.1)
def GO (u:Keep):Bool:=Ya u 2
def QI5:TC:=aF Tryz.f140 []
def g_f140:G:=gG 11 [(101,Qd5),(117,Qe1)] (fun _ _=>none)
def Qw1 (p0:Keep):OV:=br (JU p0) (some (.t .bool (ieq (Z9 p0.1) 2),[])) (some (.t .bool false,[]))
theorem s_f140 (u:Keep):Qw1 u=some (.t .bool (GO u),[]):=by
 simp only [Qw1]
 exact brA rfl
def Qlc:Ent:=Ql (.pr Qe .nil) (fun x=>true) (fun x=>(.t .bool (GO x.1)))
theorem Qw2:EM 140 Qlc:=mS g_f140 QI5 [((.t 2),some .bool)] false (gB (gD QkV (gD Qme gN))) fun m=>Qn m fun x _=>kT (s_f140 x.1)
abbrev Qs (c:Certificate):List ByteArray:=c.2.2.2.2.2.2.2.2.2.2.1
abbrev Wt (c:Certificate):Keep:=c.2.2.2.2.2.2.2.2.2.2.2.1
def JP (c:Certificate):Bool:=Jb c.2.1&&(Jb c.2.2.1&&Yz (Qs c))
def QR (c:Certificate):Bool:=
 !ilt c.1 0&&(!igt c.1 1099511627776&&(Jv c.2.1&&(Jv c.2.2.1&&(Ws (Qs c)&&(Ya c.2.2.2.1 2&&(J2 c.2.2.2.2.1&&(Ya c.2.2.2.2.2.1 1&&(J2 (Wt c).1&&(UT (Wt c).2.1&&
 (!ilt c.2.2.2.2.2.2.1 0&&(!igt c.2.2.2.2.2.2.1 c.2.2.2.2.2.2.2.1&&(!igt c.2.2.2.2.2.2.2.1 40000&&(!ilt c.2.2.2.2.2.2.2.2.2.1 0&&(!igt c.2.2.2.2.2.2.2.2.2.1 8&&(c.2.2.2.2.2.2.2.2.1||ieq c.2.2.2.2.2.2.2.2.2.1 0)))))))))))))))
def QI6:TC:=aF Tryz.f167 []
def g_f167:G:=gG 91 [(83,Vb),(86,Ob),(198,QwY),(199,Qw0),(200,QwN)] (fun _ _=>none)
def Qw3 (p0:Certificate):OV:=br (ilt p0.1 0) (some (.t .bool false,[])) (br (igt p0.1 1099511627776) (some (.t .bool false,[])) (br (Jb p0.2.1) (br (!(Jv p0.2.1)) (some (.t .bool false,[])) (br (Jb p0.2.2.1) (br (!(Jv p0.2.2.1)) (some (.t .bool false,[])) (br (Yz p0.2.2.2.2.2.2.2.2.2.2.1) (br (!(Ws p0.2.2.2.2.2.2.2.2.2.2.1)) (some (.t .bool false,[])) (br (!(Ya p0.2.2.2.1 2)) (some (.t .bool false,[])) (br (!(J2 p0.2.2.2.2.1)) (some (.t .bool false,[])) (br (!(Ya p0.2.2.2.2.2.1 1)) (some (.t .bool false,[])) (br (!(J2 p0.2.2.2.2.2.2.2.2.2.2.2.1.1)) (some (.t .bool false,[])) (br (!(UT p0.2.2.2.2.2.2.2.2.2.2.2.1.2.1)) (some (.t .bool false,[])) (br (ilt p0.2.2.2.2.2.2.1 0) (some (.t .bool false,[])) (br (igt p0.2.2.2.2.2.2.1 p0.2.2.2.2.2.2.2.1) (some (.t .bool false,[])) (br (igt p0.2.2.2.2.2.2.2.1 40000) (some (.t .bool false,[])) (br (ige p0.2.2.2.2.2.2.2.2.2.1 0) (br (ile p0.2.2.2.2.2.2.2.2.2.1 8) (br (p0.2.2.2.2.2.2.2.2.1) (some (.t .bool true,[])) (some (.t .bool (ieq p0.2.2.2.2.2.2.2.2.2.1 0),[]))) (some (.t .bool false,[]))) (some (.t .bool false,[])))))))))))) none)) none)) none))
theorem s_f167 (c:Certificate)(h:JP c=true):Qw3 c=some (.t .bool (QR c),[]):=by
 simp only [JP,Bc] at h
 obtain ⟨h1,h2,h3⟩:=h
 simp only [Qw3,h1,h2,h3,Qd,Qee,Qk6]
 refine (brB<|brB<|brB<|brB<|brB<|brB<|brB<|brB<|brB<|brB<|brB<|brB<|brB<|brA<|brA (r:=c.2.2.2.2.2.2.2.2.1||ieq c.2.2.2.2.2.2.2.2.2.1 0) ?_).trans ?_
 ·cases c.2.2.2.2.2.2.2.2.1<;>rfl
 ·simp only [Bool.not_not,QR]
def Qw4:Ent:=Ql (.pr QW .nil) (fun x=>(JP x.1)) (fun x=>(.t .bool (QR x.1)))
theorem QI7:EM 167 Qw4:=mS g_f167 QI6 [((.t 2),some .bool)] false (gB (gD Qef (gD Qcc (gD QI2 (gD QI4 (gD QIY gN)))))) fun m=>Qn m fun x hok=>kT (s_f167 x.1 hok)
def XF (c:Certificate):Int:=bif QR c then 0 else 9
theorem Vd (c:Certificate):ine (XF c) 0= !QR c:=by
 unfold XF
 cases QR c<;>rfl
def QI8:TC:=aF Tryz.f127 []
def g_f127:G:=gG 6 [(167,Qw4)] (fun _ _=>none)
def Qw5 (p0:Certificate):OV:=br (JP p0) (br (!(QR p0)) (some (.t tI 9,[])) (some (.t tI 0,[]))) none
theorem s_f127 (c:Certificate)(h:JP c=true):Qw5 c=some (.t tI (XF c),[]):=by
 simp only [Qw5,h,Qd,XF]
 cases QR c<;>rfl
def Qw6:Ent:=Ql (.pr QW .nil) (fun x=>(JP x.1)) (fun x=>(.t tI (XF x.1)))
theorem QI9:EM 127 Qw6:=mS g_f127 QI8 [((.t 2),some tI)] false (gB (gD QI7 gN)) fun m=>Qn m fun x hok=>kT (s_f127 x.1 hok)
abbrev Qek:Sh:=⟨[(1,.ptr 1 0),(3,.ty tI)],[(1,.box QW)]⟩
abbrev Qw7:Sh:=⟨[(2,.ty tI)],[]⟩
abbrev Qw8:Sh:=⟨[(1,.ptr 1 0)],[(1,.box QW)]⟩
def Qld:Fg:=Qek.f
def Qw9:TC:=aF Tryz.f113 [(250,pL 0 Qld),(4003,.fg Qw8.f),(8008,pD [(0,[1]),(1,[1]),(2,[]),(3,[]),(4,[]),(5,[]),(6,[]),(7,[]),(8,[]),(9,[]),(10,[]),(11,[1]),(12,[1]),(13,[]),(14,[]),(15,[]),(16,[]),(17,[1]),(18,[1]),(19,[]),(20,[]),(21,[]),(22,[]),(23,[]),(24,[])] (.of [0,1,2,3,4,5,6,7,8,9,10,11,12,13,14,15,16,17,18,19,20,21,22,23,24])),(32037,.fg Qw7.f)]
def Qxa:TC:=lb 0 Qw9
def Qxb (x3:Int)(y1:Certificate):VS:=Qek.st ((),x3,()) (y1,())
def Qel (x2:Int):VS:=Qw7.st (x2,()) ()
def Qle (y1:Certificate):VS:=Qw8.st ((),()) (y1,())
def QJa:VS->Option (Bool×List (Bool×Exit×VS)):=mkL Qek (fun x y=>(decide (0<=x.2.1/\x.2.1<=(Qs y.1).length)&&Yz (Qs y.1))) (fun x y=>[((!Yn (Qs y.1) x.2.1.toNat),.ret,Qel (9)),(true,.exit 0,Qle (y.1))])
def Qlf:G:=gG 146 [(101,Qd5),(116,Qiu),(117,Qe1),(140,Qlc)] (Ls [QJa])
def Qem (x3:Int)(y1:Certificate):OX:=Qv (QB Qlf Qld Qxa) (Qxb x3 y1)
def Ve (kk:Int->Certificate->OX)(x3:Int)(y1:Certificate):OX:=
 let a1:=lgt .str y1.2.2.2.2.2.2.2.2.2.2.1 (Int.toNat x3)
 let a2:=cIx y1.2.2.2.2.2.2.2.2.2.2.1 x3
 br (ilt x3 (Qa y1.2.2.2.2.2.2.2.2.2.2.1)) (br a2 (br (Jb a1) (br (!(Jv a1)) (some (.ret,Qel 9)) (br (igt x3 0) (br (cIx y1.2.2.2.2.2.2.2.2.2.2.1 (Q6 .i64 x3 1)) (br a2 (br (!slt (lgt .str y1.2.2.2.2.2.2.2.2.2.2.1 (Int.toNat (Q6 .i64 x3 1))) a1) (some (.ret,Qel 9)) (kk (Qf .i64 x3 1) y1)) none) none) (kk (Qf .i64 x3 1) y1))) none) none) (some (.exit 0,Qle y1))
def Qen (x3:Int)(y1:Certificate):OX:=br (!Yn (Qs y1) x3.toNat) (some (.ret,Qel (9)))<|some (.exit 0,Qle (y1))
theorem Qxc (x3:Int)(y1:Certificate):Qem x3 y1=Ve Qem x3 y1:=lnT (x:=Ve (fun x3 y1=>some (.normal,Qxb x3 y1)) x3 y1) (by simp only [Ve,nxA];rfl)
def Qlg (p0:Certificate):OV:=
 let a1:=(((((((((((((p0).2).2).2).2).2).2).2).2).2).2).2).1)
 br (igt (Qa p0.2.2.2.2.2.2.2.2.2.2.1) 8) (some (.t tI 9,[])) (br (decide (0<=(0:Int)/\(0:Int)<=(Qs p0).length)&&Yz (Qs p0)) (br (!Yn (Qs p0) (0:Int).toNat) (some (.t tI (9),[])) (br (ilt (a1.1) 0) (some (.t tI 9,[])) (br (igt (a1.1) 2147483648) (some (.t tI 9,[])) (br (ilt ((a1.2).1) 0) (some (.t tI 9,[])) (br (ige ((a1.2).1) 4294967296) (some (.t tI 9,[])) (some (.t tI 0,[]))))))) none)
def Qxd (p0:Certificate):OV:=br (ilt p0.1 0) (some (.t tI 9,[])) (br (igt p0.1 1099511627776) (some (.t tI 9,[])) (br (Jb p0.2.1) (br (!(Jv p0.2.1)) (some (.t tI 9,[])) (br (Jb p0.2.2.1) (br (!(Jv p0.2.2.1)) (some (.t tI 9,[])) (br (!(GO p0.2.2.2.1)) (some (.t tI 9,[])) (br (ilt p0.2.2.2.2.1 0) (some (.t tI 9,[])) (br (igt p0.2.2.2.2.1 2147483648) (some (.t tI 9,[])) (br (!(JU p0.2.2.2.2.2.1)) (some (.t tI 9,[])) (br (ine (Z9 p0.2.2.2.2.2.1.1) 1) (some (.t tI 9,[])) (br (ilt p0.2.2.2.2.2.2.1 0) (some (.t tI 9,[])) (br (igt p0.2.2.2.2.2.2.1 p0.2.2.2.2.2.2.2.1) (some (.t tI 9,[])) (br (igt p0.2.2.2.2.2.2.2.1 40000) (some (.t tI 9,[])) (br (ilt p0.2.2.2.2.2.2.2.2.2.1 0) (some (.t tI 9,[])) (br (igt p0.2.2.2.2.2.2.2.2.2.1 8) (some (.t tI 9,[])) (br (!p0.2.2.2.2.2.2.2.2.1) (br (ine p0.2.2.2.2.2.2.2.2.2.1 0) (some (.t tI 9,[])) (Qlg p0)) (Qlg p0))))))))))))) none)) none))
theorem QJb (x3:Int)(y1:Certificate)(h:(decide (0<=x3/\x3<=(Qs y1).length)&&Yz (Qs y1))=true):Qem x3 y1=Qen x3 y1:=by
 simp only [Bc,Ba] at h
 obtain ⟨⟨h0,h1⟩,hn⟩:=h
 obtain ⟨k,rfl⟩:=Bq h0
 simp only [Yz,Bc,Bf,Ba] at hn
 refine QU (Qs y1) (fun k=>Qem (k:Int) y1=Qen (k:Int) y1) ?_ ?_ k (by omega)
 ·rw [Qxc]
  simp only [Ve,Qen,show ilt ((Qs y1).length:Int) (Qa (Qs y1))=false from Bo (by simp only [Qa];omega),Qh,Bd,QwO,BH]
 ·intro k hk ih
  rw [Qxc]
  have hx:=hn.2 (Qs y1)[k] (Bu hk)
  simp only [Ve,show ilt (k:Int) (Qa (Qs y1))=true from Be (by simp only [Qa];omega),QJ,hk,Bv,Qd,Bd,QT (show k<4611686018427387904 by omega),QS (y:= .str) hk,hx,ih]
  simp only [Qen,Bd,QwP hk]
  cases hg:Jv (Qs y1)[k] with
  |false=>rfl
  |true=>
   simp only [BH,Qh,BC]
   by_cases h0:k=0
   ·subst h0
    simp only [show igt ((0:Nat):Int) 0=false from rfl,Qh,Bv,Bool.true_or,BC]
   ·rcases QwX (l:=Qs y1) (k:=k) (by omega) hk with ⟨e1,e2⟩|hb
    ·rw [show igt (k:Int) 0=true from Be (by omega),Qd,e2,Be (show k-1<(Qs y1).length by omega),Qd,e1,Bo h0,Dk]
     cases slt ((Qs y1).getD (k-1) ByteArray.empty) (Qs y1)[k]<;>rfl
    ·omega
theorem QJc:LO Qlf Qld Qxa 0:=QH (s:=Qek) fun x y h _ q=>by simp only [QE,QF] at q;exact (QJb x.2.1 y.1 h).trans q
theorem s_f113 (c:Certificate)(h:JP c=true):Qxd c=some (.t tI (XF c),[]):=by
 simp only [JP,Bc] at h
 obtain ⟨h1,h2,h3⟩:=h
 have hd:decide ((0:Int)<=0/\(0:Int)<=(Qs c).length)=true:=Be (by omega)
 unfold XF
 simp only [Qxd,Qlg,h1,h2,h3,hd,B2,Qd,Bw,GN]
 refine br9 (fun g=>by simp [QR,g]) fun g1=>br9 (fun g=>by simp [QR,g]) fun g2=>br9 (fun g=>by simp only [Br] at g;simp [QR,g]) fun g3=>br9 (fun g=>by simp only [Br] at g;simp [QR,g]) fun g4=>br9 (fun g=>by simp only [Br,GO] at g;simp [QR,g]) fun g5=>br9 (fun g=>by simp [QR,J2,g]) fun g6=>br9 (fun g=>by simp [QR,J2,g]) fun g7=>br9 (fun g=>by simp only [Br] at g;simp [QR,Ya,g]) fun g8=>br9 (fun g=>by simp only [Br] at g;simp [QR,Ya,g]) fun g9=>br9 (fun g=>by simp [QR,g]) fun g10=>br9 (fun g=>by simp [QR,g]) fun g11=>br9 (fun g=>by simp [QR,g]) fun g12=>br9 (fun g=>by simp [QR,g]) fun g13=>br9 (fun g=>by simp [QR,g]) fun g14=> ?_
 have tail: ∀ (hp:(c.2.2.2.2.2.2.2.2.1||ieq c.2.2.2.2.2.2.2.2.2.1 0)=true),br (igt (Qa (Qs c)) 8) (some (V.t tI 9,([]:List VO))) (br (!Yn (Qs c) 0) (some (V.t tI 9,[])) (br (ilt (Wt c).1 0) (some (V.t tI 9,[])) (br (igt (Wt c).1 2147483648) (some (V.t tI 9,[])) (br (ilt (Wt c).2.1 0) (some (V.t tI 9,[])) (br (ige (Wt c).2.1 4294967296) (some (V.t tI 9,[])) (some (V.t tI 0,[])))))))=some (V.t tI (bif QR c then 0 else 9),([]:List VO)):=by
  intro hp
  refine br9 (fun g=>by simp [QR,Ws,g]) fun g15=>br9 (fun g=>by simp only [Br] at g;simp [QR,Ws,g]) fun g16=>br9 (fun g=>by simp [QR,J2,g]) fun g17=>br9 (fun g=>by simp [QR,J2,g]) fun g18=>br9 (fun g=>by simp [QR,UT,g]) fun g19=>br9 (fun g=>by simp [QR,UT,g]) fun g20=> ?_
  simp only [DQ] at g3 g4 g5 g8 g9 g16
  simp only [GO] at g5
  have:QR c=true:=by
   simp only [QR,Ws,Ya,J2,UT,g1,g2,g3,g4,g6,g7,g8,g9,g10,g11,g12,g13,g14,g15,g16,g17,g18,g19,g20,hp,Bool.not_false,B2,BC]
   simpa only [Ya,Db] using g5
  rw [this]
  rfl
 cases ha:c.2.2.2.2.2.2.2.2.1 with
 |true=>
  rw [BH,Qh]
  exact tail (by rw [ha];rfl)
 |false=>
  rw [Bool.not_false,Qd]
  refine br9 (fun g=>by simp only [Br] at g;simp [QR,ha,g]) fun g=> ?_
  exact tail (by simp only [DQ] at g;rw [g,Bool.or_true])
def Qeo:Ent:=Ql (.pr QW .nil) (fun x=>(JP x.1)) (fun x=>(.t tI (XF x.1)))
theorem Qlh:EM 113 Qeo:=mS (lk:=lkL (lkc QJc lkn)) Qlf Qw9 [((.t 2),some tI)] false (gB (gD QkV (gD Qr5 (gD Qme (gD Qw2 gN))))) fun m=>Qn m fun x hok=>kT (s_f113 x.1 hok)
end
end Go.Proofs.YtmjnnemhoeolgaaGreat.K
noncomputable section
namespace Go.Proofs.YtmjnnemhoeolgaaGreat.K
open Go.RowKit
noncomputable section
theorem QvL (n:Int):(Gf n).length<=8:=by
 rw [Gf,Qn0]
 exact Qau n
theorem GK (n:Nat)(m:Int):okT (n+1) (Ja m)=true:=by
 have:=QvL m
 show okV (n+1) (.mk 2 (Gf m) false [])=true
 simp only [okV,List.isEmpty_nil,Da,Dw,Db,BE]
 rw [Be (by omega)]
 rfl
theorem QdS (n:Nat){s:ByteArray}(h:s.size<=100000):okT (n+1) (J7 s)=true:=by
 have:=GA s
 show okV (n+1) (.mk 12 (QQ s) false [])=true
 simp only [okV,List.isEmpty_nil,Da,Dw,Db,BE]
 rw [Be (by omega)]
 rfl
theorem QH7 (n:Nat)(b:Bool):okT (n+1) (WQ b)=true:=by cases b<;>rfl
theorem QkE {n:Nat}{l:List Qg}(hl:l.length<=100000)(h: ∀ x∈l,okT n x=true):okT (n+1) (Xu l)=true:=by
 show okV (n+1) (.mk 48 [] true (l.map Val.of))=true
 simp only [okV,List.isEmpty_nil,Dh,Db,BE,BM,Bc,Bf,B9]
 refine ⟨⟨⟨rfl,rfl⟩,Be ⟨by omega,hl⟩⟩, ?_⟩
 rintro v ⟨x,hx,rfl⟩
 exact h x hx
theorem QkF {n:Nat}{l:List Qg}(hl:l.length<=100000)(h: ∀ x∈l,okT n x=true):Zn (n+1) l=true:=by
 simp only [Zn,Bc,Ba,Bf]
 exact ⟨hl,h⟩
theorem QkG (x:Qg):((x.1,(x.2.1,(x.2.2.1,(List.map Val.of (List.map Val.un x.2.2.2.1),())))):Qg)=x:=by
 rw [GH]
theorem GL (m:Int):(Zq (Ja m)).length<=18:=by
 have h1:=QvL m
 have h2:=Qb1 ((Gf m).length+0)
 rw [Qb0]
 simp only [Ja,ZO,Bt,Bl,BE]
 omega
theorem QkH (s:ByteArray):(Zq (J7 s)).length<=10+s.size:=by
 have h1:=GA s
 have h2:=Qb1 ((QQ s).length+0)
 rw [Qb0]
 simp only [J7,ZO,Bt,Bl,BE]
 omega
theorem QH8 (b:Bool):(Zq (WQ b)).length<=11:=by cases b<;>decide
theorem QkI (l:List Qg):(Zq (Xu l)).length<=10+(Zv l).length:=by
 have h2:=Qb1 (0+(ZO (l.map Val.of)).length)
 rw [Qb0]
 simp only [Xu,Zv,Bt,Bl,BE]
 omega
def Yy (u:Keep):Qg:=Xu [Ja u.1,Ja u.2.1]
def Ua (u:Keep):Bool:=ZR u.1&&ZR u.2.1
theorem QvM (n:Nat)(u:Keep):okT (n+2) (Yy u)=true:=
 QkE (by simp) fun x hx=>by
  simp only [BX,Dl,or_false] at hx
  rcases hx with rfl|rfl<;>exact GK _ _
theorem QvN (u:Keep):(Zq (Yy u)).length<=46:=by
 have h0:=QkI [Ja u.1,Ja u.2.1]
 have h1:=GL u.1
 have h2:=GL u.2.1
 simp only [Gz,I6,Bl,BE] at h0
 unfold Yy
 omega
theorem QH9 (u:Keep):XW [Ja u.1,Ja u.2.1]=true:=
 QkF (n:=11) (by simp) fun x hx=>by
  simp only [BX,Dl,or_false] at hx
  rcases hx with rfl|rfl<;>exact GK _ _
def QIa:TC:=aF Tryz.f191 [(6,pD [(0,[1]),(1,[1]),(2,[]),(3,[1]),(4,[1]),(5,[]),(6,[]),(7,[]),(8,[2])] (.of [0,1,2,3,4,5,6,7,8]))]
def g_f191:G:=gG 11 [(189,Qim),(190,Qh2)] (fun _ _=>none)
def QvO (p0:Keep):OV:=
 let a1:=((Ja p0.2.1).1,(((Ja p0.2.1).2).1,((((Ja p0.2.1).2).2).1,((List.map Val.of (List.map Val.un (((((Ja p0.2.1).2).2).2).1))),()))))
 let a2:=((Ja p0.1).1,(((Ja p0.1).2).1,((((Ja p0.1).2).2).1,((List.map Val.of (List.map Val.un (((((Ja p0.1).2).2).2).1))),()))))
 br (ZR p0.1) (br (ZR p0.2.1) (br (XW ([a2,a1])) (some (.t Qt (Xu ([a2,a1])),[])) none) none) none
theorem s_f191 (u:Keep)(h:Ua u=true):QvO u=some (.t Qt (Yy u),[]):=by
 simp only [Ua,Bc] at h
 simp only [QvO,h.1,h.2,QkG,QH9,Qd]
 rfl
def QvP:Ent:=Ql (.pr Qe .nil) (fun x=>(Ua x.1)) (fun x=>(.t Qt (Yy x.1)))
theorem QIb:EM 191 QvP:=mS g_f191 QIa [((.c 2 true 4),some Qt)] false (gB (gD QrQ (gD Qq8 gN))) fun m=>Qn m fun x hok=>kT (s_f191 x.1 hok)
def Wp (c:Certificate):List Qg:=[Ja c.1,J7 c.2.1,J7 c.2.2.1,Yy c.2.2.2.1,Ja c.2.2.2.2.1,Yy c.2.2.2.2.2.1,Ja c.2.2.2.2.2.2.1,Ja c.2.2.2.2.2.2.2.1,WQ c.2.2.2.2.2.2.2.2.1,Ja c.2.2.2.2.2.2.2.2.2.1,Xu ((Qs c).map J7)]
def Wq (c:Certificate):Qg:=Xu (Wp c)
def EE (c:Certificate):Bool:=JP c&&QR c
theorem QIc {u:Keep}(h:JU u=true):0<=u.2.1/\u.2.1<=16384/\1<=u.1/\u.1<=22:=by
 simp only [JU,Ba] at h
 have ham: ∀ (s t:List Int),(∀ x∈s,0<=x/\x<=16384)->Zg u.2.1 s t > 0->0<=u.2.1/\u.2.1<=16384:=by
  intro s t hs hg
  unfold Zg at hg
  split at hg
  ·rename_i k hk
   have hm:u.2.1∈s:=by
    have key: ∀ (s:List Int) (k:Nat),Jy u.2.1 s=some k->u.2.1∈s:=by
     intro s
     induction s with
     |nil=>intro k hk;cases hk
     |cons a s ih=>
      intro k hk
      unfold Jy at hk
      split at hk
      ·rename_i ha
       have:=eq_of_beq ha
       rw [this];exact B7
      ·obtain ⟨j,hj,_⟩:=Bg.1 hk
       exact BZ _ (ih j hj)
    exact key s k hk
   exact hs _ hm
  ·omega
 rw [←and_assoc]
 unfold Xh at h
 repeat' split at h
 ·refine ⟨?_,by omega⟩
  unfold U5 at h
  split at h<;>omega
 ·refine ⟨?_,by omega⟩
  unfold EY at h
  split at h
  ·rename_i hc
   simp only [Jo,BF,BX,Dl,or_false] at hc
   omega
  ·omega
 ·exact ⟨ham _ _ (by simp) h,by omega⟩
 ·exact ⟨ham _ _ (by simp) h,by omega⟩
 ·exact ⟨ham _ _ (by simp) h,by omega⟩
 ·exact ⟨ham _ _ (by simp) h,by omega⟩
 ·exact ⟨ham _ _ (by simp) h,by omega⟩
 ·refine ⟨ham _ _ (by simp) h, ?_⟩
  unfold Zg at h
  split at h
  ·rename_i k hk
   unfold Jy at hk
   split at hk
   ·injection hk with hk
    subst hk
    simp only [List.getD_cons_zero,XI] at h
    repeat' split at h
    all_goals omega
   ·cases hk
  ·omega
theorem QvQ {u:Keep}{k:Int}(h:Ya u k=true):Ua u=true:=by
 simp only [Ya,Bc] at h
 have:=QIc h.1
 simp only [Ua,ZR,Bc,Ba]
 omega
theorem QkJ {s:ByteArray}(h:Jv s=true):s.size<=32:=by
 simp only [Jv,Bc,Ba] at h
 exact h.2.2
theorem QId {l:List ByteArray}: ∀ {k:Nat},Yn l k=true→ ∀ j (hj:j<l.length),k<=j->Jv l[j]=true:=by
 intro k h j hj hk
 simp only [Yn,Bf,List.mem_range'_1,Bc] at h
 have:=(h j ⟨hk,by omega⟩).1
 simpa only [Bk,Bh hj,BI] using this
theorem QIe {l:List ByteArray}(h:Ws l=true):l.length<=8∧ ∀ s∈l,s.size<=32:=by
 simp only [Ws,Bc,Br,igt,Qa,Bn] at h
 refine ⟨by omega,fun s hs=> ?_⟩
 obtain ⟨j,hj,rfl⟩:=List.mem_iff_getElem.1 hs
 exact QkJ (QId h.1 j hj (B3 _))
theorem QdT {c:Certificate}(h:QR c=true):ZR c.1=true/\c.2.1.size<=32/\c.2.2.1.size<=32/\Ua c.2.2.2.1=true/\ZR c.2.2.2.2.1=true/\Ua c.2.2.2.2.2.1=true/\ZR c.2.2.2.2.2.2.1=true/\ZR c.2.2.2.2.2.2.2.1=true/\ZR c.2.2.2.2.2.2.2.2.2.1=true/\(Qs c).length<=8∧ ∀ s∈Qs c,s.size<=32:=by
 simp only [QR,J2,Bc,Br,ilt,igt,Bn] at h
 obtain ⟨h1,h2,h3,h4,h5,h6,⟨h7,h7'⟩,h8,⟨h9,h9'⟩,h10,h11,h12,h13,h14,h15,h16⟩:=h
 have hn:=QIe h5
 refine ⟨Be (by omega),QkJ h3,QkJ h4,QvQ h6,Be (by omega),QvQ h8,Be (by omega),Be (by omega),Be (by omega),hn.1,hn.2⟩
theorem QIf (n:Nat){l:List ByteArray}(h:l.length<=8)(hs: ∀ s∈l,s.size<=32):okT (n+2) (Xu (l.map J7))=true:=
 QkE (by rw [BM];omega) fun x hx=>by
  obtain ⟨s,hm,rfl⟩:=B9.1 hx
  exact QdS _ (by have:=hs s hm;omega)
theorem QvR (n:Nat){c:Certificate}(h:QR c=true): ∀ x∈Wp c,okT (n+2) x=true:=by
 obtain ⟨h1,h2,h3,h4,h5,h6,h7,h8,h9,h10,h11⟩:=QdT h
 intro x hx
 simp only [Wp,BX,Dl,or_false] at hx
 rcases hx with rfl|rfl|rfl|rfl|rfl|rfl|rfl|rfl|rfl|rfl|rfl
 ·exact GK _ _
 ·exact QdS _ (by omega)
 ·exact QdS _ (by omega)
 ·exact QvM _ _
 ·exact GK _ _
 ·exact QvM _ _
 ·exact GK _ _
 ·exact GK _ _
 ·exact QH7 _ _
 ·exact GK _ _
 ·exact QIf _ h10 h11
theorem QvS: ∀ {l:List ByteArray},(∀ s∈l,s.size<=32)->(Zv (l.map J7)).length<=42*l.length
 | [],_=>by simp [I6]
 |s::l,h=>by
  have h1:=h s (by simp)
  have h2:=QkH s
  have h3:=QvS (l:=l) fun u hu=>h u (by simp [hu])
  rw [BG,Gz,Bl,Bt]
  omega
theorem QkK {c:Certificate}(h:QR c=true):(Zq (Wq c)).length<=1000:=by
 obtain ⟨h1,h2,h3,h4,h5,h6,h7,h8,h9,h10,h11⟩:=QdT h
 have e0:=QkI (Wp c)
 have e1:=GL c.1
 have e2:=QkH c.2.1
 have e3:=QkH c.2.2.1
 have e4:=QvN c.2.2.2.1
 have e5:=GL c.2.2.2.2.1
 have e6:=QvN c.2.2.2.2.2.1
 have e7:=GL c.2.2.2.2.2.2.1
 have e8:=GL c.2.2.2.2.2.2.2.1
 have e9:=QH8 c.2.2.2.2.2.2.2.2.1
 have e10:=GL c.2.2.2.2.2.2.2.2.2.1
 have e11:=QkI ((Qs c).map J7)
 have e12:=QvS h11
 simp only [Wp,Gz,I6,Bl,BE] at e0
 unfold Wq
 simp only [Wp]
 omega
theorem enc_ok {c:Certificate}(h:QR c=true):WT (Wq c)=true:=by
 have:=QkK h
 simp only [WT,Bc,Ba]
 refine ⟨QkE (by simp [Wp]) (QvR 9 h),by omega⟩
theorem QIg {c:Certificate}(h:QR c=true):XW ((Qs c).map J7)=true:=by
 obtain ⟨h1,h2,h3,h4,h5,h6,h7,h8,h9,h10,h11⟩:=QdT h
 exact QkF (n:=11) (by rw [BM];omega) fun x hx=>by
  obtain ⟨s,hm,rfl⟩:=B9.1 hx
  exact QdS _ (by have:=h11 s hm;omega)
theorem QIh {c:Certificate}(h:QR c=true):XW (Wp c)=true:=QkF (n:=11) (by simp [Wp]) (QvR 9 h)
theorem QkL {s:ByteArray}(h:s.size<=32):Y6 s=true:=Be (by omega)
abbrev QdU:Sh:=⟨[(1,.ptr 1 0),(2,.ptr 2 0),(3,.ms 3),(4,.ty tI)],[(1,.box QW),(2,.box Qt),(3,.arr 225 Qt),(20,.no)]⟩
abbrev QvT:Sh:=⟨[(1,.ptr 1 0),(2,.ptr 2 0),(3,.ms 3)],[(1,.box QW),(2,.box Qt),(3,.arr 225 Qt),(20,.no)]⟩
def QkM:Fg:=QdU.f
def QvU:TC:=aF Tryz.f152 [(58,.nw 3 225),(58,pL 0 QkM),(931,.fg QvT.f),(30,pD [(0,[1]),(1,[1]),(2,[]),(3,[1]),(4,[1]),(5,[]),(6,[1]),(7,[1]),(8,[]),(9,[1]),(10,[1]),(11,[]),(12,[1]),(13,[1]),(14,[]),(15,[1]),(16,[1]),(17,[]),(18,[1]),(19,[1]),(20,[]),(21,[1]),(22,[1]),(23,[]),(24,[1]),(25,[1]),(26,[]),(27,[1]),(28,[1]),(29,[]),(30,[3,20]),(31,[3,20,52,5052,10052,15052]),(32,[]),(33,[]),(34,[2])] (.of [0,1,2,3,4,5,6,7,8,9,10,11,12,13,14,15,16,17,18,19,20,21,22,23,24,25,26,27,28,29,30,31,32,33,34]))]
def QvV:TC:=lb 0 QvU
def QvW (x4:Int)(y1:Certificate)(y2:Qg)(y3:List Qg):VS:=QdU.st ((),(),(),x4,()) (y1,y2,y3,(),())
def QkN (y1:Certificate)(y2:Qg)(y3:List Qg):VS:=QvT.st ((),(),(),()) (y1,y2,y3,(),())
def QIi:VS->Option (Bool×List (Bool×Exit×VS)):=mkL QdU (fun x y=>(decide (0<=x.2.2.2.1/\x.2.2.2.1<=(Qs y.1).length/\y.2.2.1.length<=x.2.2.2.1.toNat/\(Qs y.1).length<=8)&&(Qs y.1).all fun s=>decide (s.size<=32))) (fun x y=>[(true,.exit 0,QkN (y.1) (y.2.1) (y.2.2.1++((Qs y.1).drop x.2.2.2.1.toNat).map J7))])
def QkO:G:=gG 55 [(188,Qra),(189,Qim),(190,Qh2),(191,QvP),(192,Qrb)] (Ls [QIi])
def QdV (x4:Int)(y1:Certificate)(y2:Qg)(y3:List Qg):OX:=Qv (QB QkO QkM QvV) (QvW x4 y1 y2 y3)
def OY (kk:Int->Certificate->Qg->List Qg->OX)(x4:Int)(y1:Certificate)(y2:Qg)(y3:List Qg):OX:=
 let a1:=J7 (lgt .str y1.2.2.2.2.2.2.2.2.2.2.1 (Int.toNat x4))
 let a2:=((a1.2).1,(((a1.2).2).1,((List.map Val.of (List.map Val.un ((((a1.2).2).2).1))),())))
 br (ilt x4 (Qa y1.2.2.2.2.2.2.2.2.2.2.1)) (br (cIx y1.2.2.2.2.2.2.2.2.2.2.1 x4) (br (Y6 (lgt .str y1.2.2.2.2.2.2.2.2.2.2.1 (Int.toNat x4))) (br (QK y3 ([(a1.1,a2)]) 64) (kk (Qf .i64 x4 1) y1 y2 (y3++([(a1.1,a2)]))) none) none) none) (some (.exit 0,QkN y1 y2 y3))
def QdW (x4:Int)(y1:Certificate)(y2:Qg)(y3:List Qg):OX:=some (.exit 0,QkN (y1) (y2) (y3++((Qs y1).drop x4.toNat).map J7))
theorem QvX (x4:Int)(y1:Certificate)(y2:Qg)(y3:List Qg):QdV x4 y1 y2 y3=OY QdV x4 y1 y2 y3:=lnT (x:=OY (fun x4 y1 y2 y3=>some (.normal,QvW x4 y1 y2 y3)) x4 y1 y2 y3) (by simp only [OY,nxA];rfl)
def QvY (p0:Certificate):OV:=
 let a3:=((((p0).2).2).2)
 let a1:=((a3.2).2)
 let a2:=(Xu (([]:List Qg)++((Qs p0).drop (0:Int).toNat).map J7))
 let a4:=((Ja (((((a1.2).2).2).2).1)).1,(((Ja (((((a1.2).2).2).2).1)).2).1,((((Ja (((((a1.2).2).2).2).1)).2).2).1,((List.map Val.of (List.map Val.un (((((Ja (((((a1.2).2).2).2).1)).2).2).2).1))),()))))
 let a5:=((WQ ((((a1.2).2).2).1)).1,(((WQ ((((a1.2).2).2).1)).2).1,((((WQ ((((a1.2).2).2).1)).2).2).1,((List.map Val.of (List.map Val.un (((((WQ ((((a1.2).2).2).1)).2).2).2).1))),()))))
 let a6:=((J7 ((((p0).2).2).1)).1,(((J7 ((((p0).2).2).1)).2).1,((((J7 ((((p0).2).2).1)).2).2).1,((List.map Val.of (List.map Val.un (((((J7 ((((p0).2).2).1)).2).2).2).1))),()))))
 let a7:=((Ja (((a1.2).2).1)).1,(((Ja (((a1.2).2).1)).2).1,((((Ja (((a1.2).2).1)).2).2).1,((List.map Val.of (List.map Val.un (((((Ja (((a1.2).2).1)).2).2).2).1))),()))))
 let a8:=((J7 (((p0).2).1)).1,(((J7 (((p0).2).1)).2).1,((((J7 (((p0).2).1)).2).2).1,((List.map Val.of (List.map Val.un (((((J7 (((p0).2).1)).2).2).2).1))),()))))
 let a9:=((Ja ((a3.2).1)).1,(((Ja ((a3.2).1)).2).1,((((Ja ((a3.2).1)).2).2).1,((List.map Val.of (List.map Val.un (((((Ja ((a3.2).1)).2).2).2).1))),()))))
 let a10:=((Ja ((a1.2).1)).1,(((Ja ((a1.2).1)).2).1,((((Ja ((a1.2).1)).2).2).1,((List.map Val.of (List.map Val.un (((((Ja ((a1.2).1)).2).2).2).1))),()))))
 let a11:=((Ja ((p0).1)).1,(((Ja ((p0).1)).2).1,((((Ja ((p0).1)).2).2).1,((List.map Val.of (List.map Val.un (((((Ja ((p0).1)).2).2).2).1))),()))))
 let a12:=((Yy (a3.1)).1,(((Yy (a3.1)).2).1,((((Yy (a3.1)).2).2).1,((List.map Val.of (List.map Val.un (((((Yy (a3.1)).2).2).2).1))),()))))
 let a13:=((Yy (a1.1)).1,(((Yy (a1.1)).2).1,((((Yy (a1.1)).2).2).1,((List.map Val.of (List.map Val.un (((((Yy (a1.1)).2).2).2).1))),()))))
 let a14:=((a2.2).1,(((a2.2).2).1,((List.map Val.of (List.map Val.un ((((a2.2).2).2).1))),())))
 br (decide (0<=(0:Int)/\(0:Int)<=(Qs p0).length/\([]:List Qg).length<=(0:Int).toNat/\(Qs p0).length<=8)&&(Qs p0).all fun s=>decide (s.size<=32)) (br (ZR ((p0).1)) (br (Y6 (((p0).2).1)) (br (Y6 ((((p0).2).2).1)) (br (Ua (a3.1)) (br (ZR ((a3.2).1)) (br (Ua (a1.1)) (br (ZR ((a1.2).1)) (br (ZR (((a1.2).2).1)) (br (ZR (((((a1.2).2).2).2).1)) (br (XW (([]:List Qg)++((Qs p0).drop (0:Int).toNat).map J7)) (br (XW ([a11,a8,a6,a12,a9,a13,a10,a7,a5,a4,(a2.1,a14)])) (some (.t Qt (Xu ([a11,a8,a6,a12,a9,a13,a10,a7,a5,a4,(a2.1,a14)])),[])) none) none) none) none) none) none) none) none) none) none) none) none
theorem QIj (x4:Int)(y1:Certificate)(y2:Qg)(y3:List Qg)(h:(decide (0<=x4/\x4<=(Qs y1).length/\y3.length<=x4.toNat/\(Qs y1).length<=8)&&(Qs y1).all fun s=>decide (s.size<=32))=true):QdV x4 y1 y2 y3=QdW x4 y1 y2 y3:=by
 simp only [Bc,Ba,Bf] at h
 obtain ⟨⟨h0,h1,h2,h3⟩,hn⟩:=h
 obtain ⟨k,rfl⟩:=Bq h0
 rw [Bd] at h2
 revert y3
 refine QU (Qs y1) (fun k=> ∀ y3:List Qg,y3.length<=k->QdV (k:Int) y1 y2 y3=QdW (k:Int) y1 y2 y3) ?_ ?_ k (by omega)
 ·intro y3 _
  rw [QvX]
  simp only [OY,QdW,show ilt ((Qs y1).length:Int) (Qa (Qs y1))=false from Bo (by simp only [Qa];omega),Qh,Bd,BU,List.map_nil,BO]
 ·intro k hk ih y3 hy
  rw [QvX]
  have hx:=hn (Qs y1)[k] (Bu hk)
  simp only [OY,show ilt (k:Int) (Qa (Qs y1))=true from Be (by simp only [Qa];omega),QJ,hk,Bv,Qd,Bd,QT (show k<4611686018427387904 by omega),QS (y:= .str) hk,QkL hx,QkG]
  rw [Jj (by omega) (by simp only [Bp];omega),Qd,ih _ (by simp only [Bl,Bp];omega)]
  simp only [QdW,Bd,Bj hk,BG,BQ,BN]
theorem QIk:LO QkO QkM QvV 0:=QH (s:=QdU) fun x y h _ q=>by simp only [QE,QF] at q;exact (QIj x.2.2.2.1 y.1 y.2.1 y.2.2.1 h).trans q
theorem s_f152 (c:Certificate)(h:EE c=true):QvY c=some (.t Qt (Wq c),[]):=by
 simp only [EE,Bc] at h
 obtain ⟨_,hv⟩:=h
 obtain ⟨h1,h2,h3,h4,h5,h6,h7,h8,h9,h10,h11⟩:=QdT hv
 have hc:=QIg hv
 have hp:=QIh hv
 have ha:((Qs c).all fun s=>decide (s.size<=32))=true:=Bf.2 fun s hs=>Be (h11 s hs)
 have hl:(0:Int)<=0/\(0:Int)<=(Qs c).length/\([]:List Qg).length<=0/\(Qs c).length<=8:=⟨by omega,by omega,by simp,h10⟩
 simp only [Wp] at hp
 simp only [QvY,ha,B2,h1,QkL h2,QkL h3,h4,h5,h6,h7,h8,h9,Qd,Bw,BD,BR,QkG,hc,hp]
 rw [Be hl]
 rfl
def QvZ:Ent:=Ql (.pr QW .nil) (fun x=>(EE x.1)) (fun x=>(.t Qt (Wq x.1)))
theorem QIl:EM 152 QvZ:=mS (lk:=lkL (lkc QIk lkn)) QkO QvU [((.c 2 true 4),some Qt)] false (gB (gD QDu (gD QrQ (gD Qq8 (gD QIb (gD QDw gN)))))) fun m=>Qn m fun x hok=>kT (s_f152 x.1 hok)
end
end Go.Proofs.YtmjnnemhoeolgaaGreat.K
noncomputable section
namespace Go.Proofs.YtmjnnemhoeolgaaGreat.K
open Go.RowKit
noncomputable section
def YD (c:Certificate):List Int×Int:=bif QR c then WU (Wq c) else ([],9)
theorem Qzi {c:Certificate}(h:QR c=true):YD c=(Zq (Wq c),0):=by
 have:=QkK h
 rw [YD,h,Dh,WU,if_neg (by omega)]
theorem Qzj (c:Certificate):(YD c).1.length<=1000:=by
 cases h:QR c with
 |true=>
  rw [Qzi h]
  exact QkK h
 |false=>
  rw [YD,h]
  simp
def Qzk:TC:=aF Tryz.f114 []
def g_f114:G:=gG 12 [(113,Qeo),(151,QrO),(152,QvZ)] (fun _ _=>none)
def Qfx (p0:Certificate):OV:=br (JP p0) (br (ine (XF p0) 0) (some (.tu [(.t (.sl (.int .u8)) ([]:List Int)),(.t tI 9)],[])) (br (EE p0) (br (WT (Wq p0)) (some (.tu [(.t (.sl (.int .u8)) ((WU (Wq p0)).1)),(.t tI ((WU (Wq p0)).2))],[])) none) none)) none
theorem s_f114 (c:Certificate)(h:JP c=true):Qfx c=some (.tu [.t (.sl (.int .u8)) (YD c).1,.t tI (YD c).2],[]):=by
 unfold YD
 cases hv:QR c with
 |true=>simp only [Qfx,h,hv,Vd,enc_ok hv,show EE c=true from by rw [EE,h,hv];rfl,BH,Qd,Qh,Dh]
 |false=>simp only [Qfx,h,hv,Vd,Bool.not_false,Qd,Da]
def QmF:Ent:=Ql (.pr QW .nil) (fun x=>(JP x.1)) (fun x=>(.tu [(.t (.sl (.int .u8)) ((YD x.1).1)),(.t tI ((YD x.1).2))]))
theorem Qzl:EM 114 QmF:=mS g_f114 Qzk [((.t 2),some (.sl (.int .u8))),((.t 3),some tI)] false (gB (gD Qlh (gD QEe (gD QIl gN)))) fun m=>Qn m fun x hok=>kT (s_f114 x.1 hok)
def Uo (s x:Int):Int:=Qg9 .u32 (FV .u32 s (icv .u32 x)) 16777619
def E3 (b:List Int):Int:=icv .i64 (b.foldl Uo 2166136261)
def E4 (b:List Int):Bool:=decide (b.length<=100000)
abbrev Qfy:Sh:=⟨[(3,.ty (.int .u32)),(6,.ty (.sl (.int .u8))),(7,.ty tI),(8,.ty tI)],[]⟩
abbrev Qfz:Sh:=⟨[(3,.ty (.int .u32))],[]⟩
def Qzm:Fg:=Qfy.f
def Qzn:TC:=(.sq (.reg [(oP 9 (.bin false .lss (.t 8) (.t 7)))]) (.sq (.cd (.t 9) .sk (.fg Qfz.f (.ex 0))) (.sq (.bk 1 (.sq (.reg [(oP 10 (.ix 1 (.t 6) (.t 8))),(oL 11 10),(oV 5 11)]) (.reg [(oV 12 3),(oV 13 5),(oP 14 (.cv .u32 (.t 13))),(oP 15 (.bin false .xor (.t 12) (.t 14))),(oP 16 (.bin false .mul (.t 15) (.c (.v (.int .u32 16777619))))),(oV 3 16)]))) (.reg [(oP 17 (.bin false .add (.t 8) (cI 1))),(oV 8 17)]))))
def QmG (x3:Int)(x6:List Int)(x7 x8:Int):VS:=Qfy.st (x3,x6,x7,x8,()) ()
def Fb (x3:Int):VS:=Qfz.st (x3,()) ()
def Qzo:VS->Option (Bool×List (Bool×Exit×VS)):=mkL Qfy (fun x y=>(Qz x.2.1 x.2.2.1 x.2.2.2.1)) (fun x y=>[(true,.exit 0,Fb ((x.2.1.drop x.2.2.2.1.toNat).foldl Uo x.1))])
def g_f207:G:=gG 20 [] (Ls [Qzo])
def VR (x3:Int)(x6:List Int)(x7 x8:Int):OX:=Qv (QB g_f207 Qzm Qzn) (QmG x3 x6 x7 x8)
def E5 (kk:Int->List Int->Int->Int->OX)(x3:Int)(x6:List Int)(x7 x8:Int):OX:=br (ilt x8 x7) (br (cIx x6 x8) (kk (Qg9 .u32 (FV .u32 x3 (icv .u32 (lgt (.int .u8) x6 (Int.toNat x8)))) 16777619) x6 x7 (Qf .i64 x8 1)) none) (some (.exit 0,Fb x3))
def VT (x3:Int)(x6:List Int)(x7 x8:Int):OX:=some (.exit 0,Fb ((x6.drop x8.toNat).foldl Uo x3))
theorem QmH (x3:Int)(x6:List Int)(x7 x8:Int):VR x3 x6 x7 x8=E5 VR x3 x6 x7 x8:=lnT (x:=E5 (fun x3 x6 x7 x8=>some (.normal,QmG x3 x6 x7 x8)) x3 x6 x7 x8) (by simp only [E5,nxA];rfl)
theorem l_f207_0 (x3:Int)(x6:List Int)(x7 x8:Int)(h:(Qz x6 x7 x8)=true):VR x3 x6 x7 x8=VT x3 x6 x7 x8:=by
 obtain ⟨rfl,h3,k,rfl,hk⟩:=JJ h
 clear h
 revert x3
 refine QU x6 (fun k=> ∀ x3:Int,VR x3 x6 (x6.length:Int) (k:Int)=VT x3 x6 (x6.length:Int) (k:Int)) ?_ ?_ k hk
 ·intro x3
  rw [QmH]
  simp only [E5,VT,QD,B0,B4,Qh,Bd,BU,List.foldl_nil]
 ·intro k hk ih x3
  rw [QmH]
  simp only [E5,QD,QJ,hk,Bv,Qd,Bd,QT (show k<4611686018427387904 by omega),QS (y:= .int .u8) hk,ih]
  simp only [VT,Bd,Bj hk,List.foldl_cons,Uo]
abbrev VU:Sh:=⟨[(0,.ty (.sl (.int .u8))),(3,.ty (.int .u32)),(4,.ty tI)],[]⟩
def QfA:Fg:=VU.f
def QmI:TC:=aF Tryz.f115 [(58,pL 0 QfA),(931,.fg Qfz.f)]
def QmJ:TC:=lb 0 QmI
def QmK (x0:List Int)(x3 x4:Int):VS:=VU.st (x0,x3,x4,()) ()
def Qzp:VS->Option (Bool×List (Bool×Exit×VS)):=mkL VU (fun x y=>(X9 x.1 x.2.2.1)) (fun x y=>[(true,.exit 0,Fb ((x.1.drop x.2.2.1.toNat).foldl Uo x.2.1))])
def QfB:G:=gG 21 [] (Ls [Qzp])
def VV (x0:List Int)(x3 x4:Int):OX:=Qv (QB QfB QfA QmJ) (QmK x0 x3 x4)
def E6 (kk:List Int->Int->Int->OX)(x0:List Int)(x3 x4:Int):OX:=br (ilt x4 (Qa x0)) (br (cIx x0 x4) (kk x0 (Qg9 .u32 (FV .u32 x3 (icv .u32 (lgt (.int .u8) x0 (Int.toNat x4)))) 16777619) (Qf .i64 x4 1)) none) (some (.exit 0,Fb x3))
def VW (x0:List Int)(x3 x4:Int):OX:=some (.exit 0,Fb ((x0.drop x4.toNat).foldl Uo x3))
theorem QmL (x0:List Int)(x3 x4:Int):VV x0 x3 x4=E6 VV x0 x3 x4:=lnT (x:=E6 (fun x0 x3 x4=>some (.normal,QmK x0 x3 x4)) x0 x3 x4) (by simp only [E6,nxA];rfl)
def QmM (p0:List Int):OV:=br (X9 p0 (0:Int)) (some (.t tI (icv .i64 ((p0.drop (0:Int).toNat).foldl Uo (2166136261:Int))),[])) none
theorem Qzq (x0:List Int)(x3 x4:Int)(h:(X9 x0 x4)=true):VV x0 x3 x4=VW x0 x3 x4:=by
 simp only [X9,Ba] at h
 obtain ⟨h0,h1,h2⟩:=h
 obtain ⟨k,rfl⟩:=Bq h0
 revert x3
 refine QU x0 (fun k=> ∀ x3:Int,VV x0 x3 (k:Int)=VW x0 x3 (k:Int)) ?_ ?_ k (by omega)
 ·intro x3
  rw [QmL]
  simp only [E6,VW,show ilt (x0.length:Int) (Qa x0)=false from Bo (by simp only [Qa];omega),Qh,Bd,BU,List.foldl_nil]
 ·intro k hk ih x3
  rw [QmL]
  simp only [E6,show ilt (k:Int) (Qa x0)=true from Be (by simp only [Qa];omega),QJ,hk,Bv,Qd,Bd,QT (show k<4611686018427387904 by omega),QS (y:= .int .u8) hk,ih]
  simp only [VW,Bd,Bj hk,List.foldl_cons,Uo]
theorem Qzr:LO QfB QfA QmJ 0:=QH (s:=VU) fun x y h _ q=>by simp only [QE,QF] at q;exact (Qzq x.1 x.2.1 x.2.2.1 h).trans q
theorem s_f115 (b:List Int)(h:E4 b=true):QmM b=some (.t tI (E3 b),[]):=by
 simp only [E4,Ba] at h
 simp only [QmM,show X9 b 0=true from Be (by omega),Qd,Bw,BD]
 rfl
def QmN:Ent:=Ql (.pr (.sl (.int .u8)) .nil) (fun x=>(E4 x.1)) (fun x=>(.t tI (E3 x.1)))
theorem Qzs:EM 115 QmN:=mS (lk:=lkL (lkc Qzr lkn)) QfB QmI [((.t 2),some tI)] false (gB gN) fun m=>Qn m fun x hok=>kT (s_f115 x.1 hok)
theorem lenB_C (c:Certificate):E4 (YD c).1=true:=Be (by have:=Qzj c;omega)
def Qzt (c:Certificate)(k:Int):Bool:=ieq (YD c).2 0&&(ieq (Wt c).1 k&&ieq (Wt c).2.1 (E3 (YD c).1))
def QfC (c:Certificate)(_k:Int):Bool:=JP c
def ZN (c:Certificate):Certificate:=c
def Qzu:TC:=aF Tryz.f112 []
def g_f112:G:=⟨TYs,[3],9,EL [],Wr,(fun _ _=>none),IL [],RL []⟩
def QmO (p0:Certificate):OV:=br (QK ([]:List ByteArray) p0.2.2.2.2.2.2.2.2.2.2.1 16) (some (.t QW (p0.1,(p0.2.1,(p0.2.2.1,((p0.2.2.2.1.1,(p0.2.2.2.1.2.1,())),(p0.2.2.2.2.1,((p0.2.2.2.2.2.1.1,(p0.2.2.2.2.2.1.2.1,())),(p0.2.2.2.2.2.2.1,(p0.2.2.2.2.2.2.2.1,(p0.2.2.2.2.2.2.2.2.1,(p0.2.2.2.2.2.2.2.2.2.1,((([]:List ByteArray)++p0.2.2.2.2.2.2.2.2.2.2.1),((p0.2.2.2.2.2.2.2.2.2.2.2.1.1,(p0.2.2.2.2.2.2.2.2.2.2.2.1.2.1,())),())))))))))))),[])) none
theorem QfD {c:Certificate}(h:JP c=true):(Qs c).length<=100000:=by
 simp only [JP,Yz,Bc,Ba] at h
 exact h.2.2.1
theorem s_f112 (c:Certificate)(h:JP c=true):QmO c=some (.t QW (ZN c),[]):=by
 have hn:c.2.2.2.2.2.2.2.2.2.2.1.length<=100000:=QfD h
 simp only [QmO]
 rw [Jj (by omega) (by simp only [BE];omega),Qd]
 rfl
def QmP:Ent:=Ql (.pr QW .nil) (fun x=>(JP x.1)) (fun x=>(.t QW (ZN x.1)))
theorem Qzv:EM 112 QmP:=mS g_f112 Qzu [((.c 2 true 15),some QW)] false (Z2 _ (fun p hp=>by cases hp)) fun m=>Qn m fun x hok=>kT (s_f112 x.1 hok)
def sealC (c:Certificate)(s:Keep):Certificate:=(c.1,(c.2.1,(c.2.2.1,(c.2.2.2.1,(c.2.2.2.2.1,(c.2.2.2.2.2.1,(c.2.2.2.2.2.2.1,(c.2.2.2.2.2.2.2.1,(c.2.2.2.2.2.2.2.2.1,(c.2.2.2.2.2.2.2.2.2.1,(c.2.2.2.2.2.2.2.2.2.2.1,(s,()))))))))))))
def E7 (c:Certificate):Certificate:=sealC c (0,(0,()))
def QmQ (c:Certificate)(k:Int):Bool:= !QR (E7 c)||(ilt k 0||igt k 2147483648)
abbrev VX:Certificate:=Ty.zero QW
def Wz (c:Certificate)(k:Int):Certificate×Int:=bif QmQ c k then (VX,9) else (sealC c (k,(E3 (YD (E7 c)).1,())),0)
def tc_f68:TC:=aF Tryz.f68 []
def g_f68:G:=gG 35 [(112,QmP),(113,Qeo),(114,QmF),(115,QmN)] (fun _ _=>none)
def r_f68 (p0:Certificate)(p1:Int):OV:=
 let a4:=((ZN p0).2)
 let a1:=((((a4.2).2).2).2)
 let a5:=(((a1.2).2).2)
 let a2:=((YD ((ZN p0).1,(a4.1,((a4.2).1,(((a4.2).2).1,((((a4.2).2).2).1,(a1.1,((a1.2).1,(((a1.2).2).1,(a5.1,((a5.2).1,(((a5.2).2).1,((0,(0,())),(((a5.2).2).2).2))))))))))))).1)
 let a3:=(JP ((ZN p0).1,(a4.1,((a4.2).1,(((a4.2).2).1,((((a4.2).2).2).1,(a1.1,((a1.2).1,(((a1.2).2).1,(a5.1,((a5.2).1,(((a5.2).2).1,((0,(0,())),(((a5.2).2).2).2)))))))))))))
 let a6:=ByteArray.mk #[]
 br (JP p0) (br a3 (br (ine (XF ((ZN p0).1,(a4.1,((a4.2).1,(((a4.2).2).1,((((a4.2).2).2).1,(a1.1,((a1.2).1,(((a1.2).2).1,(a5.1,((a5.2).1,(((a5.2).2).1,((0,(0,())),(((a5.2).2).2).2))))))))))))) 0) (some (.tu [(.t QW (0,(a6,(a6,((0,(0,())),(0,((0,(0,())),(0,(0,(false,(0,(([]:List ByteArray),((0,(0,())),()))))))))))))),(.t tI 9)],[])) (br (ilt p1 0) (some (.tu [(.t QW (0,(a6,(a6,((0,(0,())),(0,((0,(0,())),(0,(0,(false,(0,(([]:List ByteArray),((0,(0,())),()))))))))))))),(.t tI 9)],[])) (br (igt p1 2147483648) (some (.tu [(.t QW (0,(a6,(a6,((0,(0,())),(0,((0,(0,())),(0,(0,(false,(0,(([]:List ByteArray),((0,(0,())),()))))))))))))),(.t tI 9)],[])) (br a3 (br (E4 a2) (some (.tu [(.t QW ((ZN p0).1,(a4.1,((a4.2).1,(((a4.2).2).1,((((a4.2).2).2).1,(a1.1,((a1.2).1,(((a1.2).2).1,(a5.1,((a5.2).1,(((a5.2).2).1,((p1,((E3 a2),())),(((a5.2).2).2).2))))))))))))),(.t tI 0)],[])) none) none)))) none) none
theorem s_f68 (c:Certificate)(k:Int)(h:QfC c k=true):r_f68 c k=some (.tu [.t QW (Wz c k).1,.t tI (Wz c k).2],[]):=by
 have h:JP c=true:=h
 have hu:JP (E7 c)=true:=h
 have e:((ZN c).1,((ZN c).2.1,((ZN c).2.2.1,((ZN c).2.2.2.1,((ZN c).2.2.2.2.1,((ZN c).2.2.2.2.2.1,((ZN c).2.2.2.2.2.2.1,((ZN c).2.2.2.2.2.2.2.1,((ZN c).2.2.2.2.2.2.2.2.1,((ZN c).2.2.2.2.2.2.2.2.2.1,((ZN c).2.2.2.2.2.2.2.2.2.2.1,((0,(0,())),()))))))))))))=E7 c:=rfl
 simp only [r_f68,h,e,hu,Vd,lenB_C,Qd]
 unfold Wz QmQ
 cases QR (E7 c) with
 |false=>rfl
 |true=>
  rw [BH,Qh,Dk]
  cases ilt k 0 with
  |true=>rfl
  |false=>
   rw [Qh,Dk]
   cases igt k 2147483648<;>rfl
def QmR:Ent:=Ql (.pr QW (.pr tI .nil)) (fun x=>(QfC x.1 x.2.1)) (fun x=>(.tu [(.t QW ((Wz x.1 x.2.1).1)),(.t tI ((Wz x.1 x.2.1).2))]))
theorem ms_f68:EM 68 QmR:=mS g_f68 tc_f68 [((.c 4 true 15),some QW),((.t 5),some tI)] false (gB (gD Qzv (gD Qlh (gD Qzl (gD Qzs gN))))) fun m=>Qn m fun x hok=>kT (s_f68 x.1 x.2.1 hok)
def Ju (l:List Certificate):Bool:=decide (l.length<=100000)&&l.all JP
def E8 (key:Keep)(id:Int)(l:List Certificate):Bool:=ieq (Qa l) 0||(((l.getD 0 VX).2.2.2.1==key)&&ieq (l.getD 0 VX).2.2.2.2.1 id)
def YY (key:Keep)(id:Int)(l:List Certificate):Bool:=JU key&&(!ine (Z9 key.1) 2&&(J2 id&&(!igt (Qa l) 8&&(l.all QR&&E8 key id l))))
def Uq (_key:Keep)(_id:Int)(l:List Certificate):Bool:=Ju l
theorem QmS (key:Keep)(id:Int)(l:List Certificate):br (ieq (Qa l) 0) (some (V.t .bool true,([]:List VO))) (br (cIx l 0) (br ((lgt QW l 0).2.2.2.1==key) (br (cIx l 0) (some (V.t .bool (ieq (lgt QW l 0).2.2.2.2.1 id),[])) none) (some (V.t .bool false,[]))) none)=some (V.t .bool (E8 key id l),[]):=by
 unfold E8
 cases l with
 |nil=>rfl
 |cons c l=>
  have h1:ieq (Qa (c::l)) 0=false:=by
   simp only [ieq,Qa,Bt,beq_eq_false_iff_ne]
   omega
  have h2:cIx (c::l) 0=true:=by simp only [cIx,Bt,Ba];omega
  rw [h1,Qh,h2,Qd,Dk,Qd]
  show br (c.2.2.2.1==key) _ _=some (V.t .bool ((c.2.2.2.1==key)&&ieq c.2.2.2.2.1 id),[])
  cases c.2.2.2.1==key<;>rfl
abbrev VY:Sh:=⟨[(1,.ty tI),(2,.ty (.sl QW)),(3,.ptr 3 0),(28,.ty (.sl QW)),(29,.ty tI),(30,.ty tI)],[(3,.box Qe)]⟩
abbrev QfE:Sh:=⟨[(6,.ty .bool)],[]⟩
abbrev QfF:Sh:=⟨[(1,.ty tI),(2,.ty (.sl QW)),(3,.ptr 3 0)],[(3,.box Qe)]⟩
def QfG:Fg:=VY.f
def QmT:TC:=aF Tryz.f79 [(58,pL 0 QfG),(933,.fg QfF.f),(29901,.fg QfE.f),(30,pD [(0,[]),(1,[]),(2,[]),(3,[]),(4,[]),(5,[]),(6,[]),(7,[]),(8,[3]),(9,[]),(10,[]),(11,[]),(12,[]),(13,[]),(14,[]),(15,[]),(16,[]),(17,[]),(18,[]),(19,[])] (.of [0,1,2,3,4,5,6,7,8,9,10,11,12,13,14,15,16,17,18,19]))]
def QmU:TC:=lb 0 QmT
def QmV (x1:Int)(x2 x28:List Certificate)(x29 x30:Int)(y3:Keep):VS:=VY.st (x1,x2,(),x28,x29,x30,()) (y3,())
def Fc (x6:Bool):VS:=QfE.st (x6,()) ()
def Fd (x1:Int)(x2:List Certificate)(y3:Keep):VS:=QfF.st (x1,x2,(),()) (y3,())
def Qzw:VS->Option (Bool×List (Bool×Exit×VS)):=mkL VY (fun x y=>(Qz x.2.2.2.1 x.2.2.2.2.1 x.2.2.2.2.2.1&&Ju x.2.2.2.1)) (fun x y=>[((!(x.2.2.2.1.drop x.2.2.2.2.2.1.toNat).all QR),.ret,Fc (false)),(true,.exit 0,Fd (x.1) (x.2.1) (y.1))])
def QfH:G:=gG 57 [(83,Vb),(87,EZ),(126,Qd3),(127,Qw6)] (Ls [Qzw])
def VZ (x1:Int)(x2 x28:List Certificate)(x29 x30:Int)(y3:Keep):OX:=Qv (QB QfH QfG QmU) (QmV x1 x2 x28 x29 x30 y3)
def E9 (kk:Int->List Certificate->List Certificate->Int->Int->Keep->OX)(x1:Int)(x2 x28:List Certificate)(x29 x30:Int)(y3:Keep):OX:=
 let a1:=lgt QW x28 (Int.toNat x30)
 br (ilt x30 x29) (br (cIx x28 x30) (br (JP a1) (br (ine (XF a1) 0) (some (.ret,Fc false)) (kk x1 x2 x28 x29 (Qf .i64 x30 1) y3)) none) none) (some (.exit 0,Fd x1 x2 y3))
def V0 (x1:Int)(x2 x28:List Certificate)(x29 x30:Int)(y3:Keep):OX:=br (!(x28.drop x30.toNat).all QR) (some (.ret,Fc (false)))<|some (.exit 0,Fd (x1) (x2) (y3))
theorem QmW (x1:Int)(x2 x28:List Certificate)(x29 x30:Int)(y3:Keep):VZ x1 x2 x28 x29 x30 y3=E9 VZ x1 x2 x28 x29 x30 y3:=lnT (x:=E9 (fun x1 x2 x28 x29 x30 y3=>some (.normal,QmV x1 x2 x28 x29 x30 y3)) x1 x2 x28 x29 x30 y3) (by simp only [E9,nxA];rfl)
def r_f79 (p0:Keep)(p1:Int)(p2:List Certificate):OV:=
 let a1:=((((lgt QW (p2) (Int.toNat 0)).2).2).2)
 br (!(JU p0)) (some (.t .bool false,[])) (br (ine (Z9 p0.1) 2) (some (.t .bool false,[])) (br (!(J2 p1)) (some (.t .bool false,[])) (br (igt (Qa p2) 8) (some (.t .bool false,[])) (br (Qz p2 (Qa p2) (0:Int)&&Ju p2) (br (!(p2.drop (0:Int).toNat).all QR) (some (.t .bool (false),[])) (br (ieq (Qa (p2)) 0) (some (.t .bool true,[])) (br (cIx (p2) 0) (br (and (ieq ((a1.1).1) ((p0).1)) (and (ieq (((a1.1).2).1) (((p0).2).1)) true)) (br (cIx (p2) 0) (some (.t .bool (ieq ((a1.2).1) (p1)),[])) none) (some (.t .bool false,[]))) none))) none))))
theorem Qzx (x1:Int)(x2 x28:List Certificate)(x29 x30:Int)(y3:Keep)(h:(Qz x28 x29 x30&&Ju x28)=true):VZ x1 x2 x28 x29 x30 y3=V0 x1 x2 x28 x29 x30 y3:=by
 simp only [Bc] at h
 obtain ⟨h0,hc⟩:=h
 obtain ⟨rfl,h3,k,rfl,hk⟩:=JJ h0
 clear h0
 simp only [Ju,Bc,Bf] at hc
 refine QU x28 (fun k=>VZ x1 x2 x28 (x28.length:Int) (k:Int) y3=V0 x1 x2 x28 (x28.length:Int) (k:Int) y3) ?_ ?_ k hk
 ·rw [QmW]
  simp only [E9,V0,QD,B0,B4,Qh,Bd,BU,Dw,BH]
 ·intro k hk ih
  rw [QmW]
  have hx:=hc.2 x28[k] (Bu hk)
  simp only [E9,QD,QJ,hk,Bv,Qd,Bd,QT (show k<4611686018427387904 by omega),QS (y:=QW) hk,hx,Vd,ih]
  simp only [V0,Bd,Bj hk,BV]
  cases QR x28[k]<;>rfl
theorem Qzy:LO QfH QfG QmU 0:=QH (s:=VY) fun x y h _ q=>by simp only [QE,QF] at q;exact (Qzx x.1 x.2.1 x.2.2.2.1 x.2.2.2.2.1 x.2.2.2.2.2.1 y.1 h).trans q
theorem s_f79 (key:Keep)(id:Int)(l:List Certificate)(h:Uq key id l=true):r_f79 key id l=some (.t .bool (YY key id l),[]):=by
 have h:Ju l=true:=h
 have hl:l.length<=100000:=by simp only [Ju,Bc,Ba] at h;exact h.1
 simp only [r_f79,JK hl,h,B2,Qd,Bw,BD,QwI]
 unfold YY
 refine (brB<|brB<|brB<|brB<|brB (QmS key id l)).trans ?_
 simp only [Bool.not_not]
def QmX:Ent:=Ql (.pr Qe (.pr tI (.pr (.sl QW) .nil))) (fun x=>(Uq x.1 x.2.1 x.2.2.1)) (fun x=>(.t .bool (YY x.1 x.2.1 x.2.2.1)))
theorem ms_f79:EM 79 QmX:=mS (lk:=lkL (lkc Qzy lkn)) QfH QmT [((.t 6),some .bool)] false (gB (gD Qef (gD VC (gD QkU (gD QI9 gN))))) fun m=>Qn m fun x hok=>kT (s_f79 x.1 x.2.1 x.2.2.1 hok)
abbrev V1:Sh:=⟨[(1,.ty tI),(2,.ty (.sl QW)),(3,.ptr 3 0),(7,.ty tI)],[(3,.box Qe)]⟩
def QfI:Fg:=V1.f
def QmY:TC:=aF Tryz.f100 [(58,pL 0 QfI),(931,.fg QfF.f),(7461,.fg QfE.f),(30,pD [(0,[]),(1,[]),(2,[]),(3,[]),(4,[]),(5,[]),(6,[]),(7,[]),(8,[3]),(9,[]),(10,[]),(11,[]),(12,[]),(13,[]),(14,[]),(15,[]),(16,[]),(17,[]),(18,[]),(19,[])] (.of [0,1,2,3,4,5,6,7,8,9,10,11,12,13,14,15,16,17,18,19]))]
def QmZ:TC:=lb 0 QmY
def Qm0 (x1:Int)(x2:List Certificate)(x7:Int)(y3:Keep):VS:=V1.st (x1,x2,(),x7,()) (y3,())
def Qzz:VS->Option (Bool×List (Bool×Exit×VS)):=mkL V1 (fun x y=>(decide (0<=x.2.2.2.1/\x.2.2.2.1<=x.2.1.length)&&Ju x.2.1)) (fun x y=>[((!(x.2.1.drop x.2.2.2.1.toNat).all QR),.ret,Fc (false)),(true,.exit 0,Fd (x.1) (x.2.1) (y.1))])
def QfJ:G:=gG 55 [(113,Qeo),(140,Qlc)] (Ls [Qzz])
def V2 (x1:Int)(x2:List Certificate)(x7:Int)(y3:Keep):OX:=Qv (QB QfJ QfI QmZ) (Qm0 x1 x2 x7 y3)
def Ia (kk:Int->List Certificate->Int->Keep->OX)(x1:Int)(x2:List Certificate)(x7:Int)(y3:Keep):OX:=
 let a1:=lgt QW x2 (Int.toNat x7)
 br (ilt x7 (Qa x2)) (br (cIx x2 x7) (br (JP a1) (br (ine (XF a1) 0) (some (.ret,Fc false)) (kk x1 x2 (Qf .i64 x7 1) y3)) none) none) (some (.exit 0,Fd x1 x2 y3))
def V3 (x1:Int)(x2:List Certificate)(x7:Int)(y3:Keep):OX:=br (!(x2.drop x7.toNat).all QR) (some (.ret,Fc (false)))<|some (.exit 0,Fd (x1) (x2) (y3))
theorem Qm1 (x1:Int)(x2:List Certificate)(x7:Int)(y3:Keep):V2 x1 x2 x7 y3=Ia V2 x1 x2 x7 y3:=lnT (x:=Ia (fun x1 x2 x7 y3=>some (.normal,Qm0 x1 x2 x7 y3)) x1 x2 x7 y3) (by simp only [Ia,nxA];rfl)
def Qm2 (p0:Keep)(p1:Int)(p2:List Certificate):OV:=
 let a1:=((((lgt QW (p2) (Int.toNat 0)).2).2).2)
 br (!(GO p0)) (some (.t .bool false,[])) (br (ilt p1 0) (some (.t .bool false,[])) (br (igt p1 2147483648) (some (.t .bool false,[])) (br (igt (Qa p2) 8) (some (.t .bool false,[])) (br (decide (0<=(0:Int)/\(0:Int)<=p2.length)&&Ju p2) (br (!(p2.drop (0:Int).toNat).all QR) (some (.t .bool (false),[])) (br (ieq (Qa (p2)) 0) (some (.t .bool true,[])) (br (cIx (p2) 0) (br (and (ieq ((a1.1).1) ((p0).1)) (and (ieq (((a1.1).2).1) (((p0).2).1)) true)) (br (cIx (p2) 0) (some (.t .bool (ieq ((a1.2).1) (p1)),[])) none) (some (.t .bool false,[]))) none))) none))))
theorem QzA (x1:Int)(x2:List Certificate)(x7:Int)(y3:Keep)(h:(decide (0<=x7/\x7<=x2.length)&&Ju x2)=true):V2 x1 x2 x7 y3=V3 x1 x2 x7 y3:=by
 simp only [Ju,Bc,Ba,Bf] at h
 obtain ⟨⟨h0,h1⟩,h3,hc⟩:=h
 obtain ⟨k,rfl⟩:=Bq h0
 refine QU x2 (fun k=>V2 x1 x2 (k:Int) y3=V3 x1 x2 (k:Int) y3) ?_ ?_ k (by omega)
 ·rw [Qm1]
  simp only [Ia,V3,show ilt (x2.length:Int) (Qa x2)=false from Bo (by simp only [Qa];omega),Qh,Bd,BU,Dw,BH]
 ·intro k hk ih
  rw [Qm1]
  have hx:=hc x2[k] (Bu hk)
  simp only [Ia,show ilt (k:Int) (Qa x2)=true from Be (by simp only [Qa];omega),QJ,hk,Bv,Qd,Bd,QT (show k<4611686018427387904 by omega),QS (y:=QW) hk,hx,Vd,ih]
  simp only [V3,Bd,Bj hk,BV]
  cases QR x2[k]<;>rfl
theorem QzB:LO QfJ QfI QmZ 0:=QH (s:=V1) fun x y h _ q=>by simp only [QE,QF] at q;exact (QzA x.1 x.2.1 x.2.2.2.1 y.1 h).trans q
theorem s_f100 (key:Keep)(id:Int)(l:List Certificate)(h:Uq key id l=true):Qm2 key id l=some (.t .bool (YY key id l),[]):=by
 have h:Ju l=true:=h
 have hl:l.length<=100000:=by simp only [Ju,Bc,Ba] at h;exact h.1
 have hd:(0:Int)<=0/\(0:Int)<=l.length:=⟨by omega,by omega⟩
 simp only [Qm2,h,Be hd,B2,Qd,Bw,BD,QwI]
 unfold YY GO Ya J2
 refine (brB<|brB<|brB<|brB<|brB (QmS key id l)).trans ?_
 simp only [Bool.not_not,GN,Bool.and_assoc]
def Qm3:Ent:=Ql (.pr Qe (.pr tI (.pr (.sl QW) .nil))) (fun x=>(Uq x.1 x.2.1 x.2.2.1)) (fun x=>(.t .bool (YY x.1 x.2.1 x.2.2.1)))
theorem QzC:EM 100 Qm3:=mS (lk:=lkL (lkc QzB lkn)) QfJ QmY [((.t 6),some .bool)] false (gB (gD Qlh (gD Qw2 gN))) fun m=>Qn m fun x hok=>kT (s_f100 x.1 x.2.1 x.2.2.1 hok)
end
end Go.Proofs.YtmjnnemhoeolgaaGreat.K
noncomputable section
namespace Go.Proofs
open Go.Shelf
def Tryz.lays137_ren:Go.Shelf.Ren:=⟨fun|137=>163|217=>195|266=>214|n=>n,fun|9=>9|5=>5|3=>3|n=>n,fun|n=>n⟩
theorem Tryz.lays137:Go.Proofs.Lays.n137 Tryz.prog Tryz.lays137_ren:={
 mixed:=by kernel_rfl
 f137:=Tryz.func163.trans (congrArg some (by kernel_rfl))
 f217:=Tryz.func195.trans (congrArg some (by kernel_rfl))
 f266:=Tryz.func214.trans (congrArg some (by kernel_rfl))
 t3:=Tryz.underlying3
 a3:=Tryz.isAgg3
 z3:=Tryz.sizeOf3
 v3:=Tryz.zeroValue3
 t5:=Tryz.underlying5
 a5:=Tryz.isAgg5
 z5:=Tryz.sizeOf5
 v5:=Tryz.zeroValue5
 t9:=Tryz.underlying9
 a9:=Tryz.isAgg9
 z9:=Tryz.sizeOf9
 v9:=Tryz.zeroValue9}
end Go.Proofs
namespace Go.Proofs.YtmjnnemhoeolgaaGreat.K
open Go.RowKit Go.Shelf
noncomputable section
def ixB (s:ByteArray)(c:Int):Int:=Lib.indexByte s.data.toList c.toNat.toUInt8
def Qow:Ent:=Ql (.pr .str (.pr (.int .u8) .nil)) (fun x=>true) (fun x=>(.t tI (ixB x.1 x.2.1)))
theorem QAM:J3 Tryz.prog 163:= .inr ⟨by decide,_,Tryz.func163,by kernel_rfl,by kernel_rfl⟩
theorem QAN:QA Tryz.prog 163 (Qx Qow):=QpL fun x hok X w σ vs hfin hc=>by
 obtain ⟨s,c,u⟩:=x
 simp only [Ty.canon,V.ds,V.d,Ty.d,Cs,C] at hc
 obtain ⟨v1,r1,rfl,⟨rfl,_⟩,v2,r2,rfl,⟨rfl,_⟩,rfl⟩:=hc
 refine (Any.strings_IndexByte Tryz.lays137 s c w).mono ?_
 rintro e w' ⟨rfl,rfl⟩
 refine ⟨_,rfl, ?_,Below.refl _ _⟩
 simp only [V.d,Ty.d,C]
 exact ⟨rfl,rfl⟩
def Fu (c:Int)(o:ByteArray):Bool:=(ige c 97&&ile c 122)||((ige c 65&&ile c 90)||((ige c 48&&ile c 57)||ige (ixB o c) 0))
def QAO:TC:=aF Tryz.f123 []
def g_f123:G:=gG 33 [(163,Qow)] (fun _ _=>none)
def QgB (p0:Int)(p1:ByteArray):OV:=br (ige p0 48) (br (ile p0 57) (some (.t .bool true,[])) (some (.t .bool (ige (ixB p1 p0) 0),[]))) (some (.t .bool (ige (ixB p1 p0) 0),[]))
def QgC (p0:Int)(p1:ByteArray):OV:=br (ige p0 65) (br (ile p0 90) (some (.t .bool true,[])) (QgB p0 p1)) (QgB p0 p1)
def Qox (p0:Int)(p1:ByteArray):OV:=br (ige p0 97) (br (ile p0 122) (some (.t .bool true,[])) (QgC p0 p1)) (QgC p0 p1)
theorem brO {a b r:Bool}{X:OV}(h:X=some (.t .bool r,[])):br a (br b (some (.t .bool true,[])) X) X=some (.t .bool ((a&&b)||r),[]):=by
 subst h
 cases a<;>cases b<;>rfl
theorem s_f123 (c:Int)(o:ByteArray):Qox c o=some (.t .bool (Fu c o),[]):=by
 simp only [Qox,QgC,QgB]
 exact brO (brO (brO rfl))
def Qoy:Ent:=Ql (.pr (.int .u8) (.pr .str .nil)) (fun x=>true) (fun x=>(.t .bool (Fu x.1 x.2.1)))
theorem QAP:EM 123 Qoy:=mS g_f123 QAO [((.t 4),some .bool)] false (gB (gC QAM QAN gN)) fun m=>Qn m fun x _=>kT (s_f123 x.1 x.2.1)
def Yg (c:Int):Bool:= !(ilt c 97||igt c 122)||(!(ilt c 65||igt c 90)||(!(ilt c 48||igt c 57)||(ieq c 45||(ieq c 95||ieq c 46))))
def XK (s:ByteArray):Bool:=(QQ s).all Yg&&decide (1<=s.size/\s.size<=32)
set_option maxRecDepth 100000 in
theorem QAQ:((List.range 256).all fun n=>Fu (n:Int) (ByteArray.mk #[45,95,46])==Yg (n:Int))=true:=by kernel_rfl
theorem QAR {s:ByteArray}{c:Int}(h:c∈QQ s):Fu c (ByteArray.mk #[45,95,46])=Yg c:=by
 obtain ⟨b,_,rfl⟩:=B9.1 h
 have:=Bf.1 QAQ b.toNat (by rw [Df];exact b.toNat_lt)
 exact eq_of_beq this
abbrev QaI:Sh:=⟨[(0,.ty .str),(6,.ty (.sl (.int .u8))),(7,.ty tI),(8,.ty tI)],[]⟩
abbrev Ir:Sh:=⟨[(2,.ty .bool)],[]⟩
abbrev Qoz:Sh:=⟨[(0,.ty .str)],[]⟩
def QgD:Fg:=QaI.f
def QoA:TC:=aF Tryz.f76 [(26,pL 0 QgD),(421,.fg Qoz.f),(13517,.fg Ir.f)]
def QoB:TC:=lb 0 QoA
def QoC (x0:ByteArray)(x6:List Int)(x7 x8:Int):VS:=QaI.st (x0,x6,x7,x8,()) ()
def Y0 (x2:Bool):VS:=Ir.st (x2,()) ()
def QgE (x0:ByteArray):VS:=Qoz.st (x0,()) ()
def QAS:VS->Option (Bool×List (Bool×Exit×VS)):=mkL QaI (fun x y=>(Wk x.2.1 x.2.2.1 x.2.2.2.1&&Xe x.2.1 (QQ x.1))) (fun x y=>[((!((x.2.1.drop x.2.2.2.1.toNat).all Yg)),.ret,Y0 (false)),(true,.exit 0,QgE (x.1))])
def QgF:G:=gG 24 [(123,Qoy),(31080144,O7)] (Ls [QAS])
def QaJ (x0:ByteArray)(x6:List Int)(x7 x8:Int):OX:=Qv (QB QgF QgD QoB) (QoC x0 x6 x7 x8)
def Is (kk:ByteArray->List Int->Int->Int->OX)(x0:ByteArray)(x6:List Int)(x7 x8:Int):OX:=br (ilt x8 x7) (br (cIx x6 x8) (br (!(Fu (lgt (.int .u8) x6 (Int.toNat x8)) (ByteArray.mk #[45,95,46]))) (some (.ret,Y0 false)) (kk x0 x6 x7 (Qf .i64 x8 1))) none) (some (.exit 0,QgE x0))
def QaK (x0:ByteArray)(x6:List Int)(x7 x8:Int):OX:=br (!((x6.drop x8.toNat).all Yg)) (some (.ret,Y0 (false)))<|some (.exit 0,QgE (x0))
theorem QoD (x0:ByteArray)(x6:List Int)(x7 x8:Int):QaJ x0 x6 x7 x8=Is QaJ x0 x6 x7 x8:=lnT (x:=Is (fun x0 x6 x7 x8=>some (.normal,QoC x0 x6 x7 x8)) x0 x6 x7 x8) (by simp only [Is,nxA];rfl)
def r_f76 (p0:ByteArray):OV:=br (Y6 p0) (br (Wk (QQ p0) (Qa (QQ p0)) (0:Int)&&Xe (QQ p0) (QQ p0)) (br (!(((QQ p0).drop (0:Int).toNat).all Yg)) (some (.t .bool (false),[])) (br (ige (JT (p0)) 1) (some (.t .bool (ile (JT (p0)) 32),[])) (some (.t .bool false,[])))) none) none
theorem QAT (x0:ByteArray)(x6:List Int)(x7 x8:Int)(h:(Wk x6 x7 x8&&Xe x6 (QQ x0))=true):QaJ x0 x6 x7 x8=QaK x0 x6 x7 x8:=by
 simp only [Bc] at h
 obtain ⟨h,hs⟩:=h
 have hs:=Qk8 hs
 obtain ⟨rfl,h3,k,rfl,hk⟩:=QrR h
 clear h
 refine QU x6 (fun k=>QaJ x0 x6 (x6.length:Int) (k:Int)=QaK x0 x6 (x6.length:Int) (k:Int)) ?_ ?_ k hk
 ·rw [QoD]
  simp [Is,QaK,QD,Qh]
 ·intro k hk ih
  rw [QoD]
  have hw:Fu x6[k] (ByteArray.mk #[45,95,46])=Yg x6[k]:=QAR (s:=x0) (by rw [←hs];exact Bu hk)
  simp only [Is,QD,QJ,hk,Bv,Qd,Bd,Qb6 (show k<9223372036854775807 by omega),QS (y:= .int .u8) hk,ih,hw]
  simp only [QaK,Bd,Bj hk,BV]
  cases Yg x6[k]<;>rfl
theorem QAU:LO QgF QgD QoB 0:=QH (s:=QaI) fun x y h _ q=>by simp only [QE,QF] at q;exact (QAT x.1 x.2.1 x.2.2.1 x.2.2.2.1 h).trans q
theorem s_f76 (s:ByteArray)(h:Jb s=true):r_f76 s=some (.t .bool (XK s),[]):=by
 simp only [Jb,Ba] at h
 have hl:=GA s
 simp only [r_f76,show Y6 s=true from Be (by omega),QrS (show (QQ s).length<=9223372036854775807 by omega),Qk7,B2,Qd,Bw,BD,XK]
 cases (QQ s).all Yg with
 |false=>rfl
 |true=>
  simp only [BH,Qh,BC]
  refine QZ (fun g=> ?_) (fun g=> ?_)
  ·simp only [ige,JT,Ba] at g
   apply Fj
   rw [DC]
   simp only [ile,JT,Ba]
   omega
  ·simp only [ige,JT,Bn] at g
   apply Fj
   rw [eq_comm,Bn]
   omega
def QoE:Ent:=Ql (.pr .str .nil) (fun x=>(Jb x.1)) (fun x=>(.t .bool (XK x.1)))
theorem ms_f76:EM 76 QoE:=mS (lk:=lkL (lkc QAU lkn)) QgF QoA [((.t 2),some .bool)] false (gB (gD QAP (gC Qd0 Qd1 gN))) fun m=>Qn m fun x hok=>kT (s_f76 x.1 hok)
abbrev QaL:Sh:=⟨[(0,.ty .str),(3,.ty tI)],[]⟩
abbrev Fv:Sh:=⟨[],[]⟩
def QgG:Fg:=QaL.f
def QoF:TC:=aF Tryz.f98 [(58,pL 0 QgG),(931,.fg Fv.f),(14925,.fg Ir.f)]
def QoG:TC:=lb 0 QoF
def QoH (x0:ByteArray)(x3:Int):VS:=QaL.st (x0,x3,()) ()
def QgH  : VS:=Fv.st () ()
def QAV:VS->Option (Bool×List (Bool×Exit×VS)):=mkL QaL (fun x y=>(Jb x.1&&decide (0<=x.2.1/\x.2.1<=x.1.size))) (fun x y=>[((!(((QQ x.1).drop x.2.1.toNat).all Yg)),.ret,Y0 (false)),(true,.exit 0,QgH)])
def QgI:G:=gG 56 [] (Ls [QAV])
def QaM (x0:ByteArray)(x3:Int):OX:=Qv (QB QgI QgG QoG) (QoH x0 x3)
def QaN (kk:ByteArray->Int->OX)(x0:ByteArray)(x3:Int):OX:=
 let a1:=Qf .i64 x3 1
 br (ine (sgt x0 x3) 45) (br (ine (sgt x0 x3) 95) (br (ine (sgt x0 x3) 46) (some (.ret,Y0 false)) (kk x0 a1)) (kk x0 a1)) (kk x0 a1)
def QaO (kk:ByteArray->Int->OX)(x0:ByteArray)(x3:Int):OX:=br (ilt (sgt x0 x3) 48) (QaN kk x0 x3) (br (igt (sgt x0 x3) 57) (QaN kk x0 x3) (kk x0 (Qf .i64 x3 1)))
def QaP (kk:ByteArray->Int->OX)(x0:ByteArray)(x3:Int):OX:=br (ilt (sgt x0 x3) 65) (QaO kk x0 x3) (br (igt (sgt x0 x3) 90) (QaO kk x0 x3) (kk x0 (Qf .i64 x3 1)))
def It (kk:ByteArray->Int->OX)(x0:ByteArray)(x3:Int):OX:=br (ilt x3 (JT x0)) (br (cSx x0 x3) (br (ilt (sgt x0 x3) 97) (QaP kk x0 x3) (br (igt (sgt x0 x3) 122) (QaP kk x0 x3) (kk x0 (Qf .i64 x3 1)))) none) (some (.exit 0,QgH))
def QaQ (x0:ByteArray)(x3:Int):OX:=br (!(((QQ x0).drop x3.toNat).all Yg)) (some (.ret,Y0 (false)))<|some (.exit 0,QgH)
theorem QoI (x0:ByteArray)(x3:Int):QaM x0 x3=It QaM x0 x3:=lnT (x:=It (fun x0 x3=>some (.normal,QoH x0 x3)) x0 x3) (by simp only [It,QaP,QaO,QaN,nxA];rfl)
def r_f98 (p0:ByteArray):OV:=br (ilt (JT p0) 1) (some (.t .bool false,[])) (br (igt (JT p0) 32) (some (.t .bool false,[])) (br (Jb p0&&decide (0<=(0:Int)/\(0:Int)<=p0.size)) (br (!(((QQ p0).drop (0:Int).toNat).all Yg)) (some (.t .bool (false),[])) (some (.t .bool true,[]))) none))
theorem QAW {β:Type}(c:Int)(bad ok:Option β):(br (ilt c 97) (br (ilt c 65) (br (ilt c 48) (br (ine c 45) (br (ine c 95) (br (ine c 46) bad ok) ok) ok) (br (igt c 57) (br (ine c 45) (br (ine c 95) (br (ine c 46) bad ok) ok) ok) ok)) (br (igt c 90) (br (ilt c 48) (br (ine c 45) (br (ine c 95) (br (ine c 46) bad ok) ok) ok) (br (igt c 57) (br (ine c 45) (br (ine c 95) (br (ine c 46) bad ok) ok) ok) ok)) ok)) (br (igt c 122) (br (ilt c 65) (br (ilt c 48) (br (ine c 45) (br (ine c 95) (br (ine c 46) bad ok) ok) ok) (br (igt c 57) (br (ine c 45) (br (ine c 95) (br (ine c 46) bad ok) ok) ok) ok)) (br (igt c 90) (br (ilt c 48) (br (ine c 45) (br (ine c 95) (br (ine c 46) bad ok) ok) ok) (br (igt c 57) (br (ine c 45) (br (ine c 95) (br (ine c 46) bad ok) ok) ok) ok)) ok)) ok))=br (Yg c) ok bad:=by
 simp only [Yg,GN]
 cases ilt c 97<;>cases igt c 122<;>cases ilt c 65<;>cases igt c 90<;>cases ilt c 48<;>cases igt c 57<;>cases ieq c 45<;>cases ieq c 95<;>cases ieq c 46<;>rfl
theorem QAX (x0:ByteArray)(x3:Int)(h:(Jb x0&&decide (0<=x3/\x3<=x0.size))=true):QaM x0 x3=QaQ x0 x3:=by
 simp only [Jb,Bc,Ba] at h
 obtain ⟨h0,h1,h2⟩:=h
 obtain ⟨k,rfl⟩:=Bq h1
 have hl:=GA x0
 refine QU (QQ x0) (fun k=>QaM x0 (k:Int)=QaQ x0 (k:Int)) ?_ ?_ k (by omega)
 ·rw [QoI]
  simp [It,QaQ,ilt,JT,hl,Qh,DP (show (QQ x0).length<=x0.size by omega)]
 ·intro k hk ih
  have hk2:k<x0.size:=by omega
  rw [QoI]
  simp only [It,QaP,QaO,QaN,show ilt (k:Int) (JT x0)=true from by simp only [ilt,JT,Ba];omega,show cSx x0 (k:Int)=true from by simp only [cSx,Ba];omega,Qd,QrY hk2,Qb6 (show k<9223372036854775807 by omega),ih,QAW]
  simp only [QaQ,Bd,Bj hk,BV]
  cases Yg (QQ x0)[k]<;>rfl
theorem QAY:LO QgI QgG QoG 0:=QH (s:=QaL) fun x y h _ q=>by simp only [QE,QF] at q;exact (QAX x.1 x.2.1 h).trans q
theorem s_f98 (s:ByteArray)(h:Jb s=true):r_f98 s=some (.t .bool (XK s),[]):=by
 simp only [r_f98]
 unfold XK
 refine QZ (fun g=> ?_) (fun g=>QZ (fun g2=> ?_) (fun g2=> ?_))
 ·simp only [ilt,JT,Ba] at g
  rw [Bo (show ¬ (1<=s.size/\s.size<=32) by omega),Bool.and_false]
 ·simp only [igt,JT,Ba] at g2
  rw [Bo (show ¬ (1<=s.size/\s.size<=32) by omega),Bool.and_false]
 ·simp only [ilt,igt,JT,Bn] at g g2
  rw [h,Be (show (0:Int)<=0/\(0:Int)<=s.size by omega),Be (show 1<=s.size/\s.size<=32 by omega),Db,Db,Qd,Bw,BD]
  cases (QQ s).all Yg<;>rfl
def QoJ:Ent:=Ql (.pr .str .nil) (fun x=>(Jb x.1)) (fun x=>(.t .bool (XK x.1)))
theorem ms_f98:EM 98 QoJ:=mS (lk:=lkL (lkc QAY lkn)) QgI QoF [((.t 2),some .bool)] false (gB gN) fun m=>Qn m fun x hok=>kT (s_f98 x.1 hok)
def JY {α:Type}(l:List α):Bool:=decide (l.length<=100000)
def Yh (l:List Int)(k:Nat):Bool:=(List.range' k (l.length-k)).all fun j=>decide (j=0)||ilt (l.getD (j-1) 0) (l.getD j 0)
def Y2 (l:List Int):Bool:=Yh l 0
theorem QgJ (l:List Int):Yh l l.length=true:=by
 unfold Yh
 rw [Nat.sub_self]
 rfl
theorem QgK {l:List Int}{k:Nat}(hk:k<l.length):Yh l k=((decide (k=0)||ilt (l.getD (k-1) 0) l[k])&&Yh l (k+1)):=by
 have:l.length-k=(l.length-(k+1))+1:=by omega
 unfold Yh
 rw [this,Du,BV]
 simp only [Bk,Bh hk,BI]
theorem QgL {β:Type}{l:List Int}{k:Nat}(hk:k<l.length)(hb:k<4611686018427387904)(bad ok:Option β):
  br (igt (k:Int) 0) (br (cIx l (Q6 .i64 (k:Int) 1)) (br (ige (lgt tI l (Int.toNat (Q6 .i64 (k:Int) 1))) l[k]) bad ok) none) ok=br (decide (k=0)||ilt (l.getD (k-1) 0) l[k]) ok bad:=by
 by_cases h0:k=0
 ·subst h0
  rw [show igt ((0:Nat):Int) 0=false from rfl,Qh,Be rfl,Bool.true_or,Qd]
 ·have e:Q6 .i64 (k:Int) 1=((k-1:Nat):Int):=by rw [Xk (by omega)];omega
  rw [show igt (k:Int) 0=true from Be (by omega),Qd,e,Bd,QJ,Be (show k-1<l.length by omega),Qd,Bo h0,Dk,Qee]
  show br (!ilt (l.getD (k-1) 0) l[k]) bad ok=_
  cases ilt (l.getD (k-1) 0) l[k]<;>rfl
abbrev QaR:Sh:=⟨[(0,.ty (.sl tI)),(5,.ty tI),(6,.ty tI)],[]⟩
def QgM:Fg:=QaR.f
def QoK:TC:=aF Tryz.f78 [(26,pL 0 QgM),(421,.fg Fv.f),(3378,pD [(0,[]),(1,[]),(2,[]),(3,[]),(4,[]),(5,[]),(6,[]),(7,[]),(8,[]),(9,[]),(10,[]),(11,[]),(12,[]),(13,[])] (.of [0,1,2,3,4,5,6,7,8,9,10,11,12,13])),(13517,.fg Ir.f)]
def QoL:TC:=lb 0 QoK
def QoM (x0:List Int)(x5 x6:Int):VS:=QaR.st (x0,x5,x6,()) ()
def QgN  : VS:=Fv.st () ()
def QAZ:VS->Option (Bool×List (Bool×Exit×VS)):=mkL QaR (fun x y=>(Qz x.1 x.2.1 x.2.2.1)) (fun x y=>[((!Yh x.1 x.2.2.1.toNat),.ret,Y0 (false)),(true,.exit 0,QgN)])
def QgO:G:=gG 24 [] (Ls [QAZ])
def QaS (x0:List Int)(x5 x6:Int):OX:=Qv (QB QgO QgM QoL) (QoM x0 x5 x6)
def Iu (kk:List Int->Int->Int->OX)(x0:List Int)(x5 x6:Int):OX:=br (ilt x6 x5) (br (igt x6 0) (br (cIx x0 (Q6 .i64 x6 1)) (br (cIx x0 x6) (br (ige (lgt tI x0 (Int.toNat (Q6 .i64 x6 1))) (lgt tI x0 (Int.toNat x6))) (some (.ret,Y0 false)) (kk x0 x5 (Qf .i64 x6 1))) none) none) (kk x0 x5 (Qf .i64 x6 1))) (some (.exit 0,QgN))
def QaT (x0:List Int)(x5 x6:Int):OX:=br (!Yh x0 x6.toNat) (some (.ret,Y0 (false)))<|some (.exit 0,QgN)
theorem QoN (x0:List Int)(x5 x6:Int):QaS x0 x5 x6=Iu QaS x0 x5 x6:=lnT (x:=Iu (fun x0 x5 x6=>some (.normal,QoM x0 x5 x6)) x0 x5 x6) (by simp only [Iu,nxA];rfl)
def r_f78 (p0:List Int):OV:=br (Qz p0 (Qa p0) (0:Int)) (br (!Yh p0 (0:Int).toNat) (some (.t .bool (false),[])) (some (.t .bool true,[]))) none
theorem QA0 (x0:List Int)(x5 x6:Int)(h:(Qz x0 x5 x6)=true):QaS x0 x5 x6=QaT x0 x5 x6:=by
 obtain ⟨rfl,h3,k,rfl,hk⟩:=JJ h
 clear h
 refine QU x0 (fun k=>QaS x0 (x0.length:Int) (k:Int)=QaT x0 (x0.length:Int) (k:Int)) ?_ ?_ k hk
 ·rw [QoN]
  simp only [Iu,QaT,QD,B0,B4,Qh,Bd,QgJ,BH]
 ·intro k hk ih
  rw [QoN]
  simp only [Iu,QD,QJ,hk,Bv,Qd,Bd,QT (show k<4611686018427387904 by omega),QS (y:=tI) hk,ih,QgL hk (show k<4611686018427387904 by omega)]
  simp only [QaT,Bd,QgK hk]
  cases decide (k=0)||ilt (x0.getD (k-1) 0) x0[k]<;>rfl
theorem QA1:LO QgO QgM QoL 0:=QH (s:=QaR) fun x y h _ q=>by simp only [QE,QF] at q;exact (QA0 x.1 x.2.1 x.2.2.1 h).trans q
theorem s_f78 (l:List Int)(h:JY l=true):r_f78 l=some (.t .bool (Y2 l),[]):=by
 simp only [JY,Ba] at h
 simp only [r_f78,JK h,Qd,Bw]
 unfold Y2
 cases Yh l 0<;>rfl
def QoO:Ent:=Ql (.pr (.sl tI) .nil) (fun x=>(JY x.1)) (fun x=>(.t .bool (Y2 x.1)))
theorem ms_f78:EM 78 QoO:=mS (lk:=lkL (lkc QA1 lkn)) QgO QoK [((.t 2),some .bool)] false (gB gN) fun m=>Qn m fun x hok=>kT (s_f78 x.1 hok)
def XL (a:Int):Bool:=ieq (Z9 a) 1
def tc_f84:TC:=aF Tryz.f84 []
def g_f84:G:=gG 6 [(126,Qd3)] (fun _ _=>none)
def r_f84 (p0:Int):OV:=some (.t .bool (ieq (Z9 p0) 1),[])
theorem s_f84 (a:Int):r_f84 a=some (.t .bool (XL a),[]):=rfl
def QoP:Ent:=Ql (.pr tI .nil) (fun x=>true) (fun x=>(.t .bool (XL x.1)))
theorem ms_f84:EM 84 QoP:=mS g_f84 tc_f84 [((.t 2),some .bool)] false (gB (gD QkU gN)) fun m=>Qn m fun x _=>kT (s_f84 x.1)
def Yu (l:List Int)(k:Nat):Bool:=(List.range' k (l.length-k)).all fun j=>ieq (QX (l.getD j 0)).2 0&& !Jo (l.take j) (l.getD j 0)
def ZE (l:List Int):Bool:=Yu l 0
theorem QoQ (l:List Int):Yu l l.length=true:=by
 unfold Yu
 rw [Nat.sub_self]
 rfl
theorem QoR {l:List Int}{k:Nat}(hk:k<l.length):Yu l k=((ieq (QX l[k]).2 0&& !Jo (l.take k) l[k])&&Yu l (k+1)):=by
 have:l.length-k=(l.length-(k+1))+1:=by omega
 unfold Yu
 rw [this,Du,BV]
 simp only [Bk,Bh hk,BI]
theorem QoS (l:List Int)(k:Nat):lsl l 0 (k:Int)=l.take k:=by
 simp [lsl]
theorem QoT {l:List Int}{k:Nat}(hk:k<=l.length):cSl l 0 (k:Int) ((List.length l:Nat):Int)=true:=by
 simp only [cSl,Ba]
 omega
abbrev QaU:Sh:=⟨[(0,.ty (.sl tI)),(7,.ty (.sl tI)),(8,.ty tI),(9,.ty tI)],[]⟩
def QgP:Fg:=QaU.f
def QoU:TC:=aF Tryz.f77 [(26,pL 0 QgP),(421,.fg Fv.f),(27037,.fg Ir.f)]
def QoV:TC:=lb 0 QoU
def QoW (x0 x7:List Int)(x8 x9:Int):VS:=QaU.st (x0,x7,x8,x9,()) ()
def QgQ  : VS:=Fv.st () ()
def QA2:VS->Option (Bool×List (Bool×Exit×VS)):=mkL QaU (fun x y=>(Qz x.2.1 x.2.2.1 x.2.2.2.1&&Xe x.1 x.2.1)) (fun x y=>[((!Yu x.2.1 x.2.2.2.1.toNat),.ret,Y0 (false)),(true,.exit 0,QgQ)])
def QgR:G:=gG 29 [(124,O8),(125,Qas)] (Ls [QA2])
def QaV (x0 x7:List Int)(x8 x9:Int):OX:=Qv (QB QgR QgP QoV) (QoW x0 x7 x8 x9)
def Iv (kk:List Int->List Int->Int->Int->OX)(x0 x7:List Int)(x8 x9:Int):OX:=
 let a1:=lgt tI x7 (Int.toNat x9)
 br (ilt x9 x8) (br (cIx x7 x9) (br (ine ((QX a1).2) 0) (some (.ret,Y0 false)) (br (cSl x0 0 x9 ((List.length x0:Nat):Int)) (br (Jz (lsl x0 0 x9) a1) (br (Jo (lsl x0 0 x9) a1) (some (.ret,Y0 false)) (kk x0 x7 x8 (Qf .i64 x9 1))) none) none)) none) (some (.exit 0,QgQ))
def QaW (x0 x7:List Int)(x8 x9:Int):OX:=br (!Yu x7 x9.toNat) (some (.ret,Y0 (false)))<|some (.exit 0,QgQ)
theorem QoX (x0 x7:List Int)(x8 x9:Int):QaV x0 x7 x8 x9=Iv QaV x0 x7 x8 x9:=lnT (x:=Iv (fun x0 x7 x8 x9=>some (.normal,QoW x0 x7 x8 x9)) x0 x7 x8 x9) (by simp only [Iv,nxA];rfl)
def r_f77 (p0:List Int):OV:=br (Qz p0 (Qa p0) (0:Int)&&Xe p0 p0) (br (!Yu p0 (0:Int).toNat) (some (.t .bool (false),[])) (some (.t .bool true,[]))) none
theorem QA3 (x0 x7:List Int)(x8 x9:Int)(h:(Qz x7 x8 x9&&Xe x0 x7)=true):QaV x0 x7 x8 x9=QaW x0 x7 x8 x9:=by
 simp only [Bc] at h
 obtain ⟨h0,hs⟩:=h
 have hs:=Qk8 hs
 subst hs
 obtain ⟨rfl,h3,k,rfl,hk⟩:=JJ h0
 clear h0
 refine QU x0 (fun k=>QaV x0 x0 (x0.length:Int) (k:Int)=QaW x0 x0 (x0.length:Int) (k:Int)) ?_ ?_ k hk
 ·rw [QoX]
  simp only [Iv,QaW,QD,B0,B4,Qh,Bd,QoQ,BH]
 ·intro k hk ih
  rw [QoX]
  have hi:Jz (x0.take k) x0[k]=true:=Be (by rw [B5];omega)
  simp only [Iv,QD,QJ,hk,Bv,Qd,Bd,QT (show k<4611686018427387904 by omega),QS (y:=tI) hk,ih,QoS,QoT (show k<=x0.length by omega),hi,GN]
  simp only [QaW,Bd,QoR hk]
  cases ieq (QX x0[k]).2 0<;>cases Jo (x0.take k) x0[k]<;>rfl
theorem QA4:LO QgR QgP QoV 0:=QH (s:=QaU) fun x y h _ q=>by simp only [QE,QF] at q;exact (QA3 x.1 x.2.1 x.2.2.1 x.2.2.2.1 h).trans q
theorem s_f77 (l:List Int)(h:JY l=true):r_f77 l=some (.t .bool (ZE l),[]):=by
 simp only [JY,Ba] at h
 simp only [r_f77,JK h,Qk7,B2,Qd,Bw]
 unfold ZE
 cases Yu l 0<;>rfl
def QoY:Ent:=Ql (.pr (.sl tI) .nil) (fun x=>(JY x.1)) (fun x=>(.t .bool (ZE x.1)))
theorem ms_f77:EM 77 QoY:=mS (lk:=lkL (lkc QA4 lkn)) QgR QoU [((.t 2),some .bool)] false (gB (gD Qea (gD Qga gN))) fun m=>Qn m fun x hok=>kT (s_f77 x.1 hok)
def Y3 (n:Int):Bool:= !J2 n
def QA5:TC:=aF Tryz.f81 []
def QA6:G:=gG 8 [(83,Vb)] (fun _ _=>none)
def QoZ (p0:Int):OV:=some (.t .bool (!(J2 p0)),[.box (.c (.func (.func 83) #[] #[]))])
theorem QA7 (n:Int):QoZ n=some (.t .bool (Y3 n),[.box (.c (.func (.func 83) #[] #[]))]):=by
 simp only [QoZ]
 rfl
def Qo0:Ent:=Xo [.ty tI,.ptr 50000 0] [.bc 83] (fun x y=>true) (fun x y=>(.t .bool (Y3 x.1))) (fun x y=>[.box (.c (.func (.func 83) #[] #[]))])
theorem QA8:EM 81 Qo0:=mS QA6 QA5 [((.t 3),some .bool)] false (gB (gD Qef gN)) fun m=>XM (XN m fun x y _=>kT (QA7 x.1))
def Fx (l:List Int):Int:=match QC Y3 l with|some k=>(k:Int)|none=> -1
abbrev QaX:Sh:=⟨[(0,.ty (.sl tI)),(1,.fn 81 [(50000,0)]),(7,.ty tI),(8,.ty tI)],[(50000,.bc 83)]⟩
abbrev Qo1:Sh:=⟨[(4,.ty tI)],[(50000,.bc 83)]⟩
abbrev Qo2:Sh:=⟨[],[(50000,.bc 83)]⟩
def QgS:Fg:=QaX.f
def Qo3:TC:=aF Tryz.f128 [(26,pL 0 QgS),(421,.fg Qo2.f),(13517,.fg Qo1.f)]
def Qo4:TC:=lb 0 Qo3
def Qo5 (x0:List Int)(x7 x8:Int):VS:=QaX.st (x0,(),x7,x8,()) ((),())
def QgT (x4:Int):VS:=Qo1.st (x4,()) ((),())
def QgU  : VS:=Qo2.st () ((),())
def QA9:VS->Option (Bool×List (Bool×Exit×VS)):=mkL QaX (fun x y=>(Qz x.1 x.2.2.1 x.2.2.2.1)) (fun x y=>[(((QC Y3 (x.1.drop x.2.2.2.1.toNat)).isSome),.ret,QgT (x.2.2.2.1+((QC Y3 (x.1.drop x.2.2.2.1.toNat)).getD 0:Nat))),(true,.exit 0,QgU)])
def QgV:G:=gG 19 [(81,Qo0)] (Ls [QA9])
def QaY (x0:List Int)(x7 x8:Int):OX:=Qv (QB QgV QgS Qo4) (Qo5 x0 x7 x8)
def Iw (kk:List Int->Int->Int->OX)(x0:List Int)(x7 x8:Int):OX:=br (ilt x8 x7) (br (cIx x0 x8) (br (Y3 (lgt tI x0 (Int.toNat x8))) (some (.ret,QgT x8)) (kk x0 x7 (Qf .i64 x8 1))) none) (some (.exit 0,QgU))
def QaZ (x0:List Int)(x7 x8:Int):OX:=
 let a1:=QC Y3 (x0.drop x8.toNat)
 br (a1.isSome) (some (.ret,QgT (x8+(a1.getD 0:Nat))))<|some (.exit 0,QgU)
theorem Qo6 (x0:List Int)(x7 x8:Int):QaY x0 x7 x8=Iw QaY x0 x7 x8:=lnT (x:=Iw (fun x0 x7 x8=>some (.normal,Qo5 x0 x7 x8)) x0 x7 x8) (by simp only [Iw,nxA];rfl)
def Qo7 (p0:List Int):OV:=
 let a1:=(QC Y3 (p0.drop (0:Int).toNat))
 br (Qz p0 (Qa p0) (0:Int)) (br (a1.isSome) (some (.t tI ((0:Int)+(a1.getD 0:Nat)),[.box (.c (.func (.func 83) #[] #[]))])) (some (.t tI (-1),[.box (.c (.func (.func 83) #[] #[]))]))) none
theorem QBa (x0:List Int)(x7 x8:Int)(h:(Qz x0 x7 x8)=true):QaY x0 x7 x8=QaZ x0 x7 x8:=by
 obtain ⟨rfl,h3,k,rfl,hk⟩:=JJ h
 clear h
 refine QU x0 (fun k=>QaY x0 (x0.length:Int) (k:Int)=QaZ x0 (x0.length:Int) (k:Int)) ?_ ?_ k hk
 ·rw [Qo6]
  simp [Iw,QaZ,QD,Qh,QC]
 ·intro k hk ih
  rw [Qo6]
  simp only [Iw,QD,QJ,hk,Bv,Qd,Bd,QT (show k<4611686018427387904 by omega),ih,QS (y:=tI) hk]
  simp only [QaZ,Bd,Bj hk,QC]
  cases h:Y3 x0[k] with
  |true=>simp [Qd]
  |false=>
   simp only [Qh,BK,Do]
   cases hq:QC Y3 (x0.drop (k+1)) with
   |none=>rfl
   |some j=>
    simp only [B1,B6,BI,Qd]
    congr 3
    omega
theorem QBb:LO QgV QgS Qo4 0:=QH (s:=QaX) fun x y h _ q=>by simp only [QE,QF] at q;exact (QBa x.1 x.2.2.1 x.2.2.2.1 h).trans q
theorem QBc (l:List Int)(h:JY l=true):Qo7 l=some (.t tI (Fx l),[.box (.c (.func (.func 83) #[] #[]))]):=by
 simp only [JY,Ba] at h
 simp only [Qo7,JK h,Qd,Bw,BD,Fx]
 cases QC Y3 l<;>simp [Qd,Qh]
def Qo8:Ent:=Xo [.ty (.sl tI),.fn 81 [(50000,0)]] [.bc 83] (fun x y=>(JY x.1)) (fun x y=>(.t tI (Fx x.1))) (fun x y=>[.box (.c (.func (.func 83) #[] #[]))])
theorem QBd:EM 128 Qo8:=mS (lk:=lkL (lkc QBb lkn)) QgV Qo3 [((.t 4),some tI)] false (gB (gD QA8 gN)) fun m=>XM (XN m fun x y hok=>kT (QBc x.1 hok))
def Gh (l:List Int):Bool:= !l.all J2
def QBe:TC:=aF Tryz.f82 []
def QBf:G:=gG 9 [(128,Qo8)] (fun _ _=>none)
def Qo9 (p0:List Int):OV:=br (JY p0) (some (.t .bool (ige (Fx p0) 0),[.box (.c (.func (.func 83) #[] #[]))])) none
theorem QBg (l:List Int)(h:JY l=true):Qo9 l=some (.t .bool (Gh l),[.box (.c (.func (.func 83) #[] #[]))]):=by
 simp only [Qo9,h,Qd]
 have e:ige (Fx l) 0=Gh l:=by
  have e2:Gh l=l.any Y3:=by
   unfold Gh
   rw [List.not_all_eq_any_not]
   rfl
  rw [e2]
  unfold Fx
  cases hq:QC Y3 l with
  |none=>rw [I9.1 hq];rfl
  |some k=>
   rw [←Qb8,hq]
   simp only [ige,B6,Ba]
   omega
 rw [e]
def Qpa:Ent:=Xo [.ty (.sl tI),.fn 81 [(50000,0)]] [.bc 83] (fun x y=>(JY x.1)) (fun x y=>(.t .bool (Gh x.1))) (fun x y=>[.box (.c (.func (.func 83) #[] #[]))])
theorem QBh:EM 82 Qpa:=mS QBf QBe [((.t 4),some .bool)] false (gB (gD QBd gN)) fun m=>XM (XN m fun x y hok=>kT (QBg x.1 hok))
def Qpb:TC:=aF Tryz.f80 []
def Qpc:List (RV×Option Ty):=[((.t 2),none)]
def Qpd:G:=gG 4 [] (fun _ _=>none)
def Qpe  : OV:=some (.fn 81 [(.ptr 50000 0)],[.box (.c (.func (.func 83) #[] #[]))])
theorem QBi  : JS Qpd Qpb Qpc true [.c (.func (.func 83) ⟨[]⟩ ⟨[]⟩)] []=Qpe  :=by kernel_rfl
theorem QBj:Qpe=some (.fn 81 [.ptr 50000 0],[.box (.c (.func (.func 83) #[] #[]))]):=rfl
def Qpf:Ent:=Xo [.cf 83] [] (fun x y=>true) (fun x y=>(.fn 81 [(.ptr 50000 0)])) (fun x y=>[.box (.c (.func (.func 83) #[] #[]))])
theorem QBk:EM 80 Qpf:=mS Qpd Qpb Qpc true (gB gN) fun m=>XM (XN m fun x y _=>(QBi ).trans (QBj ))
def Y4 (n:Int):Bool:= !XL n
def QBl:TC:=aF Tryz.f81 []
def QBm:G:=gG 8 [(84,QoP)] (fun _ _=>none)
def Qpg (p0:Int):OV:=some (.t .bool (!(XL p0)),[.box (.c (.func (.func 84) #[] #[]))])
theorem QBn (n:Int):Qpg n=some (.t .bool (Y4 n),[.box (.c (.func (.func 84) #[] #[]))]):=by
 simp only [Qpg]
 rfl
def Qph:Ent:=Xo [.ty tI,.ptr 50000 0] [.bc 84] (fun x y=>true) (fun x y=>(.t .bool (Y4 x.1))) (fun x y=>[.box (.c (.func (.func 84) #[] #[]))])
theorem QBo:EM 81 Qph:=mS QBm QBl [((.t 3),some .bool)] false (gB (gD ms_f84 gN)) fun m=>XM (XN m fun x y _=>kT (QBn x.1))
def Fy (l:List Int):Int:=match QC Y4 l with|some k=>(k:Int)|none=> -1
abbrev Qa0:Sh:=⟨[(0,.ty (.sl tI)),(1,.fn 81 [(50000,0)]),(7,.ty tI),(8,.ty tI)],[(50000,.bc 84)]⟩
abbrev Qpi:Sh:=⟨[(4,.ty tI)],[(50000,.bc 84)]⟩
abbrev Qpj:Sh:=⟨[],[(50000,.bc 84)]⟩
def QgW:Fg:=Qa0.f
def Qpk:TC:=aF Tryz.f128 [(26,pL 0 QgW),(421,.fg Qpj.f),(13517,.fg Qpi.f)]
def Qpl:TC:=lb 0 Qpk
def Qpm (x0:List Int)(x7 x8:Int):VS:=Qa0.st (x0,(),x7,x8,()) ((),())
def QgX (x4:Int):VS:=Qpi.st (x4,()) ((),())
def QgY  : VS:=Qpj.st () ((),())
def QBp:VS->Option (Bool×List (Bool×Exit×VS)):=mkL Qa0 (fun x y=>(Qz x.1 x.2.2.1 x.2.2.2.1)) (fun x y=>[(((QC Y4 (x.1.drop x.2.2.2.1.toNat)).isSome),.ret,QgX (x.2.2.2.1+((QC Y4 (x.1.drop x.2.2.2.1.toNat)).getD 0:Nat))),(true,.exit 0,QgY)])
def QgZ:G:=gG 19 [(81,Qph)] (Ls [QBp])
def Qa1 (x0:List Int)(x7 x8:Int):OX:=Qv (QB QgZ QgW Qpl) (Qpm x0 x7 x8)
def Ix (kk:List Int->Int->Int->OX)(x0:List Int)(x7 x8:Int):OX:=br (ilt x8 x7) (br (cIx x0 x8) (br (Y4 (lgt tI x0 (Int.toNat x8))) (some (.ret,QgX x8)) (kk x0 x7 (Qf .i64 x8 1))) none) (some (.exit 0,QgY))
def Qa2 (x0:List Int)(x7 x8:Int):OX:=
 let a1:=QC Y4 (x0.drop x8.toNat)
 br (a1.isSome) (some (.ret,QgX (x8+(a1.getD 0:Nat))))<|some (.exit 0,QgY)
theorem Qpn (x0:List Int)(x7 x8:Int):Qa1 x0 x7 x8=Ix Qa1 x0 x7 x8:=lnT (x:=Ix (fun x0 x7 x8=>some (.normal,Qpm x0 x7 x8)) x0 x7 x8) (by simp only [Ix,nxA];rfl)
def Qpo (p0:List Int):OV:=
 let a1:=(QC Y4 (p0.drop (0:Int).toNat))
 br (Qz p0 (Qa p0) (0:Int)) (br (a1.isSome) (some (.t tI ((0:Int)+(a1.getD 0:Nat)),[.box (.c (.func (.func 84) #[] #[]))])) (some (.t tI (-1),[.box (.c (.func (.func 84) #[] #[]))]))) none
theorem QBq (x0:List Int)(x7 x8:Int)(h:(Qz x0 x7 x8)=true):Qa1 x0 x7 x8=Qa2 x0 x7 x8:=by
 obtain ⟨rfl,h3,k,rfl,hk⟩:=JJ h
 clear h
 refine QU x0 (fun k=>Qa1 x0 (x0.length:Int) (k:Int)=Qa2 x0 (x0.length:Int) (k:Int)) ?_ ?_ k hk
 ·rw [Qpn]
  simp [Ix,Qa2,QD,Qh,QC]
 ·intro k hk ih
  rw [Qpn]
  simp only [Ix,QD,QJ,hk,Bv,Qd,Bd,QT (show k<4611686018427387904 by omega),ih,QS (y:=tI) hk]
  simp only [Qa2,Bd,Bj hk,QC]
  cases h:Y4 x0[k] with
  |true=>simp [Qd]
  |false=>
   simp only [Qh,BK,Do]
   cases hq:QC Y4 (x0.drop (k+1)) with
   |none=>rfl
   |some j=>
    simp only [B1,B6,BI,Qd]
    congr 3
    omega
theorem QBr:LO QgZ QgW Qpl 0:=QH (s:=Qa0) fun x y h _ q=>by simp only [QE,QF] at q;exact (QBq x.1 x.2.2.1 x.2.2.2.1 h).trans q
theorem QBs (l:List Int)(h:JY l=true):Qpo l=some (.t tI (Fy l),[.box (.c (.func (.func 84) #[] #[]))]):=by
 simp only [JY,Ba] at h
 simp only [Qpo,JK h,Qd,Bw,BD,Fy]
 cases QC Y4 l<;>simp [Qd,Qh]
def Qpp:Ent:=Xo [.ty (.sl tI),.fn 81 [(50000,0)]] [.bc 84] (fun x y=>(JY x.1)) (fun x y=>(.t tI (Fy x.1))) (fun x y=>[.box (.c (.func (.func 84) #[] #[]))])
theorem QBt:EM 128 Qpp:=mS (lk:=lkL (lkc QBr lkn)) QgZ Qpk [((.t 4),some tI)] false (gB (gD QBo gN)) fun m=>XM (XN m fun x y hok=>kT (QBs x.1 hok))
def Gi (l:List Int):Bool:= !l.all XL
def QBu:TC:=aF Tryz.f82 []
def QBv:G:=gG 9 [(128,Qpp)] (fun _ _=>none)
def Qpq (p0:List Int):OV:=br (JY p0) (some (.t .bool (ige (Fy p0) 0),[.box (.c (.func (.func 84) #[] #[]))])) none
theorem QBw (l:List Int)(h:JY l=true):Qpq l=some (.t .bool (Gi l),[.box (.c (.func (.func 84) #[] #[]))]):=by
 simp only [Qpq,h,Qd]
 have e:ige (Fy l) 0=Gi l:=by
  have e2:Gi l=l.any Y4:=by
   unfold Gi
   rw [List.not_all_eq_any_not]
   rfl
  rw [e2]
  unfold Fy
  cases hq:QC Y4 l with
  |none=>rw [I9.1 hq];rfl
  |some k=>
   rw [←Qb8,hq]
   simp only [ige,B6,Ba]
   omega
 rw [e]
def Qpr:Ent:=Xo [.ty (.sl tI),.fn 81 [(50000,0)]] [.bc 84] (fun x y=>(JY x.1)) (fun x y=>(.t .bool (Gi x.1))) (fun x y=>[.box (.c (.func (.func 84) #[] #[]))])
theorem QBx:EM 82 Qpr:=mS QBv QBu [((.t 4),some .bool)] false (gB (gD QBt gN)) fun m=>XM (XN m fun x y hok=>kT (QBw x.1 hok))
def Qps:TC:=aF Tryz.f80 []
def Qpt:List (RV×Option Ty):=[((.t 2),none)]
def Qpu:G:=gG 4 [] (fun _ _=>none)
def Qpv  : OV:=some (.fn 81 [(.ptr 50000 0)],[.box (.c (.func (.func 84) #[] #[]))])
theorem QBy  : JS Qpu Qps Qpt true [.c (.func (.func 84) ⟨[]⟩ ⟨[]⟩)] []=Qpv  :=by kernel_rfl
theorem QBz:Qpv=some (.fn 81 [.ptr 50000 0],[.box (.c (.func (.func 84) #[] #[]))]):=rfl
def Qpw:Ent:=Xo [.cf 84] [] (fun x y=>true) (fun x y=>(.fn 81 [(.ptr 50000 0)])) (fun x y=>[.box (.c (.func (.func 84) #[] #[]))])
theorem QBA:EM 80 Qpw:=mS Qpu Qps Qpt true (gB gN) fun m=>XM (XN m fun x y _=>(QBy ).trans (QBz ))
end
end Go.Proofs.YtmjnnemhoeolgaaGreat.K
