import Derived.Test.YtmjnnemhoeolgaaGreatQ4
import Derived.Test.YtmjnnemhoeolgaaGreatQ3
import Derived.Shelf.Small.Strs
import Derived.Ground.NamesProg
set_option linter.unusedSimpArgs false
set_option linter.unusedVariables false
noncomputable section
namespace Go.Proofs.YtmjnnemhoeolgaaGreat.K
open Go.RowKit
noncomputable section
def Z6 (a:Int):Int:=(ofF a).1.2.1
def QEc:TC:=aF Tryz.f126 []
def g_f126:G:=gG 12 [(166,QdW)] (fun _ _=>none)
def r_f126 (p0:Int):OV:=some (.t tI ((((ofF p0).1).2).1),[])
theorem s_f126 (a:Int):r_f126 a=some (.t tI (Z6 a),[]):=rfl
def QcI:Ent:=Ql (.pr tI .nil) (fun x=>true) (fun x=>(.t tI (Z6 x.1)))
theorem Qit:EM 126 QcI:=mS g_f126 QEc [((.t 2),some tI)] false (gB (gD Qky gN)) fun m=>Qr m fun x _=>kT (s_f126 x.1)
def Qsz:TC:=aF Tryz.f141 []
def QsA:List (RV×Option Ty):=[((.t 0),some (.sl W6))]
def QsB:G:=gG 25 [] (fun _ _=>none)
def QsC  : OV:=some (.t (.sl W6) ([((ByteArray.mk #[]),(0,())),((ByteArray.mk #[109,100,53]),(1,())),((ByteArray.mk #[115,104,97,49]),(1,())),((ByteArray.mk #[115,104,97,50,53,54]),(1,())),((ByteArray.mk #[115,104,97,51,56,52]),(1,())),((ByteArray.mk #[114,115,97]),(2,())),((ByteArray.mk #[100,115,97]),(2,())),((ByteArray.mk #[101,99,100,115,97]),(2,())),((ByteArray.mk #[101,100,50,53,53,49,57]),(2,())),((ByteArray.mk #[109,108,100,115,97]),(2,())),((ByteArray.mk #[114,115,97,107,120]),(3,())),((ByteArray.mk #[100,104,101]),(3,())),((ByteArray.mk #[101,99,100,104,101]),(3,())),((ByteArray.mk #[109,108,107,101,109]),(3,())),((ByteArray.mk #[114,99,52]),(4,())),((ByteArray.mk #[100,101,115,51]),(4,())),((ByteArray.mk #[97,101,115,99,98,99]),(4,())),((ByteArray.mk #[97,101,115,103,99,109]),(4,())),((ByteArray.mk #[99,104,97,99,104,97]),(4,())),((ByteArray.mk #[104,109,97,99,109,100,53]),(5,())),((ByteArray.mk #[104,109,97,99,115,104,97,49]),(5,())),((ByteArray.mk #[104,109,97,99,115,104,97,50,53,54]),(5,())),((ByteArray.mk #[97,101,97,100]),(5,()))]),[])
theorem e_f141  : Jq QsB Qsz QsA false [] []=QsC  :=by kernel_rfl
def QcJ:Ty.T (.sl W6):=([((ByteArray.mk #[]),(0,())),((ByteArray.mk #[109,100,53]),(1,())),((ByteArray.mk #[115,104,97,49]),(1,())),((ByteArray.mk #[115,104,97,50,53,54]),(1,())),((ByteArray.mk #[115,104,97,51,56,52]),(1,())),((ByteArray.mk #[114,115,97]),(2,())),((ByteArray.mk #[100,115,97]),(2,())),((ByteArray.mk #[101,99,100,115,97]),(2,())),((ByteArray.mk #[101,100,50,53,53,49,57]),(2,())),((ByteArray.mk #[109,108,100,115,97]),(2,())),((ByteArray.mk #[114,115,97,107,120]),(3,())),((ByteArray.mk #[100,104,101]),(3,())),((ByteArray.mk #[101,99,100,104,101]),(3,())),((ByteArray.mk #[109,108,107,101,109]),(3,())),((ByteArray.mk #[114,99,52]),(4,())),((ByteArray.mk #[100,101,115,51]),(4,())),((ByteArray.mk #[97,101,115,99,98,99]),(4,())),((ByteArray.mk #[97,101,115,103,99,109]),(4,())),((ByteArray.mk #[99,104,97,99,104,97]),(4,())),((ByteArray.mk #[104,109,97,99,109,100,53]),(5,())),((ByteArray.mk #[104,109,97,99,115,104,97,49]),(5,())),((ByteArray.mk #[104,109,97,99,115,104,97,50,53,54]),(5,())),((ByteArray.mk #[97,101,97,100]),(5,()))])
theorem s_f141:QsC=some (.t (.sl W6) QcJ,[]):=rfl
def QsD:Ent:=Ql .nil (fun x=>true) (fun x=>(.t (.sl W6) QcJ))
theorem QEd:EM 141 QsD:=mS QsB Qsz QsA false (gB gN) fun m=>Qr m fun x _=>(e_f141 ).trans (s_f141)
def QEe:TC:=aF Tryz.f101 []
def g_f101:G:=gG 14 [(141,QsD)] (fun _ _=>none)
def QsE (p0:Int):OV:=br (ilt p0 1) (some (.t tI 0,[])) (br (igt p0 22) (some (.t tI 0,[])) (br (cIx QcJ p0) (some (.t tI (((lgt W6 QcJ (Int.toNat p0)).2).1),[])) none))
theorem QEf {a:Int}(h1:1<=a)(h2:a<=22):a=1∨a=2∨a=3∨a=4∨a=5∨a=6∨a=7∨a=8∨a=9∨a=10∨a=11∨a=12∨a=13∨a=14∨a=15∨a=16∨a=17∨a=18∨a=19∨a=20∨a=21∨a=22:=by omega
theorem s_f101 (a:Int):QsE a=some (.t tI (Z6 a),[]):=by
 simp only [QsE]
 refine Q4 (fun h1=> ?_) (fun h1=>Q4 (fun h2=> ?_) (fun h2=> ?_))
 ·have h1:a<1:=by simpa [ilt] using h1
  simp [Z6,ofF,h1,EQ]
 ·have h2:22<a:=by simpa [igt] using h2
  simp [Z6,ofF,h2,EQ]
 ·have h1: ¬ a<1:=by simpa [ilt] using h1
  have h2: ¬ 22<a:=by simpa [igt] using h2
  rcases QEf (a:=a) (by omega) (by omega) with rfl|rfl|rfl|rfl|rfl|rfl|rfl|rfl|rfl|rfl|rfl|rfl|rfl|rfl|rfl|rfl|rfl|rfl|rfl|rfl|rfl|rfl<;>rfl
def Qiu:Ent:=Ql (.pr tI .nil) (fun x=>true) (fun x=>(.t tI (Z6 x.1)))
theorem QsF:EM 101 Qiu:=mS g_f101 QEe [((.t 2),some tI)] false (gB (gD QEd gN)) fun m=>Qr m fun x _=>kT (s_f101 x.1)
def Qp (a b:Int):Keep:=(a,(b,()))
def QEg:TC:=aF Tryz.f196 []
def g_f196:G:=gG 8 [] (fun _ _=>none)
def r_f196 (p0 p1:Int):OV:=some (.t Qe (p0,(p1,())),[])
theorem s_f196 (a b:Int):r_f196 a b=some (.t Qe (Qp a b),[]):=rfl
def QsG:Ent:=Ql (.pr tI (.pr tI .nil)) (fun x=>true) (fun x=>(.t Qe (Qp x.1 x.2.1)))
theorem QEh:EM 196 QsG:=mS g_f196 QEg [((.c 4 true 2),some Qe)] false (gB gN) fun m=>Qr m fun x _=>kT (s_f196 x.1 x.2.1)
def QEi:TC:=aF Tryz.f143 []
def g_f143:G:=gG 8 [] (fun _ _=>none)
def r_f143 (p0 p1:Int):OV:=some (.t Qe (p0,(p1,())),[])
theorem s_f143 (a b:Int):r_f143 a b=some (.t Qe (Qp a b),[]):=rfl
def QsH:Ent:=Ql (.pr tI (.pr tI .nil)) (fun x=>true) (fun x=>(.t Qe (Qp x.1 x.2.1)))
theorem QEj:EM 143 QsH:=mS g_f143 QEi [((.c 4 true 2),some Qe)] false (gB gN) fun m=>Qr m fun x _=>kT (s_f143 x.1 x.2.1)
def ZC (c:Int)(n:ByteArray)(e s f m:Keep)(l o:Int):Suite:=(c,(n,(e,(s,(f,(m,(l,(o,()))))))))
def QEk:TC:=aF Tryz.f144 []
def g_f144:G:=gG 26 [] (fun _ _=>none)
def r_f144 (p0:Int)(p1:ByteArray)(p2 p3 p4 p5:Keep)(p6 p7:Int):OV:=some (.t QR (p0,(p1,((p2.1,(p2.2.1,())),((p3.1,(p3.2.1,())),((p4.1,(p4.2.1,())),((p5.1,(p5.2.1,())),(p6,(p7,())))))))),[])
theorem s_f144 (c:Int)(n:ByteArray)(e s f m:Keep)(l o:Int):r_f144 c n e s f m l o=some (.t QR (ZC c n e s f m l o),[]):=rfl
def QsI:Ent:=Ql (.pr tI (.pr .str (.pr Qe (.pr Qe (.pr Qe (.pr Qe (.pr tI (.pr tI .nil)))))))) (fun x=>true) (fun x=>(.t QR (ZC x.1 x.2.1 x.2.2.1 x.2.2.2.1 x.2.2.2.2.1 x.2.2.2.2.2.1 x.2.2.2.2.2.2.1 x.2.2.2.2.2.2.2.1)))
theorem QEl:EM 144 QsI:=mS g_f144 QEk [((.c 16 true 12),some QR)] false (gB gN) fun m=>Qr m fun x _=>kT (s_f144 x.1 x.2.1 x.2.2.1 x.2.2.2.1 x.2.2.2.2.1 x.2.2.2.2.2.1 x.2.2.2.2.2.2.1 x.2.2.2.2.2.2.2.1)
def QsJ:TC:=aF Tryz.f105 [(254,pD [(0,[1]),(1,[2]),(2,[4]),(3,[9]),(4,[]),(5,[1]),(6,[2]),(7,[4]),(8,[10]),(9,[]),(10,[1]),(11,[2]),(12,[5]),(13,[10]),(14,[]),(15,[]),(16,[]),(17,[5]),(18,[10]),(19,[]),(20,[]),(21,[2]),(22,[5]),(23,[10]),(24,[]),(25,[1]),(26,[2]),(27,[6]),(28,[10]),(29,[]),(30,[]),(31,[2]),(32,[6]),(33,[10]),(34,[]),(35,[13]),(36,[2]),(37,[6]),(38,[10]),(39,[]),(40,[13]),(41,[]),(42,[]),(43,[11]),(44,[]),(45,[13]),(46,[2]),(47,[7]),(48,[12]),(49,[]),(50,[]),(51,[]),(52,[8]),(53,[12]),(54,[]),(55,[13]),(56,[2]),(57,[14]),(58,[12]),(59,[]),(60,[1]),(61,[2]),(62,[8]),(63,[12]),(64,[]),(65,[13]),(66,[3]),(67,[7]),(68,[12]),(69,[]),(70,[13]),(71,[3]),(72,[14]),(73,[12]),(74,[]),(75,[]),(76,[3]),(77,[8]),(78,[12]),(79,[]),(80,[]),(81,[])] (.of [0,1,2,3,4,5,6,7,8,9,10,11,12,13,14,15,16,17,18,19,20,21,22,23,24,25,26,27,28,29,30,31,32,33,34,35,36,37,38,39,40,41,42,43,44,45,46,47,48,49,50,51,52,53,54,55,56,57,58,59,60,61,62,63,64,65,66,67,68,69,70,71,72,73,74,75,76,77,78,79,80,81]))]
def QsK:List (RV×Option Ty):=[((.t 0),some (.sl QR))]
def QsL:G:=gG 110 [(143,QsH),(144,QsI)] (fun _ _=>none)
def Yt:Ty.T (.sl QR):=
 let a1:=(ZC 9 (ByteArray.mk #[101,99,100,104,101,45,101,99,100,115,97,45,97,101,115,50,53,54,45,115,104,97,50,53,54]) (Qp 12 256) (Qp 7 0) (Qp 16 256) (Qp 21 0) 3 3)
 let a2:=(ZC 11 (ByteArray.mk #[101,99,100,104,101,45,101,99,100,115,97,45,97,101,115,50,53,54,45,103,99,109]) (Qp 12 384) (Qp 7 0) (Qp 17 256) (Qp 22 0) 3 3)
 let a3:=(ZC 10 (ByteArray.mk #[101,99,100,104,101,45,114,115,97,45,97,101,115,49,50,56,45,103,99,109]) (Qp 12 256) (Qp 5 0) (Qp 17 128) (Qp 22 0) 3 3)
 let a4:=(ZC 8 (ByteArray.mk #[101,99,100,104,101,45,114,115,97,45,97,101,115,49,50,56,45,115,104,97]) (Qp 12 256) (Qp 5 0) (Qp 16 128) (Qp 20 0) 1 3)
 let a5:=(ZC 7 (ByteArray.mk #[100,104,101,45,114,115,97,45,97,101,115,49,50,56,45,115,104,97]) (Qp 11 2048) (Qp 5 0) (Qp 16 128) (Qp 20 0) 1 3)
 let a6:=(ZC 16 (ByteArray.mk #[109,108,107,101,109,45,97,101,115,50,53,54,45,103,99,109]) (Qp 13 768) (0,(0,())) (Qp 17 256) (Qp 22 0) 4 4)
 let a7:=(ZC 4 (ByteArray.mk #[100,104,101,45,100,115,97,45,100,101,115,51,45,115,104,97]) (Qp 11 1024) (Qp 6 0) (Qp 15 168) (Qp 20 0) 1 3)
 let a8:=(ZC 5 (ByteArray.mk #[100,104,101,45,114,115,97,45,100,101,115,51,45,115,104,97]) (Qp 11 1024) (Qp 5 0) (Qp 15 168) (Qp 20 0) 1 3)
 let a9:=(ZC 12 (ByteArray.mk #[101,99,100,104,101,45,114,115,97,45,99,104,97,99,104,97]) (Qp 12 256) (Qp 5 0) (Qp 18 0) (Qp 22 0) 3 3)
 let a10:=(ZC 13 (ByteArray.mk #[114,115,97,45,97,101,115,50,53,54,45,103,99,109]) (Qp 10 0) (Qp 5 0) (Qp 17 256) (Qp 22 0) 3 3)
 let a11:=(ZC 6 (ByteArray.mk #[114,115,97,45,97,101,115,49,50,56,45,115,104,97]) (Qp 10 0) (Qp 5 0) (Qp 16 128) (Qp 20 0) 1 3)
 let a12:=(ZC 3 (ByteArray.mk #[114,115,97,45,100,101,115,51,45,115,104,97]) (Qp 10 0) (Qp 5 0) (Qp 15 168) (Qp 20 0) 1 3)
 let a13:=(ZC 1 (ByteArray.mk #[114,115,97,45,114,99,52,45,109,100,53]) (Qp 10 0) (Qp 5 0) (Qp 14 128) (Qp 19 0) 1 2)
 let a14:=(ZC 2 (ByteArray.mk #[114,115,97,45,114,99,52,45,115,104,97]) (Qp 10 0) (Qp 5 0) (Qp 14 128) (Qp 20 0) 1 3)
 let a15:=(ZC 14 (ByteArray.mk #[97,101,115,49,50,56,45,103,99,109]) (Qp 12 256) (0,(0,())) (Qp 17 128) (Qp 22 0) 4 4)
 let a16:=(ZC 15 (ByteArray.mk #[99,104,97,99,104,97]) (Qp 12 256) (0,(0,())) (Qp 18 0) (Qp 22 0) 4 4)
 let a17:=(((a13.2).2).2)
 let a18:=(((a14.2).2).2)
 let a19:=(((a12.2).2).2)
 let a20:=(((a11.2).2).2)
 let a21:=(((a10.2).2).2)
 let a22:=(((a15.2).2).2)
 let a23:=(((a16.2).2).2)
 let a24:=(((a7.2).2).2)
 let a25:=(((a8.2).2).2)
 let a26:=(((a5.2).2).2)
 let a27:=(((a4.2).2).2)
 let a28:=(((a1.2).2).2)
 let a29:=(((a3.2).2).2)
 let a30:=(((a2.2).2).2)
 let a31:=(((a9.2).2).2)
 let a32:=(((a6.2).2).2)
 ([(a13.1,((a13.2).1,(((((a13.2).2).1).1,(((((a13.2).2).1).2).1,())),(((a17.1).1,(((a17.1).2).1,())),((((a17.2).1).1,((((a17.2).1).2).1,())),(((((a17.2).2).1).1,(((((a17.2).2).1).2).1,())),((((a17.2).2).2).1,(((((a17.2).2).2).2).1,())))))))),(a14.1,((a14.2).1,(((((a14.2).2).1).1,(((((a14.2).2).1).2).1,())),(((a18.1).1,(((a18.1).2).1,())),((((a18.2).1).1,((((a18.2).1).2).1,())),(((((a18.2).2).1).1,(((((a18.2).2).1).2).1,())),((((a18.2).2).2).1,(((((a18.2).2).2).2).1,())))))))),(a12.1,((a12.2).1,(((((a12.2).2).1).1,(((((a12.2).2).1).2).1,())),(((a19.1).1,(((a19.1).2).1,())),((((a19.2).1).1,((((a19.2).1).2).1,())),(((((a19.2).2).1).1,(((((a19.2).2).1).2).1,())),((((a19.2).2).2).1,(((((a19.2).2).2).2).1,())))))))),(a7.1,((a7.2).1,(((((a7.2).2).1).1,(((((a7.2).2).1).2).1,())),(((a24.1).1,(((a24.1).2).1,())),((((a24.2).1).1,((((a24.2).1).2).1,())),(((((a24.2).2).1).1,(((((a24.2).2).1).2).1,())),((((a24.2).2).2).1,(((((a24.2).2).2).2).1,())))))))),(a8.1,((a8.2).1,(((((a8.2).2).1).1,(((((a8.2).2).1).2).1,())),(((a25.1).1,(((a25.1).2).1,())),((((a25.2).1).1,((((a25.2).1).2).1,())),(((((a25.2).2).1).1,(((((a25.2).2).1).2).1,())),((((a25.2).2).2).1,(((((a25.2).2).2).2).1,())))))))),(a11.1,((a11.2).1,(((((a11.2).2).1).1,(((((a11.2).2).1).2).1,())),(((a20.1).1,(((a20.1).2).1,())),((((a20.2).1).1,((((a20.2).1).2).1,())),(((((a20.2).2).1).1,(((((a20.2).2).1).2).1,())),((((a20.2).2).2).1,(((((a20.2).2).2).2).1,())))))))),(a5.1,((a5.2).1,(((((a5.2).2).1).1,(((((a5.2).2).1).2).1,())),(((a26.1).1,(((a26.1).2).1,())),((((a26.2).1).1,((((a26.2).1).2).1,())),(((((a26.2).2).1).1,(((((a26.2).2).1).2).1,())),((((a26.2).2).2).1,(((((a26.2).2).2).2).1,())))))))),(a4.1,((a4.2).1,(((((a4.2).2).1).1,(((((a4.2).2).1).2).1,())),(((a27.1).1,(((a27.1).2).1,())),((((a27.2).1).1,((((a27.2).1).2).1,())),(((((a27.2).2).1).1,(((((a27.2).2).1).2).1,())),((((a27.2).2).2).1,(((((a27.2).2).2).2).1,())))))))),(a1.1,((a1.2).1,(((((a1.2).2).1).1,(((((a1.2).2).1).2).1,())),(((a28.1).1,(((a28.1).2).1,())),((((a28.2).1).1,((((a28.2).1).2).1,())),(((((a28.2).2).1).1,(((((a28.2).2).1).2).1,())),((((a28.2).2).2).1,(((((a28.2).2).2).2).1,())))))))),(a3.1,((a3.2).1,(((((a3.2).2).1).1,(((((a3.2).2).1).2).1,())),(((a29.1).1,(((a29.1).2).1,())),((((a29.2).1).1,((((a29.2).1).2).1,())),(((((a29.2).2).1).1,(((((a29.2).2).1).2).1,())),((((a29.2).2).2).1,(((((a29.2).2).2).2).1,())))))))),(a2.1,((a2.2).1,(((((a2.2).2).1).1,(((((a2.2).2).1).2).1,())),(((a30.1).1,(((a30.1).2).1,())),((((a30.2).1).1,((((a30.2).1).2).1,())),(((((a30.2).2).1).1,(((((a30.2).2).1).2).1,())),((((a30.2).2).2).1,(((((a30.2).2).2).2).1,())))))))),(a9.1,((a9.2).1,(((((a9.2).2).1).1,(((((a9.2).2).1).2).1,())),(((a31.1).1,(((a31.1).2).1,())),((((a31.2).1).1,((((a31.2).1).2).1,())),(((((a31.2).2).1).1,(((((a31.2).2).1).2).1,())),((((a31.2).2).2).1,(((((a31.2).2).2).2).1,())))))))),(a10.1,((a10.2).1,(((((a10.2).2).1).1,(((((a10.2).2).1).2).1,())),(((a21.1).1,(((a21.1).2).1,())),((((a21.2).1).1,((((a21.2).1).2).1,())),(((((a21.2).2).1).1,(((((a21.2).2).1).2).1,())),((((a21.2).2).2).1,(((((a21.2).2).2).2).1,())))))))),(a15.1,((a15.2).1,(((((a15.2).2).1).1,(((((a15.2).2).1).2).1,())),(((a22.1).1,(((a22.1).2).1,())),((((a22.2).1).1,((((a22.2).1).2).1,())),(((((a22.2).2).1).1,(((((a22.2).2).1).2).1,())),((((a22.2).2).2).1,(((((a22.2).2).2).2).1,())))))))),(a16.1,((a16.2).1,(((((a16.2).2).1).1,(((((a16.2).2).1).2).1,())),(((a23.1).1,(((a23.1).2).1,())),((((a23.2).1).1,((((a23.2).1).2).1,())),(((((a23.2).2).1).1,(((((a23.2).2).1).2).1,())),((((a23.2).2).2).1,(((((a23.2).2).2).2).1,())))))))),(a6.1,((a6.2).1,(((((a6.2).2).1).1,(((((a6.2).2).1).2).1,())),(((a32.1).1,(((a32.1).2).1,())),((((a32.2).1).1,((((a32.2).1).2).1,())),(((((a32.2).2).1).1,(((((a32.2).2).1).2).1,())),((((a32.2).2).2).1,(((((a32.2).2).2).2).1,()))))))))])
def QsM  : OV:=some (.t (.sl QR) Yt,[])
theorem e_f105  : Jq QsL QsJ QsK false [] []=QsM  :=by kernel_rfl
theorem s_f105:QsM=some (.t (.sl QR) Yt,[]):=rfl
def QsN:Ent:=Ql .nil (fun x=>true) (fun x=>(.t (.sl QR) Yt))
theorem QEm:EM 105 QsN:=mS QsL QsJ QsK false (gB (gD QEj (gD QEl gN))) fun m=>Qr m fun x _=>(e_f105 ).trans (s_f105)
abbrev Qiv:Suite:=Ty.zero QR
def Et (k:Nat)(l:List Suite):List Suite:=(List.range' k (16-k)).foldl (fun l i=>l.set i (((i+1:Nat):Int),(l.getD i Qiv).2)) l
abbrev QcK:Sh:=⟨[(15,.ms 111),(113,.ty tI),(114,.ty tI)],[(111,.arr 139 QR)]⟩
abbrev QsO:Sh:=⟨[(15,.ms 111)],[(111,.arr 139 QR)]⟩
def Qiw:Fg:=QcK.f
def Qix:TC:=aF Tryz.f164 [(62,pD [(0,[1]),(1,[2]),(2,[]),(3,[11]),(4,[]),(5,[1]),(6,[2]),(7,[]),(8,[12]),(9,[]),(10,[1]),(11,[2]),(12,[6]),(13,[12]),(14,[]),(15,[]),(16,[3]),(17,[6]),(18,[12]),(19,[]),(20,[]),(21,[2]),(22,[6]),(23,[12]),(24,[]),(25,[1]),(26,[2]),(27,[7]),(28,[12]),(29,[]),(30,[]),(31,[2]),(32,[7]),(33,[12]),(34,[]),(35,[14]),(36,[2]),(37,[7]),(38,[12]),(39,[]),(40,[14]),(41,[4]),(42,[]),(43,[]),(44,[]),(45,[14]),(46,[2]),(47,[8]),(48,[13]),(49,[]),(50,[]),(51,[4]),(52,[9]),(53,[13]),(54,[]),(55,[14]),(56,[2]),(57,[10]),(58,[13]),(59,[]),(60,[1]),(61,[2]),(62,[9]),(63,[13]),(64,[]),(65,[14]),(66,[5]),(67,[8]),(68,[13]),(69,[]),(70,[14]),(71,[5]),(72,[10]),(73,[13]),(74,[]),(75,[]),(76,[5]),(77,[9]),(78,[13]),(79,[]),(80,[111,5111,10111,15111]),(81,[111])] (.of [0,1,2,3,4,5,6,7,8,9,10,11,12,13,14,15,16,17,18,19,20,21,22,23,24,25,26,27,28,29,30,31,32,33,34,35,36,37,38,39,40,41,42,43,44,45,46,47,48,49,50,51,52,53,54,55,56,57,58,59,60,61,62,63,64,65,66,67,68,69,70,71,72,73,74,75,76,77,78,79,80,81])),(506,pL 0 Qiw),(8101,.fg QsO.f)]
def QsP:TC:=lb 0 Qix
def QsQ:List (RV×Option Ty):=[((.t 0),some (.sl QR))]
def QsR (x113 x114:Int)(y111:List Suite):VS:=QcK.st ((),x113,x114,()) (y111,())
def Qiy (y111:List Suite):VS:=QsO.st ((),()) (y111,())
def QEn:VS->Option (Bool×List (Bool×Exit×VS)):=mkL QcK (fun x y=>(decide (0<=x.2.2.1/\x.2.2.1<=16/\x.2.1=16/\y.1.length=16))) (fun x y=>[(true,.exit 0,Qiy (Et x.2.2.1.toNat y.1))])
def QcL:G:=⟨TYs,[111],125,EL [(196,QsG)],YU,(Ls [QEn]),IL [],RL []⟩
def QcM (x113 x114:Int)(y111:List Suite):OX:=Qx (Qz QcL Qiw QsP) (QsR x113 x114 y111)
def QcN (kk:Int->Int->List Suite->OX)(x113 x114:Int)(y111:List Suite):OX:=
 let a1:=Int.toNat x114
 br (ilt x114 x113) (br (cIx y111 x114) (br (cLd y111 a1) (kk x113 (Qj .i64 x114 1) (List.set y111 a1 ((Qj .i64 x114 1),(lgt QR y111 a1).2))) none) none) (some (.exit 0,Qiy y111))
def Qiz (x113 x114:Int)(y111:List Suite):OX:=some (.exit 0,Qiy (Et x114.toNat y111))
theorem QsS (x113 x114:Int)(y111:List Suite):QcM x113 x114 y111=QcN QcM x113 x114 y111:=lnT (x:=QcN (fun x113 x114 y111=>some (.normal,QsR x113 x114 y111)) x113 x114 y111) (by simp only [QcN,nxA];rfl)
def QsT  : OV:=
 let a1:=((Qp 5 0).1,(((Qp 5 0).2).1,()))
 let a2:=((Qp 20 0).1,(((Qp 20 0).2).1,()))
 let a3:=((Qp 22 0).1,(((Qp 22 0).2).1,()))
 let a4:=((Qp 12 256).1,(((Qp 12 256).2).1,()))
 let a5:=((Qp 10 0).1,(((Qp 10 0).2).1,()))
 let a6:=((Qp 15 168).1,(((Qp 15 168).2).1,()))
 let a7:=((Qp 16 128).1,(((Qp 16 128).2).1,()))
 let a8:=((Qp 17 256).1,(((Qp 17 256).2).1,()))
 let a9:=(ByteArray.mk #[101,99,100,104,101,45,101,99,100,115,97,45,97,101,115,50,53,54,45,115,104,97,50,53,54])
 let a10:=(ByteArray.mk #[101,99,100,104,101,45,101,99,100,115,97,45,97,101,115,50,53,54,45,103,99,109])
 let a11:=((Qp 11 1024).1,(((Qp 11 1024).2).1,()))
 let a12:=(ByteArray.mk #[101,99,100,104,101,45,114,115,97,45,97,101,115,49,50,56,45,115,104,97])
 let a13:=(ByteArray.mk #[101,99,100,104,101,45,114,115,97,45,97,101,115,49,50,56,45,103,99,109])
 let a14:=((Qp 14 128).1,(((Qp 14 128).2).1,()))
 let a15:=((Qp 17 128).1,(((Qp 17 128).2).1,()))
 let a16:=(ByteArray.mk #[100,104,101,45,114,115,97,45,97,101,115,49,50,56,45,115,104,97])
 let a17:=((Qp 18 0).1,(((Qp 18 0).2).1,()))
 let a18:=((Qp 7 0).1,(((Qp 7 0).2).1,()))
 let a19:=(ByteArray.mk #[100,104,101,45,100,115,97,45,100,101,115,51,45,115,104,97])
 let a20:=(ByteArray.mk #[100,104,101,45,114,115,97,45,100,101,115,51,45,115,104,97])
 let a21:=(ByteArray.mk #[109,108,107,101,109,45,97,101,115,50,53,54,45,103,99,109])
 let a22:=(ByteArray.mk #[101,99,100,104,101,45,114,115,97,45,99,104,97,99,104,97])
 let a23:=(ByteArray.mk #[114,115,97,45,97,101,115,49,50,56,45,115,104,97])
 let a24:=(ByteArray.mk #[114,115,97,45,97,101,115,50,53,54,45,103,99,109])
 let a25:=(ByteArray.mk #[114,115,97,45,100,101,115,51,45,115,104,97])
 let a26:=(ByteArray.mk #[114,115,97,45,114,99,52,45,109,100,53])
 let a27:=(ByteArray.mk #[114,115,97,45,114,99,52,45,115,104,97])
 let a28:=(ByteArray.mk #[97,101,115,49,50,56,45,103,99,109])
 let a29:=((Qp 11 2048).1,(((Qp 11 2048).2).1,()))
 let a30:=((Qp 16 256).1,(((Qp 16 256).2).1,()))
 let a31:=((Qp 12 384).1,(((Qp 12 384).2).1,()))
 let a32:=((Qp 13 768).1,(((Qp 13 768).2).1,()))
 let a33:=(ByteArray.mk #[99,104,97,99,104,97])
 let a34:=((Qp 19 0).1,(((Qp 19 0).2).1,()))
 let a35:=((Qp 21 0).1,(((Qp 21 0).2).1,()))
 let a36:=((Qp 6 0).1,(((Qp 6 0).2).1,()))
 br (decide (0<=(0:Int)/\(0:Int)<=16/\(Qc ([(0,(a26,(a5,(a1,(a14,(a34,(1,(2,())))))))),(0,(a27,(a5,(a1,(a14,(a2,(1,(3,())))))))),(0,(a25,(a5,(a1,(a6,(a2,(1,(3,())))))))),(0,(a19,(a11,(a36,(a6,(a2,(1,(3,())))))))),(0,(a20,(a11,(a1,(a6,(a2,(1,(3,())))))))),(0,(a23,(a5,(a1,(a7,(a2,(1,(3,())))))))),(0,(a16,(a29,(a1,(a7,(a2,(1,(3,())))))))),(0,(a12,(a4,(a1,(a7,(a2,(1,(3,())))))))),(0,(a9,(a4,(a18,(a30,(a35,(3,(3,())))))))),(0,(a13,(a4,(a1,(a15,(a3,(3,(3,())))))))),(0,(a10,(a31,(a18,(a8,(a3,(3,(3,())))))))),(0,(a22,(a4,(a1,(a17,(a3,(3,(3,())))))))),(0,(a24,(a5,(a1,(a8,(a3,(3,(3,())))))))),(0,(a28,(a4,((0,(0,())),(a15,(a3,(4,(4,())))))))),(0,(a33,(a4,((0,(0,())),(a17,(a3,(4,(4,())))))))),(0,(a21,(a32,((0,(0,())),(a8,(a3,(4,(4,()))))))))]))=16/\([(0,(a26,(a5,(a1,(a14,(a34,(1,(2,())))))))),(0,(a27,(a5,(a1,(a14,(a2,(1,(3,())))))))),(0,(a25,(a5,(a1,(a6,(a2,(1,(3,())))))))),(0,(a19,(a11,(a36,(a6,(a2,(1,(3,())))))))),(0,(a20,(a11,(a1,(a6,(a2,(1,(3,())))))))),(0,(a23,(a5,(a1,(a7,(a2,(1,(3,())))))))),(0,(a16,(a29,(a1,(a7,(a2,(1,(3,())))))))),(0,(a12,(a4,(a1,(a7,(a2,(1,(3,())))))))),(0,(a9,(a4,(a18,(a30,(a35,(3,(3,())))))))),(0,(a13,(a4,(a1,(a15,(a3,(3,(3,())))))))),(0,(a10,(a31,(a18,(a8,(a3,(3,(3,())))))))),(0,(a22,(a4,(a1,(a17,(a3,(3,(3,())))))))),(0,(a24,(a5,(a1,(a8,(a3,(3,(3,())))))))),(0,(a28,(a4,((0,(0,())),(a15,(a3,(4,(4,())))))))),(0,(a33,(a4,((0,(0,())),(a17,(a3,(4,(4,())))))))),(0,(a21,(a32,((0,(0,())),(a8,(a3,(4,(4,()))))))))]).length=16)) (some (.t (.sl QR) (Et (0:Int).toNat ([(0,(a26,(a5,(a1,(a14,(a34,(1,(2,())))))))),(0,(a27,(a5,(a1,(a14,(a2,(1,(3,())))))))),(0,(a25,(a5,(a1,(a6,(a2,(1,(3,())))))))),(0,(a19,(a11,(a36,(a6,(a2,(1,(3,())))))))),(0,(a20,(a11,(a1,(a6,(a2,(1,(3,())))))))),(0,(a23,(a5,(a1,(a7,(a2,(1,(3,())))))))),(0,(a16,(a29,(a1,(a7,(a2,(1,(3,())))))))),(0,(a12,(a4,(a1,(a7,(a2,(1,(3,())))))))),(0,(a9,(a4,(a18,(a30,(a35,(3,(3,())))))))),(0,(a13,(a4,(a1,(a15,(a3,(3,(3,())))))))),(0,(a10,(a31,(a18,(a8,(a3,(3,(3,())))))))),(0,(a22,(a4,(a1,(a17,(a3,(3,(3,())))))))),(0,(a24,(a5,(a1,(a8,(a3,(3,(3,())))))))),(0,(a28,(a4,((0,(0,())),(a15,(a3,(4,(4,())))))))),(0,(a33,(a4,((0,(0,())),(a17,(a3,(4,(4,())))))))),(0,(a21,(a32,((0,(0,())),(a8,(a3,(4,(4,()))))))))])),[])) none
theorem e_f164  : Jq QcL Qix QsQ false [] []=QsT  :=by kernel_rfl
theorem QEo (x113 x114:Int)(y111:List Suite)(h:(decide (0<=x114/\x114<=16/\x113=16/\y111.length=16))=true):QcM x113 x114 y111=Qiz x113 x114 y111:=by
 simp only [Ba] at h
 obtain ⟨h1,h2,rfl,h4⟩:=h
 obtain ⟨k,rfl⟩:=Bt h1
 revert y111
 refine QkP 16 (fun k=> ∀ y111:List Suite,y111.length=16->QcM 16 (k:Int) y111=Qiz 16 (k:Int) y111) ?_ ?_ k (by omega)
 ·intro y111 _
  rw [QsS]
  rfl
 ·intro k hk ih y111 hy
  rw [QsS]
  have e1:ilt (k:Int) 16=true:=Be (by omega)
  have e2:cLd y111 k=true:=Be (by omega)
  have e3:Et k y111=Et (k+1) (y111.set k (((k+1:Nat):Int),(y111.getD k Qiv).2)):=by
   have:16-k=(16-(k+1))+1:=by omega
   unfold Et
   rw [this,DI,Dz]
  simp only [QcN,e1,Qd,QS,show decide (k<y111.length)=true from Be (by omega),Bd,e2,Q3 (show k<4611686018427387904 by omega)]
  rw [ih _ (by rw [List.length_set];exact hy)]
  simp only [Qiz,Bd,e3]
theorem QEp:LO QcL Qiw QsP 0:=QI (s:=QcK) fun x y h _ q=>by simp only [QF,QG] at q;exact (QEo x.2.1 x.2.2.1 y.1 h).trans q
set_option maxRecDepth 100000 in
theorem s_f164:QsT=some (.t (.sl QR) Yt,[]):=by kernel_rfl
def QsU:Ent:=Ql .nil (fun x=>true) (fun x=>(.t (.sl QR) Yt))
theorem QEq:EM 164 QsU:=mS (lk:=lkL (lkc QEp lkn)) QcL Qix QsQ false (J8 _ (gA (gD QEh gN))) fun m=>Qr m fun x _=>(e_f164 ).trans (s_f164)
theorem QEr:(List.length (α:=QR.T) Yt)=16:=by kernel_rfl
theorem QsV:Qc (α:=QR.T) Yt=16:=by kernel_rfl
theorem QsW {c:Int}(h:1<=c/\c<=16):cIx (α:=QR.T) Yt (c-1)=true:=by
 have:=QEr
 simp only [cIx,Ba]
 omega
def QL (c:Int):Suite×Int:=if c<1∨16<c then (Qiv,8) else (lgt QR Yt (c-1).toNat,0)
def QEs:TC:=aF Tryz.f124 []
def g_f124:G:=gG 20 [(164,QsU)] (fun _ _=>none)
def QsX (p0:Int):OV:=br (ilt p0 1) (some (.tu [(.t QR (0,((ByteArray.mk #[]),((0,(0,())),((0,(0,())),((0,(0,())),((0,(0,())),(0,(0,()))))))))),(.t tI 8)],[])) (br (igt p0 (Qc Yt)) (some (.tu [(.t QR (0,((ByteArray.mk #[]),((0,(0,())),((0,(0,())),((0,(0,())),((0,(0,())),(0,(0,()))))))))),(.t tI 8)],[])) (br (cIx Yt (QT .i64 p0 1)) (some (.tu [(.t QR (lgt QR Yt (Int.toNat (QT .i64 p0 1)))),(.t tI 0)],[])) none))
theorem s_f124 (c:Int):QsX c=some (.tu [.t QR (QL c).1,.t tI (QL c).2],[]):=by
 simp only [QsX]
 unfold QL
 refine Q4 (fun h1=> ?_) (fun h1=>Q4 (fun h2=> ?_) (fun h2=> ?_))
 ·simp only [ilt,Ba] at h1
  rw [if_pos (.inl h1)]
  rfl
 ·have h2:=BI h2
  have:=QsV
  rw [if_pos (.inr (by omega))]
  rfl
 ·simp only [ilt,Bq] at h1
  have h2:=Dx h2
  have:=QsV
  rw [if_neg (by omega),ZN (by omega),QsW (by omega),Qd]
def OB:Ent:=Ql (.pr tI .nil) (fun x=>true) (fun x=>(.tu [(.t QR ((QL x.1).1)),(.t tI ((QL x.1).2))]))
theorem QcO:EM 124 OB:=mS g_f124 QEs [((.c 2 true 12),some QR),((.t 3),some tI)] false (gB (gD QEq gN)) fun m=>Qr m fun x _=>kT (s_f124 x.1)
def tc_f64:TC:=aF Tryz.f64 []
def g_f64:G:=gG 16 [(105,QsN)] (fun _ _=>none)
def r_f64 (p0:Int):OV:=br (ilt p0 1) (some (.tu [(.t QR (0,((ByteArray.mk #[]),((0,(0,())),((0,(0,())),((0,(0,())),((0,(0,())),(0,(0,()))))))))),(.t tI 8)],[])) (br (igt p0 16) (some (.tu [(.t QR (0,((ByteArray.mk #[]),((0,(0,())),((0,(0,())),((0,(0,())),((0,(0,())),(0,(0,()))))))))),(.t tI 8)],[])) (br (cIx Yt (QT .i64 p0 1)) (some (.tu [(.t QR (lgt QR Yt (Int.toNat (QT .i64 p0 1)))),(.t tI 0)],[])) none))
theorem s_f64 (c:Int):r_f64 c=some (.tu [.t QR (QL c).1,.t tI (QL c).2],[]):=by
 simp only [r_f64]
 unfold QL
 refine Q4 (fun h1=> ?_) (fun h1=>Q4 (fun h2=> ?_) (fun h2=> ?_))
 ·simp only [ilt,Ba] at h1
  rw [if_pos (.inl h1)]
  rfl
 ·simp only [igt,Ba] at h2
  rw [if_pos (.inr (by omega))]
  rfl
 ·simp only [ilt,Bq] at h1
  simp only [igt,Bq] at h2
  rw [if_neg (by omega),ZN (by omega),QsW (by omega),Qd]
def QsY:Ent:=Ql (.pr tI .nil) (fun x=>true) (fun x=>(.tu [(.t QR ((QL x.1).1)),(.t tI ((QL x.1).2))]))
theorem ms_f64:EM 64 QsY:=mS g_f64 tc_f64 [((.c 2 true 12),some QR),((.t 3),some tI)] false (gB (gD QEm gN)) fun m=>Qr m fun x _=>kT (s_f64 x.1)
abbrev QcP:Sh:=⟨[(0,.ty (.sl tI)),(1,.ty tI),(5,.ty tI)],[]⟩
abbrev QsZ:Sh:=⟨[(4,.ty .bool)],[]⟩
abbrev Qs0:Sh:=⟨[],[]⟩
def QiA:Fg:=QcP.f
def Qs1:TC:=aF Tryz.f99 [(26,pL 0 QiA),(419,.fg Qs0.f),(3365,.fg QsZ.f)]
def Qs2:TC:=lb 0 Qs1
def Qs3 (x0:List Int)(x1 x5:Int):VS:=QcP.st (x0,x1,x5,()) ()
def QiB (x4:Bool):VS:=QsZ.st (x4,()) ()
def QiC  : VS:=Qs0.st () ()
def QEt:VS->Option (Bool×List (Bool×Exit×VS)):=mkL QcP (fun x y=>(decide (x.1.length<=100000/\0<=x.2.2.1/\x.2.2.1<=x.1.length))) (fun x y=>[(((x.1.drop x.2.2.1.toNat).contains x.2.1),.ret,QiB (true)),(true,.exit 0,QiC)])
def QiD:G:=gG 18 [] (Ls [QEt])
def QcQ (x0:List Int)(x1 x5:Int):OX:=Qx (Qz QiD QiA Qs2) (Qs3 x0 x1 x5)
def OC (kk:List Int->Int->Int->OX)(x0:List Int)(x1 x5:Int):OX:=br (ilt x5 (Qc x0)) (br (cIx x0 x5) (br (ieq (lgt tI x0 (Int.toNat x5)) x1) (some (.ret,QiB true)) (kk x0 x1 (Qj .i64 x5 1))) none) (some (.exit 0,QiC))
def QcR (x0:List Int)(x1 x5:Int):OX:=br ((x0.drop x5.toNat).contains x1) (some (.ret,QiB (true)))<|some (.exit 0,QiC)
theorem Qs4 (x0:List Int)(x1 x5:Int):QcQ x0 x1 x5=OC QcQ x0 x1 x5:=lnT (x:=OC (fun x0 x1 x5=>some (.normal,Qs3 x0 x1 x5)) x0 x1 x5) (by simp only [OC,nxA];rfl)
def r_f99 (p0:List Int)(p1:Int):OV:=br (decide (p0.length<=100000/\0<=(0:Int)/\(0:Int)<=p0.length)) (br ((p0.drop (0:Int).toNat).contains p1) (some (.t .bool (true),[])) (some (.t .bool false,[]))) none
theorem QEu (x0:List Int)(x1 x5:Int)(h:(decide (x0.length<=100000/\0<=x5/\x5<=x0.length))=true):QcQ x0 x1 x5=QcR x0 x1 x5:=by
 simp only [Ba] at h
 obtain ⟨h2,h3,h4⟩:=h
 obtain ⟨k,rfl⟩:=Bt h3
 refine Q7 x0 (fun k=>QcQ x0 x1 (k:Int)=QcR x0 x1 (k:Int)) ?_ ?_ k (by omega)
 ·rw [Qs4]
  simp [OC,QcR,QH,Qc,Qh]
 ·intro k hk ih
  rw [Qs4]
  simp only [OC,QH,Qc,QS,hk,BK,Qd,Bd,Q3 (show k<4611686018427387904 by omega),ih,Q2 (y:=tI) hk]
  simp only [QcR,Bd,Bl hk,List.contains_cons,ieq]
  have hc:(x1==x0[k])=(x0[k]==x1):=Bool.beq_comm
  rw [hc]
  cases x0[k]==x1<;>rfl
theorem QEv:LO QiD QiA Qs2 0:=QI (s:=QcP) fun x y h _ q=>by simp only [QF,QG] at q;exact (QEu x.1 x.2.1 x.2.2.1 h).trans q
theorem s_f99 (l:List Int)(n:Int)(h:J4 l n=true):r_f99 l n=some (.t .bool (Jd l n),[]):=by
 simp only [J4,Ba] at h
 simp only [r_f99,BA,BG]
 rw [ES ⟨h,Dq 0,by omega⟩,Qd]
 unfold Jd
 cases l.contains n<;>rfl
def Qs5:Ent:=Ql (.pr (.sl tI) (.pr tI .nil)) (fun x=>(J4 x.1 x.2.1)) (fun x=>(.t .bool (Jd x.1 x.2.1)))
theorem Qs6:EM 99 Qs5:=mS (lk:=lkL (lkc QEv lkn)) QiD Qs1 [((.t 4),some .bool)] false (gB gN) fun m=>Qr m fun x hok=>kT (s_f99 x.1 x.2.1 hok)
theorem QEw (a b:Keep):(and (ieq a.1 b.1) (and (ieq a.2.1 b.2.1) true))=(a==b):=by
 obtain ⟨a1,a2,_⟩:=a
 obtain ⟨b1,b2,_⟩:=b
 show _=((a1==b1)&&((a2==b2)&&true))
 rfl
end
end Go.Proofs.YtmjnnemhoeolgaaGreat.K
noncomputable section
namespace Go.Proofs.YtmjnnemhoeolgaaGreat.K
open Go.RowKit
noncomputable section
theorem QcS (a b:Int):ige a b= !ilt a b:=by
 simp only [ige,ilt]
 rw [DA]
 simp
theorem QiF (a b:Int):ile a b= !igt a b:=by
 simp only [ile,igt]
 rw [DA]
 simp
theorem QiG (a b:Int):ine a b= !ieq a b:=rfl
theorem brB {q r:Bool}{X:OV}(h:X=some (.t .bool r,[])):br q (some (.t .bool false,[])) X=some (.t .bool (!q&&r),[]):=by
 subst h
 cases q<;>rfl
theorem brA {q r:Bool}{X:OV}(h:X=some (.t .bool r,[])):br q X (some (.t .bool false,[]))=some (.t .bool (q&&r),[]):=by
 subst h
 cases q<;>rfl
theorem br9 {q v:Bool}{n:Int}{X:OV}(h0:q=true->v=false)(hX:q=false->X=some (.t tI (bif v then 0 else n),[])):br q (some (.t tI n,[])) X=some (.t tI (bif v then 0 else n),[]):=by
 cases q with
 |true=>rw [Qd,h0 rfl];rfl
 |false=>rw [Qh,hX rfl]
open Classical in
def YV {α:Type}(a b:α):Bool:=decide (a=b)
theorem QiH {α:Type}(a:α):YV a a=true:=by
 unfold YV
 simp
theorem QiI {α:Type}{a b:α}(h:YV a b=true):a=b:=by
 unfold YV at h
 simpa using h
def Jf (n:Int):Bool:= !ilt n 0&& !igt n 2147483648
def tc_f83:TC:=aF Tryz.f83 []
def g_f83:G:=gG 9 [] (fun _ _=>none)
def r_f83 (p0:Int):OV:=br (ige p0 0) (some (.t .bool (ile p0 2147483648),[])) (some (.t .bool false,[]))
theorem s_f83 (n:Int):r_f83 n=some (.t .bool (Jf n),[]):=by
 simp only [r_f83,QcS,QiF]
 exact brA rfl
def OE:Ent:=Ql (.pr tI .nil) (fun x=>true) (fun x=>(.t .bool (Jf x.1)))
theorem QcT:EM 83 OE:=mS g_f83 tc_f83 [((.t 2),some .bool)] false (gB gN) fun m=>Qr m fun x _=>kT (s_f83 x.1)
def Xe (n:Int):Bool:= !ilt n 0&& !ige n 4294967296
def QEB:TC:=aF Tryz.f200 []
def g_f200:G:=gG 9 [] (fun _ _=>none)
def Qta (p0:Int):OV:=br (ige p0 0) (some (.t .bool (ilt p0 4294967296),[])) (some (.t .bool false,[]))
theorem s_f200 (n:Int):Qta n=some (.t .bool (Xe n),[]):=by
 simp only [Qta,Xe,QcS,Bool.not_not]
 exact brA rfl
def Qtb:Ent:=Ql (.pr tI .nil) (fun x=>true) (fun x=>(.t .bool (Xe x.1)))
theorem QEC:EM 200 Qtb:=mS g_f200 QEB [((.t 2),some .bool)] false (gB gN) fun m=>Qr m fun x _=>kT (s_f200 x.1)
def ZW (l:List ByteArray)(k:Nat):Bool:=(List.range' k (l.length-k)).all fun j=>Q6 (l.getD j ByteArray.empty)&&(decide (j=0)||slt (l.getD (j-1) ByteArray.empty) (l.getD j ByteArray.empty))
theorem Qtc (l:List ByteArray):ZW l l.length=true:=by
 unfold ZW
 rw [Nat.sub_self]
 rfl
theorem Qtd {l:List ByteArray}{k:Nat}(hk:k<l.length):ZW l k=((Q6 l[k]&&(decide (k=0)||slt (l.getD (k-1) ByteArray.empty) l[k]))&&ZW l (k+1)):=by
 have:l.length-k=(l.length-(k+1))+1:=by omega
 unfold ZW
 rw [this,DI,BZ]
 simp only [Bk,Bh hk,BS]
def Yu (l:List ByteArray):Bool:=ZW l 0&& !igt (Qc l) 8
def Z7 (l:List ByteArray):Bool:=decide (l.length<=100000)&&l.all Jk
abbrev QcU:Sh:=⟨[(0,.ty (.sl .str)),(5,.ty (.sl .str)),(6,.ty tI),(7,.ty tI)],[]⟩
abbrev Qte:Sh:=⟨[(2,.ty .bool)],[]⟩
abbrev Qtf:Sh:=⟨[(0,.ty (.sl .str))],[]⟩
def QiJ:Fg:=QcU.f
def Qtg:TC:=aF Tryz.f198 [(26,pL 0 QiJ),(421,.fg Qtf.f),(13517,.fg Qte.f)]
def Qth:TC:=lb 0 Qtg
def Qti (x0 x5:List ByteArray)(x6 x7:Int):VS:=QcU.st (x0,x5,x6,x7,()) ()
def QcV (x2:Bool):VS:=Qte.st (x2,()) ()
def QiK (x0:List ByteArray):VS:=Qtf.st (x0,()) ()
def QED:VS->Option (Bool×List (Bool×Exit×VS)):=mkL QcU (fun x y=>(QB x.2.1 x.2.2.1 x.2.2.2.1&&YV x.1 x.2.1&&Z7 x.2.1)) (fun x y=>[((!ZW x.2.1 x.2.2.2.1.toNat),.ret,QcV (false)),(true,.exit 0,QiK (x.1))])
def QiL:G:=gG 32 [(86,II)] (Ls [QED])
def QcW (x0 x5:List ByteArray)(x6 x7:Int):OX:=Qx (Qz QiL QiJ Qth) (Qti x0 x5 x6 x7)
def OF (kk:List ByteArray->List ByteArray->Int->Int->OX)(x0 x5:List ByteArray)(x6 x7:Int):OX:=
 let a1:=lgt .str x5 (Int.toNat x7)
 br (ilt x7 x6) (br (cIx x5 x7) (br (Jk a1) (br (!(Q6 a1)) (some (.ret,QcV false)) (br (igt x7 0) (br (cIx x0 (QT .i64 x7 1)) (br (!slt (lgt .str x0 (Int.toNat (QT .i64 x7 1))) a1) (some (.ret,QcV false)) (kk x0 x5 x6 (Qj .i64 x7 1))) none) (kk x0 x5 x6 (Qj .i64 x7 1)))) none) none) (some (.exit 0,QiK x0))
def QcX (x0 x5:List ByteArray)(x6 x7:Int):OX:=br (!ZW x5 x7.toNat) (some (.ret,QcV (false)))<|some (.exit 0,QiK (x0))
theorem Qtj (x0 x5:List ByteArray)(x6 x7:Int):QcW x0 x5 x6 x7=OF QcW x0 x5 x6 x7:=lnT (x:=OF (fun x0 x5 x6 x7=>some (.normal,Qti x0 x5 x6 x7)) x0 x5 x6 x7) (by simp only [OF,nxA];rfl)
def Qtk (p0:List ByteArray):OV:=br (QB p0 (Qc p0) (0:Int)&&YV p0 p0&&Z7 p0) (br (!ZW p0 (0:Int).toNat) (some (.t .bool (false),[])) (some (.t .bool (ile (Qc (p0)) 8),[]))) none
theorem Qtl {l:List ByteArray}{k:Nat}(h:0<k)(hk:k<l.length):lgt .str l (Int.toNat (QT .i64 (k:Int) 1))=l.getD (k-1) ByteArray.empty/\cIx l (QT .i64 (k:Int) 1)=decide (k-1<l.length)∨4611686018427387904<=k:=by
 rcases B5 k 4611686018427387904 with hb|hb
 ·left
  have e:QT .i64 (k:Int) 1=((k-1:Nat):Int):=by rw [ZN (by omega)];omega
  rw [e,Bd,QS]
  exact ⟨rfl,rfl⟩
 ·exact .inr hb
theorem QEE (x0 x5:List ByteArray)(x6 x7:Int)(h:(QB x5 x6 x7&&YV x0 x5&&Z7 x5)=true):QcW x0 x5 x6 x7=QcX x0 x5 x6 x7:=by
 simp only [Bc] at h
 obtain ⟨⟨h0,hs⟩,hn⟩:=h
 have hs:=QiI hs
 subst hs
 obtain ⟨rfl,h3,k,rfl,hk⟩:=J5 h0
 clear h0
 simp only [Z7,Bc,Bi] at hn
 refine Q7 x0 (fun k=>QcW x0 x0 (x0.length:Int) (k:Int)=QcX x0 x0 (x0.length:Int) (k:Int)) ?_ ?_ k hk
 ·rw [Qtj]
  simp only [OF,QcX,QH,Dg,Dp,Qh,Bd,Qtc,BM]
 ·intro k hk ih
  rw [Qtj]
  have hx:=hn.2 x0[k] (BE hk)
  simp only [OF,QH,QS,hk,BK,Qd,Bd,Q3 (show k<4611686018427387904 by omega),Q2 (y:= .str) hk,hx,ih]
  simp only [QcX,Bd,Qtd hk]
  cases hg:Q6 x0[k] with
  |false=>rfl
  |true=>
   simp only [BM,Qh,BH]
   by_cases h0:k=0
   ·subst h0
    simp only [show igt ((0:Nat):Int) 0=false from rfl,Qh,BK,Bool.true_or,BH]
   ·rcases Qtl (l:=x0) (k:=k) (by omega) hk with ⟨e1,e2⟩|hb
    ·rw [show igt (k:Int) 0=true from Be (by omega),Qd,e2,Be (show k-1<x0.length by omega),Qd,e1,Bn h0,Dm]
     cases slt (x0.getD (k-1) ByteArray.empty) x0[k]<;>rfl
    ·omega
theorem QEF:LO QiL QiJ Qth 0:=QI (s:=QcU) fun x y h _ q=>by simp only [QF,QG] at q;exact (QEE x.1 x.2.1 x.2.2.1 x.2.2.2.1 h).trans q
theorem s_f198 (l:List ByteArray)(h:Z7 l=true):Qtk l=some (.t .bool (Yu l),[]):=by
 have hl:l.length<=100000:=by simp only [Z7,Bc,Ba] at h;exact h.1
 simp only [Qtk,J6 hl,QiH,h,Dh,Qd,BA,QiF,Yu]
 cases ZW l 0<;>rfl
def Qtm:Ent:=Ql (.pr (.sl .str) .nil) (fun x=>(Z7 x.1)) (fun x=>(.t .bool (Yu x.1)))
theorem QEG:EM 198 Qtm:=mS (lk:=lkL (lkc QEF lkn)) QiL Qtg [((.t 2),some .bool)] false (gB (gD Qa8 gN)) fun m=>Qr m fun x hok=>kT (s_f198 x.1 hok)
def Ju (u:Keep)(k:Int):Bool:=JG u&&ieq (Z6 u.1) k
def QEH:TC:=aF Tryz.f199 []
def g_f199:G:=gG 14 [(87,EE),(126,QcI)] (fun _ _=>none)
def Qtn (p0:Keep)(p1:Int):OV:=br (JG p0) (some (.t .bool (ieq (Z6 p0.1) p1),[])) (some (.t .bool false,[]))
theorem s_f199 (u:Keep)(k:Int):Qtn u k=some (.t .bool (Ju u k),[]):=by
 simp only [Qtn]
 exact brA rfl
def Qto:Ent:=Ql (.pr Qe (.pr tI .nil)) (fun x=>true) (fun x=>(.t .bool (Ju x.1 x.2.1)))
theorem QEI:EM 199 Qto:=mS g_f199 QEH [((.t 4),some .bool)] false (gB (gD O1 (gD Qit gN))) fun m=>Qr m fun x _=>kT (s_f199 x.1 x.2.1)
def OG (u:Keep):Bool:=Ju u 2
def QEJ:TC:=aF Tryz.f140 []
def g_f140:G:=gG 11 [(101,Qiu),(117,QjF)] (fun _ _=>none)
def Qtp (p0:Keep):OV:=br (JG p0) (some (.t .bool (ieq (Z6 p0.1) 2),[])) (some (.t .bool false,[]))
theorem s_f140 (u:Keep):Qtp u=some (.t .bool (OG u),[]):=by
 simp only [Qtp]
 exact brA rfl
def Qtq:Ent:=Ql (.pr Qe .nil) (fun x=>true) (fun x=>(.t .bool (OG x.1)))
theorem QEK:EM 140 Qtq:=mS g_f140 QEJ [((.t 2),some .bool)] false (gB (gD QsF (gD QuG gN))) fun m=>Qr m fun x _=>kT (s_f140 x.1)
abbrev QP (c:Certificate):List ByteArray:=c.2.2.2.2.2.2.2.2.2.2.1
abbrev Eu (c:Certificate):Keep:=c.2.2.2.2.2.2.2.2.2.2.2.1
def Jv (c:Certificate):Bool:=Jk c.2.1&&(Jk c.2.2.1&&Z7 (QP c))
def QK (c:Certificate):Bool:=
 !ilt c.1 0&&(!igt c.1 1099511627776&&(Q6 c.2.1&&(Q6 c.2.2.1&&(Yu (QP c)&&(Ju c.2.2.2.1 2&&(Jf c.2.2.2.2.1&&(Ju c.2.2.2.2.2.1 1&&(Jf (Eu c).1&&(Xe (Eu c).2.1&&
 (!ilt c.2.2.2.2.2.2.1 0&&(!igt c.2.2.2.2.2.2.1 c.2.2.2.2.2.2.2.1&&(!igt c.2.2.2.2.2.2.2.1 40000&&(!ilt c.2.2.2.2.2.2.2.2.2.1 0&&(!igt c.2.2.2.2.2.2.2.2.2.1 8&&(c.2.2.2.2.2.2.2.2.1||ieq c.2.2.2.2.2.2.2.2.2.1 0)))))))))))))))
def QEL:TC:=aF Tryz.f167 []
def g_f167:G:=gG 91 [(83,OE),(86,II),(198,Qtm),(199,Qto),(200,Qtb)] (fun _ _=>none)
def Qtr (p0:Certificate):OV:=br (ilt p0.1 0) (some (.t .bool false,[])) (br (igt p0.1 1099511627776) (some (.t .bool false,[])) (br (Jk p0.2.1) (br (!(Q6 p0.2.1)) (some (.t .bool false,[])) (br (Jk p0.2.2.1) (br (!(Q6 p0.2.2.1)) (some (.t .bool false,[])) (br (Z7 p0.2.2.2.2.2.2.2.2.2.2.1) (br (!(Yu p0.2.2.2.2.2.2.2.2.2.2.1)) (some (.t .bool false,[])) (br (!(Ju p0.2.2.2.1 2)) (some (.t .bool false,[])) (br (!(Jf p0.2.2.2.2.1)) (some (.t .bool false,[])) (br (!(Ju p0.2.2.2.2.2.1 1)) (some (.t .bool false,[])) (br (!(Jf p0.2.2.2.2.2.2.2.2.2.2.2.1.1)) (some (.t .bool false,[])) (br (!(Xe p0.2.2.2.2.2.2.2.2.2.2.2.1.2.1)) (some (.t .bool false,[])) (br (ilt p0.2.2.2.2.2.2.1 0) (some (.t .bool false,[])) (br (igt p0.2.2.2.2.2.2.1 p0.2.2.2.2.2.2.2.1) (some (.t .bool false,[])) (br (igt p0.2.2.2.2.2.2.2.1 40000) (some (.t .bool false,[])) (br (ige p0.2.2.2.2.2.2.2.2.2.1 0) (br (ile p0.2.2.2.2.2.2.2.2.2.1 8) (br (p0.2.2.2.2.2.2.2.2.1) (some (.t .bool true,[])) (some (.t .bool (ieq p0.2.2.2.2.2.2.2.2.2.1 0),[]))) (some (.t .bool false,[]))) (some (.t .bool false,[])))))))))))) none)) none)) none))
theorem s_f167 (c:Certificate)(h:Jv c=true):Qtr c=some (.t .bool (QK c),[]):=by
 simp only [Jv,Bc] at h
 obtain ⟨h1,h2,h3⟩:=h
 simp only [Qtr,h1,h2,h3,Qd,QcS,QiF]
 refine (brB<|brB<|brB<|brB<|brB<|brB<|brB<|brB<|brB<|brB<|brB<|brB<|brB<|brA<|brA (r:=c.2.2.2.2.2.2.2.2.1||ieq c.2.2.2.2.2.2.2.2.2.1 0) ?_).trans ?_
 ·cases c.2.2.2.2.2.2.2.2.1<;>rfl
 ·simp only [Bool.not_not,QK]
def Qts:Ent:=Ql (.pr QQ .nil) (fun x=>(Jv x.1)) (fun x=>(.t .bool (QK x.1)))
theorem QEM:EM 167 Qts:=mS g_f167 QEL [((.t 2),some .bool)] false (gB (gD QcT (gD Qa8 (gD QEG (gD QEI (gD QEC gN)))))) fun m=>Qr m fun x hok=>kT (s_f167 x.1 hok)
def Xz (c:Certificate):Int:=bif QK c then 0 else 9
theorem QcY (c:Certificate):ine (Xz c) 0= !QK c:=by
 unfold Xz
 cases QK c<;>rfl
def QEN:TC:=aF Tryz.f127 []
def g_f127:G:=gG 6 [(167,Qts)] (fun _ _=>none)
def Qtt (p0:Certificate):OV:=br (Jv p0) (br (!(QK p0)) (some (.t tI 9,[])) (some (.t tI 0,[]))) none
theorem s_f127 (c:Certificate)(h:Jv c=true):Qtt c=some (.t tI (Xz c),[]):=by
 simp only [Qtt,h,Qd,Xz]
 cases QK c<;>rfl
def Qtu:Ent:=Ql (.pr QQ .nil) (fun x=>(Jv x.1)) (fun x=>(.t tI (Xz x.1)))
theorem QEO:EM 127 Qtu:=mS g_f127 QEN [((.t 2),some tI)] false (gB (gD QEM gN)) fun m=>Qr m fun x hok=>kT (s_f127 x.1 hok)
abbrev QcZ:Sh:=⟨[(1,.ptr 1 0),(3,.ty tI)],[(1,.box QQ)]⟩
abbrev Qtv:Sh:=⟨[(2,.ty tI)],[]⟩
abbrev Qtw:Sh:=⟨[(1,.ptr 1 0)],[(1,.box QQ)]⟩
def QiM:Fg:=QcZ.f
def Qtx:TC:=aF Tryz.f113 [(250,pL 0 QiM),(4003,.fg Qtw.f),(8008,pD [(0,[1]),(1,[1]),(2,[]),(3,[]),(4,[]),(5,[]),(6,[]),(7,[]),(8,[]),(9,[]),(10,[]),(11,[1]),(12,[1]),(13,[]),(14,[]),(15,[]),(16,[]),(17,[1]),(18,[1]),(19,[]),(20,[]),(21,[]),(22,[]),(23,[]),(24,[])] (.of [0,1,2,3,4,5,6,7,8,9,10,11,12,13,14,15,16,17,18,19,20,21,22,23,24])),(32037,.fg Qtv.f)]
def Qty:TC:=lb 0 Qtx
def Qtz (x3:Int)(y1:Certificate):VS:=QcZ.st ((),x3,()) (y1,())
def Qc0 (x2:Int):VS:=Qtv.st (x2,()) ()
def QiN (y1:Certificate):VS:=Qtw.st ((),()) (y1,())
def QEP:VS->Option (Bool×List (Bool×Exit×VS)):=mkL QcZ (fun x y=>(decide (0<=x.2.1/\x.2.1<=(QP y.1).length)&&Z7 (QP y.1))) (fun x y=>[((!ZW (QP y.1) x.2.1.toNat),.ret,Qc0 (9)),(true,.exit 0,QiN (y.1))])
def QiO:G:=gG 146 [(101,Qiu),(116,QoD),(117,QjF),(140,Qtq)] (Ls [QEP])
def Qc1 (x3:Int)(y1:Certificate):OX:=Qx (Qz QiO QiM Qty) (Qtz x3 y1)
def OH (kk:Int->Certificate->OX)(x3:Int)(y1:Certificate):OX:=
 let a1:=lgt .str y1.2.2.2.2.2.2.2.2.2.2.1 (Int.toNat x3)
 let a2:=cIx y1.2.2.2.2.2.2.2.2.2.2.1 x3
 br (ilt x3 (Qc y1.2.2.2.2.2.2.2.2.2.2.1)) (br a2 (br (Jk a1) (br (!(Q6 a1)) (some (.ret,Qc0 9)) (br (igt x3 0) (br (cIx y1.2.2.2.2.2.2.2.2.2.2.1 (QT .i64 x3 1)) (br a2 (br (!slt (lgt .str y1.2.2.2.2.2.2.2.2.2.2.1 (Int.toNat (QT .i64 x3 1))) a1) (some (.ret,Qc0 9)) (kk (Qj .i64 x3 1) y1)) none) none) (kk (Qj .i64 x3 1) y1))) none) none) (some (.exit 0,QiN y1))
def Qc2 (x3:Int)(y1:Certificate):OX:=br (!ZW (QP y1) x3.toNat) (some (.ret,Qc0 (9)))<|some (.exit 0,QiN (y1))
theorem QtA (x3:Int)(y1:Certificate):Qc1 x3 y1=OH Qc1 x3 y1:=lnT (x:=OH (fun x3 y1=>some (.normal,Qtz x3 y1)) x3 y1) (by simp only [OH,nxA];rfl)
def QiP (p0:Certificate):OV:=
 let a1:=(((((((((((((p0).2).2).2).2).2).2).2).2).2).2).2).1)
 br (igt (Qc p0.2.2.2.2.2.2.2.2.2.2.1) 8) (some (.t tI 9,[])) (br (decide (0<=(0:Int)/\(0:Int)<=(QP p0).length)&&Z7 (QP p0)) (br (!ZW (QP p0) (0:Int).toNat) (some (.t tI (9),[])) (br (ilt (a1.1) 0) (some (.t tI 9,[])) (br (igt (a1.1) 2147483648) (some (.t tI 9,[])) (br (ilt ((a1.2).1) 0) (some (.t tI 9,[])) (br (ige ((a1.2).1) 4294967296) (some (.t tI 9,[])) (some (.t tI 0,[]))))))) none)
def QtB (p0:Certificate):OV:=br (ilt p0.1 0) (some (.t tI 9,[])) (br (igt p0.1 1099511627776) (some (.t tI 9,[])) (br (Jk p0.2.1) (br (!(Q6 p0.2.1)) (some (.t tI 9,[])) (br (Jk p0.2.2.1) (br (!(Q6 p0.2.2.1)) (some (.t tI 9,[])) (br (!(OG p0.2.2.2.1)) (some (.t tI 9,[])) (br (ilt p0.2.2.2.2.1 0) (some (.t tI 9,[])) (br (igt p0.2.2.2.2.1 2147483648) (some (.t tI 9,[])) (br (!(JG p0.2.2.2.2.2.1)) (some (.t tI 9,[])) (br (ine (Z6 p0.2.2.2.2.2.1.1) 1) (some (.t tI 9,[])) (br (ilt p0.2.2.2.2.2.2.1 0) (some (.t tI 9,[])) (br (igt p0.2.2.2.2.2.2.1 p0.2.2.2.2.2.2.2.1) (some (.t tI 9,[])) (br (igt p0.2.2.2.2.2.2.2.1 40000) (some (.t tI 9,[])) (br (ilt p0.2.2.2.2.2.2.2.2.2.1 0) (some (.t tI 9,[])) (br (igt p0.2.2.2.2.2.2.2.2.2.1 8) (some (.t tI 9,[])) (br (!p0.2.2.2.2.2.2.2.2.1) (br (ine p0.2.2.2.2.2.2.2.2.2.1 0) (some (.t tI 9,[])) (QiP p0)) (QiP p0))))))))))))) none)) none))
theorem QEQ (x3:Int)(y1:Certificate)(h:(decide (0<=x3/\x3<=(QP y1).length)&&Z7 (QP y1))=true):Qc1 x3 y1=Qc2 x3 y1:=by
 simp only [Bc,Ba] at h
 obtain ⟨⟨h0,h1⟩,hn⟩:=h
 obtain ⟨k,rfl⟩:=Bt h0
 simp only [Z7,Bc,Bi,Ba] at hn
 refine Q7 (QP y1) (fun k=>Qc1 (k:Int) y1=Qc2 (k:Int) y1) ?_ ?_ k (by omega)
 ·rw [QtA]
  simp only [OH,Qc2,show ilt ((QP y1).length:Int) (Qc (QP y1))=false from Bn (by simp only [Qc];omega),Qh,Bd,Qtc,BM]
 ·intro k hk ih
  rw [QtA]
  have hx:=hn.2 (QP y1)[k] (BE hk)
  simp only [OH,show ilt (k:Int) (Qc (QP y1))=true from Be (by simp only [Qc];omega),QS,hk,BK,Qd,Bd,Q3 (show k<4611686018427387904 by omega),Q2 (y:= .str) hk,hx,ih]
  simp only [Qc2,Bd,Qtd hk]
  cases hg:Q6 (QP y1)[k] with
  |false=>rfl
  |true=>
   simp only [BM,Qh,BH]
   by_cases h0:k=0
   ·subst h0
    simp only [show igt ((0:Nat):Int) 0=false from rfl,Qh,BK,Bool.true_or,BH]
   ·rcases Qtl (l:=QP y1) (k:=k) (by omega) hk with ⟨e1,e2⟩|hb
    ·rw [show igt (k:Int) 0=true from Be (by omega),Qd,e2,Be (show k-1<(QP y1).length by omega),Qd,e1,Bn h0,Dm]
     cases slt ((QP y1).getD (k-1) ByteArray.empty) (QP y1)[k]<;>rfl
    ·omega
theorem QER:LO QiO QiM Qty 0:=QI (s:=QcZ) fun x y h _ q=>by simp only [QF,QG] at q;exact (QEQ x.2.1 y.1 h).trans q
theorem s_f113 (c:Certificate)(h:Jv c=true):QtB c=some (.t tI (Xz c),[]):=by
 simp only [Jv,Bc] at h
 obtain ⟨h1,h2,h3⟩:=h
 have hd:decide ((0:Int)<=0/\(0:Int)<=(QP c).length)=true:=Be (by omega)
 unfold Xz
 simp only [QtB,QiP,h1,h2,h3,hd,Dh,Qd,BA,QiG]
 refine br9 (fun g=>by simp [QK,g]) fun g1=>br9 (fun g=>by simp [QK,g]) fun g2=>br9 (fun g=>by simp only [Br] at g;simp [QK,g]) fun g3=>br9 (fun g=>by simp only [Br] at g;simp [QK,g]) fun g4=>br9 (fun g=>by simp only [Br,OG] at g;simp [QK,g]) fun g5=>br9 (fun g=>by simp [QK,Jf,g]) fun g6=>br9 (fun g=>by simp [QK,Jf,g]) fun g7=>br9 (fun g=>by simp only [Br] at g;simp [QK,Ju,g]) fun g8=>br9 (fun g=>by simp only [Br] at g;simp [QK,Ju,g]) fun g9=>br9 (fun g=>by simp [QK,g]) fun g10=>br9 (fun g=>by simp [QK,g]) fun g11=>br9 (fun g=>by simp [QK,g]) fun g12=>br9 (fun g=>by simp [QK,g]) fun g13=>br9 (fun g=>by simp [QK,g]) fun g14=> ?_
 have tail: ∀ (hp:(c.2.2.2.2.2.2.2.2.1||ieq c.2.2.2.2.2.2.2.2.2.1 0)=true),br (igt (Qc (QP c)) 8) (some (V.t tI 9,([]:List VO))) (br (!ZW (QP c) 0) (some (V.t tI 9,[])) (br (ilt (Eu c).1 0) (some (V.t tI 9,[])) (br (igt (Eu c).1 2147483648) (some (V.t tI 9,[])) (br (ilt (Eu c).2.1 0) (some (V.t tI 9,[])) (br (ige (Eu c).2.1 4294967296) (some (V.t tI 9,[])) (some (V.t tI 0,[])))))))=some (V.t tI (bif QK c then 0 else 9),([]:List VO)):=by
  intro hp
  refine br9 (fun g=>by simp [QK,Yu,g]) fun g15=>br9 (fun g=>by simp only [Br] at g;simp [QK,Yu,g]) fun g16=>br9 (fun g=>by simp [QK,Jf,g]) fun g17=>br9 (fun g=>by simp [QK,Jf,g]) fun g18=>br9 (fun g=>by simp [QK,Xe,g]) fun g19=>br9 (fun g=>by simp [QK,Xe,g]) fun g20=> ?_
  simp only [Bool.not_eq_false'] at g3 g4 g5 g8 g9 g16
  simp only [OG] at g5
  have:QK c=true:=by
   simp only [QK,Yu,Ju,Jf,Xe,g1,g2,g3,g4,g6,g7,g8,g9,g10,g11,g12,g13,g14,g15,g16,g17,g18,g19,g20,hp,Bool.not_false,Dh,BH]
   simpa only [Ju,Di] using g5
  rw [this]
  rfl
 cases ha:c.2.2.2.2.2.2.2.2.1 with
 |true=>
  rw [BM,Qh]
  exact tail (by rw [ha];rfl)
 |false=>
  rw [Bool.not_false,Qd]
  refine br9 (fun g=>by simp only [Br] at g;simp [QK,ha,g]) fun g=> ?_
  exact tail (by simp only [Bool.not_eq_false'] at g;rw [g,Bool.or_true])
def QiQ:Ent:=Ql (.pr QQ .nil) (fun x=>(Jv x.1)) (fun x=>(.t tI (Xz x.1)))
theorem QtC:EM 113 QiQ:=mS (lk:=lkL (lkc QER lkn)) QiO Qtx [((.t 2),some tI)] false (gB (gD QsF (gD QzX (gD QuG (gD QEK gN))))) fun m=>Qr m fun x hok=>kT (s_f113 x.1 hok)
end
end Go.Proofs.YtmjnnemhoeolgaaGreat.K
noncomputable section
namespace Go.Proofs.YtmjnnemhoeolgaaGreat.K
open Go.RowKit
noncomputable section
theorem Qr7 (n:Int):(U2 n).length<=8:=by
 rw [U2,QkW]
 exact Vw n
theorem Gy (n:Nat)(m:Int):okT (n+1) (QY m)=true:=by
 have:=Qr7 m
 show okV (n+1) (.mk 2 (U2 m) false [])=true
 simp only [okV,List.isEmpty_nil,Dj,List.all_nil,Di,Bw]
 rw [Be (by omega)]
 rfl
theorem Qcx (n:Nat){s:ByteArray}(h:s.size<=100000):okT (n+1) (JN s)=true:=by
 have:=FX s
 show okV (n+1) (.mk 12 (QO s) false [])=true
 simp only [okV,List.isEmpty_nil,Dj,List.all_nil,Di,Bw]
 rw [Be (by omega)]
 rfl
theorem QDK (n:Nat)(b:Bool):okT (n+1) (WJ b)=true:=by cases b<;>rfl
theorem Qid {n:Nat}{l:List Qf}(hl:l.length<=100000)(h: ∀ x∈l,okT n x=true):okT (n+1) (Y5 l)=true:=by
 show okV (n+1) (.mk 48 [] true (l.map Val.of))=true
 simp only [okV,List.isEmpty_nil,Dn,Di,Bw,BN,Bc,Bi,B6]
 refine ⟨⟨⟨rfl,rfl⟩,Be ⟨by omega,hl⟩⟩, ?_⟩
 rintro v ⟨x,hx,rfl⟩
 exact h x hx
theorem Qie {n:Nat}{l:List Qf}(hl:l.length<=100000)(h: ∀ x∈l,okT n x=true):J1 (n+1) l=true:=by
 simp only [J1,Bc,Ba,Bi]
 exact ⟨hl,h⟩
theorem Qif (x:Qf):((x.1,(x.2.1,(x.2.2.1,(List.map Val.of (List.map Val.un x.2.2.2.1),())))):Qf)=x:=by
 rw [Gu]
theorem Gz (m:Int):(J9 (QY m)).length<=18:=by
 have h1:=Qr7 m
 have h2:=QaZ ((U2 m).length+0)
 rw [QaY]
 simp only [QY,Zv,Bo,Bm,Bw]
 omega
theorem Qig (s:ByteArray):(J9 (JN s)).length<=10+s.size:=by
 have h1:=FX s
 have h2:=QaZ ((QO s).length+0)
 rw [QaY]
 simp only [JN,Zv,Bo,Bm,Bw]
 omega
theorem QDL (b:Bool):(J9 (WJ b)).length<=11:=by cases b<;>decide
theorem Qih (l:List Qf):(J9 (Y5 l)).length<=10+(Zf l).length:=by
 have h2:=QaZ (0+(Zv (l.map Val.of)).length)
 rw [QaY]
 simp only [Y5,Zf,Bo,Bm,Bw]
 omega
def Z5 (u:Keep):Qf:=Y5 [QY u.1,QY u.2.1]
def W4 (u:Keep):Bool:=Zz u.1&&Zz u.2.1
theorem Qr8 (n:Nat)(u:Keep):okT (n+2) (Z5 u)=true:=
 Qid (by simp) fun x hx=>by
  simp only [BD,BQ,De] at hx
  rcases hx with rfl|rfl<;>exact Gy _ _
theorem Qr9 (u:Keep):(J9 (Z5 u)).length<=46:=by
 have h0:=Qih [QY u.1,QY u.2.1]
 have h1:=Gz u.1
 have h2:=Gz u.2.1
 simp only [Gl,ID,Bm,Bw] at h0
 unfold Z5
 omega
theorem QDM (u:Keep):Xx [QY u.1,QY u.2.1]=true:=
 Qie (n:=11) (by simp) fun x hx=>by
  simp only [BD,BQ,De] at hx
  rcases hx with rfl|rfl<;>exact Gy _ _
def QDN:TC:=aF Tryz.f191 [(6,pD [(0,[1]),(1,[1]),(2,[]),(3,[1]),(4,[1]),(5,[]),(6,[]),(7,[]),(8,[2])] (.of [0,1,2,3,4,5,6,7,8]))]
def g_f191:G:=gG 11 [(189,Qf3),(190,QfB)] (fun _ _=>none)
def Qsa (p0:Keep):OV:=
 let a1:=((QY p0.2.1).1,(((QY p0.2.1).2).1,((((QY p0.2.1).2).2).1,((List.map Val.of (List.map Val.un (((((QY p0.2.1).2).2).2).1))),()))))
 let a2:=((QY p0.1).1,(((QY p0.1).2).1,((((QY p0.1).2).2).1,((List.map Val.of (List.map Val.un (((((QY p0.1).2).2).2).1))),()))))
 br (Zz p0.1) (br (Zz p0.2.1) (br (Xx ([a2,a1])) (some (.t Qt (Y5 ([a2,a1])),[])) none) none) none
theorem s_f191 (u:Keep)(h:W4 u=true):Qsa u=some (.t Qt (Z5 u),[]):=by
 simp only [W4,Bc] at h
 simp only [Qsa,h.1,h.2,Qif,QDM,Qd]
 rfl
def Qsb:Ent:=Ql (.pr Qe .nil) (fun x=>(W4 x.1)) (fun x=>(.t Qt (Z5 x.1)))
theorem QDO:EM 191 Qsb:=mS g_f191 QDN [((.c 2 true 4),some Qt)] false (gB (gD Qop (gD Qnw gN))) fun m=>Qr m fun x hok=>kT (s_f191 x.1 hok)
def We (c:Certificate):List Qf:=[QY c.1,JN c.2.1,JN c.2.2.1,Z5 c.2.2.2.1,QY c.2.2.2.2.1,Z5 c.2.2.2.2.2.1,QY c.2.2.2.2.2.2.1,QY c.2.2.2.2.2.2.2.1,WJ c.2.2.2.2.2.2.2.2.1,QY c.2.2.2.2.2.2.2.2.2.1,Y5 ((QP c).map JN)]
def Wf (c:Certificate):Qf:=Y5 (We c)
def Ep (c:Certificate):Bool:=Jv c&&QK c
theorem QDP {u:Keep}(h:JG u=true):0<=u.2.1/\u.2.1<=16384/\1<=u.1/\u.1<=22:=by
 simp only [JG,Ba] at h
 have ham: ∀ (s t:List Int),(∀ x∈s,0<=x/\x<=16384)->JU u.2.1 s t > 0->0<=u.2.1/\u.2.1<=16384:=by
  intro s t hs hg
  unfold JU at hg
  split at hg
  ·rename_i k hk
   have hm:u.2.1∈s:=by
    have key: ∀ (s:List Int) (k:Nat),Jm u.2.1 s=some k->u.2.1∈s:=by
     intro s
     induction s with
     |nil=>intro k hk;cases hk
     |cons a s ih=>
      intro k hk
      unfold Jm at hk
      split at hk
      ·rename_i ha
       have:=eq_of_beq ha
       rw [this];exact BT
      ·obtain ⟨j,hj,_⟩:=Bf.1 hk
       exact BF _ (ih j hj)
    exact key s k hk
   exact hs _ hm
  ·omega
 rw [←and_assoc]
 unfold Yy at h
 repeat' split at h
 ·refine ⟨?_,by omega⟩
  unfold US at h
  split at h<;>omega
 ·refine ⟨?_,by omega⟩
  unfold ED at h
  split at h
  ·rename_i hc
   simp only [Jd,BC,BD,BQ,De] at hc
   omega
  ·omega
 ·exact ⟨ham _ _ (by simp) h,by omega⟩
 ·exact ⟨ham _ _ (by simp) h,by omega⟩
 ·exact ⟨ham _ _ (by simp) h,by omega⟩
 ·exact ⟨ham _ _ (by simp) h,by omega⟩
 ·exact ⟨ham _ _ (by simp) h,by omega⟩
 ·refine ⟨ham _ _ (by simp) h, ?_⟩
  unfold JU at h
  split at h
  ·rename_i k hk
   unfold Jm at hk
   split at hk
   ·injection hk with hk
    subst hk
    simp only [List.getD_cons_zero,Xi] at h
    repeat' split at h
    all_goals omega
   ·cases hk
  ·omega
theorem Qsc {u:Keep}{k:Int}(h:Ju u k=true):W4 u=true:=by
 simp only [Ju,Bc] at h
 have:=QDP h.1
 simp only [W4,Zz,Bc,Ba]
 omega
theorem Qii {s:ByteArray}(h:Q6 s=true):s.size<=32:=by
 simp only [Q6,Bc,Ba] at h
 exact h.2.2
theorem QDQ {l:List ByteArray}: ∀ {k:Nat},ZW l k=true→ ∀ j (hj:j<l.length),k<=j->Q6 l[j]=true:=by
 intro k h j hj hk
 simp only [ZW,Bi,List.mem_range'_1,Bc] at h
 have:=(h j ⟨hk,by omega⟩).1
 simpa only [Bk,Bh hj,BS] using this
theorem QDR {l:List ByteArray}(h:Yu l=true):l.length<=8∧ ∀ s∈l,s.size<=32:=by
 simp only [Yu,Bc,Br,igt,Qc,Bq] at h
 refine ⟨by omega,fun s hs=> ?_⟩
 obtain ⟨j,hj,rfl⟩:=List.mem_iff_getElem.1 hs
 exact Qii (QDQ h.1 j hj (B7 _))
theorem Qcy {c:Certificate}(h:QK c=true):Zz c.1=true/\c.2.1.size<=32/\c.2.2.1.size<=32/\W4 c.2.2.2.1=true/\Zz c.2.2.2.2.1=true/\W4 c.2.2.2.2.2.1=true/\Zz c.2.2.2.2.2.2.1=true/\Zz c.2.2.2.2.2.2.2.1=true/\Zz c.2.2.2.2.2.2.2.2.2.1=true/\(QP c).length<=8∧ ∀ s∈QP c,s.size<=32:=by
 simp only [QK,Jf,Bc,Br,ilt,igt,Bq] at h
 obtain ⟨h1,h2,h3,h4,h5,h6,⟨h7,h7'⟩,h8,⟨h9,h9'⟩,h10,h11,h12,h13,h14,h15,h16⟩:=h
 have hn:=QDR h5
 refine ⟨Be (by omega),Qii h3,Qii h4,Qsc h6,Be (by omega),Qsc h8,Be (by omega),Be (by omega),Be (by omega),hn.1,hn.2⟩
theorem QDS (n:Nat){l:List ByteArray}(h:l.length<=8)(hs: ∀ s∈l,s.size<=32):okT (n+2) (Y5 (l.map JN))=true:=
 Qid (by rw [BN];omega) fun x hx=>by
  obtain ⟨s,hm,rfl⟩:=B6.1 hx
  exact Qcx _ (by have:=hs s hm;omega)
theorem Qsd (n:Nat){c:Certificate}(h:QK c=true): ∀ x∈We c,okT (n+2) x=true:=by
 obtain ⟨h1,h2,h3,h4,h5,h6,h7,h8,h9,h10,h11⟩:=Qcy h
 intro x hx
 simp only [We,BD,BQ,De] at hx
 rcases hx with rfl|rfl|rfl|rfl|rfl|rfl|rfl|rfl|rfl|rfl|rfl
 ·exact Gy _ _
 ·exact Qcx _ (by omega)
 ·exact Qcx _ (by omega)
 ·exact Qr8 _ _
 ·exact Gy _ _
 ·exact Qr8 _ _
 ·exact Gy _ _
 ·exact Gy _ _
 ·exact QDK _ _
 ·exact Gy _ _
 ·exact QDS _ h10 h11
theorem Qse: ∀ {l:List ByteArray},(∀ s∈l,s.size<=32)->(Zf (l.map JN)).length<=42*l.length
 | [],_=>by simp [ID]
 |s::l,h=>by
  have h1:=h s (by simp)
  have h2:=Qig s
  have h3:=Qse (l:=l) fun u hu=>h u (by simp [hu])
  rw [Bx,Gl,Bm,Bo]
  omega
theorem Qij {c:Certificate}(h:QK c=true):(J9 (Wf c)).length<=1000:=by
 obtain ⟨h1,h2,h3,h4,h5,h6,h7,h8,h9,h10,h11⟩:=Qcy h
 have e0:=Qih (We c)
 have e1:=Gz c.1
 have e2:=Qig c.2.1
 have e3:=Qig c.2.2.1
 have e4:=Qr9 c.2.2.2.1
 have e5:=Gz c.2.2.2.2.1
 have e6:=Qr9 c.2.2.2.2.2.1
 have e7:=Gz c.2.2.2.2.2.2.1
 have e8:=Gz c.2.2.2.2.2.2.2.1
 have e9:=QDL c.2.2.2.2.2.2.2.2.1
 have e10:=Gz c.2.2.2.2.2.2.2.2.2.1
 have e11:=Qih ((QP c).map JN)
 have e12:=Qse h11
 simp only [We,Gl,ID,Bm,Bw] at e0
 unfold Wf
 simp only [We]
 omega
theorem enc_ok {c:Certificate}(h:QK c=true):WL (Wf c)=true:=by
 have:=Qij h
 simp only [WL,Bc,Ba]
 refine ⟨Qid (by simp [We]) (Qsd 9 h),by omega⟩
theorem QDT {c:Certificate}(h:QK c=true):Xx ((QP c).map JN)=true:=by
 obtain ⟨h1,h2,h3,h4,h5,h6,h7,h8,h9,h10,h11⟩:=Qcy h
 exact Qie (n:=11) (by rw [BN];omega) fun x hx=>by
  obtain ⟨s,hm,rfl⟩:=B6.1 hx
  exact Qcx _ (by have:=h11 s hm;omega)
theorem QDU {c:Certificate}(h:QK c=true):Xx (We c)=true:=Qie (n:=11) (by simp [We]) (Qsd 9 h)
theorem Qik {s:ByteArray}(h:s.size<=32):YH s=true:=Be (by omega)
abbrev Qcz:Sh:=⟨[(1,.ptr 1 0),(2,.ptr 2 0),(3,.ms 3),(4,.ty tI)],[(1,.box QQ),(2,.box Qt),(3,.arr 225 Qt),(20,.no)]⟩
abbrev Qsf:Sh:=⟨[(1,.ptr 1 0),(2,.ptr 2 0),(3,.ms 3)],[(1,.box QQ),(2,.box Qt),(3,.arr 225 Qt),(20,.no)]⟩
def Qil:Fg:=Qcz.f
def Qsg:TC:=aF Tryz.f152 [(58,.nw 3 225),(58,pL 0 Qil),(931,.fg Qsf.f),(30,pD [(0,[1]),(1,[1]),(2,[]),(3,[1]),(4,[1]),(5,[]),(6,[1]),(7,[1]),(8,[]),(9,[1]),(10,[1]),(11,[]),(12,[1]),(13,[1]),(14,[]),(15,[1]),(16,[1]),(17,[]),(18,[1]),(19,[1]),(20,[]),(21,[1]),(22,[1]),(23,[]),(24,[1]),(25,[1]),(26,[]),(27,[1]),(28,[1]),(29,[]),(30,[3,20]),(31,[3,20,52,5052,10052,15052]),(32,[]),(33,[]),(34,[2])] (.of [0,1,2,3,4,5,6,7,8,9,10,11,12,13,14,15,16,17,18,19,20,21,22,23,24,25,26,27,28,29,30,31,32,33,34]))]
def Qsh:TC:=lb 0 Qsg
def Qsi (x4:Int)(y1:Certificate)(y2:Qf)(y3:List Qf):VS:=Qcz.st ((),(),(),x4,()) (y1,y2,y3,(),())
def Qim (y1:Certificate)(y2:Qf)(y3:List Qf):VS:=Qsf.st ((),(),(),()) (y1,y2,y3,(),())
def QDV:VS->Option (Bool×List (Bool×Exit×VS)):=mkL Qcz (fun x y=>(decide (0<=x.2.2.2.1/\x.2.2.2.1<=(QP y.1).length/\y.2.2.1.length<=x.2.2.2.1.toNat/\(QP y.1).length<=8)&&(QP y.1).all fun s=>decide (s.size<=32))) (fun x y=>[(true,.exit 0,Qim (y.1) (y.2.1) (y.2.2.1++((QP y.1).drop x.2.2.2.1.toNat).map JN))])
def Qin:G:=gG 55 [(188,Qny),(189,Qf3),(190,QfB),(191,Qsb),(192,Qnz)] (Ls [QDV])
def QcA (x4:Int)(y1:Certificate)(y2:Qf)(y3:List Qf):OX:=Qx (Qz Qin Qil Qsh) (Qsi x4 y1 y2 y3)
def Oo (kk:Int->Certificate->Qf->List Qf->OX)(x4:Int)(y1:Certificate)(y2:Qf)(y3:List Qf):OX:=
 let a1:=JN (lgt .str y1.2.2.2.2.2.2.2.2.2.2.1 (Int.toNat x4))
 let a2:=((a1.2).1,(((a1.2).2).1,((List.map Val.of (List.map Val.un ((((a1.2).2).2).1))),())))
 br (ilt x4 (Qc y1.2.2.2.2.2.2.2.2.2.2.1)) (br (cIx y1.2.2.2.2.2.2.2.2.2.2.1 x4) (br (YH (lgt .str y1.2.2.2.2.2.2.2.2.2.2.1 (Int.toNat x4))) (br (QC y3 ([(a1.1,a2)]) 64) (kk (Qj .i64 x4 1) y1 y2 (y3++([(a1.1,a2)]))) none) none) none) (some (.exit 0,Qim y1 y2 y3))
def QcB (x4:Int)(y1:Certificate)(y2:Qf)(y3:List Qf):OX:=some (.exit 0,Qim (y1) (y2) (y3++((QP y1).drop x4.toNat).map JN))
theorem Qsj (x4:Int)(y1:Certificate)(y2:Qf)(y3:List Qf):QcA x4 y1 y2 y3=Oo QcA x4 y1 y2 y3:=lnT (x:=Oo (fun x4 y1 y2 y3=>some (.normal,Qsi x4 y1 y2 y3)) x4 y1 y2 y3) (by simp only [Oo,nxA];rfl)
def Qsk (p0:Certificate):OV:=
 let a3:=((((p0).2).2).2)
 let a1:=((a3.2).2)
 let a2:=(Y5 (([]:List Qf)++((QP p0).drop (0:Int).toNat).map JN))
 let a4:=((QY (((((a1.2).2).2).2).1)).1,(((QY (((((a1.2).2).2).2).1)).2).1,((((QY (((((a1.2).2).2).2).1)).2).2).1,((List.map Val.of (List.map Val.un (((((QY (((((a1.2).2).2).2).1)).2).2).2).1))),()))))
 let a5:=((WJ ((((a1.2).2).2).1)).1,(((WJ ((((a1.2).2).2).1)).2).1,((((WJ ((((a1.2).2).2).1)).2).2).1,((List.map Val.of (List.map Val.un (((((WJ ((((a1.2).2).2).1)).2).2).2).1))),()))))
 let a6:=((JN ((((p0).2).2).1)).1,(((JN ((((p0).2).2).1)).2).1,((((JN ((((p0).2).2).1)).2).2).1,((List.map Val.of (List.map Val.un (((((JN ((((p0).2).2).1)).2).2).2).1))),()))))
 let a7:=((QY (((a1.2).2).1)).1,(((QY (((a1.2).2).1)).2).1,((((QY (((a1.2).2).1)).2).2).1,((List.map Val.of (List.map Val.un (((((QY (((a1.2).2).1)).2).2).2).1))),()))))
 let a8:=((JN (((p0).2).1)).1,(((JN (((p0).2).1)).2).1,((((JN (((p0).2).1)).2).2).1,((List.map Val.of (List.map Val.un (((((JN (((p0).2).1)).2).2).2).1))),()))))
 let a9:=((QY ((a3.2).1)).1,(((QY ((a3.2).1)).2).1,((((QY ((a3.2).1)).2).2).1,((List.map Val.of (List.map Val.un (((((QY ((a3.2).1)).2).2).2).1))),()))))
 let a10:=((QY ((a1.2).1)).1,(((QY ((a1.2).1)).2).1,((((QY ((a1.2).1)).2).2).1,((List.map Val.of (List.map Val.un (((((QY ((a1.2).1)).2).2).2).1))),()))))
 let a11:=((QY ((p0).1)).1,(((QY ((p0).1)).2).1,((((QY ((p0).1)).2).2).1,((List.map Val.of (List.map Val.un (((((QY ((p0).1)).2).2).2).1))),()))))
 let a12:=((Z5 (a3.1)).1,(((Z5 (a3.1)).2).1,((((Z5 (a3.1)).2).2).1,((List.map Val.of (List.map Val.un (((((Z5 (a3.1)).2).2).2).1))),()))))
 let a13:=((Z5 (a1.1)).1,(((Z5 (a1.1)).2).1,((((Z5 (a1.1)).2).2).1,((List.map Val.of (List.map Val.un (((((Z5 (a1.1)).2).2).2).1))),()))))
 let a14:=((a2.2).1,(((a2.2).2).1,((List.map Val.of (List.map Val.un ((((a2.2).2).2).1))),())))
 br (decide (0<=(0:Int)/\(0:Int)<=(QP p0).length/\([]:List Qf).length<=(0:Int).toNat/\(QP p0).length<=8)&&(QP p0).all fun s=>decide (s.size<=32)) (br (Zz ((p0).1)) (br (YH (((p0).2).1)) (br (YH ((((p0).2).2).1)) (br (W4 (a3.1)) (br (Zz ((a3.2).1)) (br (W4 (a1.1)) (br (Zz ((a1.2).1)) (br (Zz (((a1.2).2).1)) (br (Zz (((((a1.2).2).2).2).1)) (br (Xx (([]:List Qf)++((QP p0).drop (0:Int).toNat).map JN)) (br (Xx ([a11,a8,a6,a12,a9,a13,a10,a7,a5,a4,(a2.1,a14)])) (some (.t Qt (Y5 ([a11,a8,a6,a12,a9,a13,a10,a7,a5,a4,(a2.1,a14)])),[])) none) none) none) none) none) none) none) none) none) none) none) none
theorem QDW (x4:Int)(y1:Certificate)(y2:Qf)(y3:List Qf)(h:(decide (0<=x4/\x4<=(QP y1).length/\y3.length<=x4.toNat/\(QP y1).length<=8)&&(QP y1).all fun s=>decide (s.size<=32))=true):QcA x4 y1 y2 y3=QcB x4 y1 y2 y3:=by
 simp only [Bc,Ba,Bi] at h
 obtain ⟨⟨h0,h1,h2,h3⟩,hn⟩:=h
 obtain ⟨k,rfl⟩:=Bt h0
 rw [Bd] at h2
 revert y3
 refine Q7 (QP y1) (fun k=> ∀ y3:List Qf,y3.length<=k->QcA (k:Int) y1 y2 y3=QcB (k:Int) y1 y2 y3) ?_ ?_ k (by omega)
 ·intro y3 _
  rw [Qsj]
  simp only [Oo,QcB,show ilt ((QP y1).length:Int) (Qc (QP y1))=false from Bn (by simp only [Qc];omega),Qh,Bd,Dd,List.map_nil,BR]
 ·intro k hk ih y3 hy
  rw [Qsj]
  have hx:=hn (QP y1)[k] (BE hk)
  simp only [Oo,show ilt (k:Int) (Qc (QP y1))=true from Be (by simp only [Qc];omega),QS,hk,BK,Qd,Bd,Q3 (show k<4611686018427387904 by omega),Q2 (y:= .str) hk,Qik hx,Qif]
  rw [JF (by omega) (by simp only [Bp];omega),Qd,ih _ (by simp only [Bm,Bp];omega)]
  simp only [QcB,Bd,Bl hk,Bx,BV,BO]
theorem QDX:LO Qin Qil Qsh 0:=QI (s:=Qcz) fun x y h _ q=>by simp only [QF,QG] at q;exact (QDW x.2.2.2.1 y.1 y.2.1 y.2.2.1 h).trans q
theorem s_f152 (c:Certificate)(h:Ep c=true):Qsk c=some (.t Qt (Wf c),[]):=by
 simp only [Ep,Bc] at h
 obtain ⟨_,hv⟩:=h
 obtain ⟨h1,h2,h3,h4,h5,h6,h7,h8,h9,h10,h11⟩:=Qcy hv
 have hc:=QDT hv
 have hp:=QDU hv
 have ha:((QP c).all fun s=>decide (s.size<=32))=true:=Bi.2 fun s hs=>Be (h11 s hs)
 have hl:(0:Int)<=0/\(0:Int)<=(QP c).length/\([]:List Qf).length<=0/\(QP c).length<=8:=⟨by omega,by omega,by simp,h10⟩
 simp only [We] at hp
 simp only [Qsk,ha,Dh,h1,Qik h2,Qik h3,h4,h5,h6,h7,h8,h9,Qd,BA,BG,BY,Qif,hc,hp]
 rw [Be hl]
 rfl
def Qsl:Ent:=Ql (.pr QQ .nil) (fun x=>(Ep x.1)) (fun x=>(.t Qt (Wf x.1)))
theorem QDY:EM 152 Qsl:=mS (lk:=lkL (lkc QDX lkn)) Qin Qsg [((.c 2 true 4),some Qt)] false (gB (gD QyQ (gD Qop (gD Qnw (gD QDO (gD QyS gN)))))) fun m=>Qr m fun x hok=>kT (s_f152 x.1 hok)
end
end Go.Proofs.YtmjnnemhoeolgaaGreat.K
noncomputable section
namespace Go.Proofs.YtmjnnemhoeolgaaGreat.K
open Go.RowKit
noncomputable section
def Yc (c:Certificate):List Int×Int:=bif QK c then WM (Wf c) else ([],9)
theorem Qva {c:Certificate}(h:QK c=true):Yc c=(J9 (Wf c),0):=by
 have:=Qij h
 rw [Yc,h,Dn,WM,if_neg (by omega)]
theorem Qvb (c:Certificate):(Yc c).1.length<=1000:=by
 cases h:QK c with
 |true=>
  rw [Qva h]
  exact Qij h
 |false=>
  rw [Yc,h]
  simp
def Qvc:TC:=aF Tryz.f114 []
def g_f114:G:=gG 12 [(113,QiQ),(151,Qon),(152,Qsl)] (fun _ _=>none)
def QdL (p0:Certificate):OV:=br (Jv p0) (br (ine (Xz p0) 0) (some (.tu [(.t (.sl (.int .u8)) ([]:List Int)),(.t tI 9)],[])) (br (Ep p0) (br (WL (Wf p0)) (some (.tu [(.t (.sl (.int .u8)) ((WM (Wf p0)).1)),(.t tI ((WM (Wf p0)).2))],[])) none) none)) none
theorem s_f114 (c:Certificate)(h:Jv c=true):QdL c=some (.tu [.t (.sl (.int .u8)) (Yc c).1,.t tI (Yc c).2],[]):=by
 unfold Yc
 cases hv:QK c with
 |true=>simp only [QdL,h,hv,QcY,enc_ok hv,show Ep c=true from by rw [Ep,h,hv];rfl,BM,Qd,Qh,Dn]
 |false=>simp only [QdL,h,hv,QcY,Bool.not_false,Qd,Dj]
def QjZ:Ent:=Ql (.pr QQ .nil) (fun x=>(Jv x.1)) (fun x=>(.tu [(.t (.sl (.int .u8)) ((Yc x.1).1)),(.t tI ((Yc x.1).2))]))
theorem Qvd:EM 114 QjZ:=mS g_f114 Qvc [((.t 2),some (.sl (.int .u8))),((.t 3),some tI)] false (gB (gD QtC (gD QzN (gD QDY gN)))) fun m=>Qr m fun x hok=>kT (s_f114 x.1 hok)
def ZL (s x:Int):Int:=V4 .u32 (Fs .u32 s (icv .u32 x)) 16777619
def XG (b:List Int):Int:=icv .i64 (b.foldl ZL 2166136261)
def EH (b:List Int):Bool:=decide (b.length<=100000)
abbrev QdM:Sh:=⟨[(3,.ty (.int .u32)),(6,.ty (.sl (.int .u8))),(7,.ty tI),(8,.ty tI)],[]⟩
abbrev QdN:Sh:=⟨[(3,.ty (.int .u32))],[]⟩
def Qve:Fg:=QdM.f
def Qvf:TC:=(.sq (.reg [(oP 9 (.bin false .lss (.t 8) (.t 7)))]) (.sq (.cd (.t 9) .sk (.fg QdN.f (.ex 0))) (.sq (.bk 1 (.sq (.reg [(oP 10 (.ix 1 (.t 6) (.t 8))),(oL 11 10),(oV 5 11)]) (.reg [(oV 12 3),(oV 13 5),(oP 14 (.cv .u32 (.t 13))),(oP 15 (.bin false .xor (.t 12) (.t 14))),(oP 16 (.bin false .mul (.t 15) (.c (.v (.int .u32 16777619))))),(oV 3 16)]))) (.reg [(oP 17 (.bin false .add (.t 8) (cI 1))),(oV 8 17)]))))
def Qj0 (x3:Int)(x6:List Int)(x7 x8:Int):VS:=QdM.st (x3,x6,x7,x8,()) ()
def GT (x3:Int):VS:=QdN.st (x3,()) ()
def Qvg:VS->Option (Bool×List (Bool×Exit×VS)):=mkL QdM (fun x y=>(QB x.2.1 x.2.2.1 x.2.2.2.1)) (fun x y=>[(true,.exit 0,GT ((x.2.1.drop x.2.2.2.1.toNat).foldl ZL x.1))])
def g_f207:G:=gG 20 [] (Ls [Qvg])
def Va (x3:Int)(x6:List Int)(x7 x8:Int):OX:=Qx (Qz g_f207 Qve Qvf) (Qj0 x3 x6 x7 x8)
def EI (kk:Int->List Int->Int->Int->OX)(x3:Int)(x6:List Int)(x7 x8:Int):OX:=br (ilt x8 x7) (br (cIx x6 x8) (kk (V4 .u32 (Fs .u32 x3 (icv .u32 (lgt (.int .u8) x6 (Int.toNat x8)))) 16777619) x6 x7 (Qj .i64 x8 1)) none) (some (.exit 0,GT x3))
def Vb (x3:Int)(x6:List Int)(x7 x8:Int):OX:=some (.exit 0,GT ((x6.drop x8.toNat).foldl ZL x3))
theorem Qj1 (x3:Int)(x6:List Int)(x7 x8:Int):Va x3 x6 x7 x8=EI Va x3 x6 x7 x8:=lnT (x:=EI (fun x3 x6 x7 x8=>some (.normal,Qj0 x3 x6 x7 x8)) x3 x6 x7 x8) (by simp only [EI,nxA];rfl)
theorem l_f207_0 (x3:Int)(x6:List Int)(x7 x8:Int)(h:(QB x6 x7 x8)=true):Va x3 x6 x7 x8=Vb x3 x6 x7 x8:=by
 obtain ⟨rfl,h3,k,rfl,hk⟩:=J5 h
 clear h
 revert x3
 refine Q7 x6 (fun k=> ∀ x3:Int,Va x3 x6 (x6.length:Int) (k:Int)=Vb x3 x6 (x6.length:Int) (k:Int)) ?_ ?_ k hk
 ·intro x3
  rw [Qj1]
  simp only [EI,Vb,QH,Dg,Dp,Qh,Bd,Dd,List.foldl_nil]
 ·intro k hk ih x3
  rw [Qj1]
  simp only [EI,QH,QS,hk,BK,Qd,Bd,Q3 (show k<4611686018427387904 by omega),Q2 (y:= .int .u8) hk,ih]
  simp only [Vb,Bd,Bl hk,Dz,ZL]
abbrev Vc:Sh:=⟨[(0,.ty (.sl (.int .u8))),(3,.ty (.int .u32)),(4,.ty tI)],[]⟩
def QdO:Fg:=Vc.f
def Qj2:TC:=aF Tryz.f115 [(58,pL 0 QdO),(931,.fg QdN.f)]
def Qj3:TC:=lb 0 Qj2
def Qj4 (x0:List Int)(x3 x4:Int):VS:=Vc.st (x0,x3,x4,()) ()
def Qvh:VS->Option (Bool×List (Bool×Exit×VS)):=mkL Vc (fun x y=>(XH x.1 x.2.2.1)) (fun x y=>[(true,.exit 0,GT ((x.1.drop x.2.2.1.toNat).foldl ZL x.2.1))])
def QdP:G:=gG 21 [] (Ls [Qvh])
def Vd (x0:List Int)(x3 x4:Int):OX:=Qx (Qz QdP QdO Qj3) (Qj4 x0 x3 x4)
def EJ (kk:List Int->Int->Int->OX)(x0:List Int)(x3 x4:Int):OX:=br (ilt x4 (Qc x0)) (br (cIx x0 x4) (kk x0 (V4 .u32 (Fs .u32 x3 (icv .u32 (lgt (.int .u8) x0 (Int.toNat x4)))) 16777619) (Qj .i64 x4 1)) none) (some (.exit 0,GT x3))
def Ve (x0:List Int)(x3 x4:Int):OX:=some (.exit 0,GT ((x0.drop x4.toNat).foldl ZL x3))
theorem Qj5 (x0:List Int)(x3 x4:Int):Vd x0 x3 x4=EJ Vd x0 x3 x4:=lnT (x:=EJ (fun x0 x3 x4=>some (.normal,Qj4 x0 x3 x4)) x0 x3 x4) (by simp only [EJ,nxA];rfl)
def Qj6 (p0:List Int):OV:=br (XH p0 (0:Int)) (some (.t tI (icv .i64 ((p0.drop (0:Int).toNat).foldl ZL (2166136261:Int))),[])) none
theorem Qvi (x0:List Int)(x3 x4:Int)(h:(XH x0 x4)=true):Vd x0 x3 x4=Ve x0 x3 x4:=by
 simp only [XH,Ba] at h
 obtain ⟨h0,h1,h2⟩:=h
 obtain ⟨k,rfl⟩:=Bt h0
 revert x3
 refine Q7 x0 (fun k=> ∀ x3:Int,Vd x0 x3 (k:Int)=Ve x0 x3 (k:Int)) ?_ ?_ k (by omega)
 ·intro x3
  rw [Qj5]
  simp only [EJ,Ve,show ilt (x0.length:Int) (Qc x0)=false from Bn (by simp only [Qc];omega),Qh,Bd,Dd,List.foldl_nil]
 ·intro k hk ih x3
  rw [Qj5]
  simp only [EJ,show ilt (k:Int) (Qc x0)=true from Be (by simp only [Qc];omega),QS,hk,BK,Qd,Bd,Q3 (show k<4611686018427387904 by omega),Q2 (y:= .int .u8) hk,ih]
  simp only [Ve,Bd,Bl hk,Dz,ZL]
theorem Qvj:LO QdP QdO Qj3 0:=QI (s:=Vc) fun x y h _ q=>by simp only [QF,QG] at q;exact (Qvi x.1 x.2.1 x.2.2.1 h).trans q
theorem s_f115 (b:List Int)(h:EH b=true):Qj6 b=some (.t tI (XG b),[]):=by
 simp only [EH,Ba] at h
 simp only [Qj6,show XH b 0=true from Be (by omega),Qd,BA,BG]
 rfl
def Qj7:Ent:=Ql (.pr (.sl (.int .u8)) .nil) (fun x=>(EH x.1)) (fun x=>(.t tI (XG x.1)))
theorem Qvk:EM 115 Qj7:=mS (lk:=lkL (lkc Qvj lkn)) QdP Qj2 [((.t 2),some tI)] false (gB gN) fun m=>Qr m fun x hok=>kT (s_f115 x.1 hok)
theorem lenB_C (c:Certificate):EH (Yc c).1=true:=Be (by have:=Qvb c;omega)
def Ug (c:Certificate)(_k:Int):Bool:=Jv c
def Zu (c:Certificate):Certificate:=c
def Qvl:TC:=aF Tryz.f112 []
def g_f112:G:=⟨TYs,[3],9,EL [],YU,(fun _ _=>none),IL [],RL []⟩
def Qj8 (p0:Certificate):OV:=br (QC ([]:List ByteArray) p0.2.2.2.2.2.2.2.2.2.2.1 16) (some (.t QQ (p0.1,(p0.2.1,(p0.2.2.1,((p0.2.2.2.1.1,(p0.2.2.2.1.2.1,())),(p0.2.2.2.2.1,((p0.2.2.2.2.2.1.1,(p0.2.2.2.2.2.1.2.1,())),(p0.2.2.2.2.2.2.1,(p0.2.2.2.2.2.2.2.1,(p0.2.2.2.2.2.2.2.2.1,(p0.2.2.2.2.2.2.2.2.2.1,((([]:List ByteArray)++p0.2.2.2.2.2.2.2.2.2.2.1),((p0.2.2.2.2.2.2.2.2.2.2.2.1.1,(p0.2.2.2.2.2.2.2.2.2.2.2.1.2.1,())),())))))))))))),[])) none
theorem Qvm {c:Certificate}(h:Jv c=true):(QP c).length<=100000:=by
 simp only [Jv,Z7,Bc,Ba] at h
 exact h.2.2.1
theorem s_f112 (c:Certificate)(h:Jv c=true):Qj8 c=some (.t QQ (Zu c),[]):=by
 have hn:c.2.2.2.2.2.2.2.2.2.2.1.length<=100000:=Qvm h
 simp only [Qj8]
 rw [JF (by omega) (by simp only [Bw];omega),Qd]
 rfl
def Qj9:Ent:=Ql (.pr QQ .nil) (fun x=>(Jv x.1)) (fun x=>(.t QQ (Zu x.1)))
theorem Qvn:EM 112 Qj9:=mS g_f112 Qvl [((.c 2 true 15),some QQ)] false (J8 _ (fun p hp=>by cases hp)) fun m=>Qr m fun x hok=>kT (s_f112 x.1 hok)
def EK (c:Certificate)(s:Keep):Certificate:=(c.1,(c.2.1,(c.2.2.1,(c.2.2.2.1,(c.2.2.2.2.1,(c.2.2.2.2.2.1,(c.2.2.2.2.2.2.1,(c.2.2.2.2.2.2.2.1,(c.2.2.2.2.2.2.2.2.1,(c.2.2.2.2.2.2.2.2.2.1,(c.2.2.2.2.2.2.2.2.2.2.1,(s,()))))))))))))
def Uh (c:Certificate):Certificate:=EK c (0,(0,()))
def EN (c:Certificate)(k:Int):Bool:= !QK (Uh c)||(ilt k 0||igt k 2147483648)
abbrev Vf:Certificate:=Ty.zero QQ
def YW (c:Certificate)(k:Int):Certificate×Int:=bif EN c k then (Vf,9) else (EK c (k,(XG (Yc (Uh c)).1,())),0)
def tc_f68:TC:=aF Tryz.f68 []
def g_f68:G:=gG 35 [(112,Qj9),(113,QiQ),(114,QjZ),(115,Qj7)] (fun _ _=>none)
def r_f68 (p0:Certificate)(p1:Int):OV:=
 let a4:=((Zu p0).2)
 let a1:=((((a4.2).2).2).2)
 let a5:=(((a1.2).2).2)
 let a2:=((Yc ((Zu p0).1,(a4.1,((a4.2).1,(((a4.2).2).1,((((a4.2).2).2).1,(a1.1,((a1.2).1,(((a1.2).2).1,(a5.1,((a5.2).1,(((a5.2).2).1,((0,(0,())),(((a5.2).2).2).2))))))))))))).1)
 let a3:=(Jv ((Zu p0).1,(a4.1,((a4.2).1,(((a4.2).2).1,((((a4.2).2).2).1,(a1.1,((a1.2).1,(((a1.2).2).1,(a5.1,((a5.2).1,(((a5.2).2).1,((0,(0,())),(((a5.2).2).2).2)))))))))))))
 let a6:=ByteArray.mk #[]
 br (Jv p0) (br a3 (br (ine (Xz ((Zu p0).1,(a4.1,((a4.2).1,(((a4.2).2).1,((((a4.2).2).2).1,(a1.1,((a1.2).1,(((a1.2).2).1,(a5.1,((a5.2).1,(((a5.2).2).1,((0,(0,())),(((a5.2).2).2).2))))))))))))) 0) (some (.tu [(.t QQ (0,(a6,(a6,((0,(0,())),(0,((0,(0,())),(0,(0,(false,(0,(([]:List ByteArray),((0,(0,())),()))))))))))))),(.t tI 9)],[])) (br (ilt p1 0) (some (.tu [(.t QQ (0,(a6,(a6,((0,(0,())),(0,((0,(0,())),(0,(0,(false,(0,(([]:List ByteArray),((0,(0,())),()))))))))))))),(.t tI 9)],[])) (br (igt p1 2147483648) (some (.tu [(.t QQ (0,(a6,(a6,((0,(0,())),(0,((0,(0,())),(0,(0,(false,(0,(([]:List ByteArray),((0,(0,())),()))))))))))))),(.t tI 9)],[])) (br a3 (br (EH a2) (some (.tu [(.t QQ ((Zu p0).1,(a4.1,((a4.2).1,(((a4.2).2).1,((((a4.2).2).2).1,(a1.1,((a1.2).1,(((a1.2).2).1,(a5.1,((a5.2).1,(((a5.2).2).1,((p1,((XG a2),())),(((a5.2).2).2).2))))))))))))),(.t tI 0)],[])) none) none)))) none) none
theorem s_f68 (c:Certificate)(k:Int)(h:Ug c k=true):r_f68 c k=some (.tu [.t QQ (YW c k).1,.t tI (YW c k).2],[]):=by
 have h:Jv c=true:=h
 have hu:Jv (Uh c)=true:=h
 have e:((Zu c).1,((Zu c).2.1,((Zu c).2.2.1,((Zu c).2.2.2.1,((Zu c).2.2.2.2.1,((Zu c).2.2.2.2.2.1,((Zu c).2.2.2.2.2.2.1,((Zu c).2.2.2.2.2.2.2.1,((Zu c).2.2.2.2.2.2.2.2.1,((Zu c).2.2.2.2.2.2.2.2.2.1,((Zu c).2.2.2.2.2.2.2.2.2.2.1,((0,(0,())),()))))))))))))=Uh c:=rfl
 simp only [r_f68,h,e,hu,QcY,lenB_C,Qd]
 unfold YW EN
 cases QK (Uh c) with
 |false=>rfl
 |true=>
  rw [BM,Qh,Dm]
  cases ilt k 0 with
  |true=>rfl
  |false=>
   rw [Qh,Dm]
   cases igt k 2147483648<;>rfl
def Qka:Ent:=Ql (.pr QQ (.pr tI .nil)) (fun x=>(Ug x.1 x.2.1)) (fun x=>(.tu [(.t QQ ((YW x.1 x.2.1).1)),(.t tI ((YW x.1 x.2.1).2))]))
theorem ms_f68:EM 68 Qka:=mS g_f68 tc_f68 [((.c 4 true 15),some QQ),((.t 5),some tI)] false (gB (gD Qvn (gD QtC (gD Qvd (gD Qvk gN))))) fun m=>Qr m fun x hok=>kT (s_f68 x.1 x.2.1 hok)
def Xj (l:List Certificate):Bool:=decide (l.length<=100000)&&l.all Jv
def GU (key:Keep)(id:Int)(l:List Certificate):Bool:=ieq (Qc l) 0||(((l.getD 0 Vf).2.2.2.1==key)&&ieq (l.getD 0 Vf).2.2.2.2.1 id)
def Wk (key:Keep)(id:Int)(l:List Certificate):Bool:=JG key&&(!ine (Z6 key.1) 2&&(Jf id&&(!igt (Qc l) 8&&(l.all QK&&GU key id l))))
def Vg (_key:Keep)(_id:Int)(l:List Certificate):Bool:=Xj l
theorem Qvo (key:Keep)(id:Int)(l:List Certificate):br (ieq (Qc l) 0) (some (V.t .bool true,([]:List VO))) (br (cIx l 0) (br ((lgt QQ l 0).2.2.2.1==key) (br (cIx l 0) (some (V.t .bool (ieq (lgt QQ l 0).2.2.2.2.1 id),[])) none) (some (V.t .bool false,[]))) none)=some (V.t .bool (GU key id l),[]):=by
 unfold GU
 cases l with
 |nil=>rfl
 |cons c l=>
  have h1:ieq (Qc (c::l)) 0=false:=by
   simp only [ieq,Qc,Bo,beq_eq_false_iff_ne]
   omega
  have h2:cIx (c::l) 0=true:=by simp only [cIx,Bo,Ba];omega
  rw [h1,Qh,h2,Qd,Dm,Qd]
  show br (c.2.2.2.1==key) _ _=some (V.t .bool ((c.2.2.2.1==key)&&ieq c.2.2.2.2.1 id),[])
  cases c.2.2.2.1==key<;>rfl
abbrev Vh:Sh:=⟨[(1,.ty tI),(2,.ty (.sl QQ)),(3,.ptr 3 0),(28,.ty (.sl QQ)),(29,.ty tI),(30,.ty tI)],[(3,.box Qe)]⟩
abbrev Qkb:Sh:=⟨[(6,.ty .bool)],[]⟩
abbrev Qkc:Sh:=⟨[(1,.ty tI),(2,.ty (.sl QQ)),(3,.ptr 3 0)],[(3,.box Qe)]⟩
def QdQ:Fg:=Vh.f
def Qkd:TC:=aF Tryz.f79 [(58,pL 0 QdQ),(933,.fg Qkc.f),(29901,.fg Qkb.f),(30,pD [(0,[]),(1,[]),(2,[]),(3,[]),(4,[]),(5,[]),(6,[]),(7,[]),(8,[3]),(9,[]),(10,[]),(11,[]),(12,[]),(13,[]),(14,[]),(15,[]),(16,[]),(17,[]),(18,[]),(19,[])] (.of [0,1,2,3,4,5,6,7,8,9,10,11,12,13,14,15,16,17,18,19]))]
def Qke:TC:=lb 0 Qkd
def Qkf (x1:Int)(x2 x28:List Certificate)(x29 x30:Int)(y3:Keep):VS:=Vh.st (x1,x2,(),x28,x29,x30,()) (y3,())
def QdR (x6:Bool):VS:=Qkb.st (x6,()) ()
def QdS (x1:Int)(x2:List Certificate)(y3:Keep):VS:=Qkc.st (x1,x2,(),()) (y3,())
def Qvp:VS->Option (Bool×List (Bool×Exit×VS)):=mkL Vh (fun x y=>(QB x.2.2.2.1 x.2.2.2.2.1 x.2.2.2.2.2.1&&Xj x.2.2.2.1)) (fun x y=>[((!(x.2.2.2.1.drop x.2.2.2.2.2.1.toNat).all QK),.ret,QdR (false)),(true,.exit 0,QdS (x.1) (x.2.1) (y.1))])
def QdT:G:=gG 57 [(83,OE),(87,EE),(126,QcI),(127,Qtu)] (Ls [Qvp])
def Vi (x1:Int)(x2 x28:List Certificate)(x29 x30:Int)(y3:Keep):OX:=Qx (Qz QdT QdQ Qke) (Qkf x1 x2 x28 x29 x30 y3)
def EO (kk:Int->List Certificate->List Certificate->Int->Int->Keep->OX)(x1:Int)(x2 x28:List Certificate)(x29 x30:Int)(y3:Keep):OX:=
 let a1:=lgt QQ x28 (Int.toNat x30)
 br (ilt x30 x29) (br (cIx x28 x30) (br (Jv a1) (br (ine (Xz a1) 0) (some (.ret,QdR false)) (kk x1 x2 x28 x29 (Qj .i64 x30 1) y3)) none) none) (some (.exit 0,QdS x1 x2 y3))
def Vj (x1:Int)(x2 x28:List Certificate)(x29 x30:Int)(y3:Keep):OX:=br (!(x28.drop x30.toNat).all QK) (some (.ret,QdR (false)))<|some (.exit 0,QdS (x1) (x2) (y3))
theorem Qkg (x1:Int)(x2 x28:List Certificate)(x29 x30:Int)(y3:Keep):Vi x1 x2 x28 x29 x30 y3=EO Vi x1 x2 x28 x29 x30 y3:=lnT (x:=EO (fun x1 x2 x28 x29 x30 y3=>some (.normal,Qkf x1 x2 x28 x29 x30 y3)) x1 x2 x28 x29 x30 y3) (by simp only [EO,nxA];rfl)
def r_f79 (p0:Keep)(p1:Int)(p2:List Certificate):OV:=
 let a1:=((((lgt QQ (p2) (Int.toNat 0)).2).2).2)
 br (!(JG p0)) (some (.t .bool false,[])) (br (ine (Z6 p0.1) 2) (some (.t .bool false,[])) (br (!(Jf p1)) (some (.t .bool false,[])) (br (igt (Qc p2) 8) (some (.t .bool false,[])) (br (QB p2 (Qc p2) (0:Int)&&Xj p2) (br (!(p2.drop (0:Int).toNat).all QK) (some (.t .bool (false),[])) (br (ieq (Qc (p2)) 0) (some (.t .bool true,[])) (br (cIx (p2) 0) (br (and (ieq ((a1.1).1) ((p0).1)) (and (ieq (((a1.1).2).1) (((p0).2).1)) true)) (br (cIx (p2) 0) (some (.t .bool (ieq ((a1.2).1) (p1)),[])) none) (some (.t .bool false,[]))) none))) none))))
theorem Qvq (x1:Int)(x2 x28:List Certificate)(x29 x30:Int)(y3:Keep)(h:(QB x28 x29 x30&&Xj x28)=true):Vi x1 x2 x28 x29 x30 y3=Vj x1 x2 x28 x29 x30 y3:=by
 simp only [Bc] at h
 obtain ⟨h0,hc⟩:=h
 obtain ⟨rfl,h3,k,rfl,hk⟩:=J5 h0
 clear h0
 simp only [Xj,Bc,Bi] at hc
 refine Q7 x28 (fun k=>Vi x1 x2 x28 (x28.length:Int) (k:Int) y3=Vj x1 x2 x28 (x28.length:Int) (k:Int) y3) ?_ ?_ k hk
 ·rw [Qkg]
  simp only [EO,Vj,QH,Dg,Dp,Qh,Bd,Dd,List.all_nil,BM]
 ·intro k hk ih
  rw [Qkg]
  have hx:=hc.2 x28[k] (BE hk)
  simp only [EO,QH,QS,hk,BK,Qd,Bd,Q3 (show k<4611686018427387904 by omega),Q2 (y:=QQ) hk,hx,QcY,ih]
  simp only [Vj,Bd,Bl hk,BZ]
  cases QK x28[k]<;>rfl
theorem Qvr:LO QdT QdQ Qke 0:=QI (s:=Vh) fun x y h _ q=>by simp only [QF,QG] at q;exact (Qvq x.1 x.2.1 x.2.2.2.1 x.2.2.2.2.1 x.2.2.2.2.2.1 y.1 h).trans q
theorem s_f79 (key:Keep)(id:Int)(l:List Certificate)(h:Vg key id l=true):r_f79 key id l=some (.t .bool (Wk key id l),[]):=by
 have h:Xj l=true:=h
 have hl:l.length<=100000:=by simp only [Xj,Bc,Ba] at h;exact h.1
 simp only [r_f79,J6 hl,h,Dh,Qd,BA,BG,QEw]
 unfold Wk
 refine (brB<|brB<|brB<|brB<|brB (Qvo key id l)).trans ?_
 simp only [Bool.not_not]
def Qkh:Ent:=Ql (.pr Qe (.pr tI (.pr (.sl QQ) .nil))) (fun x=>(Vg x.1 x.2.1 x.2.2.1)) (fun x=>(.t .bool (Wk x.1 x.2.1 x.2.2.1)))
theorem ms_f79:EM 79 Qkh:=mS (lk:=lkL (lkc Qvr lkn)) QdT Qkd [((.t 6),some .bool)] false (gB (gD QcT (gD O1 (gD Qit (gD QEO gN))))) fun m=>Qr m fun x hok=>kT (s_f79 x.1 x.2.1 x.2.2.1 hok)
end
end Go.Proofs.YtmjnnemhoeolgaaGreat.K
noncomputable section
namespace Go.Proofs
open Go.Shelf
def Tryz.lays137_ren:Go.Shelf.Ren:=⟨fun|137=>163|217=>195|266=>214|n=>n,fun|9=>9|5=>5|3=>3|n=>n,fun|n=>n⟩
theorem Tryz.lays137:Go.Proofs.Lays.n137 Tryz.prog Tryz.lays137_ren:={
 mixed:=by kernel_rfl
 f137:=Tryz.func163.trans (congrArg some (by kernel_rfl))
 f217:=Tryz.func195.trans (congrArg some (by kernel_rfl))
 f266:=Tryz.func214.trans (congrArg some (by kernel_rfl))
 t3:=Tryz.underlying3
 a3:=Tryz.isAgg3
 z3:=Tryz.sizeOf3
 v3:=Tryz.zeroValue3
 t5:=Tryz.underlying5
 a5:=Tryz.isAgg5
 z5:=Tryz.sizeOf5
 v5:=Tryz.zeroValue5
 t9:=Tryz.underlying9
 a9:=Tryz.isAgg9
 z9:=Tryz.sizeOf9
 v9:=Tryz.zeroValue9}
end Go.Proofs
namespace Go.Proofs.YtmjnnemhoeolgaaGreat.K
open Go.RowKit Go.Shelf
noncomputable section
def ixB (s:ByteArray)(c:Int):Int:=Lib.indexByte s.data.toList c.toNat.toUInt8
def Qk4:Ent:=Ql (.pr .str (.pr (.int .u8) .nil)) (fun x=>true) (fun x=>(.t tI (ixB x.1 x.2.1)))
theorem Qv7:JE Tryz.prog 163:= .inr ⟨by decide,_,Tryz.func163,by kernel_rfl,by kernel_rfl⟩
theorem Qv8:Qu Tryz.prog 163 (Qq Qk4):=Qmh fun x hok X w σ vs hfin hc=>by
 obtain ⟨s,c,u⟩:=x
 simp only [Ty.canon,V.ds,V.d,Ty.d,Cs,C] at hc
 obtain ⟨v1,r1,rfl,⟨rfl,_⟩,v2,r2,rfl,⟨rfl,_⟩,rfl⟩:=hc
 refine (Any.strings_IndexByte Tryz.lays137 s c w).mono ?_
 rintro e w' ⟨rfl,rfl⟩
 refine ⟨_,rfl, ?_,Below.refl _ _⟩
 simp only [V.d,Ty.d,C]
 exact ⟨rfl,rfl⟩
def G4 (c:Int)(o:ByteArray):Bool:=(ige c 97&&ile c 122)||((ige c 65&&ile c 90)||((ige c 48&&ile c 57)||ige (ixB o c) 0))
def Qv9:TC:=aF Tryz.f123 []
def g_f123:G:=gG 33 [(163,Qk4)] (fun _ _=>none)
def Qeq (p0:Int)(p1:ByteArray):OV:=br (ige p0 48) (br (ile p0 57) (some (.t .bool true,[])) (some (.t .bool (ige (ixB p1 p0) 0),[]))) (some (.t .bool (ige (ixB p1 p0) 0),[]))
def Qer (p0:Int)(p1:ByteArray):OV:=br (ige p0 65) (br (ile p0 90) (some (.t .bool true,[])) (Qeq p0 p1)) (Qeq p0 p1)
def Qk5 (p0:Int)(p1:ByteArray):OV:=br (ige p0 97) (br (ile p0 122) (some (.t .bool true,[])) (Qer p0 p1)) (Qer p0 p1)
theorem brO {a b r:Bool}{X:OV}(h:X=some (.t .bool r,[])):br a (br b (some (.t .bool true,[])) X) X=some (.t .bool ((a&&b)||r),[]):=by
 subst h
 cases a<;>cases b<;>rfl
theorem s_f123 (c:Int)(o:ByteArray):Qk5 c o=some (.t .bool (G4 c o),[]):=by
 simp only [Qk5,Qer,Qeq]
 exact brO (brO (brO rfl))
def Qk6:Ent:=Ql (.pr (.int .u8) (.pr .str .nil)) (fun x=>true) (fun x=>(.t .bool (G4 x.1 x.2.1)))
theorem Qwa:EM 123 Qk6:=mS g_f123 Qv9 [((.t 4),some .bool)] false (gB (gC Qv7 Qv8 gN)) fun m=>Qr m fun x _=>kT (s_f123 x.1 x.2.1)
def Wr (c:Int):Bool:= !(ilt c 97||igt c 122)||(!(ilt c 65||igt c 90)||(!(ilt c 48||igt c 57)||(ieq c 45||(ieq c 95||ieq c 46))))
def XK (s:ByteArray):Bool:=(QO s).all Wr&&decide (1<=s.size/\s.size<=32)
set_option maxRecDepth 100000 in
theorem Qwb:((List.range 256).all fun n=>G4 (n:Int) (ByteArray.mk #[45,95,46])==Wr (n:Int))=true:=by kernel_rfl
theorem Qwc {s:ByteArray}{c:Int}(h:c∈QO s):G4 c (ByteArray.mk #[45,95,46])=Wr c:=by
 obtain ⟨b,_,rfl⟩:=B6.1 h
 have:=Bi.1 Qwb b.toNat (by rw [Df];exact b.toNat_lt)
 exact eq_of_beq this
abbrev VB:Sh:=⟨[(0,.ty .str),(6,.ty (.sl (.int .u8))),(7,.ty tI),(8,.ty tI)],[]⟩
abbrev VC:Sh:=⟨[(2,.ty .bool)],[]⟩
abbrev Qk7:Sh:=⟨[(0,.ty .str)],[]⟩
def Qes:Fg:=VB.f
def Qk8:TC:=aF Tryz.f76 [(26,pL 0 Qes),(421,.fg Qk7.f),(13517,.fg VC.f)]
def Qk9:TC:=lb 0 Qk8
def Qla (x0:ByteArray)(x6:List Int)(x7 x8:Int):VS:=VB.st (x0,x6,x7,x8,()) ()
def XL (x2:Bool):VS:=VC.st (x2,()) ()
def Qet (x0:ByteArray):VS:=Qk7.st (x0,()) ()
def Qwd:VS->Option (Bool×List (Bool×Exit×VS)):=mkL VB (fun x y=>(XV x.2.1 x.2.2.1 x.2.2.2.1&&YV x.2.1 (QO x.1))) (fun x y=>[((!((x.2.1.drop x.2.2.2.1.toNat).all Wr)),.ret,XL (false)),(true,.exit 0,Qet (x.1))])
def Qeu:G:=gG 24 [(123,Qk6),(31080144,OA)] (Ls [Qwd])
def VD (x0:ByteArray)(x6:List Int)(x7 x8:Int):OX:=Qx (Qz Qeu Qes Qk9) (Qla x0 x6 x7 x8)
def E1 (kk:ByteArray->List Int->Int->Int->OX)(x0:ByteArray)(x6:List Int)(x7 x8:Int):OX:=br (ilt x8 x7) (br (cIx x6 x8) (br (!(G4 (lgt (.int .u8) x6 (Int.toNat x8)) (ByteArray.mk #[45,95,46]))) (some (.ret,XL false)) (kk x0 x6 x7 (Qj .i64 x8 1))) none) (some (.exit 0,Qet x0))
def VE (x0:ByteArray)(x6:List Int)(x7 x8:Int):OX:=br (!((x6.drop x8.toNat).all Wr)) (some (.ret,XL (false)))<|some (.exit 0,Qet (x0))
theorem Qlb (x0:ByteArray)(x6:List Int)(x7 x8:Int):VD x0 x6 x7 x8=E1 VD x0 x6 x7 x8:=lnT (x:=E1 (fun x0 x6 x7 x8=>some (.normal,Qla x0 x6 x7 x8)) x0 x6 x7 x8) (by simp only [E1,nxA];rfl)
def r_f76 (p0:ByteArray):OV:=br (YH p0) (br (XV (QO p0) (Qc (QO p0)) (0:Int)&&YV (QO p0) (QO p0)) (br (!(((QO p0).drop (0:Int).toNat).all Wr)) (some (.t .bool (false),[])) (br (ige (Zm (p0)) 1) (some (.t .bool (ile (Zm (p0)) 32),[])) (some (.t .bool false,[])))) none) none
theorem Qwe (x0:ByteArray)(x6:List Int)(x7 x8:Int)(h:(XV x6 x7 x8&&YV x6 (QO x0))=true):VD x0 x6 x7 x8=VE x0 x6 x7 x8:=by
 simp only [Bc] at h
 obtain ⟨h,hs⟩:=h
 have hs:=QiI hs
 obtain ⟨rfl,h3,k,rfl,hk⟩:=Qoq h
 clear h
 refine Q7 x6 (fun k=>VD x0 x6 (x6.length:Int) (k:Int)=VE x0 x6 (x6.length:Int) (k:Int)) ?_ ?_ k hk
 ·rw [Qlb]
  simp [E1,VE,QH,Qh]
 ·intro k hk ih
  rw [Qlb]
  have hw:G4 x6[k] (ByteArray.mk #[45,95,46])=Wr x6[k]:=Qwc (s:=x0) (by rw [←hs];exact BE hk)
  simp only [E1,QH,QS,hk,BK,Qd,Bd,Qf4 (show k<9223372036854775807 by omega),Q2 (y:= .int .u8) hk,ih,hw]
  simp only [VE,Bd,Bl hk,BZ]
  cases Wr x6[k]<;>rfl
theorem Qwf:LO Qeu Qes Qk9 0:=QI (s:=VB) fun x y h _ q=>by simp only [QF,QG] at q;exact (Qwe x.1 x.2.1 x.2.2.1 x.2.2.2.1 h).trans q
theorem s_f76 (s:ByteArray)(h:Jk s=true):r_f76 s=some (.t .bool (XK s),[]):=by
 simp only [Jk,Ba] at h
 have hl:=FX s
 simp only [r_f76,show YH s=true from Be (by omega),Qor (show (QO s).length<=9223372036854775807 by omega),QiH,Dh,Qd,BA,BG,XK]
 cases (QO s).all Wr with
 |false=>rfl
 |true=>
  simp only [BM,Qh,BH]
  refine Q4 (fun g=> ?_) (fun g=> ?_)
  ·simp only [ige,Zm,Ba] at g
   apply GY
   rw [DA]
   simp only [ile,Zm,Ba]
   omega
  ·simp only [ige,Zm,Bq] at g
   apply GY
   rw [eq_comm,Bq]
   omega
def Qlc:Ent:=Ql (.pr .str .nil) (fun x=>(Jk x.1)) (fun x=>(.t .bool (XK x.1)))
theorem ms_f76:EM 76 Qlc:=mS (lk:=lkL (lkc Qwf lkn)) Qeu Qk8 [((.t 2),some .bool)] false (gB (gD Qwa (gC QcF QcG gN))) fun m=>Qr m fun x hok=>kT (s_f76 x.1 hok)
def JK {α:Type}(l:List α):Bool:=decide (l.length<=100000)
def XM (l:List Int)(k:Nat):Bool:=(List.range' k (l.length-k)).all fun j=>decide (j=0)||ilt (l.getD (j-1) 0) (l.getD j 0)
def Ws (l:List Int):Bool:=XM l 0
theorem Qwg (l:List Int):XM l l.length=true:=by
 unfold XM
 rw [Nat.sub_self]
 rfl
theorem Qwh {l:List Int}{k:Nat}(hk:k<l.length):XM l k=((decide (k=0)||ilt (l.getD (k-1) 0) l[k])&&XM l (k+1)):=by
 have:l.length-k=(l.length-(k+1))+1:=by omega
 unfold XM
 rw [this,DI,BZ]
 simp only [Bk,Bh hk,BS]
theorem asc_br {β:Type}{l:List Int}{k:Nat}(hk:k<l.length)(hb:k<4611686018427387904)(bad ok:Option β):
  br (igt (k:Int) 0) (br (cIx l (QT .i64 (k:Int) 1)) (br (ige (lgt tI l (Int.toNat (QT .i64 (k:Int) 1))) l[k]) bad ok) none) ok=br (decide (k=0)||ilt (l.getD (k-1) 0) l[k]) ok bad:=by
 by_cases h0:k=0
 ·subst h0
  rw [show igt ((0:Nat):Int) 0=false from rfl,Qh,Be rfl,Bool.true_or,Qd]
 ·have e:QT .i64 (k:Int) 1=((k-1:Nat):Int):=by rw [ZN (by omega)];omega
  rw [show igt (k:Int) 0=true from Be (by omega),Qd,e,Bd,QS,Be (show k-1<l.length by omega),Qd,Bn h0,Dm,QcS]
  show br (!ilt (l.getD (k-1) 0) l[k]) bad ok=_
  cases ilt (l.getD (k-1) 0) l[k]<;>rfl
abbrev VF:Sh:=⟨[(0,.ty (.sl tI)),(5,.ty tI),(6,.ty tI)],[]⟩
abbrev VG:Sh:=⟨[],[]⟩
def Qev:Fg:=VF.f
def Qld:TC:=aF Tryz.f78 [(26,pL 0 Qev),(421,.fg VG.f),(3378,pD [(0,[]),(1,[]),(2,[]),(3,[]),(4,[]),(5,[]),(6,[]),(7,[]),(8,[]),(9,[]),(10,[]),(11,[]),(12,[]),(13,[])] (.of [0,1,2,3,4,5,6,7,8,9,10,11,12,13])),(13517,.fg VC.f)]
def Qle:TC:=lb 0 Qld
def Qlf (x0:List Int)(x5 x6:Int):VS:=VF.st (x0,x5,x6,()) ()
def Qew  : VS:=VG.st () ()
def Qwi:VS->Option (Bool×List (Bool×Exit×VS)):=mkL VF (fun x y=>(QB x.1 x.2.1 x.2.2.1)) (fun x y=>[((!XM x.1 x.2.2.1.toNat),.ret,XL (false)),(true,.exit 0,Qew)])
def Qex:G:=gG 24 [] (Ls [Qwi])
def VH (x0:List Int)(x5 x6:Int):OX:=Qx (Qz Qex Qev Qle) (Qlf x0 x5 x6)
def E2 (kk:List Int->Int->Int->OX)(x0:List Int)(x5 x6:Int):OX:=br (ilt x6 x5) (br (igt x6 0) (br (cIx x0 (QT .i64 x6 1)) (br (cIx x0 x6) (br (ige (lgt tI x0 (Int.toNat (QT .i64 x6 1))) (lgt tI x0 (Int.toNat x6))) (some (.ret,XL false)) (kk x0 x5 (Qj .i64 x6 1))) none) none) (kk x0 x5 (Qj .i64 x6 1))) (some (.exit 0,Qew))
def VI (x0:List Int)(x5 x6:Int):OX:=br (!XM x0 x6.toNat) (some (.ret,XL (false)))<|some (.exit 0,Qew)
theorem Qlg (x0:List Int)(x5 x6:Int):VH x0 x5 x6=E2 VH x0 x5 x6:=lnT (x:=E2 (fun x0 x5 x6=>some (.normal,Qlf x0 x5 x6)) x0 x5 x6) (by simp only [E2,nxA];rfl)
def r_f78 (p0:List Int):OV:=br (QB p0 (Qc p0) (0:Int)) (br (!XM p0 (0:Int).toNat) (some (.t .bool (false),[])) (some (.t .bool true,[]))) none
theorem Qwj (x0:List Int)(x5 x6:Int)(h:(QB x0 x5 x6)=true):VH x0 x5 x6=VI x0 x5 x6:=by
 obtain ⟨rfl,h3,k,rfl,hk⟩:=J5 h
 clear h
 refine Q7 x0 (fun k=>VH x0 (x0.length:Int) (k:Int)=VI x0 (x0.length:Int) (k:Int)) ?_ ?_ k hk
 ·rw [Qlg]
  simp only [E2,VI,QH,Dg,Dp,Qh,Bd,Qwg,BM]
 ·intro k hk ih
  rw [Qlg]
  simp only [E2,QH,QS,hk,BK,Qd,Bd,Q3 (show k<4611686018427387904 by omega),Q2 (y:=tI) hk,ih,asc_br hk (show k<4611686018427387904 by omega)]
  simp only [VI,Bd,Qwh hk]
  cases decide (k=0)||ilt (x0.getD (k-1) 0) x0[k]<;>rfl
theorem Qwk:LO Qex Qev Qle 0:=QI (s:=VF) fun x y h _ q=>by simp only [QF,QG] at q;exact (Qwj x.1 x.2.1 x.2.2.1 h).trans q
theorem s_f78 (l:List Int)(h:JK l=true):r_f78 l=some (.t .bool (Ws l),[]):=by
 simp only [JK,Ba] at h
 simp only [r_f78,J6 h,Qd,BA]
 unfold Ws
 cases XM l 0<;>rfl
def Qlh:Ent:=Ql (.pr (.sl tI) .nil) (fun x=>(JK x.1)) (fun x=>(.t .bool (Ws x.1)))
theorem ms_f78:EM 78 Qlh:=mS (lk:=lkL (lkc Qwk lkn)) Qex Qld [((.t 2),some .bool)] false (gB gN) fun m=>Qr m fun x hok=>kT (s_f78 x.1 hok)
def U5 (a:Int):Bool:=ieq (Z6 a) 1
def tc_f84:TC:=aF Tryz.f84 []
def g_f84:G:=gG 6 [(126,QcI)] (fun _ _=>none)
def r_f84 (p0:Int):OV:=some (.t .bool (ieq (Z6 p0) 1),[])
theorem s_f84 (a:Int):r_f84 a=some (.t .bool (U5 a),[]):=rfl
def Qli:Ent:=Ql (.pr tI .nil) (fun x=>true) (fun x=>(.t .bool (U5 x.1)))
theorem ms_f84:EM 84 Qli:=mS g_f84 tc_f84 [((.t 2),some .bool)] false (gB (gD Qit gN)) fun m=>Qr m fun x _=>kT (s_f84 x.1)
def YY (l:List Int)(k:Nat):Bool:=(List.range' k (l.length-k)).all fun j=>ieq (QL (l.getD j 0)).2 0&& !Jd (l.take j) (l.getD j 0)
def Z2 (l:List Int):Bool:=YY l 0
theorem Qwl (l:List Int):YY l l.length=true:=by
 unfold YY
 rw [Nat.sub_self]
 rfl
theorem Qwm {l:List Int}{k:Nat}(hk:k<l.length):YY l k=((ieq (QL l[k]).2 0&& !Jd (l.take k) l[k])&&YY l (k+1)):=by
 have:l.length-k=(l.length-(k+1))+1:=by omega
 unfold YY
 rw [this,DI,BZ]
 simp only [Bk,Bh hk,BS]
theorem Qwn (l:List Int)(k:Nat):lsl l 0 (k:Int)=l.take k:=by
 simp [lsl]
theorem Qwo {l:List Int}{k:Nat}(hk:k<=l.length):cSl l 0 (k:Int) ((List.length l:Nat):Int)=true:=by
 simp only [cSl,Ba]
 omega
abbrev VJ:Sh:=⟨[(0,.ty (.sl tI)),(7,.ty (.sl tI)),(8,.ty tI),(9,.ty tI)],[]⟩
def Qey:Fg:=VJ.f
def Qlj:TC:=aF Tryz.f77 [(26,pL 0 Qey),(421,.fg VG.f),(27037,.fg VC.f)]
def Qlk:TC:=lb 0 Qlj
def Qll (x0 x7:List Int)(x8 x9:Int):VS:=VJ.st (x0,x7,x8,x9,()) ()
def Qez  : VS:=VG.st () ()
def Qwp:VS->Option (Bool×List (Bool×Exit×VS)):=mkL VJ (fun x y=>(QB x.2.1 x.2.2.1 x.2.2.2.1&&YV x.1 x.2.1)) (fun x y=>[((!YY x.2.1 x.2.2.2.1.toNat),.ret,XL (false)),(true,.exit 0,Qez)])
def QeA:G:=gG 29 [(124,OB),(125,Vs)] (Ls [Qwp])
def VK (x0 x7:List Int)(x8 x9:Int):OX:=Qx (Qz QeA Qey Qlk) (Qll x0 x7 x8 x9)
def E3 (kk:List Int->List Int->Int->Int->OX)(x0 x7:List Int)(x8 x9:Int):OX:=
 let a1:=lgt tI x7 (Int.toNat x9)
 br (ilt x9 x8) (br (cIx x7 x9) (br (ine ((QL a1).2) 0) (some (.ret,XL false)) (br (cSl x0 0 x9 ((List.length x0:Nat):Int)) (br (J4 (lsl x0 0 x9) a1) (br (Jd (lsl x0 0 x9) a1) (some (.ret,XL false)) (kk x0 x7 x8 (Qj .i64 x9 1))) none) none)) none) (some (.exit 0,Qez))
def VL (x0 x7:List Int)(x8 x9:Int):OX:=br (!YY x7 x9.toNat) (some (.ret,XL (false)))<|some (.exit 0,Qez)
theorem Qlm (x0 x7:List Int)(x8 x9:Int):VK x0 x7 x8 x9=E3 VK x0 x7 x8 x9:=lnT (x:=E3 (fun x0 x7 x8 x9=>some (.normal,Qll x0 x7 x8 x9)) x0 x7 x8 x9) (by simp only [E3,nxA];rfl)
def r_f77 (p0:List Int):OV:=br (QB p0 (Qc p0) (0:Int)&&YV p0 p0) (br (!YY p0 (0:Int).toNat) (some (.t .bool (false),[])) (some (.t .bool true,[]))) none
theorem Qwq (x0 x7:List Int)(x8 x9:Int)(h:(QB x7 x8 x9&&YV x0 x7)=true):VK x0 x7 x8 x9=VL x0 x7 x8 x9:=by
 simp only [Bc] at h
 obtain ⟨h0,hs⟩:=h
 have hs:=QiI hs
 subst hs
 obtain ⟨rfl,h3,k,rfl,hk⟩:=J5 h0
 clear h0
 refine Q7 x0 (fun k=>VK x0 x0 (x0.length:Int) (k:Int)=VL x0 x0 (x0.length:Int) (k:Int)) ?_ ?_ k hk
 ·rw [Qlm]
  simp only [E3,VL,QH,Dg,Dp,Qh,Bd,Qwl,BM]
 ·intro k hk ih
  rw [Qlm]
  have hi:J4 (x0.take k) x0[k]=true:=Be (by rw [B2];omega)
  simp only [E3,QH,QS,hk,BK,Qd,Bd,Q3 (show k<4611686018427387904 by omega),Q2 (y:=tI) hk,ih,Qwn,Qwo (show k<=x0.length by omega),hi,QiG]
  simp only [VL,Bd,Qwm hk]
  cases ieq (QL x0[k]).2 0<;>cases Jd (x0.take k) x0[k]<;>rfl
theorem Qwr:LO QeA Qey Qlk 0:=QI (s:=VJ) fun x y h _ q=>by simp only [QF,QG] at q;exact (Qwq x.1 x.2.1 x.2.2.1 x.2.2.2.1 h).trans q
theorem s_f77 (l:List Int)(h:JK l=true):r_f77 l=some (.t .bool (Z2 l),[]):=by
 simp only [JK,Ba] at h
 simp only [r_f77,J6 h,QiH,Dh,Qd,BA]
 unfold Z2
 cases YY l 0<;>rfl
def Qln:Ent:=Ql (.pr (.sl tI) .nil) (fun x=>(JK x.1)) (fun x=>(.t .bool (Z2 x.1)))
theorem ms_f77:EM 77 Qln:=mS (lk:=lkL (lkc Qwr lkn)) QeA Qlj [((.t 2),some .bool)] false (gB (gD QcO (gD Qd7 gN))) fun m=>Qr m fun x hok=>kT (s_f77 x.1 hok)
def YD (n:Int):Bool:= !Jf n
def Qws:TC:=aF Tryz.f81 []
def Qwt:G:=gG 8 [(83,OE)] (fun _ _=>none)
def Qlo (p0:Int):OV:=some (.t .bool (!(Jf p0)),[.box (.c (.func (.func 83) #[] #[]))])
theorem Qwu (n:Int):Qlo n=some (.t .bool (YD n),[.box (.c (.func (.func 83) #[] #[]))]):=by
 simp only [Qlo]
 rfl
def Qlp:Ent:=Y2 [.ty tI,.ptr 50000 0] [.bc 83] (fun x y=>true) (fun x y=>(.t .bool (YD x.1))) (fun x y=>[.box (.c (.func (.func 83) #[] #[]))])
theorem Qwv:EM 81 Qlp:=mS Qwt Qws [((.t 3),some .bool)] false (gB (gD QcT gN)) fun m=>Xn (YI m fun x y _=>kT (Qwu x.1))
def G5 (l:List Int):Int:=match QA YD l with|some k=>(k:Int)|none=> -1
abbrev VM:Sh:=⟨[(0,.ty (.sl tI)),(1,.fn 81 [(50000,0)]),(7,.ty tI),(8,.ty tI)],[(50000,.bc 83)]⟩
abbrev Qlq:Sh:=⟨[(4,.ty tI)],[(50000,.bc 83)]⟩
abbrev Qlr:Sh:=⟨[],[(50000,.bc 83)]⟩
def QeB:Fg:=VM.f
def Qls:TC:=aF Tryz.f128 [(26,pL 0 QeB),(421,.fg Qlr.f),(13517,.fg Qlq.f)]
def Qlt:TC:=lb 0 Qls
def Qlu (x0:List Int)(x7 x8:Int):VS:=VM.st (x0,(),x7,x8,()) ((),())
def QeC (x4:Int):VS:=Qlq.st (x4,()) ((),())
def QeD  : VS:=Qlr.st () ((),())
def Qww:VS->Option (Bool×List (Bool×Exit×VS)):=mkL VM (fun x y=>(QB x.1 x.2.2.1 x.2.2.2.1)) (fun x y=>[(((QA YD (x.1.drop x.2.2.2.1.toNat)).isSome),.ret,QeC (x.2.2.2.1+((QA YD (x.1.drop x.2.2.2.1.toNat)).getD 0:Nat))),(true,.exit 0,QeD)])
def QeE:G:=gG 19 [(81,Qlp)] (Ls [Qww])
def VN (x0:List Int)(x7 x8:Int):OX:=Qx (Qz QeE QeB Qlt) (Qlu x0 x7 x8)
def E4 (kk:List Int->Int->Int->OX)(x0:List Int)(x7 x8:Int):OX:=br (ilt x8 x7) (br (cIx x0 x8) (br (YD (lgt tI x0 (Int.toNat x8))) (some (.ret,QeC x8)) (kk x0 x7 (Qj .i64 x8 1))) none) (some (.exit 0,QeD))
def VP (x0:List Int)(x7 x8:Int):OX:=
 let a1:=QA YD (x0.drop x8.toNat)
 br (a1.isSome) (some (.ret,QeC (x8+(a1.getD 0:Nat))))<|some (.exit 0,QeD)
theorem Qlv (x0:List Int)(x7 x8:Int):VN x0 x7 x8=E4 VN x0 x7 x8:=lnT (x:=E4 (fun x0 x7 x8=>some (.normal,Qlu x0 x7 x8)) x0 x7 x8) (by simp only [E4,nxA];rfl)
def Qlw (p0:List Int):OV:=
 let a1:=(QA YD (p0.drop (0:Int).toNat))
 br (QB p0 (Qc p0) (0:Int)) (br (a1.isSome) (some (.t tI ((0:Int)+(a1.getD 0:Nat)),[.box (.c (.func (.func 83) #[] #[]))])) (some (.t tI (-1),[.box (.c (.func (.func 83) #[] #[]))]))) none
theorem Qwx (x0:List Int)(x7 x8:Int)(h:(QB x0 x7 x8)=true):VN x0 x7 x8=VP x0 x7 x8:=by
 obtain ⟨rfl,h3,k,rfl,hk⟩:=J5 h
 clear h
 refine Q7 x0 (fun k=>VN x0 (x0.length:Int) (k:Int)=VP x0 (x0.length:Int) (k:Int)) ?_ ?_ k hk
 ·rw [Qlv]
  simp [E4,VP,QH,Qh,QA]
 ·intro k hk ih
  rw [Qlv]
  simp only [E4,QH,QS,hk,BK,Qd,Bd,Q3 (show k<4611686018427387904 by omega),ih,Q2 (y:=tI) hk]
  simp only [VP,Bd,Bl hk,QA]
  cases h:YD x0[k] with
  |true=>simp [Qd]
  |false=>
   simp only [Qh,BJ,Dr]
   cases hq:QA YD (x0.drop (k+1)) with
   |none=>rfl
   |some j=>
    simp only [B1,B4,BS,Qd]
    congr 3
    omega
theorem Qwy:LO QeE QeB Qlt 0:=QI (s:=VM) fun x y h _ q=>by simp only [QF,QG] at q;exact (Qwx x.1 x.2.2.1 x.2.2.2.1 h).trans q
theorem Qwz (l:List Int)(h:JK l=true):Qlw l=some (.t tI (G5 l),[.box (.c (.func (.func 83) #[] #[]))]):=by
 simp only [JK,Ba] at h
 simp only [Qlw,J6 h,Qd,BA,BG,G5]
 cases QA YD l<;>simp [Qd,Qh]
def Qlx:Ent:=Y2 [.ty (.sl tI),.fn 81 [(50000,0)]] [.bc 83] (fun x y=>(JK x.1)) (fun x y=>(.t tI (G5 x.1))) (fun x y=>[.box (.c (.func (.func 83) #[] #[]))])
theorem QwA:EM 128 Qlx:=mS (lk:=lkL (lkc Qwy lkn)) QeE Qls [((.t 4),some tI)] false (gB (gD Qwv gN)) fun m=>Xn (YI m fun x y hok=>kT (Qwz x.1 hok))
def U6 (l:List Int):Bool:= !l.all Jf
def QwB:TC:=aF Tryz.f82 []
def QwC:G:=gG 9 [(128,Qlx)] (fun _ _=>none)
def Qly (p0:List Int):OV:=br (JK p0) (some (.t .bool (ige (G5 p0) 0),[.box (.c (.func (.func 83) #[] #[]))])) none
theorem QwD (l:List Int)(h:JK l=true):Qly l=some (.t .bool (U6 l),[.box (.c (.func (.func 83) #[] #[]))]):=by
 simp only [Qly,h,Qd]
 have e:ige (G5 l) 0=U6 l:=by
  have e2:U6 l=l.any YD:=by
   unfold U6
   rw [List.not_all_eq_any_not]
   rfl
  rw [e2]
  unfold G5
  cases hq:QA YD l with
  |none=>rw [IG.1 hq];rfl
  |some k=>
   rw [←Qa4,hq]
   simp only [ige,B4,Ba]
   omega
 rw [e]
def Qlz:Ent:=Y2 [.ty (.sl tI),.fn 81 [(50000,0)]] [.bc 83] (fun x y=>(JK x.1)) (fun x y=>(.t .bool (U6 x.1))) (fun x y=>[.box (.c (.func (.func 83) #[] #[]))])
theorem QwE:EM 82 Qlz:=mS QwC QwB [((.t 4),some .bool)] false (gB (gD QwA gN)) fun m=>Xn (YI m fun x y hok=>kT (QwD x.1 hok))
def QlA:TC:=aF Tryz.f80 []
def QlB:List (RV×Option Ty):=[((.t 2),none)]
def QlC:G:=gG 4 [] (fun _ _=>none)
def QlD  : OV:=some (.fn 81 [(.ptr 50000 0)],[.box (.c (.func (.func 83) #[] #[]))])
theorem QwF  : Jq QlC QlA QlB true [.c (.func (.func 83) ⟨[]⟩ ⟨[]⟩)] []=QlD  :=by kernel_rfl
theorem QwG:QlD=some (.fn 81 [.ptr 50000 0],[.box (.c (.func (.func 83) #[] #[]))]):=rfl
def QlE:Ent:=Y2 [.cf 83] [] (fun x y=>true) (fun x y=>(.fn 81 [(.ptr 50000 0)])) (fun x y=>[.box (.c (.func (.func 83) #[] #[]))])
theorem QwH:EM 80 QlE:=mS QlC QlA QlB true (gB gN) fun m=>Xn (YI m fun x y _=>(QwF ).trans (QwG ))
def YE (n:Int):Bool:= !U5 n
def QwI:TC:=aF Tryz.f81 []
def QwJ:G:=gG 8 [(84,Qli)] (fun _ _=>none)
def QlF (p0:Int):OV:=some (.t .bool (!(U5 p0)),[.box (.c (.func (.func 84) #[] #[]))])
theorem QwK (n:Int):QlF n=some (.t .bool (YE n),[.box (.c (.func (.func 84) #[] #[]))]):=by
 simp only [QlF]
 rfl
def QlG:Ent:=Y2 [.ty tI,.ptr 50000 0] [.bc 84] (fun x y=>true) (fun x y=>(.t .bool (YE x.1))) (fun x y=>[.box (.c (.func (.func 84) #[] #[]))])
theorem QwL:EM 81 QlG:=mS QwJ QwI [((.t 3),some .bool)] false (gB (gD ms_f84 gN)) fun m=>Xn (YI m fun x y _=>kT (QwK x.1))
def G6 (l:List Int):Int:=match QA YE l with|some k=>(k:Int)|none=> -1
abbrev VQ:Sh:=⟨[(0,.ty (.sl tI)),(1,.fn 81 [(50000,0)]),(7,.ty tI),(8,.ty tI)],[(50000,.bc 84)]⟩
abbrev QlH:Sh:=⟨[(4,.ty tI)],[(50000,.bc 84)]⟩
abbrev QlI:Sh:=⟨[],[(50000,.bc 84)]⟩
def QeF:Fg:=VQ.f
def QlJ:TC:=aF Tryz.f128 [(26,pL 0 QeF),(421,.fg QlI.f),(13517,.fg QlH.f)]
def QlK:TC:=lb 0 QlJ
def QlL (x0:List Int)(x7 x8:Int):VS:=VQ.st (x0,(),x7,x8,()) ((),())
def QeG (x4:Int):VS:=QlH.st (x4,()) ((),())
def QeH  : VS:=QlI.st () ((),())
def QwM:VS->Option (Bool×List (Bool×Exit×VS)):=mkL VQ (fun x y=>(QB x.1 x.2.2.1 x.2.2.2.1)) (fun x y=>[(((QA YE (x.1.drop x.2.2.2.1.toNat)).isSome),.ret,QeG (x.2.2.2.1+((QA YE (x.1.drop x.2.2.2.1.toNat)).getD 0:Nat))),(true,.exit 0,QeH)])
def QeI:G:=gG 19 [(81,QlG)] (Ls [QwM])
def VR (x0:List Int)(x7 x8:Int):OX:=Qx (Qz QeI QeF QlK) (QlL x0 x7 x8)
def E5 (kk:List Int->Int->Int->OX)(x0:List Int)(x7 x8:Int):OX:=br (ilt x8 x7) (br (cIx x0 x8) (br (YE (lgt tI x0 (Int.toNat x8))) (some (.ret,QeG x8)) (kk x0 x7 (Qj .i64 x8 1))) none) (some (.exit 0,QeH))
def VT (x0:List Int)(x7 x8:Int):OX:=
 let a1:=QA YE (x0.drop x8.toNat)
 br (a1.isSome) (some (.ret,QeG (x8+(a1.getD 0:Nat))))<|some (.exit 0,QeH)
theorem QlM (x0:List Int)(x7 x8:Int):VR x0 x7 x8=E5 VR x0 x7 x8:=lnT (x:=E5 (fun x0 x7 x8=>some (.normal,QlL x0 x7 x8)) x0 x7 x8) (by simp only [E5,nxA];rfl)
def QlN (p0:List Int):OV:=
 let a1:=(QA YE (p0.drop (0:Int).toNat))
 br (QB p0 (Qc p0) (0:Int)) (br (a1.isSome) (some (.t tI ((0:Int)+(a1.getD 0:Nat)),[.box (.c (.func (.func 84) #[] #[]))])) (some (.t tI (-1),[.box (.c (.func (.func 84) #[] #[]))]))) none
theorem QwN (x0:List Int)(x7 x8:Int)(h:(QB x0 x7 x8)=true):VR x0 x7 x8=VT x0 x7 x8:=by
 obtain ⟨rfl,h3,k,rfl,hk⟩:=J5 h
 clear h
 refine Q7 x0 (fun k=>VR x0 (x0.length:Int) (k:Int)=VT x0 (x0.length:Int) (k:Int)) ?_ ?_ k hk
 ·rw [QlM]
  simp [E5,VT,QH,Qh,QA]
 ·intro k hk ih
  rw [QlM]
  simp only [E5,QH,QS,hk,BK,Qd,Bd,Q3 (show k<4611686018427387904 by omega),ih,Q2 (y:=tI) hk]
  simp only [VT,Bd,Bl hk,QA]
  cases h:YE x0[k] with
  |true=>simp [Qd]
  |false=>
   simp only [Qh,BJ,Dr]
   cases hq:QA YE (x0.drop (k+1)) with
   |none=>rfl
   |some j=>
    simp only [B1,B4,BS,Qd]
    congr 3
    omega
theorem QwO:LO QeI QeF QlK 0:=QI (s:=VQ) fun x y h _ q=>by simp only [QF,QG] at q;exact (QwN x.1 x.2.2.1 x.2.2.2.1 h).trans q
theorem QwP (l:List Int)(h:JK l=true):QlN l=some (.t tI (G6 l),[.box (.c (.func (.func 84) #[] #[]))]):=by
 simp only [JK,Ba] at h
 simp only [QlN,J6 h,Qd,BA,BG,G6]
 cases QA YE l<;>simp [Qd,Qh]
def QlO:Ent:=Y2 [.ty (.sl tI),.fn 81 [(50000,0)]] [.bc 84] (fun x y=>(JK x.1)) (fun x y=>(.t tI (G6 x.1))) (fun x y=>[.box (.c (.func (.func 84) #[] #[]))])
theorem QwQ:EM 128 QlO:=mS (lk:=lkL (lkc QwO lkn)) QeI QlJ [((.t 4),some tI)] false (gB (gD QwL gN)) fun m=>Xn (YI m fun x y hok=>kT (QwP x.1 hok))
def U7 (l:List Int):Bool:= !l.all U5
def QwR:TC:=aF Tryz.f82 []
def QwS:G:=gG 9 [(128,QlO)] (fun _ _=>none)
def QlP (p0:List Int):OV:=br (JK p0) (some (.t .bool (ige (G6 p0) 0),[.box (.c (.func (.func 84) #[] #[]))])) none
theorem QwT (l:List Int)(h:JK l=true):QlP l=some (.t .bool (U7 l),[.box (.c (.func (.func 84) #[] #[]))]):=by
 simp only [QlP,h,Qd]
 have e:ige (G6 l) 0=U7 l:=by
  have e2:U7 l=l.any YE:=by
   unfold U7
   rw [List.not_all_eq_any_not]
   rfl
  rw [e2]
  unfold G6
  cases hq:QA YE l with
  |none=>rw [IG.1 hq];rfl
  |some k=>
   rw [←Qa4,hq]
   simp only [ige,B4,Ba]
   omega
 rw [e]
def QlQ:Ent:=Y2 [.ty (.sl tI),.fn 81 [(50000,0)]] [.bc 84] (fun x y=>(JK x.1)) (fun x y=>(.t .bool (U7 x.1))) (fun x y=>[.box (.c (.func (.func 84) #[] #[]))])
theorem QwU:EM 82 QlQ:=mS QwS QwR [((.t 4),some .bool)] false (gB (gD QwQ gN)) fun m=>Xn (YI m fun x y hok=>kT (QwT x.1 hok))
def QlR:TC:=aF Tryz.f80 []
def QlS:List (RV×Option Ty):=[((.t 2),none)]
def QlT:G:=gG 4 [] (fun _ _=>none)
def QlU  : OV:=some (.fn 81 [(.ptr 50000 0)],[.box (.c (.func (.func 84) #[] #[]))])
theorem QwV  : Jq QlT QlR QlS true [.c (.func (.func 84) ⟨[]⟩ ⟨[]⟩)] []=QlU  :=by kernel_rfl
theorem QwW:QlU=some (.fn 81 [.ptr 50000 0],[.box (.c (.func (.func 84) #[] #[]))]):=rfl
def QlV:Ent:=Y2 [.cf 84] [] (fun x y=>true) (fun x y=>(.fn 81 [(.ptr 50000 0)])) (fun x y=>[.box (.c (.func (.func 84) #[] #[]))])
theorem QwX:EM 80 QlV:=mS QlT QlR QlS true (gB gN) fun m=>Xn (YI m fun x y _=>(QwV ).trans (QwW ))
end
end Go.Proofs.YtmjnnemhoeolgaaGreat.K
noncomputable section
namespace Go.Proofs.YtmjnnemhoeolgaaGreat.K
open Go.RowKit
noncomputable section
theorem QAN {c:Int}(h:ieq (QL c).2 0=true):1<=c/\c<=16:=by
 unfold QL at h
 split at h
 ·simp [ieq] at h
 ·omega
theorem QgJ {l:List Int}(h:Z2 l=true): ∀ (k:Nat) (hk:k<l.length),(1<=l[k]/\l[k]<=16)∧ ¬ l[k]∈l.take k:=by
 intro k hk
 simp only [Z2,YY,Bi,List.mem_range'_1,Bc,Br] at h
 obtain ⟨h1,h2⟩:=h k ⟨by omega,by omega⟩
 simp only [Bk,Bh hk,BS] at h1 h2
 refine ⟨QAN h1,fun hm=> ?_⟩
 simp only [Jd] at h2
 rw [BC.2 hm] at h2
 cases h2
theorem QpI {l:List Int}(h:Z2 l=true):l.Nodup:=by
 have h2:=QgJ h
 rw [List.nodup_iff_pairwise_ne,List.pairwise_iff_getElem]
 intro i j hi hj hij he
 refine (h2 j hj).2 ?_
 rw [←he]
 exact List.mem_iff_getElem.2 ⟨i,by rw [B2];omega,by rw [List.getElem_take]⟩
theorem QAO {l:List Int}(h:Z2 l=true):l.length<=16:=by
 have h1:=QpI h
 have h2:=QgJ h
 have h3:l ⊆ [1,2,3,4,5,6,7,8,9,10,11,12,13,14,15,16]:=by
  intro x hx
  obtain ⟨k,hk,rfl⟩:=List.mem_iff_getElem.1 hx
  have:=(h2 k hk).1
  simp only [BD,BQ,De]
  omega
 exact h1.length_le_of_subset h3
abbrev JC (e:Endpoint):List Int:=e.2.2.2.1
abbrev JO (e:Endpoint):List Identity:=e.2.2.2.2.2.1
abbrev XZ (e:Endpoint):List Int:=e.2.2.2.2.2.2.1
abbrev WS (e:Endpoint):List Int:=e.2.2.2.2.2.2.2.1
def X5 (x:Identity):Bool:=Wk x.1 x.2.1 x.2.2.1
def X6 (x:Identity):Bool:=Xj x.2.2.1
def Jo (e:Endpoint):Bool:=Jk e.1&&decide ((JC e).length<=100000/\(JO e).length<=100000/\(XZ e).length<=100000/\(WS e).length<=100000)&&(JO e).all X6
def QW (e:Endpoint):Bool:=
 XK e.1&&(!ilt e.2.1 1&&(!igt e.2.1 e.2.2.1&&(!igt e.2.2.1 4&&(Z2 (JC e)&&(!igt (Qc (JO e)) 4&&(!igt (Qc (XZ e)) 16&&(Ws (XZ e)&&(Ws (WS e)&&((JO e).all X5&&((XZ e).all Jf&&(WS e).all U5))))))))))
def YQ (e:Endpoint):Int:=bif QW e then 0 else 19
theorem QAP (e:Endpoint):ieq (YQ e) 0=QW e:=by
 unfold YQ
 cases QW e<;>rfl
theorem QpJ (e:Endpoint):ine (YQ e) 0= !QW e:=by
 unfold YQ
 cases QW e<;>rfl
abbrev Qbs:Sh:=⟨[(1,.ptr 1 0),(56,.ty (.sl JT)),(57,.ty tI),(58,.ty tI)],[(1,.box QD)]⟩
abbrev QpK:Sh:=⟨[(2,.ty tI)],[]⟩
abbrev QpL:Sh:=⟨[(1,.ptr 1 0)],[(1,.box QD)]⟩
def QgK:Fg:=Qbs.f
def QpM:TC:=aF Tryz.f46 [(122,pL 0 QgK),(1957,.fg QpL.f),(62669,.fg QpK.f),(252,pD [(0,[1]),(1,[1]),(2,[]),(3,[74,5074,10074,15074]),(4,[74,75,5074,5075,10074,10075,15074,15075]),(5,[]),(6,[1]),(7,[1]),(8,[]),(9,[80,5080,10080,15080]),(10,[80,81,5080,5081,10080,10081,15080,15081]),(11,[])] (.of [0,1,2,3,4,5,6,7,8,9,10,11]))]
def QpN:TC:=lb 0 QpM
def QpO (x56:List Identity)(x57 x58:Int)(y1:Endpoint):VS:=Qbs.st ((),x56,x57,x58,()) (y1,())
def QgL (x2:Int):VS:=QpK.st (x2,()) ()
def QgM (y1:Endpoint):VS:=QpL.st ((),()) (y1,())
def QAQ:VS->Option (Bool×List (Bool×Exit×VS)):=mkL Qbs (fun x y=>(QB x.2.1 x.2.2.1 x.2.2.2.1&&x.2.1.all X6)) (fun x y=>[((!(x.2.1.drop x.2.2.2.1.toNat).all X5),.ret,QgL (19)),(true,.exit 0,QgM (y.1))])
def QgN:G:=gG 83 [(76,Qlc),(77,Qln),(78,Qlh),(79,Qkh),(80,QlE),(80,QlV),(82,QlQ),(82,Qlz)] (Ls [QAQ])
def Qbt (x56:List Identity)(x57 x58:Int)(y1:Endpoint):OX:=Qx (Qz QgN QgK QpN) (QpO x56 x57 x58 y1)
def IV (kk:List Identity->Int->Int->Endpoint->OX)(x56:List Identity)(x57 x58:Int)(y1:Endpoint):OX:=
 let a1:=lgt JT x56 (Int.toNat x58)
 br (ilt x58 x57) (br (cIx x56 x58) (br (Vg (a1.1) ((a1.2).1) (((a1.2).2).1)) (br (!(Wk (a1.1) ((a1.2).1) (((a1.2).2).1))) (some (.ret,QgL 19)) (kk x56 x57 (Qj .i64 x58 1) y1)) none) none) (some (.exit 0,QgM y1))
def Qbu (x56:List Identity)(x57 x58:Int)(y1:Endpoint):OX:=br (!(x56.drop x58.toNat).all X5) (some (.ret,QgL (19)))<|some (.exit 0,QgM (y1))
theorem QpP (x56:List Identity)(x57 x58:Int)(y1:Endpoint):Qbt x56 x57 x58 y1=IV Qbt x56 x57 x58 y1:=lnT (x:=IV (fun x56 x57 x58 y1=>some (.normal,QpO x56 x57 x58 y1)) x56 x57 x58 y1) (by simp only [IV,nxA];rfl)
def r_f46 (p0:Endpoint):OV:=
 let a1:=(((((((p0).2).2).2).2).2).2)
 br (Jk p0.1) (br (!(XK p0.1)) (some (.t tI 19,[])) (br (ilt p0.2.1 1) (some (.t tI 19,[])) (br (igt p0.2.1 p0.2.2.1) (some (.t tI 19,[])) (br (igt p0.2.2.1 4) (some (.t tI 19,[])) (br (JK p0.2.2.2.1) (br (!(Z2 p0.2.2.2.1)) (some (.t tI 19,[])) (br (igt (Qc p0.2.2.2.2.2.1) 4) (some (.t tI 19,[])) (br (igt (Qc p0.2.2.2.2.2.2.1) 16) (some (.t tI 19,[])) (br (JK p0.2.2.2.2.2.2.1) (br (!(Ws p0.2.2.2.2.2.2.1)) (some (.t tI 19,[])) (br (JK p0.2.2.2.2.2.2.2.1) (br (!(Ws p0.2.2.2.2.2.2.2.1)) (some (.t tI 19,[])) (br (QB p0.2.2.2.2.2.1 (Qc p0.2.2.2.2.2.1) (0:Int)&&p0.2.2.2.2.2.1.all X6) (br (!(p0.2.2.2.2.2.1.drop (0:Int).toNat).all X5) (some (.t tI (19),[])) (br (JK (a1.1)) (br (U6 (a1.1)) (some (.t tI 19,[])) (br (JK ((a1.2).1)) (br (U7 ((a1.2).1)) (some (.t tI 19,[])) (some (.t tI 0,[]))) none)) none)) none)) none)) none)))) none))))) none
theorem QAR (x56:List Identity)(x57 x58:Int)(y1:Endpoint)(h:(QB x56 x57 x58&&x56.all X6)=true):Qbt x56 x57 x58 y1=Qbu x56 x57 x58 y1:=by
 simp only [Bc,Bi] at h
 obtain ⟨h0,hc⟩:=h
 obtain ⟨rfl,h3,k,rfl,hk⟩:=J5 h0
 clear h0
 refine Q7 x56 (fun k=>Qbt x56 (x56.length:Int) (k:Int) y1=Qbu x56 (x56.length:Int) (k:Int) y1) ?_ ?_ k hk
 ·rw [QpP]
  simp only [IV,Qbu,QH,Dg,Dp,Qh,Bd,Dd,List.all_nil,BM]
 ·intro k hk ih
  rw [QpP]
  have hx:Vg x56[k].1 x56[k].2.1 x56[k].2.2.1=true:=hc x56[k] (BE hk)
  simp only [IV,QH,QS,hk,BK,Qd,Bd,Q3 (show k<4611686018427387904 by omega),Q2 (y:=JT) hk,hx,ih]
  simp only [Qbu,Bd,Bl hk,BZ,X5]
  cases Wk x56[k].1 x56[k].2.1 x56[k].2.2.1<;>rfl
theorem QAS:LO QgN QgK QpN 0:=QI (s:=Qbs) fun x y h _ q=>by simp only [QF,QG] at q;exact (QAR x.2.1 x.2.2.1 x.2.2.2.1 y.1 h).trans q
theorem s_f46 (e:Endpoint)(h:Jo e=true):r_f46 e=some (.t tI (YQ e),[]):=by
 simp only [Jo,Bc,Ba] at h
 obtain ⟨⟨h1,h2,h3,h4,h5⟩,h6⟩:=h
 have q2:JK (JC e)=true:=Be h2
 have q4:JK (XZ e)=true:=Be h4
 have q5:JK (WS e)=true:=Be h5
 unfold YQ
 simp only [r_f46,h1,q2,q4,q5,J6 h3,h6,Dh,Qd,BA,BG,U6,U7]
 refine br9 (fun g=>by simp only [Br] at g;simp [QW,g]) fun g1=>br9 (fun g=>by simp [QW,g]) fun g2=>br9 (fun g=>by simp [QW,g]) fun g3=>br9 (fun g=>by simp [QW,g]) fun g4=>br9 (fun g=>by simp only [Br] at g;simp [QW,g]) fun g5=>br9 (fun g=>by simp [QW,g]) fun g6=>br9 (fun g=>by simp [QW,g]) fun g7=>br9 (fun g=>by simp only [Br] at g;simp [QW,g]) fun g8=>br9 (fun g=>by simp only [Br] at g;simp [QW,g]) fun g9=>br9 (fun g=>by simp only [Br] at g;simp [QW,g]) fun g10=>br9 (fun g=>by simp only [Br] at g;simp [QW,g]) fun g11=>br9 (fun g=>by simp only [Br] at g;simp [QW,g]) fun g12=> ?_
 simp only [Bool.not_eq_false'] at g1 g5 g8 g9 g10 g11 g12
 have:QW e=true:=by
  simp only [QW,g1,g2,g3,g4,g5,g6,g7,g8,g9,g10,g11,g12,Bool.not_false,Dh]
 rw [this]
 rfl
def Qbv:Ent:=Ql (.pr QD .nil) (fun x=>(Jo x.1)) (fun x=>(.t tI (YQ x.1)))
theorem QgO:EM 46 Qbv:=mS (lk:=lkL (lkc QAS lkn)) QgN QpM [((.t 2),some tI)] false (gB (gD ms_f76 (gD ms_f77 (gD ms_f78 (gD ms_f79 (gD QwH (gD QwX (gD QwU (gD QwE gN))))))))) fun m=>Qr m fun x hok=>kT (s_f46 x.1 hok)
end
end Go.Proofs.YtmjnnemhoeolgaaGreat.K
noncomputable section
namespace Go.Proofs.YtmjnnemhoeolgaaGreat.K
open Go.RowKit
def G2 (b:Ty):VO->VO
 |.box (.ag [.t b' x])=>if b'=b/\b'.row=false then .box (.t b' x) else .box (.ag [.t b' x])
 |o=>o
def Ur:List Ty->List VO->List VO
 |b::bs,o::os=>G2 b o::Ur bs os
 |_,os=>os
def G3 (l:List SV)(bs:List Ty)(ok:SVt l->YG bs->Bool)(F:SVt l->YG bs->V):Ent:=fun args objs=>Zw l bs ok F args (Ur bs objs)
section
variable {P:Program}{X:Nat->Nat->Prop}{w:World}{σ:Pl}
theorem Qv5 {b:Ty}{o:VO}{k:Nat}(h:OAt X w σ k o):OAt X w σ k (G2 b o):=by
 unfold G2
 split
 ·rename_i b' x
  split
  ·rename_i hq
   obtain ⟨g,ty,vs,h1,h2,h3,h4⟩:=h
   refine ⟨g,ty,vs,h1,h2, ?_,h4⟩
   have e1:(V.ag [.t b' x]).d.cells=[b'.d x]:=rfl
   have e2:(V.t b' x).d.cells=[b'.d x]:=by
    show (b'.d x).cells=_
    rw [Ty.d_cells,Ty.d_one b' x hq.2]
   rw [e2, ← e1]
   exact h3
  ·exact h
 ·exact h
theorem Qv6 {b:Ty}{o:VO}(h:o≠ .no):G2 b o≠ .no:=by
 unfold G2
 split
 ·split<;>simp
 ·exact h
theorem VA: ∀ (bs:List Ty) (os:List VO),(Ur bs os).length=os.length
 | [],os=>rfl
 |b::bs,[]=>rfl
 |b::bs,o::os=>by rw [Ur,Bo,Bo,VA bs os]
theorem Qk3: ∀ (bs:List Ty) (os:List VO) (j:Nat) (o:VO),(Ur bs os)[j]? = some o→ ∃ o',os[j]? = some o'/\(o=o'∨ ∃ b,o=G2 b o')
 | [],os,j,o,h=>⟨o,h,.inl rfl⟩
 |b::bs,[],j,o,h=>⟨o,h,.inl rfl⟩
 |b::bs,o1::os,0,o,h=>by
  simp only [Ur,BW,Bb] at h
  exact ⟨o1,rfl,.inr ⟨b,h.symm⟩⟩
 |b::bs,o1::os,j+1,o,h=>by
  simp only [Ur,BU] at h
  obtain ⟨o',h1,h2⟩:=Qk3 bs os j o h
  exact ⟨o',by rw [BU];exact h1,h2⟩
theorem E0 {f:FuncId}{l:List SV}{bs:List Ty}{ok:SVt l->YG bs->Bool}{F:SVt l->YG bs->V}(hM:Qu P f (Qq (Zw l bs ok F))):Qu P f (Qq (G3 l bs ok F)):=by
 intro args objs r os hF X w σ vs hfin hl hc
 have:=hM args (Ur bs objs) r os hF X w σ vs hfin ⟨fun j o hj=>by
  obtain ⟨o',h1,h2⟩:=Qk3 bs objs j o hj
  obtain ⟨g1,g2⟩:=hl.at_ j o' h1
  rcases h2 with rfl|⟨b,rfl⟩
  ·exact ⟨g1,g2⟩
  ·exact ⟨Qv5 g1,Qv6 g2⟩,fun i j b hij hi hj=>hl.apart i j b hij (by rwa [VA] at hi) (by rwa [VA] at hj)⟩ hc
 rw [VA] at this
 exact this
end
end Go.Proofs.YtmjnnemhoeolgaaGreat.K
noncomputable section
namespace Go.Proofs.YtmjnnemhoeolgaaGreat.K
open Go.RowKit
noncomputable section
end
end Go.Proofs.YtmjnnemhoeolgaaGreat.K
noncomputable section
namespace Go.Proofs.YtmjnnemhoeolgaaGreat.K
open Go.RowKit
noncomputable section
-- loop 0: (x0 : (List ByteArray)) (x1 : ByteArray) (x5 : Int); out: ('ret',) (x4 : Bool); ('exit', 0)
-- loop 0: (x0 : (List Certificate)) (x1 : (List Int)) (x2 : (List Int)) (x3 : Int) (x4 : ByteArray) (x11 : (List Int)) (x12 : Int) (x13 : Int); out: ('ret',) (x10 : Int); ('exit', 2) (x0 : (List Certificate)) (x1 : (List Int)) (x2 : (List Int)) (x3 : Int) (x4 : ByteArray) (x11 : (List Int)) (x12 : Int)
-- loop 1: (x0 : (List Certificate)) (x1 : (List Int)) (x2 : (List Int)) (x3 : Int) (x4 : ByteArray) (x11 : (List Int)) (x12 : Int); out: ('ret',) (x10 : Int); ('exit', 0)
end
end Go.Proofs.YtmjnnemhoeolgaaGreat.K
noncomputable section
namespace Go.Proofs.YtmjnnemhoeolgaaGreat.K
open Go.RowKit
noncomputable section
def Z3 (x:Identity)(s:Suite):Bool:=ieq s.2.2.2.1.1 0||ieq x.1.1 s.2.2.2.1.1
def QBr:TC:=aF Tryz.f173 []
def g_f173:G:=gG 17 [] (fun _ _=>none)
def Qqf (p0:Identity)(d0:Suite):OV:=br (ieq d0.2.2.2.1.1 0) (some (.t .bool true,[.box (.t QR d0)])) (some (.t .bool (ieq p0.1.1 d0.2.2.2.1.1),[.box (.t QR d0)]))
theorem s_f173 (x:Identity)(s:Suite):Qqf x s=some (.t .bool (Z3 x s),[.box (.t QR s)]):=by
 simp only [Qqf]
 unfold Z3
 cases ieq s.2.2.2.1.1 0<;>rfl
def Qqg:Ent:=G3 [.ty JT,.ptr 50000 0] [QR] (fun x d=>true) (fun x d=>(.t .bool (Z3 x.1 d.1)))
theorem QBs:EM 173 Qqg:=mS g_f173 QBr [((.t 3),some .bool)] false (gB gN) fun m=>E0 (Zo m fun x d _=>kT (s_f173 x.1 d.1))
def QbD (l:List Identity)(_s:Suite):Bool:=decide (l.length<=100000)
def Gq (l:List Identity)(s:Suite):Int:=match QA (fun x=>Z3 x s) l with|some k=>(k:Int)|none=> -1
abbrev QbE:Sh:=⟨[(0,.ty (.sl JT)),(1,.fn 173 [(50000,0)]),(7,.ty tI),(8,.ty tI)],[(50000,.box QR)]⟩
abbrev Qqh:Sh:=⟨[(4,.ty tI)],[(50000,.box QR)]⟩
abbrev Qqi:Sh:=⟨[],[(50000,.box QR)]⟩
def Qg7:Fg:=QbE.f
def Qqj:TC:=aF Tryz.f172 [(26,pL 0 Qg7),(421,.fg Qqi.f),(13517,.fg Qqh.f)]
def Qqk:TC:=lb 0 Qqj
def Qql (x0:List Identity)(x7 x8:Int)(Qa:Suite):VS:=QbE.st (x0,(),x7,x8,()) (Qa,())
def Qg8 (x4:Int)(Qa:Suite):VS:=Qqh.st (x4,()) (Qa,())
def Qg9 (Qa:Suite):VS:=Qqi.st () (Qa,())
def QBt:VS->Option (Bool×List (Bool×Exit×VS)):=mkL QbE (fun x y=>(QB x.1 x.2.2.1 x.2.2.2.1)) (fun x y=>[(((QA (fun x=>Z3 x y.1) (x.1.drop x.2.2.2.1.toNat)).isSome),.ret,Qg8 (x.2.2.2.1+((QA (fun x=>Z3 x y.1) (x.1.drop x.2.2.2.1.toNat)).getD 0:Nat)) (y.1)),(true,.exit 0,Qg9 (y.1))])
def Qha:G:=gG 19 [(173,Qqg)] (Ls [QBt])
def QbF (x0:List Identity)(x7 x8:Int)(Qa:Suite):OX:=Qx (Qz Qha Qg7 Qqk) (Qql x0 x7 x8 Qa)
def I0 (kk:List Identity->Int->Int->Suite->OX)(x0:List Identity)(x7 x8:Int)(Qa:Suite):OX:=br (ilt x8 x7) (br (cIx x0 x8) (br (Z3 (lgt JT x0 (Int.toNat x8)) Qa) (some (.ret,Qg8 x8 Qa)) (kk x0 x7 (Qj .i64 x8 1) Qa)) none) (some (.exit 0,Qg9 Qa))
def QbG (x0:List Identity)(x7 x8:Int)(Qa:Suite):OX:=br ((QA (fun x=>Z3 x Qa) (x0.drop x8.toNat)).isSome) (some (.ret,Qg8 (x8+((QA (fun x=>Z3 x Qa) (x0.drop x8.toNat)).getD 0:Nat)) (Qa)))<|some (.exit 0,Qg9 (Qa))
theorem Qqm (x0:List Identity)(x7 x8:Int)(Qa:Suite):QbF x0 x7 x8 Qa=I0 QbF x0 x7 x8 Qa:=lnT (x:=I0 (fun x0 x7 x8 Qa=>some (.normal,Qql x0 x7 x8 Qa)) x0 x7 x8 Qa) (by simp only [I0,nxA];rfl)
def Qqn (p0:List Identity)(d0:Suite):OV:=
 let a1:=(p0.drop (0:Int).toNat)
 br (QB p0 (Qc p0) (0:Int)) (br ((QA (fun x=>Z3 x d0) a1).isSome) (some (.t tI ((0:Int)+((QA (fun x=>Z3 x d0) a1).getD 0:Nat)),[.box (.t QR (d0))])) (some (.t tI (-1),[.box (.t QR (d0))]))) none
theorem QBu (x0:List Identity)(x7 x8:Int)(Qa:Suite)(h:(QB x0 x7 x8)=true):QbF x0 x7 x8 Qa=QbG x0 x7 x8 Qa:=by
 obtain ⟨rfl,h3,k,rfl,hk⟩:=J5 h
 clear h
 refine Q7 x0 (fun k=>QbF x0 (x0.length:Int) (k:Int) Qa=QbG x0 (x0.length:Int) (k:Int) Qa) ?_ ?_ k hk
 ·rw [Qqm]
  simp [I0,QbG,QH,Qh,QA]
 ·intro k hk ih
  rw [Qqm]
  simp only [I0,QH,QS,hk,BK,Qd,Bd,Q3 (show k<4611686018427387904 by omega),ih,Q2 (y:=JT) hk]
  simp only [QbG,Bd,Bl hk,QA]
  cases h:(Z3 x0[k] Qa) with
  |true=>simp [Qd]
  |false=>
   simp only [Qh,BJ,Dr]
   cases hq:QA (fun x=>Z3 x Qa) (x0.drop (k+1)) with
   |none=>rfl
   |some j=>
    simp only [B1,B4,BS,Qd]
    congr 3
    omega
theorem QBv:LO Qha Qg7 Qqk 0:=QI (s:=QbE) fun x y h _ q=>by simp only [QF,QG] at q;exact (QBu x.1 x.2.2.1 x.2.2.2.1 y.1 h).trans q
theorem QBw (l:List Identity)(s:Suite)(h:QbD l s=true):Qqn l s=some (.t tI (Gq l s),[.box (.t QR s)]):=by
 have hl:l.length<=100000:=BI h
 simp only [Qqn,J6 hl,Qd,BA,BG,Gq]
 cases QA (fun x=>Z3 x s) l<;>simp [Qd,Qh]
def Qqo:Ent:=G3 [.ty (.sl JT),.fn 173 [(50000,0)]] [QR] (fun x d=>(QbD x.1 d.1)) (fun x d=>(.t tI (Gq x.1 d.1)))
theorem QBx:EM 172 Qqo:=mS (lk:=lkL (lkc QBv lkn)) Qha Qqj [((.t 4),some tI)] false (gB (gD QBs gN)) fun m=>E0 (Zo m fun x d hok=>kT (QBw x.1 d.1 hok))
def Zg (e:Endpoint)(c:Int):Int×Bool:=bif ine (QL c).2 0 then (-1,false) else (Gq (JO e) (QL c).1,ige (Gq (JO e) (QL c).1) 0)
def F8 (e:Endpoint)(_c:Int):Bool:=decide ((JO e).length<=100000)
def QBy:TC:=aF Tryz.f136 []
def g_f136:G:=gG 23 [(124,OB),(172,Qqo)] (fun _ _=>none)
def Qqp (p0:Endpoint)(p1:Int):OV:=
 let a1:=Gq p0.2.2.2.2.2.1 ((QL p1).1)
 br (ine ((QL p1).2) 0) (some (.tu [(.t tI (-1)),(.t .bool false)],[])) (br (QbD p0.2.2.2.2.2.1 ((QL p1).1)) (some (.tu [(.t tI a1),(.t .bool (ige a1 0))],[])) none)
theorem s_f136 (e:Endpoint)(c:Int)(h:F8 e c=true):Qqp e c=some (.tu [.t tI (Zg e c).1,.t .bool (Zg e c).2],[]):=by
 have hk:QbD (JO e) (QL c).1=true:=h
 simp only [Qqp,hk,Qd]
 unfold Zg
 cases ine (QL c).2 0<;>rfl
def Qhb:Ent:=Ql (.pr QD (.pr tI .nil)) (fun x=>(F8 x.1 x.2.1)) (fun x=>(.tu [(.t tI ((Zg x.1 x.2.1).1)),(.t .bool ((Zg x.1 x.2.1).2))]))
theorem Qqq:EM 136 Qhb:=mS g_f136 QBy [((.t 4),some tI),((.t 5),some .bool)] false (gB (gD QcO (gD QBx gN))) fun m=>Qr m fun x hok=>kT (s_f136 x.1 x.2.1 hok)
def Gr (e:Endpoint)(o:List Int):Bool:=decide ((JO e).length<=100000/\(JC e).length<=100000/\o.length<=100000)
def Gs (e:Endpoint)(o:List Int)(v c:Int):Bool:=
 ieq (QL c).2 0&&(ige v (QL c).1.2.2.2.2.2.2.1&&(ige (QL c).1.2.2.2.2.2.2.2.1 v&&(Jd o c&&(Jd (JC e) c&&(Zg e c).2))))
abbrev tkE (t:Talk):Endpoint:=t.1
abbrev tkV (t:Talk):Int:=t.2.1
abbrev tkO (t:Talk):List Int:=t.2.2.1
def UB (t:Talk)(c:Int):Bool:=Gs (tkE t) (tkO t) (tkV t) c
def WU (t:Talk)(_c:Int):Bool:=Gr (tkE t) (tkO t)
def QBz:TC:=aF Tryz.f135 []
def g_f135:G:=gG 53 [(124,OB),(125,Vs),(136,Qhb)] (fun _ _=>none)
def Qqr (p0:Talk)(p1:Int):OV:=
 let a1:=((((((((QL p1).1).2).2).2).2).2).2)
 br (ine ((QL p1).2) 0) (some (.t .bool false,[])) (br (ilt p0.2.1 (a1.1)) (some (.t .bool false,[])) (br (igt p0.2.1 ((a1.2).1)) (some (.t .bool false,[])) (br (J4 p0.2.2.1 p1) (br (!(Jd p0.2.2.1 p1)) (some (.t .bool false,[])) (br (J4 p0.1.2.2.2.1 p1) (br (!(Jd p0.1.2.2.2.1 p1)) (some (.t .bool false,[])) (br (F8 p0.1 p1) (some (.t .bool ((Zg p0.1 p1).2),[])) none)) none)) none)))
theorem QBA (a b:Int):ine a b= !ieq a b:=rfl
theorem QBB (a b:Int):ilt a b= !ige a b:=by simp only [ilt,ige];by_cases h:a<b<;>simp [h]<;>omega
theorem s_f135 (t:Talk)(c:Int)(h:WU t c=true):Qqr t c=some (.t .bool (UB t c),[]):=by
 simp only [WU,Gr,Ba] at h
 have c1:J4 t.2.2.1 c=true:=Be h.2.2
 have c2:J4 t.1.2.2.2.1 c=true:=Be h.2.1
 have c3:F8 t.1 c=true:=Be h.1
 simp only [Qqr,c1,c2,c3,Qd,QBA,QBB]
 show _=some (V.t .bool (Gs t.1 t.2.2.1 t.2.1 c),[])
 unfold Gs
 cases ieq (QL c).2 0 with
 |false=>rfl
 |true=>
  cases ige t.2.1 (QL c).1.2.2.2.2.2.2.1 with
  |false=>rfl
  |true=>
   cases ige (QL c).1.2.2.2.2.2.2.2.1 t.2.1 with
   |false=>rfl
   |true=>
    cases Jd t.2.2.1 c with
    |false=>rfl
    |true=>cases Jd t.1.2.2.2.1 c<;>rfl
def Qhc:Ent:=Ql (.pr Oz (.pr tI .nil)) (fun x=>(WU x.1 x.2.1)) (fun x=>(.t .bool (UB x.1 x.2.1)))
theorem Qqs:EM 135 Qhc:=mS g_f135 QBz [((.t 4),some .bool)] false (gB (gD QcO (gD Qd7 (gD Qqq gN)))) fun m=>Qr m fun x hok=>kT (s_f135 x.1 x.2.1 hok)
def Gt (c s:Endpoint):Bool:=QW c&&QW s
def WV (c s:Endpoint):Bool:=Jo c&&Jo s
def QBC:TC:=aF Tryz.f132 []
def g_f132:G:=gG 13 [(46,Qbv)] (fun _ _=>none)
def Qqt (p0 p1:Endpoint):OV:=br (Jo p0) (br (ieq (YQ p0) 0) (br (Jo p1) (some (.t .bool (ieq (YQ p1) 0),[])) none) (some (.t .bool false,[]))) none
theorem s_f132 (c s:Endpoint)(h:WV c s=true):Qqt c s=some (.t .bool (Gt c s),[]):=by
 simp only [WV,Bc] at h
 simp only [Qqt,h.1,h.2,Qd,QAP]
 unfold Gt
 cases QW c<;>rfl
def Qqu:Ent:=Ql (.pr QD (.pr QD .nil)) (fun x=>(WV x.1 x.2.1)) (fun x=>(.t .bool (Gt x.1 x.2.1)))
theorem QBD:EM 132 Qqu:=mS g_f132 QBC [((.t 4),some .bool)] false (gB (gD QgO gN)) fun m=>Qr m fun x hok=>kT (s_f132 x.1 x.2.1 hok)
end
end Go.Proofs.YtmjnnemhoeolgaaGreat.K
