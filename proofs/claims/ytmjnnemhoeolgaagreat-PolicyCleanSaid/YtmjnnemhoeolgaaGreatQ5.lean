import Derived.Test.YtmjnnemhoeolgaaGreatQ4
import Derived.Shelf.Small.Strs
import Derived.Ground.NamesProg
set_option linter.unusedSimpArgs false
set_option linter.unusedVariables false
noncomputable section
namespace Go.Proofs.YtmjnnemhoeolgaaGreat.K
open Go.RowKit
noncomputable section
def Yw (a:Int):Int:=(ofF a).1.2.1
def QPP:TC:=aF Tryz.f126 []
def g_f126:G:=gG 12 [(166,Qix)] (fun _ _=>none)
def r_f126 (p0:Int):OV:=some (.t tI ((((ofF p0).1).2).1),[])
theorem s_f126 (a:Int):r_f126 a=some (.t tI (Yw a),[]):=rfl
def Qf9:Ent:=Qi (.pr tI .nil) (fun x=>true) (fun x=>(.t tI (Yw x.1)))
theorem Qoq:EM 126 Qf9:=mS g_f126 QPP [((.t 2),some tI)] false (gB (gD QrD gN)) fun m=>Qm m fun x _=>kT (s_f126 x.1)
def QBE:TC:=aF Tryz.f141 []
def QBF:List (RV×Option Ty):=[((.t 0),some (.sl UQ))]
def QBG:G:=gG 25 [] (fun _ _=>none)
def QBH  : OV:=some (.t (.sl UQ) ([((ByteArray.mk #[]),(0,())),((ByteArray.mk #[109,100,53]),(1,())),((ByteArray.mk #[115,104,97,49]),(1,())),((ByteArray.mk #[115,104,97,50,53,54]),(1,())),((ByteArray.mk #[115,104,97,51,56,52]),(1,())),((ByteArray.mk #[114,115,97]),(2,())),((ByteArray.mk #[100,115,97]),(2,())),((ByteArray.mk #[101,99,100,115,97]),(2,())),((ByteArray.mk #[101,100,50,53,53,49,57]),(2,())),((ByteArray.mk #[109,108,100,115,97]),(2,())),((ByteArray.mk #[114,115,97,107,120]),(3,())),((ByteArray.mk #[100,104,101]),(3,())),((ByteArray.mk #[101,99,100,104,101]),(3,())),((ByteArray.mk #[109,108,107,101,109]),(3,())),((ByteArray.mk #[114,99,52]),(4,())),((ByteArray.mk #[100,101,115,51]),(4,())),((ByteArray.mk #[97,101,115,99,98,99]),(4,())),((ByteArray.mk #[97,101,115,103,99,109]),(4,())),((ByteArray.mk #[99,104,97,99,104,97]),(4,())),((ByteArray.mk #[104,109,97,99,109,100,53]),(5,())),((ByteArray.mk #[104,109,97,99,115,104,97,49]),(5,())),((ByteArray.mk #[104,109,97,99,115,104,97,50,53,54]),(5,())),((ByteArray.mk #[97,101,97,100]),(5,()))]),[])
theorem e_f141  : J2 QBG QBE QBF false [] []=QBH  :=by kernel_rfl
def Qga:Ty.T (.sl UQ):=([((ByteArray.mk #[]),(0,())),((ByteArray.mk #[109,100,53]),(1,())),((ByteArray.mk #[115,104,97,49]),(1,())),((ByteArray.mk #[115,104,97,50,53,54]),(1,())),((ByteArray.mk #[115,104,97,51,56,52]),(1,())),((ByteArray.mk #[114,115,97]),(2,())),((ByteArray.mk #[100,115,97]),(2,())),((ByteArray.mk #[101,99,100,115,97]),(2,())),((ByteArray.mk #[101,100,50,53,53,49,57]),(2,())),((ByteArray.mk #[109,108,100,115,97]),(2,())),((ByteArray.mk #[114,115,97,107,120]),(3,())),((ByteArray.mk #[100,104,101]),(3,())),((ByteArray.mk #[101,99,100,104,101]),(3,())),((ByteArray.mk #[109,108,107,101,109]),(3,())),((ByteArray.mk #[114,99,52]),(4,())),((ByteArray.mk #[100,101,115,51]),(4,())),((ByteArray.mk #[97,101,115,99,98,99]),(4,())),((ByteArray.mk #[97,101,115,103,99,109]),(4,())),((ByteArray.mk #[99,104,97,99,104,97]),(4,())),((ByteArray.mk #[104,109,97,99,109,100,53]),(5,())),((ByteArray.mk #[104,109,97,99,115,104,97,49]),(5,())),((ByteArray.mk #[104,109,97,99,115,104,97,50,53,54]),(5,())),((ByteArray.mk #[97,101,97,100]),(5,()))])
theorem s_f141:QBH=some (.t (.sl UQ) Qga,[]):=rfl
def QBI:Ent:=Qi .nil (fun x=>true) (fun x=>(.t (.sl UQ) Qga))
theorem QPQ:EM 141 QBI:=mS QBG QBE QBF false (gB gN) fun m=>Qm m fun x _=>(e_f141 ).trans (s_f141)
def QPR:TC:=aF Tryz.f101 []
def g_f101:G:=gG 14 [(141,QBI)] (fun _ _=>none)
def QBJ (p0:Int):OV:=br (ilt p0 1) (some (.t tI 0,[])) (br (igt p0 22) (some (.t tI 0,[])) (br (cIx Qga p0) (some (.t tI (((lgt UQ Qga (Int.toNat p0)).2).1),[])) none))
theorem QPS {a:Int}(h1:1<=a)(h2:a<=22):a=1∨a=2∨a=3∨a=4∨a=5∨a=6∨a=7∨a=8∨a=9∨a=10∨a=11∨a=12∨a=13∨a=14∨a=15∨a=16∨a=17∨a=18∨a=19∨a=20∨a=21∨a=22:=by omega
theorem s_f101 (a:Int):QBJ a=some (.t tI (Yw a),[]):=by
 simp only [QBJ]
 refine QX (fun h1=> ?_) (fun h1=>QX (fun h2=> ?_) (fun h2=> ?_))
 ·have h1:a<1:=by simpa [ilt] using h1
  simp [Yw,ofF,h1,Om]
 ·have h2:22<a:=by simpa [igt] using h2
  simp [Yw,ofF,h2,Om]
 ·have h1: ¬ a<1:=by simpa [ilt] using h1
  have h2: ¬ 22<a:=by simpa [igt] using h2
  rcases QPS (a:=a) (by omega) (by omega) with rfl|rfl|rfl|rfl|rfl|rfl|rfl|rfl|rfl|rfl|rfl|rfl|rfl|rfl|rfl|rfl|rfl|rfl|rfl|rfl|rfl|rfl<;>rfl
def Qgb:Ent:=Qi (.pr tI .nil) (fun x=>true) (fun x=>(.t tI (Yw x.1)))
theorem Qor:EM 101 Qgb:=mS g_f101 QPR [((.t 2),some tI)] false (gB (gD QPQ gN)) fun m=>Qm m fun x _=>kT (s_f101 x.1)
def Qy (a b:Int):Keep:=(a,(b,()))
def QPT:TC:=aF Tryz.f196 []
def g_f196:G:=gG 8 [] (fun _ _=>none)
def r_f196 (p0 p1:Int):OV:=some (.t Qd (p0,(p1,())),[])
theorem s_f196 (a b:Int):r_f196 a b=some (.t Qd (Qy a b),[]):=rfl
def QBK:Ent:=Qi (.pr tI (.pr tI .nil)) (fun x=>true) (fun x=>(.t Qd (Qy x.1 x.2.1)))
theorem QPU:EM 196 QBK:=mS g_f196 QPT [((.c 4 true 2),some Qd)] false (gB gN) fun m=>Qm m fun x _=>kT (s_f196 x.1 x.2.1)
def QPV:TC:=aF Tryz.f143 []
def g_f143:G:=gG 8 [] (fun _ _=>none)
def r_f143 (p0 p1:Int):OV:=some (.t Qd (p0,(p1,())),[])
theorem s_f143 (a b:Int):r_f143 a b=some (.t Qd (Qy a b),[]):=rfl
def QBL:Ent:=Qi (.pr tI (.pr tI .nil)) (fun x=>true) (fun x=>(.t Qd (Qy x.1 x.2.1)))
theorem QPW:EM 143 QBL:=mS g_f143 QPV [((.c 4 true 2),some Qd)] false (gB gN) fun m=>Qm m fun x _=>kT (s_f143 x.1 x.2.1)
def Yj (c:Int)(n:ByteArray)(e s f m:Keep)(l o:Int):Suite:=(c,(n,(e,(s,(f,(m,(l,(o,()))))))))
def QPX:TC:=aF Tryz.f144 []
def g_f144:G:=gG 26 [] (fun _ _=>none)
def r_f144 (p0:Int)(p1:ByteArray)(p2 p3 p4 p5:Keep)(p6 p7:Int):OV:=some (.t Q8 (p0,(p1,((p2.1,(p2.2.1,())),((p3.1,(p3.2.1,())),((p4.1,(p4.2.1,())),((p5.1,(p5.2.1,())),(p6,(p7,())))))))),[])
theorem s_f144 (c:Int)(n:ByteArray)(e s f m:Keep)(l o:Int):r_f144 c n e s f m l o=some (.t Q8 (Yj c n e s f m l o),[]):=rfl
def QBM:Ent:=Qi (.pr tI (.pr .str (.pr Qd (.pr Qd (.pr Qd (.pr Qd (.pr tI (.pr tI .nil)))))))) (fun x=>true) (fun x=>(.t Q8 (Yj x.1 x.2.1 x.2.2.1 x.2.2.2.1 x.2.2.2.2.1 x.2.2.2.2.2.1 x.2.2.2.2.2.2.1 x.2.2.2.2.2.2.2.1)))
theorem QPY:EM 144 QBM:=mS g_f144 QPX [((.c 16 true 12),some Q8)] false (gB gN) fun m=>Qm m fun x _=>kT (s_f144 x.1 x.2.1 x.2.2.1 x.2.2.2.1 x.2.2.2.2.1 x.2.2.2.2.2.1 x.2.2.2.2.2.2.1 x.2.2.2.2.2.2.2.1)
def QBN:TC:=aF Tryz.f105 [(254,pD [(0,[1]),(1,[2]),(2,[4]),(3,[9]),(4,[]),(5,[1]),(6,[2]),(7,[4]),(8,[10]),(9,[]),(10,[1]),(11,[2]),(12,[5]),(13,[10]),(14,[]),(15,[]),(16,[]),(17,[5]),(18,[10]),(19,[]),(20,[]),(21,[2]),(22,[5]),(23,[10]),(24,[]),(25,[1]),(26,[2]),(27,[6]),(28,[10]),(29,[]),(30,[]),(31,[2]),(32,[6]),(33,[10]),(34,[]),(35,[13]),(36,[2]),(37,[6]),(38,[10]),(39,[]),(40,[13]),(41,[]),(42,[]),(43,[11]),(44,[]),(45,[13]),(46,[2]),(47,[7]),(48,[12]),(49,[]),(50,[]),(51,[]),(52,[8]),(53,[12]),(54,[]),(55,[13]),(56,[2]),(57,[14]),(58,[12]),(59,[]),(60,[1]),(61,[2]),(62,[8]),(63,[12]),(64,[]),(65,[13]),(66,[3]),(67,[7]),(68,[12]),(69,[]),(70,[13]),(71,[3]),(72,[14]),(73,[12]),(74,[]),(75,[]),(76,[3]),(77,[8]),(78,[12]),(79,[]),(80,[]),(81,[])] (.of [0,1,2,3,4,5,6,7,8,9,10,11,12,13,14,15,16,17,18,19,20,21,22,23,24,25,26,27,28,29,30,31,32,33,34,35,36,37,38,39,40,41,42,43,44,45,46,47,48,49,50,51,52,53,54,55,56,57,58,59,60,61,62,63,64,65,66,67,68,69,70,71,72,73,74,75,76,77,78,79,80,81]))]
def QBO:List (RV×Option Ty):=[((.t 0),some (.sl Q8))]
def QBP:G:=gG 110 [(143,QBL),(144,QBM)] (fun _ _=>none)
def Xk:Ty.T (.sl Q8):=
 let a1:=(Yj 9 (ByteArray.mk #[101,99,100,104,101,45,101,99,100,115,97,45,97,101,115,50,53,54,45,115,104,97,50,53,54]) (Qy 12 256) (Qy 7 0) (Qy 16 256) (Qy 21 0) 3 3)
 let a2:=(Yj 11 (ByteArray.mk #[101,99,100,104,101,45,101,99,100,115,97,45,97,101,115,50,53,54,45,103,99,109]) (Qy 12 384) (Qy 7 0) (Qy 17 256) (Qy 22 0) 3 3)
 let a3:=(Yj 10 (ByteArray.mk #[101,99,100,104,101,45,114,115,97,45,97,101,115,49,50,56,45,103,99,109]) (Qy 12 256) (Qy 5 0) (Qy 17 128) (Qy 22 0) 3 3)
 let a4:=(Yj 8 (ByteArray.mk #[101,99,100,104,101,45,114,115,97,45,97,101,115,49,50,56,45,115,104,97]) (Qy 12 256) (Qy 5 0) (Qy 16 128) (Qy 20 0) 1 3)
 let a5:=(Yj 7 (ByteArray.mk #[100,104,101,45,114,115,97,45,97,101,115,49,50,56,45,115,104,97]) (Qy 11 2048) (Qy 5 0) (Qy 16 128) (Qy 20 0) 1 3)
 let a6:=(Yj 16 (ByteArray.mk #[109,108,107,101,109,45,97,101,115,50,53,54,45,103,99,109]) (Qy 13 768) (0,(0,())) (Qy 17 256) (Qy 22 0) 4 4)
 let a7:=(Yj 4 (ByteArray.mk #[100,104,101,45,100,115,97,45,100,101,115,51,45,115,104,97]) (Qy 11 1024) (Qy 6 0) (Qy 15 168) (Qy 20 0) 1 3)
 let a8:=(Yj 5 (ByteArray.mk #[100,104,101,45,114,115,97,45,100,101,115,51,45,115,104,97]) (Qy 11 1024) (Qy 5 0) (Qy 15 168) (Qy 20 0) 1 3)
 let a9:=(Yj 12 (ByteArray.mk #[101,99,100,104,101,45,114,115,97,45,99,104,97,99,104,97]) (Qy 12 256) (Qy 5 0) (Qy 18 0) (Qy 22 0) 3 3)
 let a10:=(Yj 13 (ByteArray.mk #[114,115,97,45,97,101,115,50,53,54,45,103,99,109]) (Qy 10 0) (Qy 5 0) (Qy 17 256) (Qy 22 0) 3 3)
 let a11:=(Yj 6 (ByteArray.mk #[114,115,97,45,97,101,115,49,50,56,45,115,104,97]) (Qy 10 0) (Qy 5 0) (Qy 16 128) (Qy 20 0) 1 3)
 let a12:=(Yj 3 (ByteArray.mk #[114,115,97,45,100,101,115,51,45,115,104,97]) (Qy 10 0) (Qy 5 0) (Qy 15 168) (Qy 20 0) 1 3)
 let a13:=(Yj 1 (ByteArray.mk #[114,115,97,45,114,99,52,45,109,100,53]) (Qy 10 0) (Qy 5 0) (Qy 14 128) (Qy 19 0) 1 2)
 let a14:=(Yj 2 (ByteArray.mk #[114,115,97,45,114,99,52,45,115,104,97]) (Qy 10 0) (Qy 5 0) (Qy 14 128) (Qy 20 0) 1 3)
 let a15:=(Yj 14 (ByteArray.mk #[97,101,115,49,50,56,45,103,99,109]) (Qy 12 256) (0,(0,())) (Qy 17 128) (Qy 22 0) 4 4)
 let a16:=(Yj 15 (ByteArray.mk #[99,104,97,99,104,97]) (Qy 12 256) (0,(0,())) (Qy 18 0) (Qy 22 0) 4 4)
 let a17:=(((a13.2).2).2)
 let a18:=(((a14.2).2).2)
 let a19:=(((a12.2).2).2)
 let a20:=(((a11.2).2).2)
 let a21:=(((a10.2).2).2)
 let a22:=(((a15.2).2).2)
 let a23:=(((a16.2).2).2)
 let a24:=(((a7.2).2).2)
 let a25:=(((a8.2).2).2)
 let a26:=(((a5.2).2).2)
 let a27:=(((a4.2).2).2)
 let a28:=(((a1.2).2).2)
 let a29:=(((a3.2).2).2)
 let a30:=(((a2.2).2).2)
 let a31:=(((a9.2).2).2)
 let a32:=(((a6.2).2).2)
 ([(a13.1,((a13.2).1,(((((a13.2).2).1).1,(((((a13.2).2).1).2).1,())),(((a17.1).1,(((a17.1).2).1,())),((((a17.2).1).1,((((a17.2).1).2).1,())),(((((a17.2).2).1).1,(((((a17.2).2).1).2).1,())),((((a17.2).2).2).1,(((((a17.2).2).2).2).1,())))))))),(a14.1,((a14.2).1,(((((a14.2).2).1).1,(((((a14.2).2).1).2).1,())),(((a18.1).1,(((a18.1).2).1,())),((((a18.2).1).1,((((a18.2).1).2).1,())),(((((a18.2).2).1).1,(((((a18.2).2).1).2).1,())),((((a18.2).2).2).1,(((((a18.2).2).2).2).1,())))))))),(a12.1,((a12.2).1,(((((a12.2).2).1).1,(((((a12.2).2).1).2).1,())),(((a19.1).1,(((a19.1).2).1,())),((((a19.2).1).1,((((a19.2).1).2).1,())),(((((a19.2).2).1).1,(((((a19.2).2).1).2).1,())),((((a19.2).2).2).1,(((((a19.2).2).2).2).1,())))))))),(a7.1,((a7.2).1,(((((a7.2).2).1).1,(((((a7.2).2).1).2).1,())),(((a24.1).1,(((a24.1).2).1,())),((((a24.2).1).1,((((a24.2).1).2).1,())),(((((a24.2).2).1).1,(((((a24.2).2).1).2).1,())),((((a24.2).2).2).1,(((((a24.2).2).2).2).1,())))))))),(a8.1,((a8.2).1,(((((a8.2).2).1).1,(((((a8.2).2).1).2).1,())),(((a25.1).1,(((a25.1).2).1,())),((((a25.2).1).1,((((a25.2).1).2).1,())),(((((a25.2).2).1).1,(((((a25.2).2).1).2).1,())),((((a25.2).2).2).1,(((((a25.2).2).2).2).1,())))))))),(a11.1,((a11.2).1,(((((a11.2).2).1).1,(((((a11.2).2).1).2).1,())),(((a20.1).1,(((a20.1).2).1,())),((((a20.2).1).1,((((a20.2).1).2).1,())),(((((a20.2).2).1).1,(((((a20.2).2).1).2).1,())),((((a20.2).2).2).1,(((((a20.2).2).2).2).1,())))))))),(a5.1,((a5.2).1,(((((a5.2).2).1).1,(((((a5.2).2).1).2).1,())),(((a26.1).1,(((a26.1).2).1,())),((((a26.2).1).1,((((a26.2).1).2).1,())),(((((a26.2).2).1).1,(((((a26.2).2).1).2).1,())),((((a26.2).2).2).1,(((((a26.2).2).2).2).1,())))))))),(a4.1,((a4.2).1,(((((a4.2).2).1).1,(((((a4.2).2).1).2).1,())),(((a27.1).1,(((a27.1).2).1,())),((((a27.2).1).1,((((a27.2).1).2).1,())),(((((a27.2).2).1).1,(((((a27.2).2).1).2).1,())),((((a27.2).2).2).1,(((((a27.2).2).2).2).1,())))))))),(a1.1,((a1.2).1,(((((a1.2).2).1).1,(((((a1.2).2).1).2).1,())),(((a28.1).1,(((a28.1).2).1,())),((((a28.2).1).1,((((a28.2).1).2).1,())),(((((a28.2).2).1).1,(((((a28.2).2).1).2).1,())),((((a28.2).2).2).1,(((((a28.2).2).2).2).1,())))))))),(a3.1,((a3.2).1,(((((a3.2).2).1).1,(((((a3.2).2).1).2).1,())),(((a29.1).1,(((a29.1).2).1,())),((((a29.2).1).1,((((a29.2).1).2).1,())),(((((a29.2).2).1).1,(((((a29.2).2).1).2).1,())),((((a29.2).2).2).1,(((((a29.2).2).2).2).1,())))))))),(a2.1,((a2.2).1,(((((a2.2).2).1).1,(((((a2.2).2).1).2).1,())),(((a30.1).1,(((a30.1).2).1,())),((((a30.2).1).1,((((a30.2).1).2).1,())),(((((a30.2).2).1).1,(((((a30.2).2).1).2).1,())),((((a30.2).2).2).1,(((((a30.2).2).2).2).1,())))))))),(a9.1,((a9.2).1,(((((a9.2).2).1).1,(((((a9.2).2).1).2).1,())),(((a31.1).1,(((a31.1).2).1,())),((((a31.2).1).1,((((a31.2).1).2).1,())),(((((a31.2).2).1).1,(((((a31.2).2).1).2).1,())),((((a31.2).2).2).1,(((((a31.2).2).2).2).1,())))))))),(a10.1,((a10.2).1,(((((a10.2).2).1).1,(((((a10.2).2).1).2).1,())),(((a21.1).1,(((a21.1).2).1,())),((((a21.2).1).1,((((a21.2).1).2).1,())),(((((a21.2).2).1).1,(((((a21.2).2).1).2).1,())),((((a21.2).2).2).1,(((((a21.2).2).2).2).1,())))))))),(a15.1,((a15.2).1,(((((a15.2).2).1).1,(((((a15.2).2).1).2).1,())),(((a22.1).1,(((a22.1).2).1,())),((((a22.2).1).1,((((a22.2).1).2).1,())),(((((a22.2).2).1).1,(((((a22.2).2).1).2).1,())),((((a22.2).2).2).1,(((((a22.2).2).2).2).1,())))))))),(a16.1,((a16.2).1,(((((a16.2).2).1).1,(((((a16.2).2).1).2).1,())),(((a23.1).1,(((a23.1).2).1,())),((((a23.2).1).1,((((a23.2).1).2).1,())),(((((a23.2).2).1).1,(((((a23.2).2).1).2).1,())),((((a23.2).2).2).1,(((((a23.2).2).2).2).1,())))))))),(a6.1,((a6.2).1,(((((a6.2).2).1).1,(((((a6.2).2).1).2).1,())),(((a32.1).1,(((a32.1).2).1,())),((((a32.2).1).1,((((a32.2).1).2).1,())),(((((a32.2).2).1).1,(((((a32.2).2).1).2).1,())),((((a32.2).2).2).1,(((((a32.2).2).2).2).1,()))))))))])
def QBQ  : OV:=some (.t (.sl Q8) Xk,[])
theorem e_f105  : J2 QBP QBN QBO false [] []=QBQ  :=by kernel_rfl
theorem s_f105:QBQ=some (.t (.sl Q8) Xk,[]):=rfl
def QBR:Ent:=Qi .nil (fun x=>true) (fun x=>(.t (.sl Q8) Xk))
theorem QPZ:EM 105 QBR:=mS QBP QBN QBO false (gB (gD QPW (gD QPY gN))) fun m=>Qm m fun x _=>(e_f105 ).trans (s_f105)
abbrev Qgc:Suite:=Ty.zero Q8
def II (k:Nat)(l:List Suite):List Suite:=(List.range' k (16-k)).foldl (fun l i=>l.set i (((i+1:Nat):Int),(l.getD i Qgc).2)) l
abbrev Qgd:Sh:=⟨[(15,.ms 111),(113,.ty tI),(114,.ty tI)],[(111,.arr 139 Q8)]⟩
abbrev QBS:Sh:=⟨[(15,.ms 111)],[(111,.arr 139 Q8)]⟩
def Qos:Fg:=Qgd.f
def Qot:TC:=aF Tryz.f164 [(62,pD [(0,[1]),(1,[2]),(2,[]),(3,[11]),(4,[]),(5,[1]),(6,[2]),(7,[]),(8,[12]),(9,[]),(10,[1]),(11,[2]),(12,[6]),(13,[12]),(14,[]),(15,[]),(16,[3]),(17,[6]),(18,[12]),(19,[]),(20,[]),(21,[2]),(22,[6]),(23,[12]),(24,[]),(25,[1]),(26,[2]),(27,[7]),(28,[12]),(29,[]),(30,[]),(31,[2]),(32,[7]),(33,[12]),(34,[]),(35,[14]),(36,[2]),(37,[7]),(38,[12]),(39,[]),(40,[14]),(41,[4]),(42,[]),(43,[]),(44,[]),(45,[14]),(46,[2]),(47,[8]),(48,[13]),(49,[]),(50,[]),(51,[4]),(52,[9]),(53,[13]),(54,[]),(55,[14]),(56,[2]),(57,[10]),(58,[13]),(59,[]),(60,[1]),(61,[2]),(62,[9]),(63,[13]),(64,[]),(65,[14]),(66,[5]),(67,[8]),(68,[13]),(69,[]),(70,[14]),(71,[5]),(72,[10]),(73,[13]),(74,[]),(75,[]),(76,[5]),(77,[9]),(78,[13]),(79,[]),(80,[111,5111,10111,15111]),(81,[111])] (.of [0,1,2,3,4,5,6,7,8,9,10,11,12,13,14,15,16,17,18,19,20,21,22,23,24,25,26,27,28,29,30,31,32,33,34,35,36,37,38,39,40,41,42,43,44,45,46,47,48,49,50,51,52,53,54,55,56,57,58,59,60,61,62,63,64,65,66,67,68,69,70,71,72,73,74,75,76,77,78,79,80,81])),(506,pL 0 Qos),(8101,.fg QBS.f)]
def QBT:TC:=lb 0 Qot
def QBU:List (RV×Option Ty):=[((.t 0),some (.sl Q8))]
def QBV (x113 x114:Int)(y111:List Suite):VS:=Qgd.st ((),x113,x114,()) (y111,())
def Qou (y111:List Suite):VS:=QBS.st ((),()) (y111,())
def QP0:VS->Option (Bool×List (Bool×Exit×VS)):=mkL Qgd (fun x y=>(decide (0<=x.2.2.1/\x.2.2.1<=16/\x.2.1=16/\y.1.length=16))) (fun x y=>[(true,.exit 0,Qou (II x.2.2.1.toNat y.1))])
def Qge:G:=⟨TYs,[111],125,EL [(196,QBK)],X9,(Ls [QP0]),IL [],RL []⟩
def Qgf (x113 x114:Int)(y111:List Suite):OX:=Qr (Qv Qge Qos QBT) (QBV x113 x114 y111)
def Qgg (kk:Int->Int->List Suite->OX)(x113 x114:Int)(y111:List Suite):OX:=
 let a1:=Int.toNat x114
 br (ilt x114 x113) (br (cIx y111 x114) (br (cLd y111 a1) (kk x113 (Qg .i64 x114 1) (List.set y111 a1 ((Qg .i64 x114 1),(lgt Q8 y111 a1).2))) none) none) (some (.exit 0,Qou y111))
def Qov (x113 x114:Int)(y111:List Suite):OX:=some (.exit 0,Qou (II x114.toNat y111))
theorem QBW (x113 x114:Int)(y111:List Suite):Qgf x113 x114 y111=Qgg Qgf x113 x114 y111:=lnT (x:=Qgg (fun x113 x114 y111=>some (.normal,QBV x113 x114 y111)) x113 x114 y111) (by simp only [Qgg,nxA];rfl)
def QBX  : OV:=
 let a1:=((Qy 5 0).1,(((Qy 5 0).2).1,()))
 let a2:=((Qy 20 0).1,(((Qy 20 0).2).1,()))
 let a3:=((Qy 22 0).1,(((Qy 22 0).2).1,()))
 let a4:=((Qy 12 256).1,(((Qy 12 256).2).1,()))
 let a5:=((Qy 10 0).1,(((Qy 10 0).2).1,()))
 let a6:=((Qy 15 168).1,(((Qy 15 168).2).1,()))
 let a7:=((Qy 16 128).1,(((Qy 16 128).2).1,()))
 let a8:=((Qy 17 256).1,(((Qy 17 256).2).1,()))
 let a9:=(ByteArray.mk #[101,99,100,104,101,45,101,99,100,115,97,45,97,101,115,50,53,54,45,115,104,97,50,53,54])
 let a10:=(ByteArray.mk #[101,99,100,104,101,45,101,99,100,115,97,45,97,101,115,50,53,54,45,103,99,109])
 let a11:=((Qy 11 1024).1,(((Qy 11 1024).2).1,()))
 let a12:=(ByteArray.mk #[101,99,100,104,101,45,114,115,97,45,97,101,115,49,50,56,45,115,104,97])
 let a13:=(ByteArray.mk #[101,99,100,104,101,45,114,115,97,45,97,101,115,49,50,56,45,103,99,109])
 let a14:=((Qy 14 128).1,(((Qy 14 128).2).1,()))
 let a15:=((Qy 17 128).1,(((Qy 17 128).2).1,()))
 let a16:=(ByteArray.mk #[100,104,101,45,114,115,97,45,97,101,115,49,50,56,45,115,104,97])
 let a17:=((Qy 18 0).1,(((Qy 18 0).2).1,()))
 let a18:=((Qy 7 0).1,(((Qy 7 0).2).1,()))
 let a19:=(ByteArray.mk #[100,104,101,45,100,115,97,45,100,101,115,51,45,115,104,97])
 let a20:=(ByteArray.mk #[100,104,101,45,114,115,97,45,100,101,115,51,45,115,104,97])
 let a21:=(ByteArray.mk #[109,108,107,101,109,45,97,101,115,50,53,54,45,103,99,109])
 let a22:=(ByteArray.mk #[101,99,100,104,101,45,114,115,97,45,99,104,97,99,104,97])
 let a23:=(ByteArray.mk #[114,115,97,45,97,101,115,49,50,56,45,115,104,97])
 let a24:=(ByteArray.mk #[114,115,97,45,97,101,115,50,53,54,45,103,99,109])
 let a25:=(ByteArray.mk #[114,115,97,45,100,101,115,51,45,115,104,97])
 let a26:=(ByteArray.mk #[114,115,97,45,114,99,52,45,109,100,53])
 let a27:=(ByteArray.mk #[114,115,97,45,114,99,52,45,115,104,97])
 let a28:=(ByteArray.mk #[97,101,115,49,50,56,45,103,99,109])
 let a29:=((Qy 11 2048).1,(((Qy 11 2048).2).1,()))
 let a30:=((Qy 16 256).1,(((Qy 16 256).2).1,()))
 let a31:=((Qy 12 384).1,(((Qy 12 384).2).1,()))
 let a32:=((Qy 13 768).1,(((Qy 13 768).2).1,()))
 let a33:=(ByteArray.mk #[99,104,97,99,104,97])
 let a34:=((Qy 19 0).1,(((Qy 19 0).2).1,()))
 let a35:=((Qy 21 0).1,(((Qy 21 0).2).1,()))
 let a36:=((Qy 6 0).1,(((Qy 6 0).2).1,()))
 br (decide (0<=(0:Int)/\(0:Int)<=16/\(Qa ([(0,(a26,(a5,(a1,(a14,(a34,(1,(2,())))))))),(0,(a27,(a5,(a1,(a14,(a2,(1,(3,())))))))),(0,(a25,(a5,(a1,(a6,(a2,(1,(3,())))))))),(0,(a19,(a11,(a36,(a6,(a2,(1,(3,())))))))),(0,(a20,(a11,(a1,(a6,(a2,(1,(3,())))))))),(0,(a23,(a5,(a1,(a7,(a2,(1,(3,())))))))),(0,(a16,(a29,(a1,(a7,(a2,(1,(3,())))))))),(0,(a12,(a4,(a1,(a7,(a2,(1,(3,())))))))),(0,(a9,(a4,(a18,(a30,(a35,(3,(3,())))))))),(0,(a13,(a4,(a1,(a15,(a3,(3,(3,())))))))),(0,(a10,(a31,(a18,(a8,(a3,(3,(3,())))))))),(0,(a22,(a4,(a1,(a17,(a3,(3,(3,())))))))),(0,(a24,(a5,(a1,(a8,(a3,(3,(3,())))))))),(0,(a28,(a4,((0,(0,())),(a15,(a3,(4,(4,())))))))),(0,(a33,(a4,((0,(0,())),(a17,(a3,(4,(4,())))))))),(0,(a21,(a32,((0,(0,())),(a8,(a3,(4,(4,()))))))))]))=16/\([(0,(a26,(a5,(a1,(a14,(a34,(1,(2,())))))))),(0,(a27,(a5,(a1,(a14,(a2,(1,(3,())))))))),(0,(a25,(a5,(a1,(a6,(a2,(1,(3,())))))))),(0,(a19,(a11,(a36,(a6,(a2,(1,(3,())))))))),(0,(a20,(a11,(a1,(a6,(a2,(1,(3,())))))))),(0,(a23,(a5,(a1,(a7,(a2,(1,(3,())))))))),(0,(a16,(a29,(a1,(a7,(a2,(1,(3,())))))))),(0,(a12,(a4,(a1,(a7,(a2,(1,(3,())))))))),(0,(a9,(a4,(a18,(a30,(a35,(3,(3,())))))))),(0,(a13,(a4,(a1,(a15,(a3,(3,(3,())))))))),(0,(a10,(a31,(a18,(a8,(a3,(3,(3,())))))))),(0,(a22,(a4,(a1,(a17,(a3,(3,(3,())))))))),(0,(a24,(a5,(a1,(a8,(a3,(3,(3,())))))))),(0,(a28,(a4,((0,(0,())),(a15,(a3,(4,(4,())))))))),(0,(a33,(a4,((0,(0,())),(a17,(a3,(4,(4,())))))))),(0,(a21,(a32,((0,(0,())),(a8,(a3,(4,(4,()))))))))]).length=16)) (some (.t (.sl Q8) (II (0:Int).toNat ([(0,(a26,(a5,(a1,(a14,(a34,(1,(2,())))))))),(0,(a27,(a5,(a1,(a14,(a2,(1,(3,())))))))),(0,(a25,(a5,(a1,(a6,(a2,(1,(3,())))))))),(0,(a19,(a11,(a36,(a6,(a2,(1,(3,())))))))),(0,(a20,(a11,(a1,(a6,(a2,(1,(3,())))))))),(0,(a23,(a5,(a1,(a7,(a2,(1,(3,())))))))),(0,(a16,(a29,(a1,(a7,(a2,(1,(3,())))))))),(0,(a12,(a4,(a1,(a7,(a2,(1,(3,())))))))),(0,(a9,(a4,(a18,(a30,(a35,(3,(3,())))))))),(0,(a13,(a4,(a1,(a15,(a3,(3,(3,())))))))),(0,(a10,(a31,(a18,(a8,(a3,(3,(3,())))))))),(0,(a22,(a4,(a1,(a17,(a3,(3,(3,())))))))),(0,(a24,(a5,(a1,(a8,(a3,(3,(3,())))))))),(0,(a28,(a4,((0,(0,())),(a15,(a3,(4,(4,())))))))),(0,(a33,(a4,((0,(0,())),(a17,(a3,(4,(4,())))))))),(0,(a21,(a32,((0,(0,())),(a8,(a3,(4,(4,()))))))))])),[])) none
theorem e_f164  : J2 Qge Qot QBU false [] []=QBX  :=by kernel_rfl
theorem QP1 (x113 x114:Int)(y111:List Suite)(h:(decide (0<=x114/\x114<=16/\x113=16/\y111.length=16))=true):Qgf x113 x114 y111=Qov x113 x114 y111:=by
 simp only [Ba] at h
 obtain ⟨h1,h2,rfl,h4⟩:=h
 obtain ⟨k,rfl⟩:=Bo h1
 revert y111
 refine QrU 16 (fun k=> ∀ y111:List Suite,y111.length=16->Qgf 16 (k:Int) y111=Qov 16 (k:Int) y111) ?_ ?_ k (by omega)
 ·intro y111 _
  rw [QBW]
  rfl
 ·intro k hk ih y111 hy
  rw [QBW]
  have e1:ilt (k:Int) 16=true:=Be (by omega)
  have e2:cLd y111 k=true:=Be (by omega)
  have e3:II k y111=II (k+1) (y111.set k (((k+1:Nat):Int),(y111.getD k Qgc).2)):=by
   have:16-k=(16-(k+1))+1:=by omega
   unfold II
   rw [this,Dr,List.foldl_cons]
  simp only [Qgg,e1,Qb,QJ,show decide (k<y111.length)=true from Be (by omega),Bc,e2,QO (show k<4611686018427387904 by omega)]
  rw [ih _ (by rw [List.length_set];exact hy)]
  simp only [Qov,Bc,e3]
theorem QP2:LO Qge Qos QBT 0:=QH (s:=Qgd) fun x y h _ q=>by simp only [QE,QF] at q;exact (QP1 x.2.1 x.2.2.1 y.1 h).trans q
set_option maxRecDepth 100000 in
theorem s_f164:QBX=some (.t (.sl Q8) Xk,[]):=by kernel_rfl
def QBY:Ent:=Qi .nil (fun x=>true) (fun x=>(.t (.sl Q8) Xk))
theorem QP3:EM 164 QBY:=mS (lk:=lkL (lkc QP2 lkn)) Qge Qot QBU false (ZX _ (gA (gD QPU gN))) fun m=>Qm m fun x _=>(e_f164 ).trans (s_f164)
theorem QP4:(List.length (α:=Q8.T) Xk)=16:=by kernel_rfl
theorem QBZ:Qa (α:=Q8.T) Xk=16:=by kernel_rfl
theorem QB0 {c:Int}(h:1<=c/\c<=16):cIx (α:=Q8.T) Xk (c-1)=true:=by
 have:=QP4
 simp only [cIx,Ba]
 omega
def QB (c:Int):Suite×Int:=if c<1∨16<c then (Qgc,8) else (lgt Q8 Xk (c-1).toNat,0)
def QP5:TC:=aF Tryz.f124 []
def g_f124:G:=gG 20 [(164,QBY)] (fun _ _=>none)
def QB1 (p0:Int):OV:=br (ilt p0 1) (some (.tu [(.t Q8 (0,((ByteArray.mk #[]),((0,(0,())),((0,(0,())),((0,(0,())),((0,(0,())),(0,(0,()))))))))),(.t tI 8)],[])) (br (igt p0 (Qa Xk)) (some (.tu [(.t Q8 (0,((ByteArray.mk #[]),((0,(0,())),((0,(0,())),((0,(0,())),((0,(0,())),(0,(0,()))))))))),(.t tI 8)],[])) (br (cIx Xk (QY .i64 p0 1)) (some (.tu [(.t Q8 (lgt Q8 Xk (Int.toNat (QY .i64 p0 1)))),(.t tI 0)],[])) none))
theorem s_f124 (c:Int):QB1 c=some (.tu [.t Q8 (QB c).1,.t tI (QB c).2],[]):=by
 simp only [QB1]
 unfold QB
 refine QX (fun h1=> ?_) (fun h1=>QX (fun h2=> ?_) (fun h2=> ?_))
 ·simp only [ilt,Ba] at h1
  rw [if_pos (.inl h1)]
  rfl
 ·have h2:=Bx h2
  have:=QBZ
  rw [if_pos (.inr (by omega))]
  rfl
 ·simp only [ilt,Bn] at h1
  have h2:=Dn h2
  have:=QBZ
  rw [if_neg (by omega),Yc (by omega),QB0 (by omega),Qb]
def Qan:Ent:=Qi (.pr tI .nil) (fun x=>true) (fun x=>(.tu [(.t Q8 ((QB x.1).1)),(.t tI ((QB x.1).2))]))
theorem Qgh:EM 124 Qan:=mS g_f124 QP5 [((.c 2 true 12),some Q8),((.t 3),some tI)] false (gB (gD QP3 gN)) fun m=>Qm m fun x _=>kT (s_f124 x.1)
def tc_f64:TC:=aF Tryz.f64 []
def g_f64:G:=gG 16 [(105,QBR)] (fun _ _=>none)
def r_f64 (p0:Int):OV:=br (ilt p0 1) (some (.tu [(.t Q8 (0,((ByteArray.mk #[]),((0,(0,())),((0,(0,())),((0,(0,())),((0,(0,())),(0,(0,()))))))))),(.t tI 8)],[])) (br (igt p0 16) (some (.tu [(.t Q8 (0,((ByteArray.mk #[]),((0,(0,())),((0,(0,())),((0,(0,())),((0,(0,())),(0,(0,()))))))))),(.t tI 8)],[])) (br (cIx Xk (QY .i64 p0 1)) (some (.tu [(.t Q8 (lgt Q8 Xk (Int.toNat (QY .i64 p0 1)))),(.t tI 0)],[])) none))
theorem s_f64 (c:Int):r_f64 c=some (.tu [.t Q8 (QB c).1,.t tI (QB c).2],[]):=by
 simp only [r_f64]
 unfold QB
 refine QX (fun h1=> ?_) (fun h1=>QX (fun h2=> ?_) (fun h2=> ?_))
 ·simp only [ilt,Ba] at h1
  rw [if_pos (.inl h1)]
  rfl
 ·simp only [igt,Ba] at h2
  rw [if_pos (.inr (by omega))]
  rfl
 ·simp only [ilt,Bn] at h1
  simp only [igt,Bn] at h2
  rw [if_neg (by omega),Yc (by omega),QB0 (by omega),Qb]
def IJ:Ent:=Qi (.pr tI .nil) (fun x=>true) (fun x=>(.tu [(.t Q8 ((QB x.1).1)),(.t tI ((QB x.1).2))]))
theorem Qao:EM 64 IJ:=mS g_f64 tc_f64 [((.c 2 true 12),some Q8),((.t 3),some tI)] false (gB (gD QPZ gN)) fun m=>Qm m fun x _=>kT (s_f64 x.1)
abbrev Qgi:Sh:=⟨[(0,.ty (.sl tI)),(1,.ty tI),(5,.ty tI)],[]⟩
abbrev QB2:Sh:=⟨[(4,.ty .bool)],[]⟩
abbrev QB3:Sh:=⟨[],[]⟩
def Qow:Fg:=Qgi.f
def QB4:TC:=aF Tryz.f99 [(26,pL 0 Qow),(419,.fg QB3.f),(3365,.fg QB2.f)]
def QB5:TC:=lb 0 QB4
def QB6 (x0:List Int)(x1 x5:Int):VS:=Qgi.st (x0,x1,x5,()) ()
def Qox (x4:Bool):VS:=QB2.st (x4,()) ()
def Qoy  : VS:=QB3.st () ()
def QP6:VS->Option (Bool×List (Bool×Exit×VS)):=mkL Qgi (fun x y=>(decide (x.1.length<=100000/\0<=x.2.2.1/\x.2.2.1<=x.1.length))) (fun x y=>[(((x.1.drop x.2.2.1.toNat).contains x.2.1),.ret,Qox (true)),(true,.exit 0,Qoy)])
def Qoz:G:=gG 18 [] (Ls [QP6])
def Qgj (x0:List Int)(x1 x5:Int):OX:=Qr (Qv Qoz Qow QB5) (QB6 x0 x1 x5)
def Qap (kk:List Int->Int->Int->OX)(x0:List Int)(x1 x5:Int):OX:=br (ilt x5 (Qa x0)) (br (cIx x0 x5) (br (ieq (lgt tI x0 (Int.toNat x5)) x1) (some (.ret,Qox true)) (kk x0 x1 (Qg .i64 x5 1))) none) (some (.exit 0,Qoy))
def Qgk (x0:List Int)(x1 x5:Int):OX:=br ((x0.drop x5.toNat).contains x1) (some (.ret,Qox (true)))<|some (.exit 0,Qoy)
theorem QB7 (x0:List Int)(x1 x5:Int):Qgj x0 x1 x5=Qap Qgj x0 x1 x5:=lnT (x:=Qap (fun x0 x1 x5=>some (.normal,QB6 x0 x1 x5)) x0 x1 x5) (by simp only [Qap,nxA];rfl)
def r_f99 (p0:List Int)(p1:Int):OV:=br (decide (p0.length<=100000/\0<=(0:Int)/\(0:Int)<=p0.length)) (br ((p0.drop (0:Int).toNat).contains p1) (some (.t .bool (true),[])) (some (.t .bool false,[]))) none
theorem QP7 (x0:List Int)(x1 x5:Int)(h:(decide (x0.length<=100000/\0<=x5/\x5<=x0.length))=true):Qgj x0 x1 x5=Qgk x0 x1 x5:=by
 simp only [Ba] at h
 obtain ⟨h2,h3,h4⟩:=h
 obtain ⟨k,rfl⟩:=Bo h3
 refine QP x0 (fun k=>Qgj x0 x1 (k:Int)=Qgk x0 x1 (k:Int)) ?_ ?_ k (by omega)
 ·rw [QB7]
  simp [Qap,Qgk,Qz,Qa,Qf]
 ·intro k hk ih
  rw [QB7]
  simp only [Qap,Qz,Qa,QJ,hk,Bt,Qb,Bc,QO (show k<4611686018427387904 by omega),ih,QL (y:=tI) hk]
  simp only [Qgk,Bc,Bi hk,List.contains_cons,ieq]
  have hc:(x1==x0[k])=(x0[k]==x1):=Bool.beq_comm
  rw [hc]
  cases x0[k]==x1<;>rfl
theorem QP8:LO Qoz Qow QB5 0:=QH (s:=Qgi) fun x y h _ q=>by simp only [QE,QF] at q;exact (QP7 x.1 x.2.1 x.2.2.1 h).trans q
theorem s_f99 (l:List Int)(n:Int)(h:Jc l n=true):r_f99 l n=some (.t .bool (QR l n),[]):=by
 simp only [Jc,Ba] at h
 simp only [r_f99,Br,By]
 rw [GR ⟨h,BV 0,by omega⟩,Qb]
 unfold QR
 cases l.contains n<;>rfl
def Qaq:Ent:=Qi (.pr (.sl tI) (.pr tI .nil)) (fun x=>(Jc x.1 x.2.1)) (fun x=>(.t .bool (QR x.1 x.2.1)))
theorem Qgl:EM 99 Qaq:=mS (lk:=lkL (lkc QP8 lkn)) Qoz QB4 [((.t 4),some .bool)] false (gB gN) fun m=>Qm m fun x hok=>kT (s_f99 x.1 x.2.1 hok)
theorem QB8 (a b:Keep):(and (ieq a.1 b.1) (and (ieq a.2.1 b.2.1) true))=(a==b):=by
 obtain ⟨a1,a2,_⟩:=a
 obtain ⟨b1,b2,_⟩:=b
 show _=((a1==b1)&&((a2==b2)&&true))
 rfl
end
end Go.Proofs.YtmjnnemhoeolgaaGreat.K
noncomputable section
namespace Go.Proofs.YtmjnnemhoeolgaaGreat.K
open Go.RowKit
noncomputable section
theorem Qgz (a b:Int):ige a b= !ilt a b:=by
 simp only [ige,ilt]
 rw [Dq]
 simp
theorem QoS (a b:Int):ile a b= !igt a b:=by
 simp only [ile,igt]
 rw [Dq]
 simp
theorem Fv (a b:Int):ine a b= !ieq a b:=rfl
theorem brB {q r:Bool}{X:OV}(h:X=some (.t .bool r,[])):br q (some (.t .bool false,[])) X=some (.t .bool (!q&&r),[]):=by
 subst h
 cases q<;>rfl
theorem brA {q r:Bool}{X:OV}(h:X=some (.t .bool r,[])):br q X (some (.t .bool false,[]))=some (.t .bool (q&&r),[]):=by
 subst h
 cases q<;>rfl
theorem br9 {q v:Bool}{n:Int}{X:OV}(h0:q=true->v=false)(hX:q=false->X=some (.t tI (bif v then 0 else n),[])):br q (some (.t tI n,[])) X=some (.t tI (bif v then 0 else n),[]):=by
 cases q with
 |true=>rw [Qb,h0 rfl];rfl
 |false=>rw [Qf,hX rfl]
open Classical in
def XF {α:Type}(a b:α):Bool:=decide (a=b)
theorem QoT {α:Type}(a:α):XF a a=true:=by
 unfold XF
 simp
theorem QoU {α:Type}{a b:α}(h:XF a b=true):a=b:=by
 unfold XF at h
 simpa using h
def Zf (n:Int):Bool:= !ilt n 0&& !igt n 2147483648
def tc_f83:TC:=aF Tryz.f83 []
def g_f83:G:=gG 9 [] (fun _ _=>none)
def r_f83 (p0:Int):OV:=br (ige p0 0) (some (.t .bool (ile p0 2147483648),[])) (some (.t .bool false,[]))
theorem s_f83 (n:Int):r_f83 n=some (.t .bool (Zf n),[]):=by
 simp only [r_f83,Qgz,QoS]
 exact brA rfl
def Qau:Ent:=Qi (.pr tI .nil) (fun x=>true) (fun x=>(.t .bool (Zf x.1)))
theorem QgA:EM 83 Qau:=mS g_f83 tc_f83 [((.t 2),some .bool)] false (gB gN) fun m=>Qm m fun x _=>kT (s_f83 x.1)
def Gy (n:Int):Bool:= !ilt n 0&& !ige n 4294967296
def QQv:TC:=aF Tryz.f200 []
def g_f200:G:=gG 9 [] (fun _ _=>none)
def QCz (p0:Int):OV:=br (ige p0 0) (some (.t .bool (ilt p0 4294967296),[])) (some (.t .bool false,[]))
theorem s_f200 (n:Int):QCz n=some (.t .bool (Gy n),[]):=by
 simp only [QCz,Gy,Qgz,Bool.not_not]
 exact brA rfl
def QCA:Ent:=Qi (.pr tI .nil) (fun x=>true) (fun x=>(.t .bool (Gy x.1)))
theorem QQw:EM 200 QCA:=mS g_f200 QQv [((.t 2),some .bool)] false (gB gN) fun m=>Qm m fun x _=>kT (s_f200 x.1)
def YK (l:List ByteArray)(k:Nat):Bool:=(List.range' k (l.length-k)).all fun j=>JD (l.getD j ByteArray.empty)&&(decide (j=0)||slt (l.getD (j-1) ByteArray.empty) (l.getD j ByteArray.empty))
theorem QCB (l:List ByteArray):YK l l.length=true:=by
 unfold YK
 rw [DV]
 rfl
theorem QCC {l:List ByteArray}{k:Nat}(hk:k<l.length):YK l k=((JD l[k]&&(decide (k=0)||slt (l.getD (k-1) ByteArray.empty) l[k]))&&YK l (k+1)):=by
 have:l.length-k=(l.length-(k+1))+1:=by omega
 unfold YK
 rw [this,Dr,BW]
 simp only [Bk,Bh hk,BH]
def W5 (l:List ByteArray):Bool:=YK l 0&& !igt (Qa l) 8
def YX (l:List ByteArray):Bool:=decide (l.length<=100000)&&l.all Jg
abbrev QgB:Sh:=⟨[(0,.ty (.sl .str)),(5,.ty (.sl .str)),(6,.ty tI),(7,.ty tI)],[]⟩
abbrev QCD:Sh:=⟨[(2,.ty .bool)],[]⟩
abbrev QCE:Sh:=⟨[(0,.ty (.sl .str))],[]⟩
def QoV:Fg:=QgB.f
def QCF:TC:=aF Tryz.f198 [(26,pL 0 QoV),(421,.fg QCE.f),(13517,.fg QCD.f)]
def QCG:TC:=lb 0 QCF
def QCH (x0 x5:List ByteArray)(x6 x7:Int):VS:=QgB.st (x0,x5,x6,x7,()) ()
def QgC (x2:Bool):VS:=QCD.st (x2,()) ()
def QoW (x0:List ByteArray):VS:=QCE.st (x0,()) ()
def QQx:VS->Option (Bool×List (Bool×Exit×VS)):=mkL QgB (fun x y=>(QA x.2.1 x.2.2.1 x.2.2.2.1&&XF x.1 x.2.1&&YX x.2.1)) (fun x y=>[((!YK x.2.1 x.2.2.2.1.toNat),.ret,QgC (false)),(true,.exit 0,QoW (x.1))])
def QoX:G:=gG 32 [(86,Vn)] (Ls [QQx])
def QgD (x0 x5:List ByteArray)(x6 x7:Int):OX:=Qr (Qv QoX QoV QCG) (QCH x0 x5 x6 x7)
def Qav (kk:List ByteArray->List ByteArray->Int->Int->OX)(x0 x5:List ByteArray)(x6 x7:Int):OX:=
 let a1:=lgt .str x5 (Int.toNat x7)
 br (ilt x7 x6) (br (cIx x5 x7) (br (Jg a1) (br (!(JD a1)) (some (.ret,QgC false)) (br (igt x7 0) (br (cIx x0 (QY .i64 x7 1)) (br (!slt (lgt .str x0 (Int.toNat (QY .i64 x7 1))) a1) (some (.ret,QgC false)) (kk x0 x5 x6 (Qg .i64 x7 1))) none) (kk x0 x5 x6 (Qg .i64 x7 1)))) none) none) (some (.exit 0,QoW x0))
def QgE (x0 x5:List ByteArray)(x6 x7:Int):OX:=br (!YK x5 x7.toNat) (some (.ret,QgC (false)))<|some (.exit 0,QoW (x0))
theorem QCI (x0 x5:List ByteArray)(x6 x7:Int):QgD x0 x5 x6 x7=Qav QgD x0 x5 x6 x7:=lnT (x:=Qav (fun x0 x5 x6 x7=>some (.normal,QCH x0 x5 x6 x7)) x0 x5 x6 x7) (by simp only [Qav,nxA];rfl)
def QCJ (p0:List ByteArray):OV:=br (QA p0 (Qa p0) (0:Int)&&XF p0 p0&&YX p0) (br (!YK p0 (0:Int).toNat) (some (.t .bool (false),[])) (some (.t .bool (ile (Qa (p0)) 8),[]))) none
theorem QCK {l:List ByteArray}{k:Nat}(h:0<k)(hk:k<l.length):lgt .str l (Int.toNat (QY .i64 (k:Int) 1))=l.getD (k-1) ByteArray.empty/\cIx l (QY .i64 (k:Int) 1)=decide (k-1<l.length)∨4611686018427387904<=k:=by
 rcases De k 4611686018427387904 with hb|hb
 ·left
  have e:QY .i64 (k:Int) 1=((k-1:Nat):Int):=by rw [Yc (by omega)];omega
  rw [e,Bc,QJ]
  exact ⟨rfl,rfl⟩
 ·exact .inr hb
theorem QQy (x0 x5:List ByteArray)(x6 x7:Int)(h:(QA x5 x6 x7&&XF x0 x5&&YX x5)=true):QgD x0 x5 x6 x7=QgE x0 x5 x6 x7:=by
 simp only [Bb] at h
 obtain ⟨⟨h0,hs⟩,hn⟩:=h
 have hs:=QoU hs
 subst hs
 obtain ⟨rfl,h3,k,rfl,hk⟩:=JB h0
 clear h0
 simp only [YX,Bb,Bf] at hn
 refine QP x0 (fun k=>QgD x0 x0 (x0.length:Int) (k:Int)=QgE x0 x0 (x0.length:Int) (k:Int)) ?_ ?_ k hk
 ·rw [QCI]
  simp only [Qav,QgE,Qz,BT,B0,Qf,Bc,QCB,BC]
 ·intro k hk ih
  rw [QCI]
  have hx:=hn.2 x0[k] (Bw hk)
  simp only [Qav,Qz,QJ,hk,Bt,Qb,Bc,QO (show k<4611686018427387904 by omega),QL (y:= .str) hk,hx,ih]
  simp only [QgE,Bc,QCC hk]
  cases hg:JD x0[k] with
  |false=>rfl
  |true=>
   simp only [BC,Qf,BA]
   by_cases h0:k=0
   ·subst h0
    simp only [show igt ((0:Nat):Int) 0=false from rfl,Qf,Bt,Bool.true_or,BA]
   ·rcases QCK (l:=x0) (k:=k) (by omega) hk with ⟨e1,e2⟩|hb
    ·rw [show igt (k:Int) 0=true from Be (by omega),Qb,e2,Be (show k-1<x0.length by omega),Qb,e1,Bl h0,Da]
     cases slt (x0.getD (k-1) ByteArray.empty) x0[k]<;>rfl
    ·omega
theorem QQz:LO QoX QoV QCG 0:=QH (s:=QgB) fun x y h _ q=>by simp only [QE,QF] at q;exact (QQy x.1 x.2.1 x.2.2.1 x.2.2.2.1 h).trans q
theorem s_f198 (l:List ByteArray)(h:YX l=true):QCJ l=some (.t .bool (W5 l),[]):=by
 have hl:l.length<=100000:=by simp only [YX,Bb,Ba] at h;exact h.1
 simp only [QCJ,JC hl,QoT,h,BZ,Qb,Br,QoS,W5]
 cases YK l 0<;>rfl
def QCL:Ent:=Qi (.pr (.sl .str) .nil) (fun x=>(YX x.1)) (fun x=>(.t .bool (W5 x.1)))
theorem QQA:EM 198 QCL:=mS (lk:=lkL (lkc QQz lkn)) QoX QCF [((.t 2),some .bool)] false (gB (gD Qea gN)) fun m=>Qm m fun x hok=>kT (s_f198 x.1 hok)
def Yx (u:Keep)(k:Int):Bool:=Jq u&&ieq (Yw u.1) k
def QQB:TC:=aF Tryz.f199 []
def g_f199:G:=gG 14 [(87,I3),(126,Qf9)] (fun _ _=>none)
def QCM (p0:Keep)(p1:Int):OV:=br (Jq p0) (some (.t .bool (ieq (Yw p0.1) p1),[])) (some (.t .bool false,[]))
theorem s_f199 (u:Keep)(k:Int):QCM u k=some (.t .bool (Yx u k),[]):=by
 simp only [QCM]
 exact brA rfl
def QCN:Ent:=Qi (.pr Qd (.pr tI .nil)) (fun x=>true) (fun x=>(.t .bool (Yx x.1 x.2.1)))
theorem QQC:EM 199 QCN:=mS g_f199 QQB [((.t 4),some .bool)] false (gB (gD QaV (gD Qoq gN))) fun m=>Qm m fun x _=>kT (s_f199 x.1 x.2.1)
def Fx (u:Keep):Bool:=Yx u 2
def QQD:TC:=aF Tryz.f140 []
def g_f140:G:=gG 11 [(101,Qgb),(117,I4)] (fun _ _=>none)
def QCO (p0:Keep):OV:=br (Jq p0) (some (.t .bool (ieq (Yw p0.1) 2),[])) (some (.t .bool false,[]))
theorem s_f140 (u:Keep):QCO u=some (.t .bool (Fx u),[]):=by
 simp only [QCO]
 exact brA rfl
def QoY:Ent:=Qi (.pr Qd .nil) (fun x=>true) (fun x=>(.t .bool (Fx x.1)))
theorem QCP:EM 140 QoY:=mS g_f140 QQD [((.t 2),some .bool)] false (gB (gD Qor (gD QaZ gN))) fun m=>Qm m fun x _=>kT (s_f140 x.1)
abbrev Qw (c:Certificate):List ByteArray:=c.2.2.2.2.2.2.2.2.2.2.1
abbrev YY (c:Certificate):Keep:=c.2.2.2.2.2.2.2.2.2.2.2.1
def JA (c:Certificate):Bool:=Jg c.2.1&&(Jg c.2.2.1&&YX (Qw c))
def Q0 (c:Certificate):Bool:=
 !ilt c.1 0&&(!igt c.1 1099511627776&&(JD c.2.1&&(JD c.2.2.1&&(W5 (Qw c)&&(Yx c.2.2.2.1 2&&(Zf c.2.2.2.2.1&&(Yx c.2.2.2.2.2.1 1&&(Zf (YY c).1&&(Gy (YY c).2.1&&
 (!ilt c.2.2.2.2.2.2.1 0&&(!igt c.2.2.2.2.2.2.1 c.2.2.2.2.2.2.2.1&&(!igt c.2.2.2.2.2.2.2.1 40000&&(!ilt c.2.2.2.2.2.2.2.2.2.1 0&&(!igt c.2.2.2.2.2.2.2.2.2.1 8&&(c.2.2.2.2.2.2.2.2.1||ieq c.2.2.2.2.2.2.2.2.2.1 0)))))))))))))))
def QQE:TC:=aF Tryz.f167 []
def g_f167:G:=gG 91 [(83,Qau),(86,Vn),(198,QCL),(199,QCN),(200,QCA)] (fun _ _=>none)
def QCQ (p0:Certificate):OV:=br (ilt p0.1 0) (some (.t .bool false,[])) (br (igt p0.1 1099511627776) (some (.t .bool false,[])) (br (Jg p0.2.1) (br (!(JD p0.2.1)) (some (.t .bool false,[])) (br (Jg p0.2.2.1) (br (!(JD p0.2.2.1)) (some (.t .bool false,[])) (br (YX p0.2.2.2.2.2.2.2.2.2.2.1) (br (!(W5 p0.2.2.2.2.2.2.2.2.2.2.1)) (some (.t .bool false,[])) (br (!(Yx p0.2.2.2.1 2)) (some (.t .bool false,[])) (br (!(Zf p0.2.2.2.2.1)) (some (.t .bool false,[])) (br (!(Yx p0.2.2.2.2.2.1 1)) (some (.t .bool false,[])) (br (!(Zf p0.2.2.2.2.2.2.2.2.2.2.2.1.1)) (some (.t .bool false,[])) (br (!(Gy p0.2.2.2.2.2.2.2.2.2.2.2.1.2.1)) (some (.t .bool false,[])) (br (ilt p0.2.2.2.2.2.2.1 0) (some (.t .bool false,[])) (br (igt p0.2.2.2.2.2.2.1 p0.2.2.2.2.2.2.2.1) (some (.t .bool false,[])) (br (igt p0.2.2.2.2.2.2.2.1 40000) (some (.t .bool false,[])) (br (ige p0.2.2.2.2.2.2.2.2.2.1 0) (br (ile p0.2.2.2.2.2.2.2.2.2.1 8) (br (p0.2.2.2.2.2.2.2.2.1) (some (.t .bool true,[])) (some (.t .bool (ieq p0.2.2.2.2.2.2.2.2.2.1 0),[]))) (some (.t .bool false,[]))) (some (.t .bool false,[])))))))))))) none)) none)) none))
theorem s_f167 (c:Certificate)(h:JA c=true):QCQ c=some (.t .bool (Q0 c),[]):=by
 simp only [JA,Bb] at h
 obtain ⟨h1,h2,h3⟩:=h
 simp only [QCQ,h1,h2,h3,Qb,Qgz,QoS]
 refine (brB<|brB<|brB<|brB<|brB<|brB<|brB<|brB<|brB<|brB<|brB<|brB<|brB<|brA<|brA (r:=c.2.2.2.2.2.2.2.2.1||ieq c.2.2.2.2.2.2.2.2.2.1 0) ?_).trans ?_
 ·cases c.2.2.2.2.2.2.2.2.1<;>rfl
 ·simp only [Bool.not_not,Q0]
def QCR:Ent:=Qi (.pr QQ .nil) (fun x=>(JA x.1)) (fun x=>(.t .bool (Q0 x.1)))
theorem QQF:EM 167 QCR:=mS g_f167 QQE [((.t 2),some .bool)] false (gB (gD QgA (gD Qea (gD QQA (gD QQC (gD QQw gN)))))) fun m=>Qm m fun x hok=>kT (s_f167 x.1 hok)
def XG (c:Certificate):Int:=bif Q0 c then 0 else 9
theorem IO (c:Certificate):ine (XG c) 0= !Q0 c:=by
 unfold XG
 cases Q0 c<;>rfl
def QQG:TC:=aF Tryz.f127 []
def g_f127:G:=gG 6 [(167,QCR)] (fun _ _=>none)
def QCS (p0:Certificate):OV:=br (JA p0) (br (!(Q0 p0)) (some (.t tI 9,[])) (some (.t tI 0,[]))) none
theorem s_f127 (c:Certificate)(h:JA c=true):QCS c=some (.t tI (XG c),[]):=by
 simp only [QCS,h,Qb,XG]
 cases Q0 c<;>rfl
def QCT:Ent:=Qi (.pr QQ .nil) (fun x=>(JA x.1)) (fun x=>(.t tI (XG x.1)))
theorem QQH:EM 127 QCT:=mS g_f127 QQG [((.t 2),some tI)] false (gB (gD QQF gN)) fun m=>Qm m fun x hok=>kT (s_f127 x.1 hok)
abbrev QgF:Sh:=⟨[(1,.ptr 1 0),(3,.ty tI)],[(1,.box QQ)]⟩
abbrev QCU:Sh:=⟨[(2,.ty tI)],[]⟩
abbrev QCV:Sh:=⟨[(1,.ptr 1 0)],[(1,.box QQ)]⟩
def QoZ:Fg:=QgF.f
def QCW:TC:=aF Tryz.f113 [(250,pL 0 QoZ),(4003,.fg QCV.f),(8008,pD [(0,[1]),(1,[1]),(2,[]),(3,[]),(4,[]),(5,[]),(6,[]),(7,[]),(8,[]),(9,[]),(10,[]),(11,[1]),(12,[1]),(13,[]),(14,[]),(15,[]),(16,[]),(17,[1]),(18,[1]),(19,[]),(20,[]),(21,[]),(22,[]),(23,[]),(24,[])] (.of [0,1,2,3,4,5,6,7,8,9,10,11,12,13,14,15,16,17,18,19,20,21,22,23,24])),(32037,.fg QCU.f)]
def QCX:TC:=lb 0 QCW
def QCY (x3:Int)(y1:Certificate):VS:=QgF.st ((),x3,()) (y1,())
def QgG (x2:Int):VS:=QCU.st (x2,()) ()
def Qo0 (y1:Certificate):VS:=QCV.st ((),()) (y1,())
def QQI:VS->Option (Bool×List (Bool×Exit×VS)):=mkL QgF (fun x y=>(decide (0<=x.2.1/\x.2.1<=(Qw y.1).length)&&YX (Qw y.1))) (fun x y=>[((!YK (Qw y.1) x.2.1.toNat),.ret,QgG (9)),(true,.exit 0,Qo0 (y.1))])
def Qo1:G:=gG 146 [(101,Qgb),(116,Qee),(117,I4),(140,QoY)] (Ls [QQI])
def QgH (x3:Int)(y1:Certificate):OX:=Qr (Qv Qo1 QoZ QCX) (QCY x3 y1)
def Qaw (kk:Int->Certificate->OX)(x3:Int)(y1:Certificate):OX:=
 let a1:=lgt .str y1.2.2.2.2.2.2.2.2.2.2.1 (Int.toNat x3)
 let a2:=cIx y1.2.2.2.2.2.2.2.2.2.2.1 x3
 br (ilt x3 (Qa y1.2.2.2.2.2.2.2.2.2.2.1)) (br a2 (br (Jg a1) (br (!(JD a1)) (some (.ret,QgG 9)) (br (igt x3 0) (br (cIx y1.2.2.2.2.2.2.2.2.2.2.1 (QY .i64 x3 1)) (br a2 (br (!slt (lgt .str y1.2.2.2.2.2.2.2.2.2.2.1 (Int.toNat (QY .i64 x3 1))) a1) (some (.ret,QgG 9)) (kk (Qg .i64 x3 1) y1)) none) none) (kk (Qg .i64 x3 1) y1))) none) none) (some (.exit 0,Qo0 y1))
def QgI (x3:Int)(y1:Certificate):OX:=br (!YK (Qw y1) x3.toNat) (some (.ret,QgG (9)))<|some (.exit 0,Qo0 (y1))
theorem QCZ (x3:Int)(y1:Certificate):QgH x3 y1=Qaw QgH x3 y1:=lnT (x:=Qaw (fun x3 y1=>some (.normal,QCY x3 y1)) x3 y1) (by simp only [Qaw,nxA];rfl)
def Qo2 (p0:Certificate):OV:=
 let a1:=(((((((((((((p0).2).2).2).2).2).2).2).2).2).2).2).1)
 br (igt (Qa p0.2.2.2.2.2.2.2.2.2.2.1) 8) (some (.t tI 9,[])) (br (decide (0<=(0:Int)/\(0:Int)<=(Qw p0).length)&&YX (Qw p0)) (br (!YK (Qw p0) (0:Int).toNat) (some (.t tI (9),[])) (br (ilt (a1.1) 0) (some (.t tI 9,[])) (br (igt (a1.1) 2147483648) (some (.t tI 9,[])) (br (ilt ((a1.2).1) 0) (some (.t tI 9,[])) (br (ige ((a1.2).1) 4294967296) (some (.t tI 9,[])) (some (.t tI 0,[]))))))) none)
def QC0 (p0:Certificate):OV:=br (ilt p0.1 0) (some (.t tI 9,[])) (br (igt p0.1 1099511627776) (some (.t tI 9,[])) (br (Jg p0.2.1) (br (!(JD p0.2.1)) (some (.t tI 9,[])) (br (Jg p0.2.2.1) (br (!(JD p0.2.2.1)) (some (.t tI 9,[])) (br (!(Fx p0.2.2.2.1)) (some (.t tI 9,[])) (br (ilt p0.2.2.2.2.1 0) (some (.t tI 9,[])) (br (igt p0.2.2.2.2.1 2147483648) (some (.t tI 9,[])) (br (!(Jq p0.2.2.2.2.2.1)) (some (.t tI 9,[])) (br (ine (Yw p0.2.2.2.2.2.1.1) 1) (some (.t tI 9,[])) (br (ilt p0.2.2.2.2.2.2.1 0) (some (.t tI 9,[])) (br (igt p0.2.2.2.2.2.2.1 p0.2.2.2.2.2.2.2.1) (some (.t tI 9,[])) (br (igt p0.2.2.2.2.2.2.2.1 40000) (some (.t tI 9,[])) (br (ilt p0.2.2.2.2.2.2.2.2.2.1 0) (some (.t tI 9,[])) (br (igt p0.2.2.2.2.2.2.2.2.2.1 8) (some (.t tI 9,[])) (br (!p0.2.2.2.2.2.2.2.2.1) (br (ine p0.2.2.2.2.2.2.2.2.2.1 0) (some (.t tI 9,[])) (Qo2 p0)) (Qo2 p0))))))))))))) none)) none))
theorem QQJ (x3:Int)(y1:Certificate)(h:(decide (0<=x3/\x3<=(Qw y1).length)&&YX (Qw y1))=true):QgH x3 y1=QgI x3 y1:=by
 simp only [Bb,Ba] at h
 obtain ⟨⟨h0,h1⟩,hn⟩:=h
 obtain ⟨k,rfl⟩:=Bo h0
 simp only [YX,Bb,Bf,Ba] at hn
 refine QP (Qw y1) (fun k=>QgH (k:Int) y1=QgI (k:Int) y1) ?_ ?_ k (by omega)
 ·rw [QCZ]
  simp only [Qaw,QgI,show ilt ((Qw y1).length:Int) (Qa (Qw y1))=false from Bl (by simp only [Qa];omega),Qf,Bc,QCB,BC]
 ·intro k hk ih
  rw [QCZ]
  have hx:=hn.2 (Qw y1)[k] (Bw hk)
  simp only [Qaw,show ilt (k:Int) (Qa (Qw y1))=true from Be (by simp only [Qa];omega),QJ,hk,Bt,Qb,Bc,QO (show k<4611686018427387904 by omega),QL (y:= .str) hk,hx,ih]
  simp only [QgI,Bc,QCC hk]
  cases hg:JD (Qw y1)[k] with
  |false=>rfl
  |true=>
   simp only [BC,Qf,BA]
   by_cases h0:k=0
   ·subst h0
    simp only [show igt ((0:Nat):Int) 0=false from rfl,Qf,Bt,Bool.true_or,BA]
   ·rcases QCK (l:=Qw y1) (k:=k) (by omega) hk with ⟨e1,e2⟩|hb
    ·rw [show igt (k:Int) 0=true from Be (by omega),Qb,e2,Be (show k-1<(Qw y1).length by omega),Qb,e1,Bl h0,Da]
     cases slt ((Qw y1).getD (k-1) ByteArray.empty) (Qw y1)[k]<;>rfl
    ·omega
theorem QQK:LO Qo1 QoZ QCX 0:=QH (s:=QgF) fun x y h _ q=>by simp only [QE,QF] at q;exact (QQJ x.2.1 y.1 h).trans q
theorem s_f113 (c:Certificate)(h:JA c=true):QC0 c=some (.t tI (XG c),[]):=by
 simp only [JA,Bb] at h
 obtain ⟨h1,h2,h3⟩:=h
 have hd:decide ((0:Int)<=0/\(0:Int)<=(Qw c).length)=true:=Be (by omega)
 unfold XG
 simp only [QC0,Qo2,h1,h2,h3,hd,BZ,Qb,Br,Fv]
 refine br9 (fun g=>by simp [Q0,g]) fun g1=>br9 (fun g=>by simp [Q0,g]) fun g2=>br9 (fun g=>by simp only [Bu] at g;simp [Q0,g]) fun g3=>br9 (fun g=>by simp only [Bu] at g;simp [Q0,g]) fun g4=>br9 (fun g=>by simp only [Bu,Fx] at g;simp [Q0,g]) fun g5=>br9 (fun g=>by simp [Q0,Zf,g]) fun g6=>br9 (fun g=>by simp [Q0,Zf,g]) fun g7=>br9 (fun g=>by simp only [Bu] at g;simp [Q0,Yx,g]) fun g8=>br9 (fun g=>by simp only [Bu] at g;simp [Q0,Yx,g]) fun g9=>br9 (fun g=>by simp [Q0,g]) fun g10=>br9 (fun g=>by simp [Q0,g]) fun g11=>br9 (fun g=>by simp [Q0,g]) fun g12=>br9 (fun g=>by simp [Q0,g]) fun g13=>br9 (fun g=>by simp [Q0,g]) fun g14=> ?_
 have tail: ∀ (hp:(c.2.2.2.2.2.2.2.2.1||ieq c.2.2.2.2.2.2.2.2.2.1 0)=true),br (igt (Qa (Qw c)) 8) (some (V.t tI 9,([]:List VO))) (br (!YK (Qw c) 0) (some (V.t tI 9,[])) (br (ilt (YY c).1 0) (some (V.t tI 9,[])) (br (igt (YY c).1 2147483648) (some (V.t tI 9,[])) (br (ilt (YY c).2.1 0) (some (V.t tI 9,[])) (br (ige (YY c).2.1 4294967296) (some (V.t tI 9,[])) (some (V.t tI 0,[])))))))=some (V.t tI (bif Q0 c then 0 else 9),([]:List VO)):=by
  intro hp
  refine br9 (fun g=>by simp [Q0,W5,g]) fun g15=>br9 (fun g=>by simp only [Bu] at g;simp [Q0,W5,g]) fun g16=>br9 (fun g=>by simp [Q0,Zf,g]) fun g17=>br9 (fun g=>by simp [Q0,Zf,g]) fun g18=>br9 (fun g=>by simp [Q0,Gy,g]) fun g19=>br9 (fun g=>by simp [Q0,Gy,g]) fun g20=> ?_
  simp only [Bool.not_eq_false'] at g3 g4 g5 g8 g9 g16
  simp only [Fx] at g5
  have:Q0 c=true:=by
   simp only [Q0,W5,Yx,Zf,Gy,g1,g2,g3,g4,g6,g7,g8,g9,g10,g11,g12,g13,g14,g15,g16,g17,g18,g19,g20,hp,Dx,BZ,BA]
   simpa only [Yx,Df] using g5
  rw [this]
  rfl
 cases ha:c.2.2.2.2.2.2.2.2.1 with
 |true=>
  rw [BC,Qf]
  exact tail (by rw [ha];rfl)
 |false=>
  rw [Dx,Qb]
  refine br9 (fun g=>by simp only [Bu] at g;simp [Q0,ha,g]) fun g=> ?_
  exact tail (by simp only [Bool.not_eq_false'] at g;rw [g,Bool.or_true])
def Qax:Ent:=Qi (.pr QQ .nil) (fun x=>(JA x.1)) (fun x=>(.t tI (XG x.1)))
theorem QgJ:EM 113 Qax:=mS (lk:=lkL (lkc QQK lkn)) Qo1 QCW [((.t 2),some tI)] false (gB (gD Qor (gD QlV (gD QaZ (gD QCP gN))))) fun m=>Qm m fun x hok=>kT (s_f113 x.1 hok)
end
end Go.Proofs.YtmjnnemhoeolgaaGreat.K
noncomputable section
namespace Go.Proofs.YtmjnnemhoeolgaaGreat.K
open Go.RowKit
noncomputable section
theorem QAW (n:Int):(GU n).length<=8:=by
 rw [GU,Qr3]
 exact QbZ n
theorem Fp (n:Nat)(m:Int):okT (n+1) (Q4 m)=true:=by
 have:=QAW m
 show okV (n+1) (.mk 2 (GU m) false [])=true
 simp only [okV,List.isEmpty_nil,BM,Dy,Df,BB]
 rw [Be (by omega)]
 rfl
theorem QfO (n:Nat){s:ByteArray}(h:s.size<=100000):okT (n+1) (J9 s)=true:=by
 have:=Fk s
 show okV (n+1) (.mk 12 (Q1 s) false [])=true
 simp only [okV,List.isEmpty_nil,BM,Dy,Df,BB]
 rw [Be (by omega)]
 rfl
theorem QO7 (n:Nat)(b:Bool):okT (n+1) (Uz b)=true:=by cases b<;>rfl
theorem Qn1 {n:Nat}{l:List Qh}(hl:l.length<=100000)(h: ∀ x∈l,okT n x=true):okT (n+1) (XA l)=true:=by
 show okV (n+1) (.mk 48 [] true (l.map Val.of))=true
 simp only [okV,List.isEmpty_nil,B2,Df,BB,BR,Bb,Bf,B9]
 refine ⟨⟨⟨rfl,rfl⟩,Be ⟨by omega,hl⟩⟩, ?_⟩
 rintro v ⟨x,hx,rfl⟩
 exact h x hx
theorem Qn2 {n:Nat}{l:List Qh}(hl:l.length<=100000)(h: ∀ x∈l,okT n x=true):Zx (n+1) l=true:=by
 simp only [Zx,Bb,Ba,Bf]
 exact ⟨hl,h⟩
theorem Qn3 (x:Qh):((x.1,(x.2.1,(x.2.2.1,(List.map Val.of (List.map Val.un x.2.2.2.1),())))):Qh)=x:=by
 rw [Fn]
theorem Fq (m:Int):(Zz (Q4 m)).length<=18:=by
 have h1:=QAW m
 have h2:=QdZ ((GU m).length+0)
 rw [QdY]
 simp only [Q4,Yd,Bv,Bm,BB]
 omega
theorem Qn4 (s:ByteArray):(Zz (J9 s)).length<=10+s.size:=by
 have h1:=Fk s
 have h2:=QdZ ((Q1 s).length+0)
 rw [QdY]
 simp only [J9,Yd,Bv,Bm,BB]
 omega
theorem QO8 (b:Bool):(Zz (Uz b)).length<=11:=by cases b<;>decide
theorem Qn5 (l:List Qh):(Zz (XA l)).length<=10+(ZE l).length:=by
 have h2:=QdZ (0+(Yd (l.map Val.of)).length)
 rw [QdY]
 simp only [XA,ZE,Bv,Bm,BB]
 omega
def YW (u:Keep):Qh:=XA [Q4 u.1,Q4 u.2.1]
def UO (u:Keep):Bool:=Zw u.1&&Zw u.2.1
theorem QAX (n:Nat)(u:Keep):okT (n+2) (YW u)=true:=
 Qn1 (by simp) fun x hx=>by
  simp only [B5,Do,or_false] at hx
  rcases hx with rfl|rfl<;>exact Fp _ _
theorem QAY (u:Keep):(Zz (YW u)).length<=46:=by
 have h0:=Qn5 [Q4 u.1,Q4 u.2.1]
 have h1:=Fq u.1
 have h2:=Fq u.2.1
 simp only [Fj,Vi,Bm,BB] at h0
 unfold YW
 omega
theorem QO9 (u:Keep):X5 [Q4 u.1,Q4 u.2.1]=true:=
 Qn2 (n:=11) (by simp) fun x hx=>by
  simp only [B5,Do,or_false] at hx
  rcases hx with rfl|rfl<;>exact Fp _ _
def QPa:TC:=aF Tryz.f191 [(6,pD [(0,[1]),(1,[1]),(2,[]),(3,[1]),(4,[1]),(5,[]),(6,[]),(7,[]),(8,[2])] (.of [0,1,2,3,4,5,6,7,8]))]
def g_f191:G:=gG 11 [(189,Qd4),(190,QdJ)] (fun _ _=>none)
def QAZ (p0:Keep):OV:=
 let a1:=((Q4 p0.2.1).1,(((Q4 p0.2.1).2).1,((((Q4 p0.2.1).2).2).1,((List.map Val.of (List.map Val.un (((((Q4 p0.2.1).2).2).2).1))),()))))
 let a2:=((Q4 p0.1).1,(((Q4 p0.1).2).1,((((Q4 p0.1).2).2).1,((List.map Val.of (List.map Val.un (((((Q4 p0.1).2).2).2).1))),()))))
 br (Zw p0.1) (br (Zw p0.2.1) (br (X5 ([a2,a1])) (some (.t QC (XA ([a2,a1])),[])) none) none) none
theorem s_f191 (u:Keep)(h:UO u=true):QAZ u=some (.t QC (YW u),[]):=by
 simp only [UO,Bb] at h
 simp only [QAZ,h.1,h.2,Qn3,QO9,Qb]
 rfl
def QA0:Ent:=Qi (.pr Qd .nil) (fun x=>(UO x.1)) (fun x=>(.t QC (YW x.1)))
theorem QPb:EM 191 QA0:=mS g_f191 QPa [((.c 2 true 4),some QC)] false (gB (gD QlN (gD Qll gN))) fun m=>Qm m fun x hok=>kT (s_f191 x.1 hok)
def WZ (c:Certificate):List Qh:=[Q4 c.1,J9 c.2.1,J9 c.2.2.1,YW c.2.2.2.1,Q4 c.2.2.2.2.1,YW c.2.2.2.2.2.1,Q4 c.2.2.2.2.2.2.1,Q4 c.2.2.2.2.2.2.2.1,Uz c.2.2.2.2.2.2.2.2.1,Q4 c.2.2.2.2.2.2.2.2.2.1,XA ((Qw c).map J9)]
def W0 (c:Certificate):Qh:=XA (WZ c)
def IB (c:Certificate):Bool:=JA c&&Q0 c
theorem QPc {u:Keep}(h:Jq u=true):0<=u.2.1/\u.2.1<=16384/\1<=u.1/\u.1<=22:=by
 simp only [Jq,Ba] at h
 have ham: ∀ (s t:List Int),(∀ x∈s,0<=x/\x<=16384)->Zq u.2.1 s t > 0->0<=u.2.1/\u.2.1<=16384:=by
  intro s t hs hg
  unfold Zq at hg
  split at hg
  ·rename_i k hk
   have hm:u.2.1∈s:=by
    have key: ∀ (s:List Int) (k:Nat),JK u.2.1 s=some k->u.2.1∈s:=by
     intro s
     induction s with
     |nil=>intro k hk;cases hk
     |cons a s ih=>
      intro k hk
      unfold JK at hk
      split at hk
      ·rename_i ha
       have:=eq_of_beq ha
       rw [this];exact B8
      ·obtain ⟨j,hj,_⟩:=Bj.1 hk
       exact B4 _ (ih j hj)
    exact key s k hk
   exact hs _ hm
  ·omega
 rw [←and_assoc]
 unfold Yl at h
 repeat' split at h
 ·refine ⟨?_,by omega⟩
  unfold GJ at h
  split at h<;>omega
 ·refine ⟨?_,by omega⟩
  unfold I2 at h
  split at h
  ·rename_i hc
   simp only [QR,BI,B5,Do,or_false] at hc
   omega
  ·omega
 ·exact ⟨ham _ _ (by simp) h,by omega⟩
 ·exact ⟨ham _ _ (by simp) h,by omega⟩
 ·exact ⟨ham _ _ (by simp) h,by omega⟩
 ·exact ⟨ham _ _ (by simp) h,by omega⟩
 ·exact ⟨ham _ _ (by simp) h,by omega⟩
 ·refine ⟨ham _ _ (by simp) h, ?_⟩
  unfold Zq at h
  split at h
  ·rename_i k hk
   unfold JK at hk
   split at hk
   ·injection hk with hk
    subst hk
    simp only [List.getD_cons_zero,Wi] at h
    repeat' split at h
    all_goals omega
   ·cases hk
  ·omega
theorem QA1 {u:Keep}{k:Int}(h:Yx u k=true):UO u=true:=by
 simp only [Yx,Bb] at h
 have:=QPc h.1
 simp only [UO,Zw,Bb,Ba]
 omega
theorem Qn6 {s:ByteArray}(h:JD s=true):s.size<=32:=by
 simp only [JD,Bb,Ba] at h
 exact h.2.2
theorem QPd {l:List ByteArray}: ∀ {k:Nat},YK l k=true→ ∀ j (hj:j<l.length),k<=j->JD l[j]=true:=by
 intro k h j hj hk
 simp only [YK,Bf,Dw,Bb] at h
 have:=(h j ⟨hk,by omega⟩).1
 simpa only [Bk,Bh hj,BH] using this
theorem QPe {l:List ByteArray}(h:W5 l=true):l.length<=8∧ ∀ s∈l,s.size<=32:=by
 simp only [W5,Bb,Bu,igt,Qa,Bn] at h
 refine ⟨by omega,fun s hs=> ?_⟩
 obtain ⟨j,hj,rfl⟩:=List.mem_iff_getElem.1 hs
 exact Qn6 (QPd h.1 j hj (BX _))
theorem QfP {c:Certificate}(h:Q0 c=true):Zw c.1=true/\c.2.1.size<=32/\c.2.2.1.size<=32/\UO c.2.2.2.1=true/\Zw c.2.2.2.2.1=true/\UO c.2.2.2.2.2.1=true/\Zw c.2.2.2.2.2.2.1=true/\Zw c.2.2.2.2.2.2.2.1=true/\Zw c.2.2.2.2.2.2.2.2.2.1=true/\(Qw c).length<=8∧ ∀ s∈Qw c,s.size<=32:=by
 simp only [Q0,Zf,Bb,Bu,ilt,igt,Bn] at h
 obtain ⟨h1,h2,h3,h4,h5,h6,⟨h7,h7'⟩,h8,⟨h9,h9'⟩,h10,h11,h12,h13,h14,h15,h16⟩:=h
 have hn:=QPe h5
 refine ⟨Be (by omega),Qn6 h3,Qn6 h4,QA1 h6,Be (by omega),QA1 h8,Be (by omega),Be (by omega),Be (by omega),hn.1,hn.2⟩
theorem QPf (n:Nat){l:List ByteArray}(h:l.length<=8)(hs: ∀ s∈l,s.size<=32):okT (n+2) (XA (l.map J9))=true:=
 Qn1 (by rw [BR];omega) fun x hx=>by
  obtain ⟨s,hm,rfl⟩:=B9.1 hx
  exact QfO _ (by have:=hs s hm;omega)
theorem QA2 (n:Nat){c:Certificate}(h:Q0 c=true): ∀ x∈WZ c,okT (n+2) x=true:=by
 obtain ⟨h1,h2,h3,h4,h5,h6,h7,h8,h9,h10,h11⟩:=QfP h
 intro x hx
 simp only [WZ,B5,Do,or_false] at hx
 rcases hx with rfl|rfl|rfl|rfl|rfl|rfl|rfl|rfl|rfl|rfl|rfl
 ·exact Fp _ _
 ·exact QfO _ (by omega)
 ·exact QfO _ (by omega)
 ·exact QAX _ _
 ·exact Fp _ _
 ·exact QAX _ _
 ·exact Fp _ _
 ·exact Fp _ _
 ·exact QO7 _ _
 ·exact Fp _ _
 ·exact QPf _ h10 h11
theorem QA3: ∀ {l:List ByteArray},(∀ s∈l,s.size<=32)->(ZE (l.map J9)).length<=42*l.length
 | [],_=>by simp [Vi]
 |s::l,h=>by
  have h1:=h s (by simp)
  have h2:=Qn4 s
  have h3:=QA3 (l:=l) fun u hu=>h u (by simp [hu])
  rw [BJ,Fj,Bm,Bv]
  omega
theorem Qn7 {c:Certificate}(h:Q0 c=true):(Zz (W0 c)).length<=1000:=by
 obtain ⟨h1,h2,h3,h4,h5,h6,h7,h8,h9,h10,h11⟩:=QfP h
 have e0:=Qn5 (WZ c)
 have e1:=Fq c.1
 have e2:=Qn4 c.2.1
 have e3:=Qn4 c.2.2.1
 have e4:=QAY c.2.2.2.1
 have e5:=Fq c.2.2.2.2.1
 have e6:=QAY c.2.2.2.2.2.1
 have e7:=Fq c.2.2.2.2.2.2.1
 have e8:=Fq c.2.2.2.2.2.2.2.1
 have e9:=QO8 c.2.2.2.2.2.2.2.2.1
 have e10:=Fq c.2.2.2.2.2.2.2.2.2.1
 have e11:=Qn5 ((Qw c).map J9)
 have e12:=QA3 h11
 simp only [WZ,Fj,Vi,Bm,BB] at e0
 unfold W0
 simp only [WZ]
 omega
theorem enc_ok {c:Certificate}(h:Q0 c=true):WO (W0 c)=true:=by
 have:=Qn7 h
 simp only [WO,Bb,Ba]
 refine ⟨Qn1 (by simp [WZ]) (QA2 9 h),by omega⟩
theorem QPg {c:Certificate}(h:Q0 c=true):X5 ((Qw c).map J9)=true:=by
 obtain ⟨h1,h2,h3,h4,h5,h6,h7,h8,h9,h10,h11⟩:=QfP h
 exact Qn2 (n:=11) (by rw [BR];omega) fun x hx=>by
  obtain ⟨s,hm,rfl⟩:=B9.1 hx
  exact QfO _ (by have:=h11 s hm;omega)
theorem QPh {c:Certificate}(h:Q0 c=true):X5 (WZ c)=true:=Qn2 (n:=11) (by simp [WZ]) (QA2 9 h)
theorem Qn8 {s:ByteArray}(h:s.size<=32):Y8 s=true:=Be (by omega)
abbrev QfQ:Sh:=⟨[(1,.ptr 1 0),(2,.ptr 2 0),(3,.ms 3),(4,.ty tI)],[(1,.box QQ),(2,.box QC),(3,.arr 225 QC),(20,.no)]⟩
abbrev QA4:Sh:=⟨[(1,.ptr 1 0),(2,.ptr 2 0),(3,.ms 3)],[(1,.box QQ),(2,.box QC),(3,.arr 225 QC),(20,.no)]⟩
def Qn9:Fg:=QfQ.f
def QA5:TC:=aF Tryz.f152 [(58,.nw 3 225),(58,pL 0 Qn9),(931,.fg QA4.f),(30,pD [(0,[1]),(1,[1]),(2,[]),(3,[1]),(4,[1]),(5,[]),(6,[1]),(7,[1]),(8,[]),(9,[1]),(10,[1]),(11,[]),(12,[1]),(13,[1]),(14,[]),(15,[1]),(16,[1]),(17,[]),(18,[1]),(19,[1]),(20,[]),(21,[1]),(22,[1]),(23,[]),(24,[1]),(25,[1]),(26,[]),(27,[1]),(28,[1]),(29,[]),(30,[3,20]),(31,[3,20,52,5052,10052,15052]),(32,[]),(33,[]),(34,[2])] (.of [0,1,2,3,4,5,6,7,8,9,10,11,12,13,14,15,16,17,18,19,20,21,22,23,24,25,26,27,28,29,30,31,32,33,34]))]
def QA6:TC:=lb 0 QA5
def QA7 (x4:Int)(y1:Certificate)(y2:Qh)(y3:List Qh):VS:=QfQ.st ((),(),(),x4,()) (y1,y2,y3,(),())
def Qoa (y1:Certificate)(y2:Qh)(y3:List Qh):VS:=QA4.st ((),(),(),()) (y1,y2,y3,(),())
def QPi:VS->Option (Bool×List (Bool×Exit×VS)):=mkL QfQ (fun x y=>(decide (0<=x.2.2.2.1/\x.2.2.2.1<=(Qw y.1).length/\y.2.2.1.length<=x.2.2.2.1.toNat/\(Qw y.1).length<=8)&&(Qw y.1).all fun s=>decide (s.size<=32))) (fun x y=>[(true,.exit 0,Qoa (y.1) (y.2.1) (y.2.2.1++((Qw y.1).drop x.2.2.2.1.toNat).map J9))])
def Qob:G:=gG 55 [(188,Qlm),(189,Qd4),(190,QdJ),(191,QA0),(192,Qwo)] (Ls [QPi])
def QfR (x4:Int)(y1:Certificate)(y2:Qh)(y3:List Qh):OX:=Qr (Qv Qob Qn9 QA6) (QA7 x4 y1 y2 y3)
def V5 (kk:Int->Certificate->Qh->List Qh->OX)(x4:Int)(y1:Certificate)(y2:Qh)(y3:List Qh):OX:=
 let a1:=J9 (lgt .str y1.2.2.2.2.2.2.2.2.2.2.1 (Int.toNat x4))
 let a2:=((a1.2).1,(((a1.2).2).1,((List.map Val.of (List.map Val.un ((((a1.2).2).2).1))),())))
 br (ilt x4 (Qa y1.2.2.2.2.2.2.2.2.2.2.1)) (br (cIx y1.2.2.2.2.2.2.2.2.2.2.1 x4) (br (Y8 (lgt .str y1.2.2.2.2.2.2.2.2.2.2.1 (Int.toNat x4))) (br (QM y3 ([(a1.1,a2)]) 64) (kk (Qg .i64 x4 1) y1 y2 (y3++([(a1.1,a2)]))) none) none) none) (some (.exit 0,Qoa y1 y2 y3))
def QfS (x4:Int)(y1:Certificate)(y2:Qh)(y3:List Qh):OX:=some (.exit 0,Qoa (y1) (y2) (y3++((Qw y1).drop x4.toNat).map J9))
theorem QA8 (x4:Int)(y1:Certificate)(y2:Qh)(y3:List Qh):QfR x4 y1 y2 y3=V5 QfR x4 y1 y2 y3:=lnT (x:=V5 (fun x4 y1 y2 y3=>some (.normal,QA7 x4 y1 y2 y3)) x4 y1 y2 y3) (by simp only [V5,nxA];rfl)
def QA9 (p0:Certificate):OV:=
 let a3:=((((p0).2).2).2)
 let a1:=((a3.2).2)
 let a2:=(XA (([]:List Qh)++((Qw p0).drop (0:Int).toNat).map J9))
 let a4:=((Q4 (((((a1.2).2).2).2).1)).1,(((Q4 (((((a1.2).2).2).2).1)).2).1,((((Q4 (((((a1.2).2).2).2).1)).2).2).1,((List.map Val.of (List.map Val.un (((((Q4 (((((a1.2).2).2).2).1)).2).2).2).1))),()))))
 let a5:=((Uz ((((a1.2).2).2).1)).1,(((Uz ((((a1.2).2).2).1)).2).1,((((Uz ((((a1.2).2).2).1)).2).2).1,((List.map Val.of (List.map Val.un (((((Uz ((((a1.2).2).2).1)).2).2).2).1))),()))))
 let a6:=((J9 ((((p0).2).2).1)).1,(((J9 ((((p0).2).2).1)).2).1,((((J9 ((((p0).2).2).1)).2).2).1,((List.map Val.of (List.map Val.un (((((J9 ((((p0).2).2).1)).2).2).2).1))),()))))
 let a7:=((Q4 (((a1.2).2).1)).1,(((Q4 (((a1.2).2).1)).2).1,((((Q4 (((a1.2).2).1)).2).2).1,((List.map Val.of (List.map Val.un (((((Q4 (((a1.2).2).1)).2).2).2).1))),()))))
 let a8:=((J9 (((p0).2).1)).1,(((J9 (((p0).2).1)).2).1,((((J9 (((p0).2).1)).2).2).1,((List.map Val.of (List.map Val.un (((((J9 (((p0).2).1)).2).2).2).1))),()))))
 let a9:=((Q4 ((a3.2).1)).1,(((Q4 ((a3.2).1)).2).1,((((Q4 ((a3.2).1)).2).2).1,((List.map Val.of (List.map Val.un (((((Q4 ((a3.2).1)).2).2).2).1))),()))))
 let a10:=((Q4 ((a1.2).1)).1,(((Q4 ((a1.2).1)).2).1,((((Q4 ((a1.2).1)).2).2).1,((List.map Val.of (List.map Val.un (((((Q4 ((a1.2).1)).2).2).2).1))),()))))
 let a11:=((Q4 ((p0).1)).1,(((Q4 ((p0).1)).2).1,((((Q4 ((p0).1)).2).2).1,((List.map Val.of (List.map Val.un (((((Q4 ((p0).1)).2).2).2).1))),()))))
 let a12:=((YW (a3.1)).1,(((YW (a3.1)).2).1,((((YW (a3.1)).2).2).1,((List.map Val.of (List.map Val.un (((((YW (a3.1)).2).2).2).1))),()))))
 let a13:=((YW (a1.1)).1,(((YW (a1.1)).2).1,((((YW (a1.1)).2).2).1,((List.map Val.of (List.map Val.un (((((YW (a1.1)).2).2).2).1))),()))))
 let a14:=((a2.2).1,(((a2.2).2).1,((List.map Val.of (List.map Val.un ((((a2.2).2).2).1))),())))
 br (decide (0<=(0:Int)/\(0:Int)<=(Qw p0).length/\([]:List Qh).length<=(0:Int).toNat/\(Qw p0).length<=8)&&(Qw p0).all fun s=>decide (s.size<=32)) (br (Zw ((p0).1)) (br (Y8 (((p0).2).1)) (br (Y8 ((((p0).2).2).1)) (br (UO (a3.1)) (br (Zw ((a3.2).1)) (br (UO (a1.1)) (br (Zw ((a1.2).1)) (br (Zw (((a1.2).2).1)) (br (Zw (((((a1.2).2).2).2).1)) (br (X5 (([]:List Qh)++((Qw p0).drop (0:Int).toNat).map J9)) (br (X5 ([a11,a8,a6,a12,a9,a13,a10,a7,a5,a4,(a2.1,a14)])) (some (.t QC (XA ([a11,a8,a6,a12,a9,a13,a10,a7,a5,a4,(a2.1,a14)])),[])) none) none) none) none) none) none) none) none) none) none) none) none
theorem QPj (x4:Int)(y1:Certificate)(y2:Qh)(y3:List Qh)(h:(decide (0<=x4/\x4<=(Qw y1).length/\y3.length<=x4.toNat/\(Qw y1).length<=8)&&(Qw y1).all fun s=>decide (s.size<=32))=true):QfR x4 y1 y2 y3=QfS x4 y1 y2 y3:=by
 simp only [Bb,Ba,Bf] at h
 obtain ⟨⟨h0,h1,h2,h3⟩,hn⟩:=h
 obtain ⟨k,rfl⟩:=Bo h0
 rw [Bc] at h2
 revert y3
 refine QP (Qw y1) (fun k=> ∀ y3:List Qh,y3.length<=k->QfR (k:Int) y1 y2 y3=QfS (k:Int) y1 y2 y3) ?_ ?_ k (by omega)
 ·intro y3 _
  rw [QA8]
  simp only [V5,QfS,show ilt ((Qw y1).length:Int) (Qa (Qw y1))=false from Bl (by simp only [Qa];omega),Qf,Bc,BK,List.map_nil,BQ]
 ·intro k hk ih y3 hy
  rw [QA8]
  have hx:=hn (Qw y1)[k] (Bw hk)
  simp only [V5,show ilt (k:Int) (Qa (Qw y1))=true from Be (by simp only [Qa];omega),QJ,hk,Bt,Qb,Bc,QO (show k<4611686018427387904 by omega),QL (y:= .str) hk,Qn8 hx,Qn3]
  rw [Jk (by omega) (by simp only [Bq];omega),Qb,ih _ (by simp only [Bm,Bq];omega)]
  simp only [QfS,Bc,Bi hk,BJ,BU,BN]
theorem QPk:LO Qob Qn9 QA6 0:=QH (s:=QfQ) fun x y h _ q=>by simp only [QE,QF] at q;exact (QPj x.2.2.2.1 y.1 y.2.1 y.2.2.1 h).trans q
theorem s_f152 (c:Certificate)(h:IB c=true):QA9 c=some (.t QC (W0 c),[]):=by
 simp only [IB,Bb] at h
 obtain ⟨_,hv⟩:=h
 obtain ⟨h1,h2,h3,h4,h5,h6,h7,h8,h9,h10,h11⟩:=QfP hv
 have hc:=QPg hv
 have hp:=QPh hv
 have ha:((Qw c).all fun s=>decide (s.size<=32))=true:=Bf.2 fun s hs=>Be (h11 s hs)
 have hl:(0:Int)<=0/\(0:Int)<=(Qw c).length/\([]:List Qh).length<=0/\(Qw c).length<=8:=⟨by omega,by omega,by simp,h10⟩
 simp only [WZ] at hp
 simp only [QA9,ha,BZ,h1,Qn8 h2,Qn8 h3,h4,h5,h6,h7,h8,h9,Qb,Br,By,BP,Qn3,hc,hp]
 rw [Be hl]
 rfl
def QBa:Ent:=Qi (.pr QQ .nil) (fun x=>(IB x.1)) (fun x=>(.t QC (W0 x.1)))
theorem QPl:EM 152 QBa:=mS (lk:=lkL (lkc QPk lkn)) Qob QA5 [((.c 2 true 4),some QC)] false (gB (gD Qwn (gD QlN (gD Qll (gD QPb (gD QKB gN)))))) fun m=>Qm m fun x hok=>kT (s_f152 x.1 hok)
end
end Go.Proofs.YtmjnnemhoeolgaaGreat.K
noncomputable section
namespace Go.Proofs.YtmjnnemhoeolgaaGreat.K
open Go.RowKit
noncomputable section
def Yn (c:Certificate):List Int×Int:=bif Q0 c then Ww (W0 c) else ([],9)
theorem QFr {c:Certificate}(h:Q0 c=true):Yn c=(Zz (W0 c),0):=by
 have:=Qn7 h
 rw [Yn,h,B2,Ww,if_neg (by omega)]
theorem QFs (c:Certificate):(Yn c).1.length<=1000:=by
 cases h:Q0 c with
 |true=>
  rw [QFr h]
  exact Qn7 h
 |false=>
  rw [Yn,h]
  simp
def QFt:TC:=aF Tryz.f114 []
def g_f114:G:=gG 12 [(113,Qax),(151,QlM),(152,QBa)] (fun _ _=>none)
def Qh1 (p0:Certificate):OV:=br (JA p0) (br (ine (XG p0) 0) (some (.tu [(.t (.sl (.int .u8)) ([]:List Int)),(.t tI 9)],[])) (br (IB p0) (br (WO (W0 p0)) (some (.tu [(.t (.sl (.int .u8)) ((Ww (W0 p0)).1)),(.t tI ((Ww (W0 p0)).2))],[])) none) none)) none
theorem s_f114 (c:Certificate)(h:JA c=true):Qh1 c=some (.tu [.t (.sl (.int .u8)) (Yn c).1,.t tI (Yn c).2],[]):=by
 unfold Yn
 cases hv:Q0 c with
 |true=>simp only [Qh1,h,hv,IO,enc_ok hv,show IB c=true from by rw [IB,h,hv];rfl,BC,Qb,Qf,B2]
 |false=>simp only [Qh1,h,hv,IO,Dx,Qb,BM]
def Qh2:Ent:=Qi (.pr QQ .nil) (fun x=>(JA x.1)) (fun x=>(.tu [(.t (.sl (.int .u8)) ((Yn x.1).1)),(.t tI ((Yn x.1).2))]))
theorem QqE:EM 114 Qh2:=mS g_f114 QFt [((.t 2),some (.sl (.int .u8))),((.t 3),some tI)] false (gB (gD QgJ (gD Qw9 (gD QPl gN)))) fun m=>Qm m fun x hok=>kT (s_f114 x.1 hok)
def U2 (s x:Int):Int:=Qkn .u32 (EP .u32 s (icv .u32 x)) 16777619
def FW (b:List Int):Int:=icv .i64 (b.foldl U2 2166136261)
def FX (b:List Int):Bool:=decide (b.length<=100000)
abbrev Qh3:Sh:=⟨[(3,.ty (.int .u32)),(6,.ty (.sl (.int .u8))),(7,.ty tI),(8,.ty tI)],[]⟩
abbrev Qh4:Sh:=⟨[(3,.ty (.int .u32))],[]⟩
def QFu:Fg:=Qh3.f
def QFv:TC:=(.sq (.reg [(oP 9 (.bin false .lss (.t 8) (.t 7)))]) (.sq (.cd (.t 9) .sk (.fg Qh4.f (.ex 0))) (.sq (.bk 1 (.sq (.reg [(oP 10 (.ix 1 (.t 6) (.t 8))),(oL 11 10),(oV 5 11)]) (.reg [(oV 12 3),(oV 13 5),(oP 14 (.cv .u32 (.t 13))),(oP 15 (.bin false .xor (.t 12) (.t 14))),(oP 16 (.bin false .mul (.t 15) (.c (.v (.int .u32 16777619))))),(oV 3 16)]))) (.reg [(oP 17 (.bin false .add (.t 8) (cI 1))),(oV 8 17)]))))
def QqF (x3:Int)(x6:List Int)(x7 x8:Int):VS:=Qh3.st (x3,x6,x7,x8,()) ()
def FY (x3:Int):VS:=Qh4.st (x3,()) ()
def QFw:VS->Option (Bool×List (Bool×Exit×VS)):=mkL Qh3 (fun x y=>(QA x.2.1 x.2.2.1 x.2.2.2.1)) (fun x y=>[(true,.exit 0,FY ((x.2.1.drop x.2.2.2.1.toNat).foldl U2 x.1))])
def g_f207:G:=gG 20 [] (Ls [QFw])
def Qbl (x3:Int)(x6:List Int)(x7 x8:Int):OX:=Qr (Qv g_f207 QFu QFv) (QqF x3 x6 x7 x8)
def Oa (kk:Int->List Int->Int->Int->OX)(x3:Int)(x6:List Int)(x7 x8:Int):OX:=br (ilt x8 x7) (br (cIx x6 x8) (kk (Qkn .u32 (EP .u32 x3 (icv .u32 (lgt (.int .u8) x6 (Int.toNat x8)))) 16777619) x6 x7 (Qg .i64 x8 1)) none) (some (.exit 0,FY x3))
def Qbm (x3:Int)(x6:List Int)(x7 x8:Int):OX:=some (.exit 0,FY ((x6.drop x8.toNat).foldl U2 x3))
theorem QqG (x3:Int)(x6:List Int)(x7 x8:Int):Qbl x3 x6 x7 x8=Oa Qbl x3 x6 x7 x8:=lnT (x:=Oa (fun x3 x6 x7 x8=>some (.normal,QqF x3 x6 x7 x8)) x3 x6 x7 x8) (by simp only [Oa,nxA];rfl)
theorem l_f207_0 (x3:Int)(x6:List Int)(x7 x8:Int)(h:(QA x6 x7 x8)=true):Qbl x3 x6 x7 x8=Qbm x3 x6 x7 x8:=by
 obtain ⟨rfl,h3,k,rfl,hk⟩:=JB h
 clear h
 revert x3
 refine QP x6 (fun k=> ∀ x3:Int,Qbl x3 x6 (x6.length:Int) (k:Int)=Qbm x3 x6 (x6.length:Int) (k:Int)) ?_ ?_ k hk
 ·intro x3
  rw [QqG]
  simp only [Oa,Qbm,Qz,BT,B0,Qf,Bc,BK,List.foldl_nil]
 ·intro k hk ih x3
  rw [QqG]
  simp only [Oa,Qz,QJ,hk,Bt,Qb,Bc,QO (show k<4611686018427387904 by omega),QL (y:= .int .u8) hk,ih]
  simp only [Qbm,Bc,Bi hk,List.foldl_cons,U2]
abbrev Qbn:Sh:=⟨[(0,.ty (.sl (.int .u8))),(3,.ty (.int .u32)),(4,.ty tI)],[]⟩
def Qh5:Fg:=Qbn.f
def QqH:TC:=aF Tryz.f115 [(58,pL 0 Qh5),(931,.fg Qh4.f)]
def QqI:TC:=lb 0 QqH
def QqJ (x0:List Int)(x3 x4:Int):VS:=Qbn.st (x0,x3,x4,()) ()
def QFx:VS->Option (Bool×List (Bool×Exit×VS)):=mkL Qbn (fun x y=>(YR x.1 x.2.2.1)) (fun x y=>[(true,.exit 0,FY ((x.1.drop x.2.2.1.toNat).foldl U2 x.2.1))])
def Qh6:G:=gG 21 [] (Ls [QFx])
def Qbo (x0:List Int)(x3 x4:Int):OX:=Qr (Qv Qh6 Qh5 QqI) (QqJ x0 x3 x4)
def Ob (kk:List Int->Int->Int->OX)(x0:List Int)(x3 x4:Int):OX:=br (ilt x4 (Qa x0)) (br (cIx x0 x4) (kk x0 (Qkn .u32 (EP .u32 x3 (icv .u32 (lgt (.int .u8) x0 (Int.toNat x4)))) 16777619) (Qg .i64 x4 1)) none) (some (.exit 0,FY x3))
def Qbp (x0:List Int)(x3 x4:Int):OX:=some (.exit 0,FY ((x0.drop x4.toNat).foldl U2 x3))
theorem QqK (x0:List Int)(x3 x4:Int):Qbo x0 x3 x4=Ob Qbo x0 x3 x4:=lnT (x:=Ob (fun x0 x3 x4=>some (.normal,QqJ x0 x3 x4)) x0 x3 x4) (by simp only [Ob,nxA];rfl)
def QqL (p0:List Int):OV:=br (YR p0 (0:Int)) (some (.t tI (icv .i64 ((p0.drop (0:Int).toNat).foldl U2 (2166136261:Int))),[])) none
theorem QFy (x0:List Int)(x3 x4:Int)(h:(YR x0 x4)=true):Qbo x0 x3 x4=Qbp x0 x3 x4:=by
 simp only [YR,Ba] at h
 obtain ⟨h0,h1,h2⟩:=h
 obtain ⟨k,rfl⟩:=Bo h0
 revert x3
 refine QP x0 (fun k=> ∀ x3:Int,Qbo x0 x3 (k:Int)=Qbp x0 x3 (k:Int)) ?_ ?_ k (by omega)
 ·intro x3
  rw [QqK]
  simp only [Ob,Qbp,show ilt (x0.length:Int) (Qa x0)=false from Bl (by simp only [Qa];omega),Qf,Bc,BK,List.foldl_nil]
 ·intro k hk ih x3
  rw [QqK]
  simp only [Ob,show ilt (k:Int) (Qa x0)=true from Be (by simp only [Qa];omega),QJ,hk,Bt,Qb,Bc,QO (show k<4611686018427387904 by omega),QL (y:= .int .u8) hk,ih]
  simp only [Qbp,Bc,Bi hk,List.foldl_cons,U2]
theorem QFz:LO Qh6 Qh5 QqI 0:=QH (s:=Qbn) fun x y h _ q=>by simp only [QE,QF] at q;exact (QFy x.1 x.2.1 x.2.2.1 h).trans q
theorem s_f115 (b:List Int)(h:FX b=true):QqL b=some (.t tI (FW b),[]):=by
 simp only [FX,Ba] at h
 simp only [QqL,show YR b 0=true from Be (by omega),Qb,Br,By]
 rfl
def Qbq:Ent:=Qi (.pr (.sl (.int .u8)) .nil) (fun x=>(FX x.1)) (fun x=>(.t tI (FW x.1)))
theorem Qh7:EM 115 Qbq:=mS (lk:=lkL (lkc QFz lkn)) Qh6 QqH [((.t 2),some tI)] false (gB gN) fun m=>Qm m fun x hok=>kT (s_f115 x.1 hok)
theorem QqM (c:Certificate):FX (Yn c).1=true:=Be (by have:=QFs c;omega)
def FZ (c:Certificate)(k:Int):Bool:=ieq (Yn c).2 0&&(ieq (YY c).1 k&&ieq (YY c).2.1 (FW (Yn c).1))
def U3 (c:Certificate)(_k:Int):Bool:=JA c
def QFA:TC:=aF Tryz.f181 [(14,pD [(0,[]),(1,[]),(2,[]),(3,[2]),(4,[2]),(5,[2]),(6,[]),(7,[]),(8,[]),(9,[]),(10,[2]),(11,[2]),(12,[2]),(13,[]),(14,[]),(15,[]),(16,[]),(17,[])] (.of [0,1,2,3,4,5,6,7,8,9,10,11,12,13,14,15,16,17]))]
def g_f181:G:=gG 29 [(114,Qh2),(115,Qbq)] (fun _ _=>none)
def QqN (p0:Certificate)(p1:Int):OV:=br (JA p0) (br (ieq ((Yn p0).2) 0) (br (ieq p0.2.2.2.2.2.2.2.2.2.2.2.1.1 p1) (br (FX ((Yn p0).1)) (some (.t .bool (ieq p0.2.2.2.2.2.2.2.2.2.2.2.1.2.1 (FW ((Yn p0).1))),[])) none) (some (.t .bool false,[]))) (some (.t .bool false,[]))) none
theorem s_f181 (c:Certificate)(k:Int)(h:U3 c k=true):QqN c k=some (.t .bool (FZ c k),[]):=by
 simp only [QqN,show JA c=true from h,QqM,Qb]
 exact brA (brA rfl)
def QqO:Ent:=Qi (.pr QQ (.pr tI .nil)) (fun x=>(U3 x.1 x.2.1)) (fun x=>(.t .bool (FZ x.1 x.2.1)))
theorem QFB:EM 181 QqO:=mS g_f181 QFA [((.t 4),some .bool)] false (gB (gD QqE (gD Qh7 gN))) fun m=>Qm m fun x hok=>kT (s_f181 x.1 x.2.1 hok)
def Ya (c:Certificate):Certificate:=c
def QFC:TC:=aF Tryz.f112 []
def g_f112:G:=⟨TYs,[3],9,EL [],X9,(fun _ _=>none),IL [],RL []⟩
def QqP (p0:Certificate):OV:=br (QM ([]:List ByteArray) p0.2.2.2.2.2.2.2.2.2.2.1 16) (some (.t QQ (p0.1,(p0.2.1,(p0.2.2.1,((p0.2.2.2.1.1,(p0.2.2.2.1.2.1,())),(p0.2.2.2.2.1,((p0.2.2.2.2.2.1.1,(p0.2.2.2.2.2.1.2.1,())),(p0.2.2.2.2.2.2.1,(p0.2.2.2.2.2.2.2.1,(p0.2.2.2.2.2.2.2.2.1,(p0.2.2.2.2.2.2.2.2.2.1,((([]:List ByteArray)++p0.2.2.2.2.2.2.2.2.2.2.1),((p0.2.2.2.2.2.2.2.2.2.2.2.1.1,(p0.2.2.2.2.2.2.2.2.2.2.2.1.2.1,())),())))))))))))),[])) none
theorem Qbr {c:Certificate}(h:JA c=true):(Qw c).length<=100000:=by
 simp only [JA,YX,Bb,Ba] at h
 exact h.2.2.1
theorem s_f112 (c:Certificate)(h:JA c=true):QqP c=some (.t QQ (Ya c),[]):=by
 have hn:c.2.2.2.2.2.2.2.2.2.2.1.length<=100000:=Qbr h
 simp only [QqP]
 rw [Jk (by omega) (by simp only [BB];omega),Qb]
 rfl
def QqQ:Ent:=Qi (.pr QQ .nil) (fun x=>(JA x.1)) (fun x=>(.t QQ (Ya x.1)))
theorem QFD:EM 112 QqQ:=mS g_f112 QFC [((.c 2 true 15),some QQ)] false (ZX _ (fun p hp=>by cases hp)) fun m=>Qm m fun x hok=>kT (s_f112 x.1 hok)
def sealC (c:Certificate)(s:Keep):Certificate:=(c.1,(c.2.1,(c.2.2.1,(c.2.2.2.1,(c.2.2.2.2.1,(c.2.2.2.2.2.1,(c.2.2.2.2.2.2.1,(c.2.2.2.2.2.2.2.1,(c.2.2.2.2.2.2.2.2.1,(c.2.2.2.2.2.2.2.2.2.1,(c.2.2.2.2.2.2.2.2.2.2.1,(s,()))))))))))))
def Oc (c:Certificate):Certificate:=sealC c (0,(0,()))
def QqR (c:Certificate)(k:Int):Bool:= !Q0 (Oc c)||(ilt k 0||igt k 2147483648)
abbrev Qbs:Certificate:=Ty.zero QQ
def Ue (c:Certificate)(k:Int):Certificate×Int:=bif QqR c k then (Qbs,9) else (sealC c (k,(FW (Yn (Oc c)).1,())),0)
def tc_f68:TC:=aF Tryz.f68 []
def g_f68:G:=gG 35 [(112,QqQ),(113,Qax),(114,Qh2),(115,Qbq)] (fun _ _=>none)
def r_f68 (p0:Certificate)(p1:Int):OV:=
 let a4:=((Ya p0).2)
 let a1:=((((a4.2).2).2).2)
 let a5:=(((a1.2).2).2)
 let a2:=((Yn ((Ya p0).1,(a4.1,((a4.2).1,(((a4.2).2).1,((((a4.2).2).2).1,(a1.1,((a1.2).1,(((a1.2).2).1,(a5.1,((a5.2).1,(((a5.2).2).1,((0,(0,())),(((a5.2).2).2).2))))))))))))).1)
 let a3:=(JA ((Ya p0).1,(a4.1,((a4.2).1,(((a4.2).2).1,((((a4.2).2).2).1,(a1.1,((a1.2).1,(((a1.2).2).1,(a5.1,((a5.2).1,(((a5.2).2).1,((0,(0,())),(((a5.2).2).2).2)))))))))))))
 let a6:=ByteArray.mk #[]
 br (JA p0) (br a3 (br (ine (XG ((Ya p0).1,(a4.1,((a4.2).1,(((a4.2).2).1,((((a4.2).2).2).1,(a1.1,((a1.2).1,(((a1.2).2).1,(a5.1,((a5.2).1,(((a5.2).2).1,((0,(0,())),(((a5.2).2).2).2))))))))))))) 0) (some (.tu [(.t QQ (0,(a6,(a6,((0,(0,())),(0,((0,(0,())),(0,(0,(false,(0,(([]:List ByteArray),((0,(0,())),()))))))))))))),(.t tI 9)],[])) (br (ilt p1 0) (some (.tu [(.t QQ (0,(a6,(a6,((0,(0,())),(0,((0,(0,())),(0,(0,(false,(0,(([]:List ByteArray),((0,(0,())),()))))))))))))),(.t tI 9)],[])) (br (igt p1 2147483648) (some (.tu [(.t QQ (0,(a6,(a6,((0,(0,())),(0,((0,(0,())),(0,(0,(false,(0,(([]:List ByteArray),((0,(0,())),()))))))))))))),(.t tI 9)],[])) (br a3 (br (FX a2) (some (.tu [(.t QQ ((Ya p0).1,(a4.1,((a4.2).1,(((a4.2).2).1,((((a4.2).2).2).1,(a1.1,((a1.2).1,(((a1.2).2).1,(a5.1,((a5.2).1,(((a5.2).2).1,((p1,((FW a2),())),(((a5.2).2).2).2))))))))))))),(.t tI 0)],[])) none) none)))) none) none
theorem s_f68 (c:Certificate)(k:Int)(h:U3 c k=true):r_f68 c k=some (.tu [.t QQ (Ue c k).1,.t tI (Ue c k).2],[]):=by
 have h:JA c=true:=h
 have hu:JA (Oc c)=true:=h
 have e:((Ya c).1,((Ya c).2.1,((Ya c).2.2.1,((Ya c).2.2.2.1,((Ya c).2.2.2.2.1,((Ya c).2.2.2.2.2.1,((Ya c).2.2.2.2.2.2.1,((Ya c).2.2.2.2.2.2.2.1,((Ya c).2.2.2.2.2.2.2.2.1,((Ya c).2.2.2.2.2.2.2.2.2.1,((Ya c).2.2.2.2.2.2.2.2.2.2.1,((0,(0,())),()))))))))))))=Oc c:=rfl
 simp only [r_f68,h,e,hu,IO,QqM,Qb]
 unfold Ue QqR
 cases Q0 (Oc c) with
 |false=>rfl
 |true=>
  rw [BC,Qf,Da]
  cases ilt k 0 with
  |true=>rfl
  |false=>
   rw [Qf,Da]
   cases igt k 2147483648<;>rfl
def QqS:Ent:=Qi (.pr QQ (.pr tI .nil)) (fun x=>(U3 x.1 x.2.1)) (fun x=>(.tu [(.t QQ ((Ue x.1 x.2.1).1)),(.t tI ((Ue x.1 x.2.1).2))]))
theorem ms_f68:EM 68 QqS:=mS g_f68 tc_f68 [((.c 4 true 15),some QQ),((.t 5),some tI)] false (gB (gD QFD (gD QgJ (gD QqE (gD Qh7 gN))))) fun m=>Qm m fun x hok=>kT (s_f68 x.1 x.2.1 hok)
def Js (l:List Certificate):Bool:=decide (l.length<=100000)&&l.all JA
def Od (key:Keep)(id:Int)(l:List Certificate):Bool:=ieq (Qa l) 0||(((l.getD 0 Qbs).2.2.2.1==key)&&ieq (l.getD 0 Qbs).2.2.2.2.1 id)
def Xo (key:Keep)(id:Int)(l:List Certificate):Bool:=Jq key&&(!ine (Yw key.1) 2&&(Zf id&&(!igt (Qa l) 8&&(l.all Q0&&Od key id l))))
def U4 (_key:Keep)(_id:Int)(l:List Certificate):Bool:=Js l
theorem QqT (key:Keep)(id:Int)(l:List Certificate):br (ieq (Qa l) 0) (some (V.t .bool true,([]:List VO))) (br (cIx l 0) (br ((lgt QQ l 0).2.2.2.1==key) (br (cIx l 0) (some (V.t .bool (ieq (lgt QQ l 0).2.2.2.2.1 id),[])) none) (some (V.t .bool false,[]))) none)=some (V.t .bool (Od key id l),[]):=by
 unfold Od
 cases l with
 |nil=>rfl
 |cons c l=>
  have h1:ieq (Qa (c::l)) 0=false:=by
   simp only [ieq,Qa,Bv,DJ]
   omega
  have h2:cIx (c::l) 0=true:=by simp only [cIx,Bv,Ba];omega
  rw [h1,Qf,h2,Qb,Da,Qb]
  show br (c.2.2.2.1==key) _ _=some (V.t .bool ((c.2.2.2.1==key)&&ieq c.2.2.2.2.1 id),[])
  cases c.2.2.2.1==key<;>rfl
abbrev Qbt:Sh:=⟨[(1,.ty tI),(2,.ty (.sl QQ)),(3,.ptr 3 0),(28,.ty (.sl QQ)),(29,.ty tI),(30,.ty tI)],[(3,.box Qd)]⟩
abbrev Qh8:Sh:=⟨[(6,.ty .bool)],[]⟩
abbrev Qh9:Sh:=⟨[(1,.ty tI),(2,.ty (.sl QQ)),(3,.ptr 3 0)],[(3,.box Qd)]⟩
def Qia:Fg:=Qbt.f
def QqU:TC:=aF Tryz.f79 [(58,pL 0 Qia),(933,.fg Qh9.f),(29901,.fg Qh8.f),(30,pD [(0,[]),(1,[]),(2,[]),(3,[]),(4,[]),(5,[]),(6,[]),(7,[]),(8,[3]),(9,[]),(10,[]),(11,[]),(12,[]),(13,[]),(14,[]),(15,[]),(16,[]),(17,[]),(18,[]),(19,[])] (.of [0,1,2,3,4,5,6,7,8,9,10,11,12,13,14,15,16,17,18,19]))]
def QqV:TC:=lb 0 QqU
def QqW (x1:Int)(x2 x28:List Certificate)(x29 x30:Int)(y3:Keep):VS:=Qbt.st (x1,x2,(),x28,x29,x30,()) (y3,())
def F0 (x6:Bool):VS:=Qh8.st (x6,()) ()
def F1 (x1:Int)(x2:List Certificate)(y3:Keep):VS:=Qh9.st (x1,x2,(),()) (y3,())
def QFE:VS->Option (Bool×List (Bool×Exit×VS)):=mkL Qbt (fun x y=>(QA x.2.2.2.1 x.2.2.2.2.1 x.2.2.2.2.2.1&&Js x.2.2.2.1)) (fun x y=>[((!(x.2.2.2.1.drop x.2.2.2.2.2.1.toNat).all Q0),.ret,F0 (false)),(true,.exit 0,F1 (x.1) (x.2.1) (y.1))])
def Qib:G:=gG 57 [(83,Qau),(87,I3),(126,Qf9),(127,QCT)] (Ls [QFE])
def Qbu (x1:Int)(x2 x28:List Certificate)(x29 x30:Int)(y3:Keep):OX:=Qr (Qv Qib Qia QqV) (QqW x1 x2 x28 x29 x30 y3)
def Oe (kk:Int->List Certificate->List Certificate->Int->Int->Keep->OX)(x1:Int)(x2 x28:List Certificate)(x29 x30:Int)(y3:Keep):OX:=
 let a1:=lgt QQ x28 (Int.toNat x30)
 br (ilt x30 x29) (br (cIx x28 x30) (br (JA a1) (br (ine (XG a1) 0) (some (.ret,F0 false)) (kk x1 x2 x28 x29 (Qg .i64 x30 1) y3)) none) none) (some (.exit 0,F1 x1 x2 y3))
def Qbv (x1:Int)(x2 x28:List Certificate)(x29 x30:Int)(y3:Keep):OX:=br (!(x28.drop x30.toNat).all Q0) (some (.ret,F0 (false)))<|some (.exit 0,F1 (x1) (x2) (y3))
theorem QqX (x1:Int)(x2 x28:List Certificate)(x29 x30:Int)(y3:Keep):Qbu x1 x2 x28 x29 x30 y3=Oe Qbu x1 x2 x28 x29 x30 y3:=lnT (x:=Oe (fun x1 x2 x28 x29 x30 y3=>some (.normal,QqW x1 x2 x28 x29 x30 y3)) x1 x2 x28 x29 x30 y3) (by simp only [Oe,nxA];rfl)
def r_f79 (p0:Keep)(p1:Int)(p2:List Certificate):OV:=
 let a1:=((((lgt QQ (p2) (Int.toNat 0)).2).2).2)
 br (!(Jq p0)) (some (.t .bool false,[])) (br (ine (Yw p0.1) 2) (some (.t .bool false,[])) (br (!(Zf p1)) (some (.t .bool false,[])) (br (igt (Qa p2) 8) (some (.t .bool false,[])) (br (QA p2 (Qa p2) (0:Int)&&Js p2) (br (!(p2.drop (0:Int).toNat).all Q0) (some (.t .bool (false),[])) (br (ieq (Qa (p2)) 0) (some (.t .bool true,[])) (br (cIx (p2) 0) (br (and (ieq ((a1.1).1) ((p0).1)) (and (ieq (((a1.1).2).1) (((p0).2).1)) true)) (br (cIx (p2) 0) (some (.t .bool (ieq ((a1.2).1) (p1)),[])) none) (some (.t .bool false,[]))) none))) none))))
theorem QFF (x1:Int)(x2 x28:List Certificate)(x29 x30:Int)(y3:Keep)(h:(QA x28 x29 x30&&Js x28)=true):Qbu x1 x2 x28 x29 x30 y3=Qbv x1 x2 x28 x29 x30 y3:=by
 simp only [Bb] at h
 obtain ⟨h0,hc⟩:=h
 obtain ⟨rfl,h3,k,rfl,hk⟩:=JB h0
 clear h0
 simp only [Js,Bb,Bf] at hc
 refine QP x28 (fun k=>Qbu x1 x2 x28 (x28.length:Int) (k:Int) y3=Qbv x1 x2 x28 (x28.length:Int) (k:Int) y3) ?_ ?_ k hk
 ·rw [QqX]
  simp only [Oe,Qbv,Qz,BT,B0,Qf,Bc,BK,Dy,BC]
 ·intro k hk ih
  rw [QqX]
  have hx:=hc.2 x28[k] (Bw hk)
  simp only [Oe,Qz,QJ,hk,Bt,Qb,Bc,QO (show k<4611686018427387904 by omega),QL (y:=QQ) hk,hx,IO,ih]
  simp only [Qbv,Bc,Bi hk,BW]
  cases Q0 x28[k]<;>rfl
theorem QFG:LO Qib Qia QqV 0:=QH (s:=Qbt) fun x y h _ q=>by simp only [QE,QF] at q;exact (QFF x.1 x.2.1 x.2.2.2.1 x.2.2.2.2.1 x.2.2.2.2.2.1 y.1 h).trans q
theorem s_f79 (key:Keep)(id:Int)(l:List Certificate)(h:U4 key id l=true):r_f79 key id l=some (.t .bool (Xo key id l),[]):=by
 have h:Js l=true:=h
 have hl:l.length<=100000:=by simp only [Js,Bb,Ba] at h;exact h.1
 simp only [r_f79,JC hl,h,BZ,Qb,Br,By,QB8]
 unfold Xo
 refine (brB<|brB<|brB<|brB<|brB (QqT key id l)).trans ?_
 simp only [Bool.not_not]
def QqY:Ent:=Qi (.pr Qd (.pr tI (.pr (.sl QQ) .nil))) (fun x=>(U4 x.1 x.2.1 x.2.2.1)) (fun x=>(.t .bool (Xo x.1 x.2.1 x.2.2.1)))
theorem ms_f79:EM 79 QqY:=mS (lk:=lkL (lkc QFG lkn)) Qib QqU [((.t 6),some .bool)] false (gB (gD QgA (gD QaV (gD Qoq (gD QQH gN))))) fun m=>Qm m fun x hok=>kT (s_f79 x.1 x.2.1 x.2.2.1 hok)
abbrev Qbw:Sh:=⟨[(1,.ty tI),(2,.ty (.sl QQ)),(3,.ptr 3 0),(7,.ty tI)],[(3,.box Qd)]⟩
def Qic:Fg:=Qbw.f
def QqZ:TC:=aF Tryz.f100 [(58,pL 0 Qic),(931,.fg Qh9.f),(7461,.fg Qh8.f),(30,pD [(0,[]),(1,[]),(2,[]),(3,[]),(4,[]),(5,[]),(6,[]),(7,[]),(8,[3]),(9,[]),(10,[]),(11,[]),(12,[]),(13,[]),(14,[]),(15,[]),(16,[]),(17,[]),(18,[]),(19,[])] (.of [0,1,2,3,4,5,6,7,8,9,10,11,12,13,14,15,16,17,18,19]))]
def Qq0:TC:=lb 0 QqZ
def Qq1 (x1:Int)(x2:List Certificate)(x7:Int)(y3:Keep):VS:=Qbw.st (x1,x2,(),x7,()) (y3,())
def QFH:VS->Option (Bool×List (Bool×Exit×VS)):=mkL Qbw (fun x y=>(decide (0<=x.2.2.2.1/\x.2.2.2.1<=x.2.1.length)&&Js x.2.1)) (fun x y=>[((!(x.2.1.drop x.2.2.2.1.toNat).all Q0),.ret,F0 (false)),(true,.exit 0,F1 (x.1) (x.2.1) (y.1))])
def Qid:G:=gG 55 [(113,Qax),(140,QoY)] (Ls [QFH])
def Qbx (x1:Int)(x2:List Certificate)(x7:Int)(y3:Keep):OX:=Qr (Qv Qid Qic Qq0) (Qq1 x1 x2 x7 y3)
def Of (kk:Int->List Certificate->Int->Keep->OX)(x1:Int)(x2:List Certificate)(x7:Int)(y3:Keep):OX:=
 let a1:=lgt QQ x2 (Int.toNat x7)
 br (ilt x7 (Qa x2)) (br (cIx x2 x7) (br (JA a1) (br (ine (XG a1) 0) (some (.ret,F0 false)) (kk x1 x2 (Qg .i64 x7 1) y3)) none) none) (some (.exit 0,F1 x1 x2 y3))
def Qby (x1:Int)(x2:List Certificate)(x7:Int)(y3:Keep):OX:=br (!(x2.drop x7.toNat).all Q0) (some (.ret,F0 (false)))<|some (.exit 0,F1 (x1) (x2) (y3))
theorem Qq2 (x1:Int)(x2:List Certificate)(x7:Int)(y3:Keep):Qbx x1 x2 x7 y3=Of Qbx x1 x2 x7 y3:=lnT (x:=Of (fun x1 x2 x7 y3=>some (.normal,Qq1 x1 x2 x7 y3)) x1 x2 x7 y3) (by simp only [Of,nxA];rfl)
def Qq3 (p0:Keep)(p1:Int)(p2:List Certificate):OV:=
 let a1:=((((lgt QQ (p2) (Int.toNat 0)).2).2).2)
 br (!(Fx p0)) (some (.t .bool false,[])) (br (ilt p1 0) (some (.t .bool false,[])) (br (igt p1 2147483648) (some (.t .bool false,[])) (br (igt (Qa p2) 8) (some (.t .bool false,[])) (br (decide (0<=(0:Int)/\(0:Int)<=p2.length)&&Js p2) (br (!(p2.drop (0:Int).toNat).all Q0) (some (.t .bool (false),[])) (br (ieq (Qa (p2)) 0) (some (.t .bool true,[])) (br (cIx (p2) 0) (br (and (ieq ((a1.1).1) ((p0).1)) (and (ieq (((a1.1).2).1) (((p0).2).1)) true)) (br (cIx (p2) 0) (some (.t .bool (ieq ((a1.2).1) (p1)),[])) none) (some (.t .bool false,[]))) none))) none))))
theorem QFI (x1:Int)(x2:List Certificate)(x7:Int)(y3:Keep)(h:(decide (0<=x7/\x7<=x2.length)&&Js x2)=true):Qbx x1 x2 x7 y3=Qby x1 x2 x7 y3:=by
 simp only [Js,Bb,Ba,Bf] at h
 obtain ⟨⟨h0,h1⟩,h3,hc⟩:=h
 obtain ⟨k,rfl⟩:=Bo h0
 refine QP x2 (fun k=>Qbx x1 x2 (k:Int) y3=Qby x1 x2 (k:Int) y3) ?_ ?_ k (by omega)
 ·rw [Qq2]
  simp only [Of,Qby,show ilt (x2.length:Int) (Qa x2)=false from Bl (by simp only [Qa];omega),Qf,Bc,BK,Dy,BC]
 ·intro k hk ih
  rw [Qq2]
  have hx:=hc x2[k] (Bw hk)
  simp only [Of,show ilt (k:Int) (Qa x2)=true from Be (by simp only [Qa];omega),QJ,hk,Bt,Qb,Bc,QO (show k<4611686018427387904 by omega),QL (y:=QQ) hk,hx,IO,ih]
  simp only [Qby,Bc,Bi hk,BW]
  cases Q0 x2[k]<;>rfl
theorem QFJ:LO Qid Qic Qq0 0:=QH (s:=Qbw) fun x y h _ q=>by simp only [QE,QF] at q;exact (QFI x.1 x.2.1 x.2.2.2.1 y.1 h).trans q
theorem s_f100 (key:Keep)(id:Int)(l:List Certificate)(h:U4 key id l=true):Qq3 key id l=some (.t .bool (Xo key id l),[]):=by
 have h:Js l=true:=h
 have hl:l.length<=100000:=by simp only [Js,Bb,Ba] at h;exact h.1
 have hd:(0:Int)<=0/\(0:Int)<=l.length:=⟨by omega,by omega⟩
 simp only [Qq3,h,Be hd,BZ,Qb,Br,By,QB8]
 unfold Xo Fx Yx Zf
 refine (brB<|brB<|brB<|brB<|brB (QqT key id l)).trans ?_
 simp only [Bool.not_not,Fv,Bool.and_assoc]
def Qq4:Ent:=Qi (.pr Qd (.pr tI (.pr (.sl QQ) .nil))) (fun x=>(U4 x.1 x.2.1 x.2.2.1)) (fun x=>(.t .bool (Xo x.1 x.2.1 x.2.2.1)))
theorem QFK:EM 100 Qq4:=mS (lk:=lkL (lkc QFJ lkn)) Qid QqZ [((.t 6),some .bool)] false (gB (gD QgJ (gD QCP gN))) fun m=>Qm m fun x hok=>kT (s_f100 x.1 x.2.1 x.2.2.1 hok)
end
end Go.Proofs.YtmjnnemhoeolgaaGreat.K
noncomputable section
namespace Go.Proofs
open Go.Shelf
def Tryz.lays137_ren:Go.Shelf.Ren:=⟨fun|137=>163|217=>195|266=>214|n=>n,fun|9=>9|5=>5|3=>3|n=>n,fun|n=>n⟩
theorem Tryz.lays137:Go.Proofs.Lays.n137 Tryz.prog Tryz.lays137_ren:={
 mixed:=by kernel_rfl
 f137:=Tryz.func163.trans (congrArg some (by kernel_rfl))
 f217:=Tryz.func195.trans (congrArg some (by kernel_rfl))
 f266:=Tryz.func214.trans (congrArg some (by kernel_rfl))
 t3:=Tryz.underlying3
 a3:=Tryz.isAgg3
 z3:=Tryz.sizeOf3
 v3:=Tryz.zeroValue3
 t5:=Tryz.underlying5
 a5:=Tryz.isAgg5
 z5:=Tryz.sizeOf5
 v5:=Tryz.zeroValue5
 t9:=Tryz.underlying9
 a9:=Tryz.isAgg9
 z9:=Tryz.sizeOf9
 v9:=Tryz.zeroValue9}
end Go.Proofs
namespace Go.Proofs.YtmjnnemhoeolgaaGreat.K
open Go.RowKit Go.Shelf
noncomputable section
def ixB (s:ByteArray)(c:Int):Int:=Lib.indexByte s.data.toList c.toNat.toUInt8
def Qtp:Ent:=Qi (.pr .str (.pr (.int .u8) .nil)) (fun x=>true) (fun x=>(.t tI (ixB x.1 x.2.1)))
theorem QHH:Zg Tryz.prog 163:= .inr ⟨by decide,_,Tryz.func163,by kernel_rfl,by kernel_rfl⟩
theorem QHI:QI Tryz.prog 163 (QG Qtp):=QuL fun x hok X w σ vs hfin hc=>by
 obtain ⟨s,c,u⟩:=x
 simp only [Ty.canon,V.ds,V.d,Ty.d,Cs,C] at hc
 obtain ⟨v1,r1,rfl,⟨rfl,_⟩,v2,r2,rfl,⟨rfl,_⟩,rfl⟩:=hc
 refine (Any.strings_IndexByte Tryz.lays137 s c w).mono ?_
 rintro e w' ⟨rfl,rfl⟩
 refine ⟨_,rfl, ?_,Below.refl _ _⟩
 simp only [V.d,Ty.d,C]
 exact ⟨rfl,rfl⟩
def Em (c:Int)(o:ByteArray):Bool:=(ige c 97&&ile c 122)||((ige c 65&&ile c 90)||((ige c 48&&ile c 57)||ige (ixB o c) 0))
def QHJ:TC:=aF Tryz.f123 []
def g_f123:G:=gG 33 [(163,Qtp)] (fun _ _=>none)
def QjL (p0:Int)(p1:ByteArray):OV:=br (ige p0 48) (br (ile p0 57) (some (.t .bool true,[])) (some (.t .bool (ige (ixB p1 p0) 0),[]))) (some (.t .bool (ige (ixB p1 p0) 0),[]))
def QjM (p0:Int)(p1:ByteArray):OV:=br (ige p0 65) (br (ile p0 90) (some (.t .bool true,[])) (QjL p0 p1)) (QjL p0 p1)
def Qtq (p0:Int)(p1:ByteArray):OV:=br (ige p0 97) (br (ile p0 122) (some (.t .bool true,[])) (QjM p0 p1)) (QjM p0 p1)
theorem brO {a b r:Bool}{X:OV}(h:X=some (.t .bool r,[])):br a (br b (some (.t .bool true,[])) X) X=some (.t .bool ((a&&b)||r),[]):=by
 subst h
 cases a<;>cases b<;>rfl
theorem s_f123 (c:Int)(o:ByteArray):Qtq c o=some (.t .bool (Em c o),[]):=by
 simp only [Qtq,QjM,QjL]
 exact brO (brO (brO rfl))
def Qtr:Ent:=Qi (.pr (.int .u8) (.pr .str .nil)) (fun x=>true) (fun x=>(.t .bool (Em x.1 x.2.1)))
theorem QHK:EM 123 Qtr:=mS g_f123 QHJ [((.t 4),some .bool)] false (gB (gC QHH QHI gN)) fun m=>Qm m fun x _=>kT (s_f123 x.1 x.2.1)
def YD (c:Int):Bool:= !(ilt c 97||igt c 122)||(!(ilt c 65||igt c 90)||(!(ilt c 48||igt c 57)||(ieq c 45||(ieq c 95||ieq c 46))))
def Wl (s:ByteArray):Bool:=(Q1 s).all YD&&decide (1<=s.size/\s.size<=32)
set_option maxRecDepth 100000 in
theorem QHL:((List.range 256).all fun n=>Em (n:Int) (ByteArray.mk #[45,95,46])==YD (n:Int))=true:=by kernel_rfl
theorem QHM {s:ByteArray}{c:Int}(h:c∈Q1 s):Em c (ByteArray.mk #[45,95,46])=YD c:=by
 obtain ⟨b,_,rfl⟩:=B9.1 h
 have:=Bf.1 QHL b.toNat (by rw [Di];exact b.toNat_lt)
 exact eq_of_beq this
abbrev Qcq:Sh:=⟨[(0,.ty .str),(6,.ty (.sl (.int .u8))),(7,.ty tI),(8,.ty tI)],[]⟩
abbrev OC:Sh:=⟨[(2,.ty .bool)],[]⟩
abbrev Qts:Sh:=⟨[(0,.ty .str)],[]⟩
def QjN:Fg:=Qcq.f
def Qtt:TC:=aF Tryz.f76 [(26,pL 0 QjN),(421,.fg Qts.f),(13517,.fg OC.f)]
def Qtu:TC:=lb 0 Qtt
def Qtv (x0:ByteArray)(x6:List Int)(x7 x8:Int):VS:=Qcq.st (x0,x6,x7,x8,()) ()
def Xq (x2:Bool):VS:=OC.st (x2,()) ()
def QjO (x0:ByteArray):VS:=Qts.st (x0,()) ()
def QHN:VS->Option (Bool×List (Bool×Exit×VS)):=mkL Qcq (fun x y=>(WP x.2.1 x.2.2.1 x.2.2.2.1&&XF x.2.1 (Q1 x.1))) (fun x y=>[((!((x.2.1.drop x.2.2.2.1.toNat).all YD)),.ret,Xq (false)),(true,.exit 0,QjO (x.1))])
def QjP:G:=gG 24 [(123,Qtr),(31080144,Qam)] (Ls [QHN])
def Qcr (x0:ByteArray)(x6:List Int)(x7 x8:Int):OX:=Qr (Qv QjP QjN Qtu) (Qtv x0 x6 x7 x8)
def OD (kk:ByteArray->List Int->Int->Int->OX)(x0:ByteArray)(x6:List Int)(x7 x8:Int):OX:=br (ilt x8 x7) (br (cIx x6 x8) (br (!(Em (lgt (.int .u8) x6 (Int.toNat x8)) (ByteArray.mk #[45,95,46]))) (some (.ret,Xq false)) (kk x0 x6 x7 (Qg .i64 x8 1))) none) (some (.exit 0,QjO x0))
def Qcs (x0:ByteArray)(x6:List Int)(x7 x8:Int):OX:=br (!((x6.drop x8.toNat).all YD)) (some (.ret,Xq (false)))<|some (.exit 0,QjO (x0))
theorem Qtw (x0:ByteArray)(x6:List Int)(x7 x8:Int):Qcr x0 x6 x7 x8=OD Qcr x0 x6 x7 x8:=lnT (x:=OD (fun x0 x6 x7 x8=>some (.normal,Qtv x0 x6 x7 x8)) x0 x6 x7 x8) (by simp only [OD,nxA];rfl)
def r_f76 (p0:ByteArray):OV:=br (Y8 p0) (br (WP (Q1 p0) (Qa (Q1 p0)) (0:Int)&&XF (Q1 p0) (Q1 p0)) (br (!(((Q1 p0).drop (0:Int).toNat).all YD)) (some (.t .bool (false),[])) (br (ige (J3 (p0)) 1) (some (.t .bool (ile (J3 (p0)) 32),[])) (some (.t .bool false,[])))) none) none
theorem QHO (x0:ByteArray)(x6:List Int)(x7 x8:Int)(h:(WP x6 x7 x8&&XF x6 (Q1 x0))=true):Qcr x0 x6 x7 x8=Qcs x0 x6 x7 x8:=by
 simp only [Bb] at h
 obtain ⟨h,hs⟩:=h
 have hs:=QoU hs
 obtain ⟨rfl,h3,k,rfl,hk⟩:=Qxb h
 clear h
 refine QP x6 (fun k=>Qcr x0 x6 (x6.length:Int) (k:Int)=Qcs x0 x6 (x6.length:Int) (k:Int)) ?_ ?_ k hk
 ·rw [Qtw]
  simp [OD,Qcs,Qz,Qf]
 ·intro k hk ih
  rw [Qtw]
  have hw:Em x6[k] (ByteArray.mk #[45,95,46])=YD x6[k]:=QHM (s:=x0) (by rw [←hs];exact Bw hk)
  simp only [OD,Qz,QJ,hk,Bt,Qb,Bc,Qd5 (show k<9223372036854775807 by omega),QL (y:= .int .u8) hk,ih,hw]
  simp only [Qcs,Bc,Bi hk,BW]
  cases YD x6[k]<;>rfl
theorem QHP:LO QjP QjN Qtu 0:=QH (s:=Qcq) fun x y h _ q=>by simp only [QE,QF] at q;exact (QHO x.1 x.2.1 x.2.2.1 x.2.2.2.1 h).trans q
theorem s_f76 (s:ByteArray)(h:Jg s=true):r_f76 s=some (.t .bool (Wl s),[]):=by
 simp only [Jg,Ba] at h
 have hl:=Fk s
 simp only [r_f76,show Y8 s=true from Be (by omega),Qxc (show (Q1 s).length<=9223372036854775807 by omega),QoT,BZ,Qb,Br,By,Wl]
 cases (Q1 s).all YD with
 |false=>rfl
 |true=>
  simp only [BC,Qf,BA]
  refine QX (fun g=> ?_) (fun g=> ?_)
  ·simp only [ige,J3,Ba] at g
   apply U6
   rw [Dq]
   simp only [ile,J3,Ba]
   omega
  ·simp only [ige,J3,Bn] at g
   apply U6
   rw [eq_comm,Bn]
   omega
def Qtx:Ent:=Qi (.pr .str .nil) (fun x=>(Jg x.1)) (fun x=>(.t .bool (Wl x.1)))
theorem ms_f76:EM 76 Qtx:=mS (lk:=lkL (lkc QHP lkn)) QjP Qtt [((.t 2),some .bool)] false (gB (gD QHK (gC Qf6 Qf7 gN))) fun m=>Qm m fun x hok=>kT (s_f76 x.1 hok)
abbrev Qct:Sh:=⟨[(0,.ty .str),(3,.ty tI)],[]⟩
abbrev En:Sh:=⟨[],[]⟩
def QjQ:Fg:=Qct.f
def Qty:TC:=aF Tryz.f98 [(58,pL 0 QjQ),(931,.fg En.f),(14925,.fg OC.f)]
def Qtz:TC:=lb 0 Qty
def QtA (x0:ByteArray)(x3:Int):VS:=Qct.st (x0,x3,()) ()
def QjR  : VS:=En.st () ()
def QHQ:VS->Option (Bool×List (Bool×Exit×VS)):=mkL Qct (fun x y=>(Jg x.1&&decide (0<=x.2.1/\x.2.1<=x.1.size))) (fun x y=>[((!(((Q1 x.1).drop x.2.1.toNat).all YD)),.ret,Xq (false)),(true,.exit 0,QjR)])
def QjS:G:=gG 56 [] (Ls [QHQ])
def Qcu (x0:ByteArray)(x3:Int):OX:=Qr (Qv QjS QjQ Qtz) (QtA x0 x3)
def Qcv (kk:ByteArray->Int->OX)(x0:ByteArray)(x3:Int):OX:=
 let a1:=Qg .i64 x3 1
 br (ine (sgt x0 x3) 45) (br (ine (sgt x0 x3) 95) (br (ine (sgt x0 x3) 46) (some (.ret,Xq false)) (kk x0 a1)) (kk x0 a1)) (kk x0 a1)
def Qcw (kk:ByteArray->Int->OX)(x0:ByteArray)(x3:Int):OX:=br (ilt (sgt x0 x3) 48) (Qcv kk x0 x3) (br (igt (sgt x0 x3) 57) (Qcv kk x0 x3) (kk x0 (Qg .i64 x3 1)))
def Qcx (kk:ByteArray->Int->OX)(x0:ByteArray)(x3:Int):OX:=br (ilt (sgt x0 x3) 65) (Qcw kk x0 x3) (br (igt (sgt x0 x3) 90) (Qcw kk x0 x3) (kk x0 (Qg .i64 x3 1)))
def OE (kk:ByteArray->Int->OX)(x0:ByteArray)(x3:Int):OX:=br (ilt x3 (J3 x0)) (br (cSx x0 x3) (br (ilt (sgt x0 x3) 97) (Qcx kk x0 x3) (br (igt (sgt x0 x3) 122) (Qcx kk x0 x3) (kk x0 (Qg .i64 x3 1)))) none) (some (.exit 0,QjR))
def Qcy (x0:ByteArray)(x3:Int):OX:=br (!(((Q1 x0).drop x3.toNat).all YD)) (some (.ret,Xq (false)))<|some (.exit 0,QjR)
theorem QtB (x0:ByteArray)(x3:Int):Qcu x0 x3=OE Qcu x0 x3:=lnT (x:=OE (fun x0 x3=>some (.normal,QtA x0 x3)) x0 x3) (by simp only [OE,Qcx,Qcw,Qcv,nxA];rfl)
def r_f98 (p0:ByteArray):OV:=br (ilt (J3 p0) 1) (some (.t .bool false,[])) (br (igt (J3 p0) 32) (some (.t .bool false,[])) (br (Jg p0&&decide (0<=(0:Int)/\(0:Int)<=p0.size)) (br (!(((Q1 p0).drop (0:Int).toNat).all YD)) (some (.t .bool (false),[])) (some (.t .bool true,[]))) none))
theorem QHR {β:Type}(c:Int)(bad ok:Option β):(br (ilt c 97) (br (ilt c 65) (br (ilt c 48) (br (ine c 45) (br (ine c 95) (br (ine c 46) bad ok) ok) ok) (br (igt c 57) (br (ine c 45) (br (ine c 95) (br (ine c 46) bad ok) ok) ok) ok)) (br (igt c 90) (br (ilt c 48) (br (ine c 45) (br (ine c 95) (br (ine c 46) bad ok) ok) ok) (br (igt c 57) (br (ine c 45) (br (ine c 95) (br (ine c 46) bad ok) ok) ok) ok)) ok)) (br (igt c 122) (br (ilt c 65) (br (ilt c 48) (br (ine c 45) (br (ine c 95) (br (ine c 46) bad ok) ok) ok) (br (igt c 57) (br (ine c 45) (br (ine c 95) (br (ine c 46) bad ok) ok) ok) ok)) (br (igt c 90) (br (ilt c 48) (br (ine c 45) (br (ine c 95) (br (ine c 46) bad ok) ok) ok) (br (igt c 57) (br (ine c 45) (br (ine c 95) (br (ine c 46) bad ok) ok) ok) ok)) ok)) ok))=br (YD c) ok bad:=by
 simp only [YD,Fv]
 cases ilt c 97<;>cases igt c 122<;>cases ilt c 65<;>cases igt c 90<;>cases ilt c 48<;>cases igt c 57<;>cases ieq c 45<;>cases ieq c 95<;>cases ieq c 46<;>rfl
theorem QHS (x0:ByteArray)(x3:Int)(h:(Jg x0&&decide (0<=x3/\x3<=x0.size))=true):Qcu x0 x3=Qcy x0 x3:=by
 simp only [Jg,Bb,Ba] at h
 obtain ⟨h0,h1,h2⟩:=h
 obtain ⟨k,rfl⟩:=Bo h1
 have hl:=Fk x0
 refine QP (Q1 x0) (fun k=>Qcu x0 (k:Int)=Qcy x0 (k:Int)) ?_ ?_ k (by omega)
 ·rw [QtB]
  simp [OE,Qcy,ilt,J3,hl,Qf,DY (show (Q1 x0).length<=x0.size by omega)]
 ·intro k hk ih
  have hk2:k<x0.size:=by omega
  rw [QtB]
  simp only [OE,Qcx,Qcw,Qcv,show ilt (k:Int) (J3 x0)=true from by simp only [ilt,J3,Ba];omega,show cSx x0 (k:Int)=true from by simp only [cSx,Ba];omega,Qb,Qxi hk2,Qd5 (show k<9223372036854775807 by omega),ih,QHR]
  simp only [Qcy,Bc,Bi hk,BW]
  cases YD (Q1 x0)[k]<;>rfl
theorem QHT:LO QjS QjQ Qtz 0:=QH (s:=Qct) fun x y h _ q=>by simp only [QE,QF] at q;exact (QHS x.1 x.2.1 h).trans q
theorem s_f98 (s:ByteArray)(h:Jg s=true):r_f98 s=some (.t .bool (Wl s),[]):=by
 simp only [r_f98]
 unfold Wl
 refine QX (fun g=> ?_) (fun g=>QX (fun g2=> ?_) (fun g2=> ?_))
 ·simp only [ilt,J3,Ba] at g
  rw [Bl (show ¬ (1<=s.size/\s.size<=32) by omega),Bool.and_false]
 ·simp only [igt,J3,Ba] at g2
  rw [Bl (show ¬ (1<=s.size/\s.size<=32) by omega),Bool.and_false]
 ·simp only [ilt,igt,J3,Bn] at g g2
  rw [h,Be (show (0:Int)<=0/\(0:Int)<=s.size by omega),Be (show 1<=s.size/\s.size<=32 by omega),Df,Df,Qb,Br,By]
  cases (Q1 s).all YD<;>rfl
def QtC:Ent:=Qi (.pr .str .nil) (fun x=>(Jg x.1)) (fun x=>(.t .bool (Wl x.1)))
theorem ms_f98:EM 98 QtC:=mS (lk:=lkL (lkc QHT lkn)) QjS Qty [((.t 2),some .bool)] false (gB gN) fun m=>Qm m fun x hok=>kT (s_f98 x.1 hok)
def J7 {α:Type}(l:List α):Bool:=decide (l.length<=100000)
def YE (l:List Int)(k:Nat):Bool:=(List.range' k (l.length-k)).all fun j=>decide (j=0)||ilt (l.getD (j-1) 0) (l.getD j 0)
def Xs (l:List Int):Bool:=YE l 0
theorem QjT (l:List Int):YE l l.length=true:=by
 unfold YE
 rw [DV]
 rfl
theorem QjU {l:List Int}{k:Nat}(hk:k<l.length):YE l k=((decide (k=0)||ilt (l.getD (k-1) 0) l[k])&&YE l (k+1)):=by
 have:l.length-k=(l.length-(k+1))+1:=by omega
 unfold YE
 rw [this,Dr,BW]
 simp only [Bk,Bh hk,BH]
theorem QjV {β:Type}{l:List Int}{k:Nat}(hk:k<l.length)(hb:k<4611686018427387904)(bad ok:Option β):
  br (igt (k:Int) 0) (br (cIx l (QY .i64 (k:Int) 1)) (br (ige (lgt tI l (Int.toNat (QY .i64 (k:Int) 1))) l[k]) bad ok) none) ok=br (decide (k=0)||ilt (l.getD (k-1) 0) l[k]) ok bad:=by
 by_cases h0:k=0
 ·subst h0
  rw [show igt ((0:Nat):Int) 0=false from rfl,Qf,Be rfl,Bool.true_or,Qb]
 ·have e:QY .i64 (k:Int) 1=((k-1:Nat):Int):=by rw [Yc (by omega)];omega
  rw [show igt (k:Int) 0=true from Be (by omega),Qb,e,Bc,QJ,Be (show k-1<l.length by omega),Qb,Bl h0,Da,Qgz]
  show br (!ilt (l.getD (k-1) 0) l[k]) bad ok=_
  cases ilt (l.getD (k-1) 0) l[k]<;>rfl
abbrev Qcz:Sh:=⟨[(0,.ty (.sl tI)),(5,.ty tI),(6,.ty tI)],[]⟩
def QjW:Fg:=Qcz.f
def QtD:TC:=aF Tryz.f78 [(26,pL 0 QjW),(421,.fg En.f),(3378,pD [(0,[]),(1,[]),(2,[]),(3,[]),(4,[]),(5,[]),(6,[]),(7,[]),(8,[]),(9,[]),(10,[]),(11,[]),(12,[]),(13,[])] (.of [0,1,2,3,4,5,6,7,8,9,10,11,12,13])),(13517,.fg OC.f)]
def QtE:TC:=lb 0 QtD
def QtF (x0:List Int)(x5 x6:Int):VS:=Qcz.st (x0,x5,x6,()) ()
def QjX  : VS:=En.st () ()
def QHU:VS->Option (Bool×List (Bool×Exit×VS)):=mkL Qcz (fun x y=>(QA x.1 x.2.1 x.2.2.1)) (fun x y=>[((!YE x.1 x.2.2.1.toNat),.ret,Xq (false)),(true,.exit 0,QjX)])
def QjY:G:=gG 24 [] (Ls [QHU])
def QcA (x0:List Int)(x5 x6:Int):OX:=Qr (Qv QjY QjW QtE) (QtF x0 x5 x6)
def OF (kk:List Int->Int->Int->OX)(x0:List Int)(x5 x6:Int):OX:=br (ilt x6 x5) (br (igt x6 0) (br (cIx x0 (QY .i64 x6 1)) (br (cIx x0 x6) (br (ige (lgt tI x0 (Int.toNat (QY .i64 x6 1))) (lgt tI x0 (Int.toNat x6))) (some (.ret,Xq false)) (kk x0 x5 (Qg .i64 x6 1))) none) none) (kk x0 x5 (Qg .i64 x6 1))) (some (.exit 0,QjX))
def QcB (x0:List Int)(x5 x6:Int):OX:=br (!YE x0 x6.toNat) (some (.ret,Xq (false)))<|some (.exit 0,QjX)
theorem QtG (x0:List Int)(x5 x6:Int):QcA x0 x5 x6=OF QcA x0 x5 x6:=lnT (x:=OF (fun x0 x5 x6=>some (.normal,QtF x0 x5 x6)) x0 x5 x6) (by simp only [OF,nxA];rfl)
def r_f78 (p0:List Int):OV:=br (QA p0 (Qa p0) (0:Int)) (br (!YE p0 (0:Int).toNat) (some (.t .bool (false),[])) (some (.t .bool true,[]))) none
theorem QHV (x0:List Int)(x5 x6:Int)(h:(QA x0 x5 x6)=true):QcA x0 x5 x6=QcB x0 x5 x6:=by
 obtain ⟨rfl,h3,k,rfl,hk⟩:=JB h
 clear h
 refine QP x0 (fun k=>QcA x0 (x0.length:Int) (k:Int)=QcB x0 (x0.length:Int) (k:Int)) ?_ ?_ k hk
 ·rw [QtG]
  simp only [OF,QcB,Qz,BT,B0,Qf,Bc,QjT,BC]
 ·intro k hk ih
  rw [QtG]
  simp only [OF,Qz,QJ,hk,Bt,Qb,Bc,QO (show k<4611686018427387904 by omega),QL (y:=tI) hk,ih,QjV hk (show k<4611686018427387904 by omega)]
  simp only [QcB,Bc,QjU hk]
  cases decide (k=0)||ilt (x0.getD (k-1) 0) x0[k]<;>rfl
theorem QHW:LO QjY QjW QtE 0:=QH (s:=Qcz) fun x y h _ q=>by simp only [QE,QF] at q;exact (QHV x.1 x.2.1 x.2.2.1 h).trans q
theorem s_f78 (l:List Int)(h:J7 l=true):r_f78 l=some (.t .bool (Xs l),[]):=by
 simp only [J7,Ba] at h
 simp only [r_f78,JC h,Qb,Br]
 unfold Xs
 cases YE l 0<;>rfl
def QtH:Ent:=Qi (.pr (.sl tI) .nil) (fun x=>(J7 x.1)) (fun x=>(.t .bool (Xs x.1)))
theorem ms_f78:EM 78 QtH:=mS (lk:=lkL (lkc QHW lkn)) QjY QtD [((.t 2),some .bool)] false (gB gN) fun m=>Qm m fun x hok=>kT (s_f78 x.1 hok)
def Wm (a:Int):Bool:=ieq (Yw a) 1
def tc_f84:TC:=aF Tryz.f84 []
def g_f84:G:=gG 6 [(126,Qf9)] (fun _ _=>none)
def r_f84 (p0:Int):OV:=some (.t .bool (ieq (Yw p0) 1),[])
theorem s_f84 (a:Int):r_f84 a=some (.t .bool (Wm a),[]):=rfl
def QtI:Ent:=Qi (.pr tI .nil) (fun x=>true) (fun x=>(.t .bool (Wm x.1)))
theorem ms_f84:EM 84 QtI:=mS g_f84 tc_f84 [((.t 2),some .bool)] false (gB (gD Qoq gN)) fun m=>Qm m fun x _=>kT (s_f84 x.1)
def YS (l:List Int)(k:Nat):Bool:=(List.range' k (l.length-k)).all fun j=>ieq (QB (l.getD j 0)).2 0&& !QR (l.take j) (l.getD j 0)
def ZW (l:List Int):Bool:=YS l 0
theorem QtJ (l:List Int):YS l l.length=true:=by
 unfold YS
 rw [DV]
 rfl
theorem QtK {l:List Int}{k:Nat}(hk:k<l.length):YS l k=((ieq (QB l[k]).2 0&& !QR (l.take k) l[k])&&YS l (k+1)):=by
 have:l.length-k=(l.length-(k+1))+1:=by omega
 unfold YS
 rw [this,Dr,BW]
 simp only [Bk,Bh hk,BH]
theorem QtL (l:List Int)(k:Nat):lsl l 0 (k:Int)=l.take k:=by
 simp [lsl]
theorem QtM {l:List Int}{k:Nat}(hk:k<=l.length):cSl l 0 (k:Int) ((List.length l:Nat):Int)=true:=by
 simp only [cSl,Ba]
 omega
abbrev QcC:Sh:=⟨[(0,.ty (.sl tI)),(7,.ty (.sl tI)),(8,.ty tI),(9,.ty tI)],[]⟩
def QjZ:Fg:=QcC.f
def QtN:TC:=aF Tryz.f77 [(26,pL 0 QjZ),(421,.fg En.f),(27037,.fg OC.f)]
def QtO:TC:=lb 0 QtN
def QtP (x0 x7:List Int)(x8 x9:Int):VS:=QcC.st (x0,x7,x8,x9,()) ()
def Qj0  : VS:=En.st () ()
def QHX:VS->Option (Bool×List (Bool×Exit×VS)):=mkL QcC (fun x y=>(QA x.2.1 x.2.2.1 x.2.2.2.1&&XF x.1 x.2.1)) (fun x y=>[((!YS x.2.1 x.2.2.2.1.toNat),.ret,Xq (false)),(true,.exit 0,Qj0)])
def Qj1:G:=gG 29 [(124,Qan),(125,QbX)] (Ls [QHX])
def QcD (x0 x7:List Int)(x8 x9:Int):OX:=Qr (Qv Qj1 QjZ QtO) (QtP x0 x7 x8 x9)
def OG (kk:List Int->List Int->Int->Int->OX)(x0 x7:List Int)(x8 x9:Int):OX:=
 let a1:=lgt tI x7 (Int.toNat x9)
 br (ilt x9 x8) (br (cIx x7 x9) (br (ine ((QB a1).2) 0) (some (.ret,Xq false)) (br (cSl x0 0 x9 ((List.length x0:Nat):Int)) (br (Jc (lsl x0 0 x9) a1) (br (QR (lsl x0 0 x9) a1) (some (.ret,Xq false)) (kk x0 x7 x8 (Qg .i64 x9 1))) none) none)) none) (some (.exit 0,Qj0))
def QcE (x0 x7:List Int)(x8 x9:Int):OX:=br (!YS x7 x9.toNat) (some (.ret,Xq (false)))<|some (.exit 0,Qj0)
theorem QtQ (x0 x7:List Int)(x8 x9:Int):QcD x0 x7 x8 x9=OG QcD x0 x7 x8 x9:=lnT (x:=OG (fun x0 x7 x8 x9=>some (.normal,QtP x0 x7 x8 x9)) x0 x7 x8 x9) (by simp only [OG,nxA];rfl)
def r_f77 (p0:List Int):OV:=br (QA p0 (Qa p0) (0:Int)&&XF p0 p0) (br (!YS p0 (0:Int).toNat) (some (.t .bool (false),[])) (some (.t .bool true,[]))) none
theorem QHY (x0 x7:List Int)(x8 x9:Int)(h:(QA x7 x8 x9&&XF x0 x7)=true):QcD x0 x7 x8 x9=QcE x0 x7 x8 x9:=by
 simp only [Bb] at h
 obtain ⟨h0,hs⟩:=h
 have hs:=QoU hs
 subst hs
 obtain ⟨rfl,h3,k,rfl,hk⟩:=JB h0
 clear h0
 refine QP x0 (fun k=>QcD x0 x0 (x0.length:Int) (k:Int)=QcE x0 x0 (x0.length:Int) (k:Int)) ?_ ?_ k hk
 ·rw [QtQ]
  simp only [OG,QcE,Qz,BT,B0,Qf,Bc,QtJ,BC]
 ·intro k hk ih
  rw [QtQ]
  have hi:Jc (x0.take k) x0[k]=true:=Be (by rw [Db];omega)
  simp only [OG,Qz,QJ,hk,Bt,Qb,Bc,QO (show k<4611686018427387904 by omega),QL (y:=tI) hk,ih,QtL,QtM (show k<=x0.length by omega),hi,Fv]
  simp only [QcE,Bc,QtK hk]
  cases ieq (QB x0[k]).2 0<;>cases QR (x0.take k) x0[k]<;>rfl
theorem QHZ:LO Qj1 QjZ QtO 0:=QH (s:=QcC) fun x y h _ q=>by simp only [QE,QF] at q;exact (QHY x.1 x.2.1 x.2.2.1 x.2.2.2.1 h).trans q
theorem s_f77 (l:List Int)(h:J7 l=true):r_f77 l=some (.t .bool (ZW l),[]):=by
 simp only [J7,Ba] at h
 simp only [r_f77,JC h,QoT,BZ,Qb,Br]
 unfold ZW
 cases YS l 0<;>rfl
def QtR:Ent:=Qi (.pr (.sl tI) .nil) (fun x=>(J7 x.1)) (fun x=>(.t .bool (ZW x.1)))
theorem ms_f77:EM 77 QtR:=mS (lk:=lkL (lkc QHZ lkn)) Qj1 QtN [((.t 2),some .bool)] false (gB (gD Qgh (gD QiI gN))) fun m=>Qm m fun x hok=>kT (s_f77 x.1 hok)
def Xt (n:Int):Bool:= !Zf n
def QH0:TC:=aF Tryz.f81 []
def QH1:G:=gG 8 [(83,Qau)] (fun _ _=>none)
def QtS (p0:Int):OV:=some (.t .bool (!(Zf p0)),[.box (.c (.func (.func 83) #[] #[]))])
theorem QH2 (n:Int):QtS n=some (.t .bool (Xt n),[.box (.c (.func (.func 83) #[] #[]))]):=by
 simp only [QtS]
 rfl
def QtT:Ent:=XP [.ty tI,.ptr 50000 0] [.bc 83] (fun x y=>true) (fun x y=>(.t .bool (Xt x.1))) (fun x y=>[.box (.c (.func (.func 83) #[] #[]))])
theorem QH3:EM 81 QtT:=mS QH1 QH0 [((.t 3),some .bool)] false (gB (gD QgA gN)) fun m=>Wo (Wp m fun x y _=>kT (QH2 x.1))
def Eo (l:List Int):Int:=match Qs Xt l with|some k=>(k:Int)|none=> -1
abbrev QcF:Sh:=⟨[(0,.ty (.sl tI)),(1,.fn 81 [(50000,0)]),(7,.ty tI),(8,.ty tI)],[(50000,.bc 83)]⟩
abbrev QtU:Sh:=⟨[(4,.ty tI)],[(50000,.bc 83)]⟩
abbrev QtV:Sh:=⟨[],[(50000,.bc 83)]⟩
def Qj2:Fg:=QcF.f
def QtW:TC:=aF Tryz.f128 [(26,pL 0 Qj2),(421,.fg QtV.f),(13517,.fg QtU.f)]
def QtX:TC:=lb 0 QtW
def QtY (x0:List Int)(x7 x8:Int):VS:=QcF.st (x0,(),x7,x8,()) ((),())
def Qj3 (x4:Int):VS:=QtU.st (x4,()) ((),())
def Qj4  : VS:=QtV.st () ((),())
def QH4:VS->Option (Bool×List (Bool×Exit×VS)):=mkL QcF (fun x y=>(QA x.1 x.2.2.1 x.2.2.2.1)) (fun x y=>[(((Qs Xt (x.1.drop x.2.2.2.1.toNat)).isSome),.ret,Qj3 (x.2.2.2.1+((Qs Xt (x.1.drop x.2.2.2.1.toNat)).getD 0:Nat))),(true,.exit 0,Qj4)])
def Qj5:G:=gG 19 [(81,QtT)] (Ls [QH4])
def QcG (x0:List Int)(x7 x8:Int):OX:=Qr (Qv Qj5 Qj2 QtX) (QtY x0 x7 x8)
def OH (kk:List Int->Int->Int->OX)(x0:List Int)(x7 x8:Int):OX:=br (ilt x8 x7) (br (cIx x0 x8) (br (Xt (lgt tI x0 (Int.toNat x8))) (some (.ret,Qj3 x8)) (kk x0 x7 (Qg .i64 x8 1))) none) (some (.exit 0,Qj4))
def QcH (x0:List Int)(x7 x8:Int):OX:=
 let a1:=Qs Xt (x0.drop x8.toNat)
 br (a1.isSome) (some (.ret,Qj3 (x8+(a1.getD 0:Nat))))<|some (.exit 0,Qj4)
theorem QtZ (x0:List Int)(x7 x8:Int):QcG x0 x7 x8=OH QcG x0 x7 x8:=lnT (x:=OH (fun x0 x7 x8=>some (.normal,QtY x0 x7 x8)) x0 x7 x8) (by simp only [OH,nxA];rfl)
def Qt0 (p0:List Int):OV:=
 let a1:=(Qs Xt (p0.drop (0:Int).toNat))
 br (QA p0 (Qa p0) (0:Int)) (br (a1.isSome) (some (.t tI ((0:Int)+(a1.getD 0:Nat)),[.box (.c (.func (.func 83) #[] #[]))])) (some (.t tI (-1),[.box (.c (.func (.func 83) #[] #[]))]))) none
theorem QH5 (x0:List Int)(x7 x8:Int)(h:(QA x0 x7 x8)=true):QcG x0 x7 x8=QcH x0 x7 x8:=by
 obtain ⟨rfl,h3,k,rfl,hk⟩:=JB h
 clear h
 refine QP x0 (fun k=>QcG x0 (x0.length:Int) (k:Int)=QcH x0 (x0.length:Int) (k:Int)) ?_ ?_ k hk
 ·rw [QtZ]
  simp [OH,QcH,Qz,Qf,Qs]
 ·intro k hk ih
  rw [QtZ]
  simp only [OH,Qz,QJ,hk,Bt,Qb,Bc,QO (show k<4611686018427387904 by omega),ih,QL (y:=tI) hk]
  simp only [QcH,Bc,Bi hk,Qs]
  cases h:Xt x0[k] with
  |true=>simp [Qb]
  |false=>
   simp only [Qf,BF,Dd]
   cases hq:Qs Xt (x0.drop (k+1)) with
   |none=>rfl
   |some j=>
    simp only [B3,B7,BH,Qb]
    congr 3
    omega
theorem QH6:LO Qj5 Qj2 QtX 0:=QH (s:=QcF) fun x y h _ q=>by simp only [QE,QF] at q;exact (QH5 x.1 x.2.2.1 x.2.2.2.1 h).trans q
theorem QH7 (l:List Int)(h:J7 l=true):Qt0 l=some (.t tI (Eo l),[.box (.c (.func (.func 83) #[] #[]))]):=by
 simp only [J7,Ba] at h
 simp only [Qt0,JC h,Qb,Br,By,Eo]
 cases Qs Xt l<;>simp [Qb,Qf]
def Qt1:Ent:=XP [.ty (.sl tI),.fn 81 [(50000,0)]] [.bc 83] (fun x y=>(J7 x.1)) (fun x y=>(.t tI (Eo x.1))) (fun x y=>[.box (.c (.func (.func 83) #[] #[]))])
theorem QH8:EM 128 Qt1:=mS (lk:=lkL (lkc QH6 lkn)) Qj5 QtW [((.t 4),some tI)] false (gB (gD QH3 gN)) fun m=>Wo (Wp m fun x y hok=>kT (QH7 x.1 hok))
def GX (l:List Int):Bool:= !l.all Zf
def QH9:TC:=aF Tryz.f82 []
def QIa:G:=gG 9 [(128,Qt1)] (fun _ _=>none)
def Qt2 (p0:List Int):OV:=br (J7 p0) (some (.t .bool (ige (Eo p0) 0),[.box (.c (.func (.func 83) #[] #[]))])) none
theorem QIb (l:List Int)(h:J7 l=true):Qt2 l=some (.t .bool (GX l),[.box (.c (.func (.func 83) #[] #[]))]):=by
 simp only [Qt2,h,Qb]
 have e:ige (Eo l) 0=GX l:=by
  have e2:GX l=l.any Xt:=by
   unfold GX
   rw [List.not_all_eq_any_not]
   rfl
  rw [e2]
  unfold Eo
  cases hq:Qs Xt l with
  |none=>rw [Vl.1 hq];rfl
  |some k=>
   rw [←Qd6,hq]
   simp only [ige,B7,Ba]
   omega
 rw [e]
def Qt3:Ent:=XP [.ty (.sl tI),.fn 81 [(50000,0)]] [.bc 83] (fun x y=>(J7 x.1)) (fun x y=>(.t .bool (GX x.1))) (fun x y=>[.box (.c (.func (.func 83) #[] #[]))])
theorem QIc:EM 82 Qt3:=mS QIa QH9 [((.t 4),some .bool)] false (gB (gD QH8 gN)) fun m=>Wo (Wp m fun x y hok=>kT (QIb x.1 hok))
def Qt4:TC:=aF Tryz.f80 []
def Qt5:List (RV×Option Ty):=[((.t 2),none)]
def Qt6:G:=gG 4 [] (fun _ _=>none)
def Qt7  : OV:=some (.fn 81 [(.ptr 50000 0)],[.box (.c (.func (.func 83) #[] #[]))])
theorem QId  : J2 Qt6 Qt4 Qt5 true [.c (.func (.func 83) ⟨[]⟩ ⟨[]⟩)] []=Qt7  :=by kernel_rfl
theorem QIe:Qt7=some (.fn 81 [.ptr 50000 0],[.box (.c (.func (.func 83) #[] #[]))]):=rfl
def Qt8:Ent:=XP [.cf 83] [] (fun x y=>true) (fun x y=>(.fn 81 [(.ptr 50000 0)])) (fun x y=>[.box (.c (.func (.func 83) #[] #[]))])
theorem QIf:EM 80 Qt8:=mS Qt6 Qt4 Qt5 true (gB gN) fun m=>Wo (Wp m fun x y _=>(QId ).trans (QIe ))
def Xu (n:Int):Bool:= !Wm n
def QIg:TC:=aF Tryz.f81 []
def QIh:G:=gG 8 [(84,QtI)] (fun _ _=>none)
def Qt9 (p0:Int):OV:=some (.t .bool (!(Wm p0)),[.box (.c (.func (.func 84) #[] #[]))])
theorem QIi (n:Int):Qt9 n=some (.t .bool (Xu n),[.box (.c (.func (.func 84) #[] #[]))]):=by
 simp only [Qt9]
 rfl
def Qua:Ent:=XP [.ty tI,.ptr 50000 0] [.bc 84] (fun x y=>true) (fun x y=>(.t .bool (Xu x.1))) (fun x y=>[.box (.c (.func (.func 84) #[] #[]))])
theorem QIj:EM 81 Qua:=mS QIh QIg [((.t 3),some .bool)] false (gB (gD ms_f84 gN)) fun m=>Wo (Wp m fun x y _=>kT (QIi x.1))
def Ep (l:List Int):Int:=match Qs Xu l with|some k=>(k:Int)|none=> -1
abbrev QcI:Sh:=⟨[(0,.ty (.sl tI)),(1,.fn 81 [(50000,0)]),(7,.ty tI),(8,.ty tI)],[(50000,.bc 84)]⟩
abbrev Qub:Sh:=⟨[(4,.ty tI)],[(50000,.bc 84)]⟩
abbrev Quc:Sh:=⟨[],[(50000,.bc 84)]⟩
def Qj6:Fg:=QcI.f
def Qud:TC:=aF Tryz.f128 [(26,pL 0 Qj6),(421,.fg Quc.f),(13517,.fg Qub.f)]
def Que:TC:=lb 0 Qud
def Quf (x0:List Int)(x7 x8:Int):VS:=QcI.st (x0,(),x7,x8,()) ((),())
def Qj7 (x4:Int):VS:=Qub.st (x4,()) ((),())
def Qj8  : VS:=Quc.st () ((),())
def QIk:VS->Option (Bool×List (Bool×Exit×VS)):=mkL QcI (fun x y=>(QA x.1 x.2.2.1 x.2.2.2.1)) (fun x y=>[(((Qs Xu (x.1.drop x.2.2.2.1.toNat)).isSome),.ret,Qj7 (x.2.2.2.1+((Qs Xu (x.1.drop x.2.2.2.1.toNat)).getD 0:Nat))),(true,.exit 0,Qj8)])
def Qj9:G:=gG 19 [(81,Qua)] (Ls [QIk])
def QcJ (x0:List Int)(x7 x8:Int):OX:=Qr (Qv Qj9 Qj6 Que) (Quf x0 x7 x8)
def OI (kk:List Int->Int->Int->OX)(x0:List Int)(x7 x8:Int):OX:=br (ilt x8 x7) (br (cIx x0 x8) (br (Xu (lgt tI x0 (Int.toNat x8))) (some (.ret,Qj7 x8)) (kk x0 x7 (Qg .i64 x8 1))) none) (some (.exit 0,Qj8))
def QcK (x0:List Int)(x7 x8:Int):OX:=
 let a1:=Qs Xu (x0.drop x8.toNat)
 br (a1.isSome) (some (.ret,Qj7 (x8+(a1.getD 0:Nat))))<|some (.exit 0,Qj8)
theorem Qug (x0:List Int)(x7 x8:Int):QcJ x0 x7 x8=OI QcJ x0 x7 x8:=lnT (x:=OI (fun x0 x7 x8=>some (.normal,Quf x0 x7 x8)) x0 x7 x8) (by simp only [OI,nxA];rfl)
def Quh (p0:List Int):OV:=
 let a1:=(Qs Xu (p0.drop (0:Int).toNat))
 br (QA p0 (Qa p0) (0:Int)) (br (a1.isSome) (some (.t tI ((0:Int)+(a1.getD 0:Nat)),[.box (.c (.func (.func 84) #[] #[]))])) (some (.t tI (-1),[.box (.c (.func (.func 84) #[] #[]))]))) none
theorem QIl (x0:List Int)(x7 x8:Int)(h:(QA x0 x7 x8)=true):QcJ x0 x7 x8=QcK x0 x7 x8:=by
 obtain ⟨rfl,h3,k,rfl,hk⟩:=JB h
 clear h
 refine QP x0 (fun k=>QcJ x0 (x0.length:Int) (k:Int)=QcK x0 (x0.length:Int) (k:Int)) ?_ ?_ k hk
 ·rw [Qug]
  simp [OI,QcK,Qz,Qf,Qs]
 ·intro k hk ih
  rw [Qug]
  simp only [OI,Qz,QJ,hk,Bt,Qb,Bc,QO (show k<4611686018427387904 by omega),ih,QL (y:=tI) hk]
  simp only [QcK,Bc,Bi hk,Qs]
  cases h:Xu x0[k] with
  |true=>simp [Qb]
  |false=>
   simp only [Qf,BF,Dd]
   cases hq:Qs Xu (x0.drop (k+1)) with
   |none=>rfl
   |some j=>
    simp only [B3,B7,BH,Qb]
    congr 3
    omega
theorem QIm:LO Qj9 Qj6 Que 0:=QH (s:=QcI) fun x y h _ q=>by simp only [QE,QF] at q;exact (QIl x.1 x.2.2.1 x.2.2.2.1 h).trans q
theorem QIn (l:List Int)(h:J7 l=true):Quh l=some (.t tI (Ep l),[.box (.c (.func (.func 84) #[] #[]))]):=by
 simp only [J7,Ba] at h
 simp only [Quh,JC h,Qb,Br,By,Ep]
 cases Qs Xu l<;>simp [Qb,Qf]
def Qui:Ent:=XP [.ty (.sl tI),.fn 81 [(50000,0)]] [.bc 84] (fun x y=>(J7 x.1)) (fun x y=>(.t tI (Ep x.1))) (fun x y=>[.box (.c (.func (.func 84) #[] #[]))])
theorem QIo:EM 128 Qui:=mS (lk:=lkL (lkc QIm lkn)) Qj9 Qud [((.t 4),some tI)] false (gB (gD QIj gN)) fun m=>Wo (Wp m fun x y hok=>kT (QIn x.1 hok))
def GY (l:List Int):Bool:= !l.all Wm
def QIp:TC:=aF Tryz.f82 []
def QIq:G:=gG 9 [(128,Qui)] (fun _ _=>none)
def Quj (p0:List Int):OV:=br (J7 p0) (some (.t .bool (ige (Ep p0) 0),[.box (.c (.func (.func 84) #[] #[]))])) none
theorem QIr (l:List Int)(h:J7 l=true):Quj l=some (.t .bool (GY l),[.box (.c (.func (.func 84) #[] #[]))]):=by
 simp only [Quj,h,Qb]
 have e:ige (Ep l) 0=GY l:=by
  have e2:GY l=l.any Xu:=by
   unfold GY
   rw [List.not_all_eq_any_not]
   rfl
  rw [e2]
  unfold Ep
  cases hq:Qs Xu l with
  |none=>rw [Vl.1 hq];rfl
  |some k=>
   rw [←Qd6,hq]
   simp only [ige,B7,Ba]
   omega
 rw [e]
def Quk:Ent:=XP [.ty (.sl tI),.fn 81 [(50000,0)]] [.bc 84] (fun x y=>(J7 x.1)) (fun x y=>(.t .bool (GY x.1))) (fun x y=>[.box (.c (.func (.func 84) #[] #[]))])
theorem QIs:EM 82 Quk:=mS QIq QIp [((.t 4),some .bool)] false (gB (gD QIo gN)) fun m=>Wo (Wp m fun x y hok=>kT (QIr x.1 hok))
def Qul:TC:=aF Tryz.f80 []
def Qum:List (RV×Option Ty):=[((.t 2),none)]
def Qun:G:=gG 4 [] (fun _ _=>none)
def Quo  : OV:=some (.fn 81 [(.ptr 50000 0)],[.box (.c (.func (.func 84) #[] #[]))])
theorem QIt  : J2 Qun Qul Qum true [.c (.func (.func 84) ⟨[]⟩ ⟨[]⟩)] []=Quo  :=by kernel_rfl
theorem QIu:Quo=some (.fn 81 [.ptr 50000 0],[.box (.c (.func (.func 84) #[] #[]))]):=rfl
def Qup:Ent:=XP [.cf 84] [] (fun x y=>true) (fun x y=>(.fn 81 [(.ptr 50000 0)])) (fun x y=>[.box (.c (.func (.func 84) #[] #[]))])
theorem QIv:EM 80 Qup:=mS Qun Qul Qum true (gB gN) fun m=>Wo (Wp m fun x y _=>(QIt ).trans (QIu ))
end
end Go.Proofs.YtmjnnemhoeolgaaGreat.K
