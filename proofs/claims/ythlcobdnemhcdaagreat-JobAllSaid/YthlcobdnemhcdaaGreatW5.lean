import Derived.Test.YthlcobdnemhcdaaGreatW4
import Derived.Shelf.Small.Strs
import Derived.Ground.NamesProg
set_option linter.unusedSimpArgs false
set_option linter.unusedVariables false
noncomputable section
namespace Go.Proofs.YthlcobdnemhcdaaGreat.K
open Go.RowKit
noncomputable section
def Yx (a:Int):Int:=(ofF a).1.2.1
def QJn:TC:=aF Tryz.f218 []
def g_f218:G:=gG 12 [(199,Ql8)] (fun _ _=>none)
def r_f218 (p0:Int):OV:=some (.t tI ((((ofF p0).1).2).1),[])
theorem s_f218 (a:Int):r_f218 a=some (.t tI (Yx a),[]):=rfl
def Qdq:Ent:=Qo (.pr tI .nil) (fun x=>true) (fun x=>(.t tI (Yx x.1)))
theorem QkN:EM 218 Qdq:=mS g_f218 QJn [((.t 2),some tI)] false (gB (gD Qww gN)) fun m=>Qs m fun x _=>kT (s_f218 x.1)
def QuN:TC:=aF Tryz.f230 []
def QuO:List (RV×Option Ty):=[((.t 0),some (.sl GA))]
def QuP:G:=gG 25 [] (fun _ _=>none)
def QuQ  : OV:=some (.t (.sl GA) ([((ByteArray.mk #[]),(0,())),((ByteArray.mk #[109,100,53]),(1,())),((ByteArray.mk #[115,104,97,49]),(1,())),((ByteArray.mk #[115,104,97,50,53,54]),(1,())),((ByteArray.mk #[115,104,97,51,56,52]),(1,())),((ByteArray.mk #[114,115,97]),(2,())),((ByteArray.mk #[100,115,97]),(2,())),((ByteArray.mk #[101,99,100,115,97]),(2,())),((ByteArray.mk #[101,100,50,53,53,49,57]),(2,())),((ByteArray.mk #[109,108,100,115,97]),(2,())),((ByteArray.mk #[114,115,97,107,120]),(3,())),((ByteArray.mk #[100,104,101]),(3,())),((ByteArray.mk #[101,99,100,104,101]),(3,())),((ByteArray.mk #[109,108,107,101,109]),(3,())),((ByteArray.mk #[114,99,52]),(4,())),((ByteArray.mk #[100,101,115,51]),(4,())),((ByteArray.mk #[97,101,115,99,98,99]),(4,())),((ByteArray.mk #[97,101,115,103,99,109]),(4,())),((ByteArray.mk #[99,104,97,99,104,97]),(4,())),((ByteArray.mk #[104,109,97,99,109,100,53]),(5,())),((ByteArray.mk #[104,109,97,99,115,104,97,49]),(5,())),((ByteArray.mk #[104,109,97,99,115,104,97,50,53,54]),(5,())),((ByteArray.mk #[97,101,97,100]),(5,()))]),[])
theorem e_f230  : QS QuP QuN QuO false [] []=QuQ  :=by kernel_rfl
def Qdr:Ty.T (.sl GA):=([((ByteArray.mk #[]),(0,())),((ByteArray.mk #[109,100,53]),(1,())),((ByteArray.mk #[115,104,97,49]),(1,())),((ByteArray.mk #[115,104,97,50,53,54]),(1,())),((ByteArray.mk #[115,104,97,51,56,52]),(1,())),((ByteArray.mk #[114,115,97]),(2,())),((ByteArray.mk #[100,115,97]),(2,())),((ByteArray.mk #[101,99,100,115,97]),(2,())),((ByteArray.mk #[101,100,50,53,53,49,57]),(2,())),((ByteArray.mk #[109,108,100,115,97]),(2,())),((ByteArray.mk #[114,115,97,107,120]),(3,())),((ByteArray.mk #[100,104,101]),(3,())),((ByteArray.mk #[101,99,100,104,101]),(3,())),((ByteArray.mk #[109,108,107,101,109]),(3,())),((ByteArray.mk #[114,99,52]),(4,())),((ByteArray.mk #[100,101,115,51]),(4,())),((ByteArray.mk #[97,101,115,99,98,99]),(4,())),((ByteArray.mk #[97,101,115,103,99,109]),(4,())),((ByteArray.mk #[99,104,97,99,104,97]),(4,())),((ByteArray.mk #[104,109,97,99,109,100,53]),(5,())),((ByteArray.mk #[104,109,97,99,115,104,97,49]),(5,())),((ByteArray.mk #[104,109,97,99,115,104,97,50,53,54]),(5,())),((ByteArray.mk #[97,101,97,100]),(5,()))])
theorem s_f230:QuQ=some (.t (.sl GA) Qdr,[]):=rfl
def QuR:Ent:=Qo .nil (fun x=>true) (fun x=>(.t (.sl GA) Qdr))
theorem QJo:EM 230 QuR:=mS QuP QuN QuO false (gB gN) fun m=>Qs m fun x _=>(e_f230 ).trans (s_f230)
def QJp:TC:=aF Tryz.f186 []
def g_f186:G:=gG 14 [(230,QuR)] (fun _ _=>none)
def QuS (p0:Int):OV:=br (ilt p0 1) (some (.t tI 0,[])) (br (igt p0 22) (some (.t tI 0,[])) (br (cIx Qdr p0) (some (.t tI (((lgt GA Qdr (Int.toNat p0)).2).1),[])) none))
theorem QJq {a:Int}(h1:1<=a)(h2:a<=22):a=1∨a=2∨a=3∨a=4∨a=5∨a=6∨a=7∨a=8∨a=9∨a=10∨a=11∨a=12∨a=13∨a=14∨a=15∨a=16∨a=17∨a=18∨a=19∨a=20∨a=21∨a=22:=by omega
theorem s_f186 (a:Int):QuS a=some (.t tI (Yx a),[]):=by
 simp only [QuS]
 refine QY (fun h1=> ?_) (fun h1=>QY (fun h2=> ?_) (fun h2=> ?_))
 ·have h1:a<1:=by simpa [ilt] using h1
  simp [Yx,ofF,h1,Qac]
 ·have h2:22<a:=by simpa [igt] using h2
  simp [Yx,ofF,h2,Qac]
 ·have h1: ¬ a<1:=by simpa [ilt] using h1
  have h2: ¬ 22<a:=by simpa [igt] using h2
  rcases QJq (a:=a) (by omega) (by omega) with rfl|rfl|rfl|rfl|rfl|rfl|rfl|rfl|rfl|rfl|rfl|rfl|rfl|rfl|rfl|rfl|rfl|rfl|rfl|rfl|rfl|rfl<;>rfl
def Qds:Ent:=Qo (.pr tI .nil) (fun x=>true) (fun x=>(.t tI (Yx x.1)))
theorem QkO:EM 186 Qds:=mS g_f186 QJp [((.t 2),some tI)] false (gB (gD QJo gN)) fun m=>Qs m fun x _=>kT (s_f186 x.1)
def QF (a b:Int):Keep:=(a,(b,()))
def QJr:TC:=aF Tryz.f268 []
def g_f268:G:=gG 8 [] (fun _ _=>none)
def r_f268 (p0 p1:Int):OV:=some (.t Qk (p0,(p1,())),[])
theorem s_f268 (a b:Int):r_f268 a b=some (.t Qk (QF a b),[]):=rfl
def QuT:Ent:=Qo (.pr tI (.pr tI .nil)) (fun x=>true) (fun x=>(.t Qk (QF x.1 x.2.1)))
theorem QJs:EM 268 QuT:=mS g_f268 QJr [((.c 4 true 2),some Qk)] false (gB gN) fun m=>Qs m fun x _=>kT (s_f268 x.1 x.2.1)
def QJt:TC:=aF Tryz.f258 []
def g_f258:G:=gG 8 [] (fun _ _=>none)
def r_f258 (p0 p1:Int):OV:=some (.t Qk (p0,(p1,())),[])
theorem s_f258 (a b:Int):r_f258 a b=some (.t Qk (QF a b),[]):=rfl
def QuU:Ent:=Qo (.pr tI (.pr tI .nil)) (fun x=>true) (fun x=>(.t Qk (QF x.1 x.2.1)))
theorem QJu:EM 258 QuU:=mS g_f258 QJt [((.c 4 true 2),some Qk)] false (gB gN) fun m=>Qs m fun x _=>kT (s_f258 x.1 x.2.1)
def Yn (c:Int)(n:ByteArray)(e s f m:Keep)(l o:Int):Suite:=(c,(n,(e,(s,(f,(m,(l,(o,()))))))))
def QJv:TC:=aF Tryz.f259 []
def g_f259:G:=gG 26 [] (fun _ _=>none)
def r_f259 (p0:Int)(p1:ByteArray)(p2 p3 p4 p5:Keep)(p6 p7:Int):OV:=some (.t Jv (p0,(p1,((p2.1,(p2.2.1,())),((p3.1,(p3.2.1,())),((p4.1,(p4.2.1,())),((p5.1,(p5.2.1,())),(p6,(p7,())))))))),[])
theorem s_f259 (c:Int)(n:ByteArray)(e s f m:Keep)(l o:Int):r_f259 c n e s f m l o=some (.t Jv (Yn c n e s f m l o),[]):=rfl
def QuV:Ent:=Qo (.pr tI (.pr .str (.pr Qk (.pr Qk (.pr Qk (.pr Qk (.pr tI (.pr tI .nil)))))))) (fun x=>true) (fun x=>(.t Jv (Yn x.1 x.2.1 x.2.2.1 x.2.2.2.1 x.2.2.2.2.1 x.2.2.2.2.2.1 x.2.2.2.2.2.2.1 x.2.2.2.2.2.2.2.1)))
theorem QJw:EM 259 QuV:=mS g_f259 QJv [((.c 16 true 12),some Jv)] false (gB gN) fun m=>Qs m fun x _=>kT (s_f259 x.1 x.2.1 x.2.2.1 x.2.2.2.1 x.2.2.2.2.1 x.2.2.2.2.2.1 x.2.2.2.2.2.2.1 x.2.2.2.2.2.2.2.1)
def QuW:TC:=aF Tryz.f228 [(254,pD [(0,[1]),(1,[2]),(2,[4]),(3,[9]),(4,[]),(5,[1]),(6,[2]),(7,[4]),(8,[10]),(9,[]),(10,[1]),(11,[2]),(12,[5]),(13,[10]),(14,[]),(15,[]),(16,[]),(17,[5]),(18,[10]),(19,[]),(20,[]),(21,[2]),(22,[5]),(23,[10]),(24,[]),(25,[1]),(26,[2]),(27,[6]),(28,[10]),(29,[]),(30,[]),(31,[2]),(32,[6]),(33,[10]),(34,[]),(35,[13]),(36,[2]),(37,[6]),(38,[10]),(39,[]),(40,[13]),(41,[]),(42,[]),(43,[11]),(44,[]),(45,[13]),(46,[2]),(47,[7]),(48,[12]),(49,[]),(50,[]),(51,[]),(52,[8]),(53,[12]),(54,[]),(55,[13]),(56,[2]),(57,[14]),(58,[12]),(59,[]),(60,[1]),(61,[2]),(62,[8]),(63,[12]),(64,[]),(65,[13]),(66,[3]),(67,[7]),(68,[12]),(69,[]),(70,[13]),(71,[3]),(72,[14]),(73,[12]),(74,[]),(75,[]),(76,[3]),(77,[8]),(78,[12]),(79,[]),(80,[]),(81,[])] (.of [0,1,2,3,4,5,6,7,8,9,10,11,12,13,14,15,16,17,18,19,20,21,22,23,24,25,26,27,28,29,30,31,32,33,34,35,36,37,38,39,40,41,42,43,44,45,46,47,48,49,50,51,52,53,54,55,56,57,58,59,60,61,62,63,64,65,66,67,68,69,70,71,72,73,74,75,76,77,78,79,80,81]))]
def QuX:List (RV×Option Ty):=[((.t 0),some (.sl Jv))]
def QuY:G:=gG 110 [(258,QuU),(259,QuV)] (fun _ _=>none)
def Xp:Ty.T (.sl Jv):=
 let a1:=(Yn 9 (ByteArray.mk #[101,99,100,104,101,45,101,99,100,115,97,45,97,101,115,50,53,54,45,115,104,97,50,53,54]) (QF 12 256) (QF 7 0) (QF 16 256) (QF 21 0) 3 3)
 let a2:=(Yn 11 (ByteArray.mk #[101,99,100,104,101,45,101,99,100,115,97,45,97,101,115,50,53,54,45,103,99,109]) (QF 12 384) (QF 7 0) (QF 17 256) (QF 22 0) 3 3)
 let a3:=(Yn 10 (ByteArray.mk #[101,99,100,104,101,45,114,115,97,45,97,101,115,49,50,56,45,103,99,109]) (QF 12 256) (QF 5 0) (QF 17 128) (QF 22 0) 3 3)
 let a4:=(Yn 8 (ByteArray.mk #[101,99,100,104,101,45,114,115,97,45,97,101,115,49,50,56,45,115,104,97]) (QF 12 256) (QF 5 0) (QF 16 128) (QF 20 0) 1 3)
 let a5:=(Yn 7 (ByteArray.mk #[100,104,101,45,114,115,97,45,97,101,115,49,50,56,45,115,104,97]) (QF 11 2048) (QF 5 0) (QF 16 128) (QF 20 0) 1 3)
 let a6:=(Yn 16 (ByteArray.mk #[109,108,107,101,109,45,97,101,115,50,53,54,45,103,99,109]) (QF 13 768) (0,(0,())) (QF 17 256) (QF 22 0) 4 4)
 let a7:=(Yn 4 (ByteArray.mk #[100,104,101,45,100,115,97,45,100,101,115,51,45,115,104,97]) (QF 11 1024) (QF 6 0) (QF 15 168) (QF 20 0) 1 3)
 let a8:=(Yn 5 (ByteArray.mk #[100,104,101,45,114,115,97,45,100,101,115,51,45,115,104,97]) (QF 11 1024) (QF 5 0) (QF 15 168) (QF 20 0) 1 3)
 let a9:=(Yn 12 (ByteArray.mk #[101,99,100,104,101,45,114,115,97,45,99,104,97,99,104,97]) (QF 12 256) (QF 5 0) (QF 18 0) (QF 22 0) 3 3)
 let a10:=(Yn 13 (ByteArray.mk #[114,115,97,45,97,101,115,50,53,54,45,103,99,109]) (QF 10 0) (QF 5 0) (QF 17 256) (QF 22 0) 3 3)
 let a11:=(Yn 6 (ByteArray.mk #[114,115,97,45,97,101,115,49,50,56,45,115,104,97]) (QF 10 0) (QF 5 0) (QF 16 128) (QF 20 0) 1 3)
 let a12:=(Yn 3 (ByteArray.mk #[114,115,97,45,100,101,115,51,45,115,104,97]) (QF 10 0) (QF 5 0) (QF 15 168) (QF 20 0) 1 3)
 let a13:=(Yn 1 (ByteArray.mk #[114,115,97,45,114,99,52,45,109,100,53]) (QF 10 0) (QF 5 0) (QF 14 128) (QF 19 0) 1 2)
 let a14:=(Yn 2 (ByteArray.mk #[114,115,97,45,114,99,52,45,115,104,97]) (QF 10 0) (QF 5 0) (QF 14 128) (QF 20 0) 1 3)
 let a15:=(Yn 14 (ByteArray.mk #[97,101,115,49,50,56,45,103,99,109]) (QF 12 256) (0,(0,())) (QF 17 128) (QF 22 0) 4 4)
 let a16:=(Yn 15 (ByteArray.mk #[99,104,97,99,104,97]) (QF 12 256) (0,(0,())) (QF 18 0) (QF 22 0) 4 4)
 let a17:=(((a13.2).2).2)
 let a18:=(((a14.2).2).2)
 let a19:=(((a12.2).2).2)
 let a20:=(((a11.2).2).2)
 let a21:=(((a10.2).2).2)
 let a22:=(((a15.2).2).2)
 let a23:=(((a16.2).2).2)
 let a24:=(((a7.2).2).2)
 let a25:=(((a8.2).2).2)
 let a26:=(((a5.2).2).2)
 let a27:=(((a4.2).2).2)
 let a28:=(((a1.2).2).2)
 let a29:=(((a3.2).2).2)
 let a30:=(((a2.2).2).2)
 let a31:=(((a9.2).2).2)
 let a32:=(((a6.2).2).2)
 ([(a13.1,((a13.2).1,(((((a13.2).2).1).1,(((((a13.2).2).1).2).1,())),(((a17.1).1,(((a17.1).2).1,())),((((a17.2).1).1,((((a17.2).1).2).1,())),(((((a17.2).2).1).1,(((((a17.2).2).1).2).1,())),((((a17.2).2).2).1,(((((a17.2).2).2).2).1,())))))))),(a14.1,((a14.2).1,(((((a14.2).2).1).1,(((((a14.2).2).1).2).1,())),(((a18.1).1,(((a18.1).2).1,())),((((a18.2).1).1,((((a18.2).1).2).1,())),(((((a18.2).2).1).1,(((((a18.2).2).1).2).1,())),((((a18.2).2).2).1,(((((a18.2).2).2).2).1,())))))))),(a12.1,((a12.2).1,(((((a12.2).2).1).1,(((((a12.2).2).1).2).1,())),(((a19.1).1,(((a19.1).2).1,())),((((a19.2).1).1,((((a19.2).1).2).1,())),(((((a19.2).2).1).1,(((((a19.2).2).1).2).1,())),((((a19.2).2).2).1,(((((a19.2).2).2).2).1,())))))))),(a7.1,((a7.2).1,(((((a7.2).2).1).1,(((((a7.2).2).1).2).1,())),(((a24.1).1,(((a24.1).2).1,())),((((a24.2).1).1,((((a24.2).1).2).1,())),(((((a24.2).2).1).1,(((((a24.2).2).1).2).1,())),((((a24.2).2).2).1,(((((a24.2).2).2).2).1,())))))))),(a8.1,((a8.2).1,(((((a8.2).2).1).1,(((((a8.2).2).1).2).1,())),(((a25.1).1,(((a25.1).2).1,())),((((a25.2).1).1,((((a25.2).1).2).1,())),(((((a25.2).2).1).1,(((((a25.2).2).1).2).1,())),((((a25.2).2).2).1,(((((a25.2).2).2).2).1,())))))))),(a11.1,((a11.2).1,(((((a11.2).2).1).1,(((((a11.2).2).1).2).1,())),(((a20.1).1,(((a20.1).2).1,())),((((a20.2).1).1,((((a20.2).1).2).1,())),(((((a20.2).2).1).1,(((((a20.2).2).1).2).1,())),((((a20.2).2).2).1,(((((a20.2).2).2).2).1,())))))))),(a5.1,((a5.2).1,(((((a5.2).2).1).1,(((((a5.2).2).1).2).1,())),(((a26.1).1,(((a26.1).2).1,())),((((a26.2).1).1,((((a26.2).1).2).1,())),(((((a26.2).2).1).1,(((((a26.2).2).1).2).1,())),((((a26.2).2).2).1,(((((a26.2).2).2).2).1,())))))))),(a4.1,((a4.2).1,(((((a4.2).2).1).1,(((((a4.2).2).1).2).1,())),(((a27.1).1,(((a27.1).2).1,())),((((a27.2).1).1,((((a27.2).1).2).1,())),(((((a27.2).2).1).1,(((((a27.2).2).1).2).1,())),((((a27.2).2).2).1,(((((a27.2).2).2).2).1,())))))))),(a1.1,((a1.2).1,(((((a1.2).2).1).1,(((((a1.2).2).1).2).1,())),(((a28.1).1,(((a28.1).2).1,())),((((a28.2).1).1,((((a28.2).1).2).1,())),(((((a28.2).2).1).1,(((((a28.2).2).1).2).1,())),((((a28.2).2).2).1,(((((a28.2).2).2).2).1,())))))))),(a3.1,((a3.2).1,(((((a3.2).2).1).1,(((((a3.2).2).1).2).1,())),(((a29.1).1,(((a29.1).2).1,())),((((a29.2).1).1,((((a29.2).1).2).1,())),(((((a29.2).2).1).1,(((((a29.2).2).1).2).1,())),((((a29.2).2).2).1,(((((a29.2).2).2).2).1,())))))))),(a2.1,((a2.2).1,(((((a2.2).2).1).1,(((((a2.2).2).1).2).1,())),(((a30.1).1,(((a30.1).2).1,())),((((a30.2).1).1,((((a30.2).1).2).1,())),(((((a30.2).2).1).1,(((((a30.2).2).1).2).1,())),((((a30.2).2).2).1,(((((a30.2).2).2).2).1,())))))))),(a9.1,((a9.2).1,(((((a9.2).2).1).1,(((((a9.2).2).1).2).1,())),(((a31.1).1,(((a31.1).2).1,())),((((a31.2).1).1,((((a31.2).1).2).1,())),(((((a31.2).2).1).1,(((((a31.2).2).1).2).1,())),((((a31.2).2).2).1,(((((a31.2).2).2).2).1,())))))))),(a10.1,((a10.2).1,(((((a10.2).2).1).1,(((((a10.2).2).1).2).1,())),(((a21.1).1,(((a21.1).2).1,())),((((a21.2).1).1,((((a21.2).1).2).1,())),(((((a21.2).2).1).1,(((((a21.2).2).1).2).1,())),((((a21.2).2).2).1,(((((a21.2).2).2).2).1,())))))))),(a15.1,((a15.2).1,(((((a15.2).2).1).1,(((((a15.2).2).1).2).1,())),(((a22.1).1,(((a22.1).2).1,())),((((a22.2).1).1,((((a22.2).1).2).1,())),(((((a22.2).2).1).1,(((((a22.2).2).1).2).1,())),((((a22.2).2).2).1,(((((a22.2).2).2).2).1,())))))))),(a16.1,((a16.2).1,(((((a16.2).2).1).1,(((((a16.2).2).1).2).1,())),(((a23.1).1,(((a23.1).2).1,())),((((a23.2).1).1,((((a23.2).1).2).1,())),(((((a23.2).2).1).1,(((((a23.2).2).1).2).1,())),((((a23.2).2).2).1,(((((a23.2).2).2).2).1,())))))))),(a6.1,((a6.2).1,(((((a6.2).2).1).1,(((((a6.2).2).1).2).1,())),(((a32.1).1,(((a32.1).2).1,())),((((a32.2).1).1,((((a32.2).1).2).1,())),(((((a32.2).2).1).1,(((((a32.2).2).1).2).1,())),((((a32.2).2).2).1,(((((a32.2).2).2).2).1,()))))))))])
def QuZ  : OV:=some (.t (.sl Jv) Xp,[])
theorem e_f228  : QS QuY QuW QuX false [] []=QuZ  :=by kernel_rfl
theorem s_f228:QuZ=some (.t (.sl Jv) Xp,[]):=rfl
def Qu0:Ent:=Qo .nil (fun x=>true) (fun x=>(.t (.sl Jv) Xp))
theorem QJx:EM 228 Qu0:=mS QuY QuW QuX false (gB (gD QJu (gD QJw gN))) fun m=>Qs m fun x _=>(e_f228 ).trans (s_f228)
abbrev QkP:Suite:=Ty.zero Jv
def Ix (k:Nat)(l:List Suite):List Suite:=(List.range' k (16-k)).foldl (fun l i=>l.set i (((i+1:Nat):Int),(l.getD i QkP).2)) l
abbrev Qdt:Sh:=⟨[(15,.ms 111),(113,.ty tI),(114,.ty tI)],[(111,.arr 249 Jv)]⟩
abbrev Qu1:Sh:=⟨[(15,.ms 111)],[(111,.arr 249 Jv)]⟩
def QkQ:Fg:=Qdt.f
def QkR:TC:=aF Tryz.f249 [(62,pD [(0,[1]),(1,[2]),(2,[]),(3,[11]),(4,[]),(5,[1]),(6,[2]),(7,[]),(8,[12]),(9,[]),(10,[1]),(11,[2]),(12,[6]),(13,[12]),(14,[]),(15,[]),(16,[3]),(17,[6]),(18,[12]),(19,[]),(20,[]),(21,[2]),(22,[6]),(23,[12]),(24,[]),(25,[1]),(26,[2]),(27,[7]),(28,[12]),(29,[]),(30,[]),(31,[2]),(32,[7]),(33,[12]),(34,[]),(35,[14]),(36,[2]),(37,[7]),(38,[12]),(39,[]),(40,[14]),(41,[4]),(42,[]),(43,[]),(44,[]),(45,[14]),(46,[2]),(47,[8]),(48,[13]),(49,[]),(50,[]),(51,[4]),(52,[9]),(53,[13]),(54,[]),(55,[14]),(56,[2]),(57,[10]),(58,[13]),(59,[]),(60,[1]),(61,[2]),(62,[9]),(63,[13]),(64,[]),(65,[14]),(66,[5]),(67,[8]),(68,[13]),(69,[]),(70,[14]),(71,[5]),(72,[10]),(73,[13]),(74,[]),(75,[]),(76,[5]),(77,[9]),(78,[13]),(79,[]),(80,[111,5111,10111,15111]),(81,[111])] (.of [0,1,2,3,4,5,6,7,8,9,10,11,12,13,14,15,16,17,18,19,20,21,22,23,24,25,26,27,28,29,30,31,32,33,34,35,36,37,38,39,40,41,42,43,44,45,46,47,48,49,50,51,52,53,54,55,56,57,58,59,60,61,62,63,64,65,66,67,68,69,70,71,72,73,74,75,76,77,78,79,80,81])),(506,pL 0 QkQ),(8101,.fg Qu1.f)]
def Qu2:TC:=lb 0 QkR
def Qu3:List (RV×Option Ty):=[((.t 0),some (.sl Jv))]
def Qu4 (x113 x114:Int)(y111:List Suite):VS:=Qdt.st ((),x113,x114,()) (y111,())
def QkS (y111:List Suite):VS:=Qu1.st ((),()) (y111,())
def QJy:VS->Option (Bool×List (Bool×Exit×VS)):=mkL Qdt (fun x y=>(decide (0<=x.2.2.1/\x.2.2.1<=16/\x.2.1=16/\y.1.length=16))) (fun x y=>[(true,.exit 0,QkS (Ix x.2.2.1.toNat y.1))])
def Qdu:G:=⟨TYs,[111],125,EL [(268,QuT)],keeps,(Ls [QJy]),IL [],RL []⟩
def Qdv (x113 x114:Int)(y111:List Suite):OX:=Qx (QA Qdu QkQ Qu2) (Qu4 x113 x114 y111)
def Qdw (kk:Int->Int->List Suite->OX)(x113 x114:Int)(y111:List Suite):OX:=
 let a1:=Int.toNat x114
 br (ilt x114 x113) (br (cIx y111 x114) (br (cLd y111 a1) (kk x113 (Qj .i64 x114 1) (List.set y111 a1 ((Qj .i64 x114 1),(lgt Jv y111 a1).2))) none) none) (some (.exit 0,QkS y111))
def QkT (x113 x114:Int)(y111:List Suite):OX:=some (.exit 0,QkS (Ix x114.toNat y111))
theorem Qu5 (x113 x114:Int)(y111:List Suite):Qdv x113 x114 y111=Qdw Qdv x113 x114 y111:=lnT (x:=Qdw (fun x113 x114 y111=>some (.normal,Qu4 x113 x114 y111)) x113 x114 y111) (by simp only [Qdw,nxA];rfl)
def Qu6  : OV:=
 let a1:=((QF 5 0).1,(((QF 5 0).2).1,()))
 let a2:=((QF 20 0).1,(((QF 20 0).2).1,()))
 let a3:=((QF 22 0).1,(((QF 22 0).2).1,()))
 let a4:=((QF 12 256).1,(((QF 12 256).2).1,()))
 let a5:=((QF 10 0).1,(((QF 10 0).2).1,()))
 let a6:=((QF 15 168).1,(((QF 15 168).2).1,()))
 let a7:=((QF 16 128).1,(((QF 16 128).2).1,()))
 let a8:=((QF 17 256).1,(((QF 17 256).2).1,()))
 let a9:=(ByteArray.mk #[101,99,100,104,101,45,101,99,100,115,97,45,97,101,115,50,53,54,45,115,104,97,50,53,54])
 let a10:=(ByteArray.mk #[101,99,100,104,101,45,101,99,100,115,97,45,97,101,115,50,53,54,45,103,99,109])
 let a11:=((QF 11 1024).1,(((QF 11 1024).2).1,()))
 let a12:=(ByteArray.mk #[101,99,100,104,101,45,114,115,97,45,97,101,115,49,50,56,45,115,104,97])
 let a13:=(ByteArray.mk #[101,99,100,104,101,45,114,115,97,45,97,101,115,49,50,56,45,103,99,109])
 let a14:=((QF 14 128).1,(((QF 14 128).2).1,()))
 let a15:=((QF 17 128).1,(((QF 17 128).2).1,()))
 let a16:=(ByteArray.mk #[100,104,101,45,114,115,97,45,97,101,115,49,50,56,45,115,104,97])
 let a17:=((QF 18 0).1,(((QF 18 0).2).1,()))
 let a18:=((QF 7 0).1,(((QF 7 0).2).1,()))
 let a19:=(ByteArray.mk #[100,104,101,45,100,115,97,45,100,101,115,51,45,115,104,97])
 let a20:=(ByteArray.mk #[100,104,101,45,114,115,97,45,100,101,115,51,45,115,104,97])
 let a21:=(ByteArray.mk #[109,108,107,101,109,45,97,101,115,50,53,54,45,103,99,109])
 let a22:=(ByteArray.mk #[101,99,100,104,101,45,114,115,97,45,99,104,97,99,104,97])
 let a23:=(ByteArray.mk #[114,115,97,45,97,101,115,49,50,56,45,115,104,97])
 let a24:=(ByteArray.mk #[114,115,97,45,97,101,115,50,53,54,45,103,99,109])
 let a25:=(ByteArray.mk #[114,115,97,45,100,101,115,51,45,115,104,97])
 let a26:=(ByteArray.mk #[114,115,97,45,114,99,52,45,109,100,53])
 let a27:=(ByteArray.mk #[114,115,97,45,114,99,52,45,115,104,97])
 let a28:=(ByteArray.mk #[97,101,115,49,50,56,45,103,99,109])
 let a29:=((QF 11 2048).1,(((QF 11 2048).2).1,()))
 let a30:=((QF 16 256).1,(((QF 16 256).2).1,()))
 let a31:=((QF 12 384).1,(((QF 12 384).2).1,()))
 let a32:=((QF 13 768).1,(((QF 13 768).2).1,()))
 let a33:=(ByteArray.mk #[99,104,97,99,104,97])
 let a34:=((QF 19 0).1,(((QF 19 0).2).1,()))
 let a35:=((QF 21 0).1,(((QF 21 0).2).1,()))
 let a36:=((QF 6 0).1,(((QF 6 0).2).1,()))
 br (decide (0<=(0:Int)/\(0:Int)<=16/\(Qc ([(0,(a26,(a5,(a1,(a14,(a34,(1,(2,())))))))),(0,(a27,(a5,(a1,(a14,(a2,(1,(3,())))))))),(0,(a25,(a5,(a1,(a6,(a2,(1,(3,())))))))),(0,(a19,(a11,(a36,(a6,(a2,(1,(3,())))))))),(0,(a20,(a11,(a1,(a6,(a2,(1,(3,())))))))),(0,(a23,(a5,(a1,(a7,(a2,(1,(3,())))))))),(0,(a16,(a29,(a1,(a7,(a2,(1,(3,())))))))),(0,(a12,(a4,(a1,(a7,(a2,(1,(3,())))))))),(0,(a9,(a4,(a18,(a30,(a35,(3,(3,())))))))),(0,(a13,(a4,(a1,(a15,(a3,(3,(3,())))))))),(0,(a10,(a31,(a18,(a8,(a3,(3,(3,())))))))),(0,(a22,(a4,(a1,(a17,(a3,(3,(3,())))))))),(0,(a24,(a5,(a1,(a8,(a3,(3,(3,())))))))),(0,(a28,(a4,((0,(0,())),(a15,(a3,(4,(4,())))))))),(0,(a33,(a4,((0,(0,())),(a17,(a3,(4,(4,())))))))),(0,(a21,(a32,((0,(0,())),(a8,(a3,(4,(4,()))))))))]))=16/\([(0,(a26,(a5,(a1,(a14,(a34,(1,(2,())))))))),(0,(a27,(a5,(a1,(a14,(a2,(1,(3,())))))))),(0,(a25,(a5,(a1,(a6,(a2,(1,(3,())))))))),(0,(a19,(a11,(a36,(a6,(a2,(1,(3,())))))))),(0,(a20,(a11,(a1,(a6,(a2,(1,(3,())))))))),(0,(a23,(a5,(a1,(a7,(a2,(1,(3,())))))))),(0,(a16,(a29,(a1,(a7,(a2,(1,(3,())))))))),(0,(a12,(a4,(a1,(a7,(a2,(1,(3,())))))))),(0,(a9,(a4,(a18,(a30,(a35,(3,(3,())))))))),(0,(a13,(a4,(a1,(a15,(a3,(3,(3,())))))))),(0,(a10,(a31,(a18,(a8,(a3,(3,(3,())))))))),(0,(a22,(a4,(a1,(a17,(a3,(3,(3,())))))))),(0,(a24,(a5,(a1,(a8,(a3,(3,(3,())))))))),(0,(a28,(a4,((0,(0,())),(a15,(a3,(4,(4,())))))))),(0,(a33,(a4,((0,(0,())),(a17,(a3,(4,(4,())))))))),(0,(a21,(a32,((0,(0,())),(a8,(a3,(4,(4,()))))))))]).length=16)) (some (.t (.sl Jv) (Ix (0:Int).toNat ([(0,(a26,(a5,(a1,(a14,(a34,(1,(2,())))))))),(0,(a27,(a5,(a1,(a14,(a2,(1,(3,())))))))),(0,(a25,(a5,(a1,(a6,(a2,(1,(3,())))))))),(0,(a19,(a11,(a36,(a6,(a2,(1,(3,())))))))),(0,(a20,(a11,(a1,(a6,(a2,(1,(3,())))))))),(0,(a23,(a5,(a1,(a7,(a2,(1,(3,())))))))),(0,(a16,(a29,(a1,(a7,(a2,(1,(3,())))))))),(0,(a12,(a4,(a1,(a7,(a2,(1,(3,())))))))),(0,(a9,(a4,(a18,(a30,(a35,(3,(3,())))))))),(0,(a13,(a4,(a1,(a15,(a3,(3,(3,())))))))),(0,(a10,(a31,(a18,(a8,(a3,(3,(3,())))))))),(0,(a22,(a4,(a1,(a17,(a3,(3,(3,())))))))),(0,(a24,(a5,(a1,(a8,(a3,(3,(3,())))))))),(0,(a28,(a4,((0,(0,())),(a15,(a3,(4,(4,())))))))),(0,(a33,(a4,((0,(0,())),(a17,(a3,(4,(4,())))))))),(0,(a21,(a32,((0,(0,())),(a8,(a3,(4,(4,()))))))))])),[])) none
theorem e_f249  : QS Qdu QkR Qu3 false [] []=Qu6  :=by kernel_rfl
theorem QJz (x113 x114:Int)(y111:List Suite)(h:(decide (0<=x114/\x114<=16/\x113=16/\y111.length=16))=true):Qdv x113 x114 y111=QkT x113 x114 y111:=by
 simp only [Ba] at h
 obtain ⟨h1,h2,rfl,h4⟩:=h
 obtain ⟨k,rfl⟩:=Bl h1
 revert y111
 refine Qcs 16 (fun k=> ∀ y111:List Suite,y111.length=16->Qdv 16 (k:Int) y111=QkT 16 (k:Int) y111) ?_ ?_ k (by omega)
 ·intro y111 _
  rw [Qu5]
  rfl
 ·intro k hk ih y111 hy
  rw [Qu5]
  have e1:ilt (k:Int) 16=true:=Be (by omega)
  have e2:cLd y111 k=true:=Be (by omega)
  have e3:Ix k y111=Ix (k+1) (y111.set k (((k+1:Nat):Int),(y111.getD k QkP).2)):=by
   have:16-k=(16-(k+1))+1:=by omega
   unfold Ix
   rw [this,List.range'_succ,Dp]
  simp only [Qdw,e1,Qf,QK,show decide (k<y111.length)=true from Be (by omega),Bb,e2,QO (show k<4611686018427387904 by omega)]
  rw [ih _ (by rw [List.length_set];exact hy)]
  simp only [QkT,Bb,e3]
theorem QJA:LO Qdu QkQ Qu2 0:=QI (s:=Qdt) fun x y h _ q=>by simp only [QG,QH] at q;exact (QJz x.2.1 x.2.2.1 y.1 h).trans q
set_option maxRecDepth 100000 in
theorem s_f249:Qu6=some (.t (.sl Jv) Xp,[]):=by kernel_rfl
def Qu7:Ent:=Qo .nil (fun x=>true) (fun x=>(.t (.sl Jv) Xp))
theorem QJB:EM 249 Qu7:=mS (lk:=lkL (lkc QJA lkn)) Qdu QkR Qu3 false (Jp _ (gA (gD QJs gN))) fun m=>Qs m fun x _=>(e_f249 ).trans (s_f249)
theorem QJC:(List.length (α:=Jv.T) Xp)=16:=by kernel_rfl
theorem Qu8:Qc (α:=Jv.T) Xp=16:=by kernel_rfl
theorem Qu9 {c:Int}(h:1<=c/\c<=16):cIx (α:=Jv.T) Xp (c-1)=true:=by
 have:=QJC
 simp only [cIx,Ba]
 omega
def Zm (c:Int):Suite×Int:=if c<1∨16<c then (QkP,8) else (lgt Jv Xp (c-1).toNat,0)
def QJD:TC:=aF Tryz.f217 []
def g_f217:G:=gG 20 [(249,Qu7)] (fun _ _=>none)
def Qva (p0:Int):OV:=br (ilt p0 1) (some (.tu [(.t Jv (0,((ByteArray.mk #[]),((0,(0,())),((0,(0,())),((0,(0,())),((0,(0,())),(0,(0,()))))))))),(.t tI 8)],[])) (br (igt p0 (Qc Xp)) (some (.tu [(.t Jv (0,((ByteArray.mk #[]),((0,(0,())),((0,(0,())),((0,(0,())),((0,(0,())),(0,(0,()))))))))),(.t tI 8)],[])) (br (cIx Xp (Qw .i64 p0 1)) (some (.tu [(.t Jv (lgt Jv Xp (Int.toNat (Qw .i64 p0 1)))),(.t tI 0)],[])) none))
theorem s_f217 (c:Int):Qva c=some (.tu [.t Jv (Zm c).1,.t tI (Zm c).2],[]):=by
 simp only [Qva]
 unfold Zm
 refine QY (fun h1=> ?_) (fun h1=>QY (fun h2=> ?_) (fun h2=> ?_))
 ·simp only [ilt,Ba] at h1
  rw [if_pos (.inl h1)]
  rfl
 ·have h2:=BD h2
  have:=Qu8
  rw [if_pos (.inr (by omega))]
  rfl
 ·simp only [ilt,Bn] at h1
  have h2:=Df h2
  have:=Qu8
  rw [if_neg (by omega),JO (by omega),Qu9 (by omega),Qf]
def Qvb:Ent:=Qo (.pr tI .nil) (fun x=>true) (fun x=>(.tu [(.t Jv ((Zm x.1).1)),(.t tI ((Zm x.1).2))]))
theorem QJE:EM 217 Qvb:=mS g_f217 QJD [((.c 2 true 12),some Jv),((.t 3),some tI)] false (gB (gD QJB gN)) fun m=>Qs m fun x _=>kT (s_f217 x.1)
def QJF:TC:=aF Tryz.f184 []
def g_f184:G:=gG 16 [(228,Qu0)] (fun _ _=>none)
def Qvc (p0:Int):OV:=br (ilt p0 1) (some (.tu [(.t Jv (0,((ByteArray.mk #[]),((0,(0,())),((0,(0,())),((0,(0,())),((0,(0,())),(0,(0,()))))))))),(.t tI 8)],[])) (br (igt p0 16) (some (.tu [(.t Jv (0,((ByteArray.mk #[]),((0,(0,())),((0,(0,())),((0,(0,())),((0,(0,())),(0,(0,()))))))))),(.t tI 8)],[])) (br (cIx Xp (Qw .i64 p0 1)) (some (.tu [(.t Jv (lgt Jv Xp (Int.toNat (Qw .i64 p0 1)))),(.t tI 0)],[])) none))
theorem s_f184 (c:Int):Qvc c=some (.tu [.t Jv (Zm c).1,.t tI (Zm c).2],[]):=by
 simp only [Qvc]
 unfold Zm
 refine QY (fun h1=> ?_) (fun h1=>QY (fun h2=> ?_) (fun h2=> ?_))
 ·simp only [ilt,Ba] at h1
  rw [if_pos (.inl h1)]
  rfl
 ·simp only [igt,Ba] at h2
  rw [if_pos (.inr (by omega))]
  rfl
 ·simp only [ilt,Bn] at h1
  simp only [igt,Bn] at h2
  rw [if_neg (by omega),JO (by omega),Qu9 (by omega),Qf]
def QkU:Ent:=Qo (.pr tI .nil) (fun x=>true) (fun x=>(.tu [(.t Jv ((Zm x.1).1)),(.t tI ((Zm x.1).2))]))
theorem Qvd:EM 184 QkU:=mS g_f184 QJF [((.c 2 true 12),some Jv),((.t 3),some tI)] false (gB (gD QJx gN)) fun m=>Qs m fun x _=>kT (s_f184 x.1)
abbrev Qdx:Sh:=⟨[(0,.ty (.sl tI)),(1,.ty tI),(5,.ty tI)],[]⟩
abbrev Qve:Sh:=⟨[(4,.ty .bool)],[]⟩
abbrev Qvf:Sh:=⟨[],[]⟩
def QkV:Fg:=Qdx.f
def Qvg:TC:=aF Tryz.f154 [(26,pL 0 QkV),(419,.fg Qvf.f),(3365,.fg Qve.f)]
def Qvh:TC:=lb 0 Qvg
def Qvi (x0:List Int)(x1 x5:Int):VS:=Qdx.st (x0,x1,x5,()) ()
def QkW (x4:Bool):VS:=Qve.st (x4,()) ()
def QkX  : VS:=Qvf.st () ()
def QJG:VS->Option (Bool×List (Bool×Exit×VS)):=mkL Qdx (fun x y=>(decide (x.1.length<=100000/\0<=x.2.2.1/\x.2.2.1<=x.1.length))) (fun x y=>[(((x.1.drop x.2.2.1.toNat).contains x.2.1),.ret,QkW (true)),(true,.exit 0,QkX)])
def QkY:G:=gG 18 [] (Ls [QJG])
def Qdy (x0:List Int)(x1 x5:Int):OX:=Qx (QA QkY QkV Qvh) (Qvi x0 x1 x5)
def VJ (kk:List Int->Int->Int->OX)(x0:List Int)(x1 x5:Int):OX:=br (ilt x5 (Qc x0)) (br (cIx x0 x5) (br (ieq (lgt tI x0 (Int.toNat x5)) x1) (some (.ret,QkW true)) (kk x0 x1 (Qj .i64 x5 1))) none) (some (.exit 0,QkX))
def Qdz (x0:List Int)(x1 x5:Int):OX:=br ((x0.drop x5.toNat).contains x1) (some (.ret,QkW (true)))<|some (.exit 0,QkX)
theorem Qvj (x0:List Int)(x1 x5:Int):Qdy x0 x1 x5=VJ Qdy x0 x1 x5:=lnT (x:=VJ (fun x0 x1 x5=>some (.normal,Qvi x0 x1 x5)) x0 x1 x5) (by simp only [VJ,nxA];rfl)
def Qvk (p0:List Int)(p1:Int):OV:=br (decide (p0.length<=100000/\0<=(0:Int)/\(0:Int)<=p0.length)) (br ((p0.drop (0:Int).toNat).contains p1) (some (.t .bool (true),[])) (some (.t .bool false,[]))) none
theorem QJH (x0:List Int)(x1 x5:Int)(h:(decide (x0.length<=100000/\0<=x5/\x5<=x0.length))=true):Qdy x0 x1 x5=Qdz x0 x1 x5:=by
 simp only [Ba] at h
 obtain ⟨h2,h3,h4⟩:=h
 obtain ⟨k,rfl⟩:=Bl h3
 refine QQ x0 (fun k=>Qdy x0 x1 (k:Int)=Qdz x0 x1 (k:Int)) ?_ ?_ k (by omega)
 ·rw [Qvj]
  simp [VJ,Qdz,Qy,Qc,Qi]
 ·intro k hk ih
  rw [Qvj]
  simp only [VJ,Qy,Qc,QK,hk,Bo,Qf,Bb,QO (show k<4611686018427387904 by omega),ih,QL (y:=tI) hk]
  simp only [Qdz,Bb,Bg hk,List.contains_cons,ieq]
  have hc:(x1==x0[k])=(x0[k]==x1):=Bool.beq_comm
  rw [hc]
  cases x0[k]==x1<;>rfl
theorem QJI:LO QkY QkV Qvh 0:=QI (s:=Qdx) fun x y h _ q=>by simp only [QG,QH] at q;exact (QJH x.1 x.2.1 x.2.2.1 h).trans q
theorem s_f154 (l:List Int)(n:Int)(h:Z2 l n=true):Qvk l n=some (.t .bool (J6 l n),[]):=by
 simp only [Z2,Ba] at h
 simp only [Qvk,By,BG]
 rw [Yv ⟨h,B1 0,by omega⟩,Qf]
 unfold J6
 cases l.contains n<;>rfl
def QkZ:Ent:=Qo (.pr (.sl tI) (.pr tI .nil)) (fun x=>(Z2 x.1 x.2.1)) (fun x=>(.t .bool (J6 x.1 x.2.1)))
theorem Qk0:EM 154 QkZ:=mS (lk:=lkL (lkc QJI lkn)) QkY Qvg [((.t 4),some .bool)] false (gB gN) fun m=>Qs m fun x hok=>kT (s_f154 x.1 x.2.1 hok)
theorem Qvl (a b:Keep):(and (ieq a.1 b.1) (and (ieq a.2.1 b.2.1) true))=(a==b):=by
 obtain ⟨a1,a2,_⟩:=a
 obtain ⟨b1,b2,_⟩:=b
 show _=((a1==b1)&&((a2==b2)&&true))
 rfl
end
end Go.Proofs.YthlcobdnemhcdaaGreat.K
noncomputable section
namespace Go.Proofs.YthlcobdnemhcdaaGreat.K
open Go.RowKit
noncomputable section
theorem QcY (a b:Int):ige a b= !ilt a b:=by
 simp only [ige,ilt]
 rw [DC]
 simp
theorem Qj9 (a b:Int):ile a b= !igt a b:=by
 simp only [ile,igt]
 rw [DC]
 simp
theorem Ea (a b:Int):ine a b= !ieq a b:=rfl
theorem brB {q r:Bool}{X:OV}(h:X=some (.t .bool r,[])):br q (some (.t .bool false,[])) X=some (.t .bool (!q&&r),[]):=by
 subst h
 cases q<;>rfl
theorem brA {q r:Bool}{X:OV}(h:X=some (.t .bool r,[])):br q X (some (.t .bool false,[]))=some (.t .bool (q&&r),[]):=by
 subst h
 cases q<;>rfl
theorem br9 {q v:Bool}{n:Int}{X:OV}(h0:q=true->v=false)(hX:q=false->X=some (.t tI (bif v then 0 else n),[])):br q (some (.t tI n,[])) X=some (.t tI (bif v then 0 else n),[]):=by
 cases q with
 |true=>rw [Qf,h0 rfl];rfl
 |false=>rw [Qi,hX rfl]
open Classical in
def XN {α:Type}(a b:α):Bool:=decide (a=b)
theorem Qka {α:Type}(a:α):XN a a=true:=by
 unfold XN
 simp
theorem Qkb {α:Type}{a b:α}(h:XN a b=true):a=b:=by
 unfold XN at h
 simpa using h
def Js (n:Int):Bool:= !ilt n 0&& !igt n 2147483648
def QIx:TC:=aF Tryz.f175 []
def g_f175:G:=gG 9 [] (fun _ _=>none)
def QtF (p0:Int):OV:=br (ige p0 0) (some (.t .bool (ile p0 2147483648),[])) (some (.t .bool false,[]))
theorem s_f175 (n:Int):QtF n=some (.t .bool (Js n),[]):=by
 simp only [QtF,QcY,Qj9]
 exact brA rfl
def QcZ:Ent:=Qo (.pr tI .nil) (fun x=>true) (fun x=>(.t .bool (Js x.1)))
theorem Qkc:EM 175 QcZ:=mS g_f175 QIx [((.t 2),some .bool)] false (gB gN) fun m=>Qs m fun x _=>kT (s_f175 x.1)
def Wu (n:Int):Bool:= !ilt n 0&& !ige n 4294967296
def QIy:TC:=aF Tryz.f271 []
def g_f271:G:=gG 9 [] (fun _ _=>none)
def QtG (p0:Int):OV:=br (ige p0 0) (some (.t .bool (ilt p0 4294967296),[])) (some (.t .bool false,[]))
theorem s_f271 (n:Int):QtG n=some (.t .bool (Wu n),[]):=by
 simp only [QtG,Wu,QcY,Bool.not_not]
 exact brA rfl
def QtH:Ent:=Qo (.pr tI .nil) (fun x=>true) (fun x=>(.t .bool (Wu x.1)))
theorem QIz:EM 271 QtH:=mS g_f271 QIy [((.t 2),some .bool)] false (gB gN) fun m=>Qs m fun x _=>kT (s_f271 x.1)
def YH (l:List ByteArray)(k:Nat):Bool:=(List.range' k (l.length-k)).all fun j=>Jr (l.getD j ByteArray.empty)&&(decide (j=0)||slt (l.getD (j-1) ByteArray.empty) (l.getD j ByteArray.empty))
theorem QtI (l:List ByteArray):YH l l.length=true:=by
 unfold YH
 rw [Nat.sub_self]
 rfl
theorem QtJ {l:List ByteArray}{k:Nat}(hk:k<l.length):YH l k=((Jr l[k]&&(decide (k=0)||slt (l.getD (k-1) ByteArray.empty) l[k]))&&YH l (k+1)):=by
 have:l.length-k=(l.length-(k+1))+1:=by omega
 unfold YH
 rw [this,List.range'_succ,B0]
 simp only [Bt,Bk hk,B3]
def Xn (l:List ByteArray):Bool:=YH l 0&& !igt (Qc l) 8
def Y0 (l:List ByteArray):Bool:=decide (l.length<=100000)&&l.all Jn
abbrev Qc0:Sh:=⟨[(0,.ty (.sl .str)),(5,.ty (.sl .str)),(6,.ty tI),(7,.ty tI)],[]⟩
abbrev QtK:Sh:=⟨[(2,.ty .bool)],[]⟩
abbrev QtL:Sh:=⟨[(0,.ty (.sl .str))],[]⟩
def Qkd:Fg:=Qc0.f
def QtM:TC:=aF Tryz.f269 [(26,pL 0 Qkd),(421,.fg QtL.f),(13517,.fg QtK.f)]
def QtN:TC:=lb 0 QtM
def QtO (x0 x5:List ByteArray)(x6 x7:Int):VS:=Qc0.st (x0,x5,x6,x7,()) ()
def Qc1 (x2:Bool):VS:=QtK.st (x2,()) ()
def Qke (x0:List ByteArray):VS:=QtL.st (x0,()) ()
def QIA:VS->Option (Bool×List (Bool×Exit×VS)):=mkL Qc0 (fun x y=>(QD x.2.1 x.2.2.1 x.2.2.2.1&&XN x.1 x.2.1&&Y0 x.2.1)) (fun x y=>[((!YH x.2.1 x.2.2.2.1.toNat),.ret,Qc1 (false)),(true,.exit 0,Qke (x.1))])
def Qkf:G:=gG 32 [(178,QhI)] (Ls [QIA])
def Qc2 (x0 x5:List ByteArray)(x6 x7:Int):OX:=Qx (QA Qkf Qkd QtN) (QtO x0 x5 x6 x7)
def Vu (kk:List ByteArray->List ByteArray->Int->Int->OX)(x0 x5:List ByteArray)(x6 x7:Int):OX:=
 let a1:=lgt .str x5 (Int.toNat x7)
 br (ilt x7 x6) (br (cIx x5 x7) (br (Jn a1) (br (!(Jr a1)) (some (.ret,Qc1 false)) (br (igt x7 0) (br (cIx x0 (Qw .i64 x7 1)) (br (!slt (lgt .str x0 (Int.toNat (Qw .i64 x7 1))) a1) (some (.ret,Qc1 false)) (kk x0 x5 x6 (Qj .i64 x7 1))) none) (kk x0 x5 x6 (Qj .i64 x7 1)))) none) none) (some (.exit 0,Qke x0))
def Qc3 (x0 x5:List ByteArray)(x6 x7:Int):OX:=br (!YH x5 x7.toNat) (some (.ret,Qc1 (false)))<|some (.exit 0,Qke (x0))
theorem QtP (x0 x5:List ByteArray)(x6 x7:Int):Qc2 x0 x5 x6 x7=Vu Qc2 x0 x5 x6 x7:=lnT (x:=Vu (fun x0 x5 x6 x7=>some (.normal,QtO x0 x5 x6 x7)) x0 x5 x6 x7) (by simp only [Vu,nxA];rfl)
def QtQ (p0:List ByteArray):OV:=br (QD p0 (Qc p0) (0:Int)&&XN p0 p0&&Y0 p0) (br (!YH p0 (0:Int).toNat) (some (.t .bool (false),[])) (some (.t .bool (ile (Qc (p0)) 8),[]))) none
theorem QtR {l:List ByteArray}{k:Nat}(h:0<k)(hk:k<l.length):lgt .str l (Int.toNat (Qw .i64 (k:Int) 1))=l.getD (k-1) ByteArray.empty/\cIx l (Qw .i64 (k:Int) 1)=decide (k-1<l.length)∨4611686018427387904<=k:=by
 rcases Di k 4611686018427387904 with hb|hb
 ·left
  have e:Qw .i64 (k:Int) 1=((k-1:Nat):Int):=by rw [JO (by omega)];omega
  rw [e,Bb,QK]
  exact ⟨rfl,rfl⟩
 ·exact .inr hb
theorem QIB (x0 x5:List ByteArray)(x6 x7:Int)(h:(QD x5 x6 x7&&XN x0 x5&&Y0 x5)=true):Qc2 x0 x5 x6 x7=Qc3 x0 x5 x6 x7:=by
 simp only [Bc] at h
 obtain ⟨⟨h0,hs⟩,hn⟩:=h
 have hs:=Qkb hs
 subst hs
 obtain ⟨rfl,h3,k,rfl,hk⟩:=JG h0
 clear h0
 simp only [Y0,Bc,Bi] at hn
 refine QQ x0 (fun k=>Qc2 x0 x0 (x0.length:Int) (k:Int)=Qc3 x0 x0 (x0.length:Int) (k:Int)) ?_ ?_ k hk
 ·rw [QtP]
  simp only [Vu,Qc3,Qy,BN,BM,Qi,Bb,QtI,BF]
 ·intro k hk ih
  rw [QtP]
  have hx:=hn.2 x0[k] (Bw hk)
  simp only [Vu,Qy,QK,hk,Bo,Qf,Bb,QO (show k<4611686018427387904 by omega),QL (y:= .str) hk,hx,ih]
  simp only [Qc3,Bb,QtJ hk]
  cases hg:Jr x0[k] with
  |false=>rfl
  |true=>
   simp only [BF,Qi,Bu]
   by_cases h0:k=0
   ·subst h0
    simp only [show igt ((0:Nat):Int) 0=false from rfl,Qi,Bo,Bool.true_or,Bu]
   ·rcases QtR (l:=x0) (k:=k) (by omega) hk with ⟨e1,e2⟩|hb
    ·rw [show igt (k:Int) 0=true from Be (by omega),Qf,e2,Be (show k-1<x0.length by omega),Qf,e1,Bq h0,Dh]
     cases slt (x0.getD (k-1) ByteArray.empty) x0[k]<;>rfl
    ·omega
theorem QIC:LO Qkf Qkd QtN 0:=QI (s:=Qc0) fun x y h _ q=>by simp only [QG,QH] at q;exact (QIB x.1 x.2.1 x.2.2.1 x.2.2.2.1 h).trans q
theorem s_f269 (l:List ByteArray)(h:Y0 l=true):QtQ l=some (.t .bool (Xn l),[]):=by
 have hl:l.length<=100000:=by simp only [Y0,Bc,Ba] at h;exact h.1
 simp only [QtQ,JH hl,Qka,h,B6,Qf,By,Qj9,Xn]
 cases YH l 0<;>rfl
def QtS:Ent:=Qo (.pr (.sl .str) .nil) (fun x=>(Y0 x.1)) (fun x=>(.t .bool (Xn x.1)))
theorem QID:EM 269 QtS:=mS (lk:=lkL (lkc QIC lkn)) Qkf QtM [((.t 2),some .bool)] false (gB (gD Qqw gN)) fun m=>Qs m fun x hok=>kT (s_f269 x.1 hok)
def JY (u:Keep)(k:Int):Bool:=Jf u&&ieq (Yx u.1) k
def QIE:TC:=aF Tryz.f270 []
def g_f270:G:=gG 14 [(92,FA),(218,Qdq)] (fun _ _=>none)
def QtT (p0:Keep)(p1:Int):OV:=br (Jf p0) (some (.t .bool (ieq (Yx p0.1) p1),[])) (some (.t .bool false,[]))
theorem s_f270 (u:Keep)(k:Int):QtT u k=some (.t .bool (JY u k),[]):=by
 simp only [QtT]
 exact brA rfl
def QtU:Ent:=Qo (.pr Qk (.pr tI .nil)) (fun x=>true) (fun x=>(.t .bool (JY x.1 x.2.1)))
theorem QIF:EM 270 QtU:=mS g_f270 QIE [((.t 4),some .bool)] false (gB (gD Eu (gD QkN gN))) fun m=>Qs m fun x _=>kT (s_f270 x.1 x.2.1)
def Eb (u:Keep):Bool:=JY u 2
def QIG:TC:=aF Tryz.f229 []
def g_f229:G:=gG 11 [(105,I3),(186,Qds)] (fun _ _=>none)
def QtV (p0:Keep):OV:=br (Jf p0) (some (.t .bool (ieq (Yx p0.1) 2),[])) (some (.t .bool false,[]))
theorem s_f229 (u:Keep):QtV u=some (.t .bool (Eb u),[]):=by
 simp only [QtV]
 exact brA rfl
def Qkg:Ent:=Qo (.pr Qk .nil) (fun x=>true) (fun x=>(.t .bool (Eb x.1)))
theorem QtW:EM 229 Qkg:=mS g_f229 QIG [((.t 2),some .bool)] false (gB (gD Qaw (gD QkO gN))) fun m=>Qs m fun x _=>kT (s_f229 x.1)
abbrev Q0 (c:Certificate):List ByteArray:=c.2.2.2.2.2.2.2.2.2.2.1
abbrev UD (c:Certificate):Keep:=c.2.2.2.2.2.2.2.2.2.2.2.1
def JS (c:Certificate):Bool:=Jn c.2.1&&(Jn c.2.2.1&&Y0 (Q0 c))
def QV (c:Certificate):Bool:=
 !ilt c.1 0&&(!igt c.1 1099511627776&&(Jr c.2.1&&(Jr c.2.2.1&&(Xn (Q0 c)&&(JY c.2.2.2.1 2&&(Js c.2.2.2.2.1&&(JY c.2.2.2.2.2.1 1&&(Js (UD c).1&&(Wu (UD c).2.1&&
 (!ilt c.2.2.2.2.2.2.1 0&&(!igt c.2.2.2.2.2.2.1 c.2.2.2.2.2.2.2.1&&(!igt c.2.2.2.2.2.2.2.1 40000&&(!ilt c.2.2.2.2.2.2.2.2.2.1 0&&(!igt c.2.2.2.2.2.2.2.2.2.1 8&&(c.2.2.2.2.2.2.2.2.1||ieq c.2.2.2.2.2.2.2.2.2.1 0)))))))))))))))
def QIH:TC:=aF Tryz.f250 []
def g_f250:G:=gG 91 [(175,QcZ),(178,QhI),(269,QtS),(270,QtU),(271,QtH)] (fun _ _=>none)
def QtX (p0:Certificate):OV:=br (ilt p0.1 0) (some (.t .bool false,[])) (br (igt p0.1 1099511627776) (some (.t .bool false,[])) (br (Jn p0.2.1) (br (!(Jr p0.2.1)) (some (.t .bool false,[])) (br (Jn p0.2.2.1) (br (!(Jr p0.2.2.1)) (some (.t .bool false,[])) (br (Y0 p0.2.2.2.2.2.2.2.2.2.2.1) (br (!(Xn p0.2.2.2.2.2.2.2.2.2.2.1)) (some (.t .bool false,[])) (br (!(JY p0.2.2.2.1 2)) (some (.t .bool false,[])) (br (!(Js p0.2.2.2.2.1)) (some (.t .bool false,[])) (br (!(JY p0.2.2.2.2.2.1 1)) (some (.t .bool false,[])) (br (!(Js p0.2.2.2.2.2.2.2.2.2.2.2.1.1)) (some (.t .bool false,[])) (br (!(Wu p0.2.2.2.2.2.2.2.2.2.2.2.1.2.1)) (some (.t .bool false,[])) (br (ilt p0.2.2.2.2.2.2.1 0) (some (.t .bool false,[])) (br (igt p0.2.2.2.2.2.2.1 p0.2.2.2.2.2.2.2.1) (some (.t .bool false,[])) (br (igt p0.2.2.2.2.2.2.2.1 40000) (some (.t .bool false,[])) (br (ige p0.2.2.2.2.2.2.2.2.2.1 0) (br (ile p0.2.2.2.2.2.2.2.2.2.1 8) (br (p0.2.2.2.2.2.2.2.2.1) (some (.t .bool true,[])) (some (.t .bool (ieq p0.2.2.2.2.2.2.2.2.2.1 0),[]))) (some (.t .bool false,[]))) (some (.t .bool false,[])))))))))))) none)) none)) none))
theorem s_f250 (c:Certificate)(h:JS c=true):QtX c=some (.t .bool (QV c),[]):=by
 simp only [JS,Bc] at h
 obtain ⟨h1,h2,h3⟩:=h
 simp only [QtX,h1,h2,h3,Qf,QcY,Qj9]
 refine (brB<|brB<|brB<|brB<|brB<|brB<|brB<|brB<|brB<|brB<|brB<|brB<|brB<|brA<|brA (r:=c.2.2.2.2.2.2.2.2.1||ieq c.2.2.2.2.2.2.2.2.2.1 0) ?_).trans ?_
 ·cases c.2.2.2.2.2.2.2.2.1<;>rfl
 ·simp only [Bool.not_not,QV]
def QtY:Ent:=Qo (.pr QP .nil) (fun x=>(JS x.1)) (fun x=>(.t .bool (QV x.1)))
theorem QII:EM 250 QtY:=mS g_f250 QIH [((.t 2),some .bool)] false (gB (gD Qkc (gD Qqw (gD QID (gD QIF (gD QIz gN)))))) fun m=>Qs m fun x hok=>kT (s_f250 x.1 hok)
def Wv (c:Certificate):Int:=bif QV c then 0 else 9
theorem Vv (c:Certificate):ine (Wv c) 0= !QV c:=by
 unfold Wv
 cases QV c<;>rfl
def QIJ:TC:=aF Tryz.f219 []
def g_f219:G:=gG 6 [(250,QtY)] (fun _ _=>none)
def QtZ (p0:Certificate):OV:=br (JS p0) (br (!(QV p0)) (some (.t tI 9,[])) (some (.t tI 0,[]))) none
theorem s_f219 (c:Certificate)(h:JS c=true):QtZ c=some (.t tI (Wv c),[]):=by
 simp only [QtZ,h,Qf,Wv]
 cases QV c<;>rfl
def Qt0:Ent:=Qo (.pr QP .nil) (fun x=>(JS x.1)) (fun x=>(.t tI (Wv x.1)))
theorem QIK:EM 219 Qt0:=mS g_f219 QIJ [((.t 2),some tI)] false (gB (gD QII gN)) fun m=>Qs m fun x hok=>kT (s_f219 x.1 hok)
abbrev Qc4:Sh:=⟨[(1,.ptr 1 0),(3,.ty tI)],[(1,.box QP)]⟩
abbrev Qt1:Sh:=⟨[(2,.ty tI)],[]⟩
abbrev Qt2:Sh:=⟨[(1,.ptr 1 0)],[(1,.box QP)]⟩
def Qkh:Fg:=Qc4.f
def Qt3:TC:=aF Tryz.f192 [(250,pL 0 Qkh),(4003,.fg Qt2.f),(8008,pD [(0,[1]),(1,[1]),(2,[]),(3,[]),(4,[]),(5,[]),(6,[]),(7,[]),(8,[]),(9,[]),(10,[]),(11,[1]),(12,[1]),(13,[]),(14,[]),(15,[]),(16,[]),(17,[1]),(18,[1]),(19,[]),(20,[]),(21,[]),(22,[]),(23,[]),(24,[])] (.of [0,1,2,3,4,5,6,7,8,9,10,11,12,13,14,15,16,17,18,19,20,21,22,23,24])),(32037,.fg Qt1.f)]
def Qt4:TC:=lb 0 Qt3
def Qt5 (x3:Int)(y1:Certificate):VS:=Qc4.st ((),x3,()) (y1,())
def Qc5 (x2:Int):VS:=Qt1.st (x2,()) ()
def Qki (y1:Certificate):VS:=Qt2.st ((),()) (y1,())
def QIL:VS->Option (Bool×List (Bool×Exit×VS)):=mkL Qc4 (fun x y=>(decide (0<=x.2.1/\x.2.1<=(Q0 y.1).length)&&Y0 (Q0 y.1))) (fun x y=>[((!YH (Q0 y.1) x.2.1.toNat),.ret,Qc5 (9)),(true,.exit 0,Qki (y.1))])
def Qkj:G:=gG 146 [(105,I3),(186,Qds),(187,QqA),(229,Qkg)] (Ls [QIL])
def Qc6 (x3:Int)(y1:Certificate):OX:=Qx (QA Qkj Qkh Qt4) (Qt5 x3 y1)
def Vw (kk:Int->Certificate->OX)(x3:Int)(y1:Certificate):OX:=
 let a1:=lgt .str y1.2.2.2.2.2.2.2.2.2.2.1 (Int.toNat x3)
 let a2:=cIx y1.2.2.2.2.2.2.2.2.2.2.1 x3
 br (ilt x3 (Qc y1.2.2.2.2.2.2.2.2.2.2.1)) (br a2 (br (Jn a1) (br (!(Jr a1)) (some (.ret,Qc5 9)) (br (igt x3 0) (br (cIx y1.2.2.2.2.2.2.2.2.2.2.1 (Qw .i64 x3 1)) (br a2 (br (!slt (lgt .str y1.2.2.2.2.2.2.2.2.2.2.1 (Int.toNat (Qw .i64 x3 1))) a1) (some (.ret,Qc5 9)) (kk (Qj .i64 x3 1) y1)) none) none) (kk (Qj .i64 x3 1) y1))) none) none) (some (.exit 0,Qki y1))
def Qc7 (x3:Int)(y1:Certificate):OX:=br (!YH (Q0 y1) x3.toNat) (some (.ret,Qc5 (9)))<|some (.exit 0,Qki (y1))
theorem Qt6 (x3:Int)(y1:Certificate):Qc6 x3 y1=Vw Qc6 x3 y1:=lnT (x:=Vw (fun x3 y1=>some (.normal,Qt5 x3 y1)) x3 y1) (by simp only [Vw,nxA];rfl)
def Qkk (p0:Certificate):OV:=
 let a1:=(((((((((((((p0).2).2).2).2).2).2).2).2).2).2).2).1)
 br (igt (Qc p0.2.2.2.2.2.2.2.2.2.2.1) 8) (some (.t tI 9,[])) (br (decide (0<=(0:Int)/\(0:Int)<=(Q0 p0).length)&&Y0 (Q0 p0)) (br (!YH (Q0 p0) (0:Int).toNat) (some (.t tI (9),[])) (br (ilt (a1.1) 0) (some (.t tI 9,[])) (br (igt (a1.1) 2147483648) (some (.t tI 9,[])) (br (ilt ((a1.2).1) 0) (some (.t tI 9,[])) (br (ige ((a1.2).1) 4294967296) (some (.t tI 9,[])) (some (.t tI 0,[]))))))) none)
def Qt7 (p0:Certificate):OV:=br (ilt p0.1 0) (some (.t tI 9,[])) (br (igt p0.1 1099511627776) (some (.t tI 9,[])) (br (Jn p0.2.1) (br (!(Jr p0.2.1)) (some (.t tI 9,[])) (br (Jn p0.2.2.1) (br (!(Jr p0.2.2.1)) (some (.t tI 9,[])) (br (!(Eb p0.2.2.2.1)) (some (.t tI 9,[])) (br (ilt p0.2.2.2.2.1 0) (some (.t tI 9,[])) (br (igt p0.2.2.2.2.1 2147483648) (some (.t tI 9,[])) (br (!(Jf p0.2.2.2.2.2.1)) (some (.t tI 9,[])) (br (ine (Yx p0.2.2.2.2.2.1.1) 1) (some (.t tI 9,[])) (br (ilt p0.2.2.2.2.2.2.1 0) (some (.t tI 9,[])) (br (igt p0.2.2.2.2.2.2.1 p0.2.2.2.2.2.2.2.1) (some (.t tI 9,[])) (br (igt p0.2.2.2.2.2.2.2.1 40000) (some (.t tI 9,[])) (br (ilt p0.2.2.2.2.2.2.2.2.2.1 0) (some (.t tI 9,[])) (br (igt p0.2.2.2.2.2.2.2.2.2.1 8) (some (.t tI 9,[])) (br (!p0.2.2.2.2.2.2.2.2.1) (br (ine p0.2.2.2.2.2.2.2.2.2.1 0) (some (.t tI 9,[])) (Qkk p0)) (Qkk p0))))))))))))) none)) none))
theorem QIM (x3:Int)(y1:Certificate)(h:(decide (0<=x3/\x3<=(Q0 y1).length)&&Y0 (Q0 y1))=true):Qc6 x3 y1=Qc7 x3 y1:=by
 simp only [Bc,Ba] at h
 obtain ⟨⟨h0,h1⟩,hn⟩:=h
 obtain ⟨k,rfl⟩:=Bl h0
 simp only [Y0,Bc,Bi,Ba] at hn
 refine QQ (Q0 y1) (fun k=>Qc6 (k:Int) y1=Qc7 (k:Int) y1) ?_ ?_ k (by omega)
 ·rw [Qt6]
  simp only [Vw,Qc7,show ilt ((Q0 y1).length:Int) (Qc (Q0 y1))=false from Bq (by simp only [Qc];omega),Qi,Bb,QtI,BF]
 ·intro k hk ih
  rw [Qt6]
  have hx:=hn.2 (Q0 y1)[k] (Bw hk)
  simp only [Vw,show ilt (k:Int) (Qc (Q0 y1))=true from Be (by simp only [Qc];omega),QK,hk,Bo,Qf,Bb,QO (show k<4611686018427387904 by omega),QL (y:= .str) hk,hx,ih]
  simp only [Qc7,Bb,QtJ hk]
  cases hg:Jr (Q0 y1)[k] with
  |false=>rfl
  |true=>
   simp only [BF,Qi,Bu]
   by_cases h0:k=0
   ·subst h0
    simp only [show igt ((0:Nat):Int) 0=false from rfl,Qi,Bo,Bool.true_or,Bu]
   ·rcases QtR (l:=Q0 y1) (k:=k) (by omega) hk with ⟨e1,e2⟩|hb
    ·rw [show igt (k:Int) 0=true from Be (by omega),Qf,e2,Be (show k-1<(Q0 y1).length by omega),Qf,e1,Bq h0,Dh]
     cases slt ((Q0 y1).getD (k-1) ByteArray.empty) (Q0 y1)[k]<;>rfl
    ·omega
theorem QIN:LO Qkj Qkh Qt4 0:=QI (s:=Qc4) fun x y h _ q=>by simp only [QG,QH] at q;exact (QIM x.2.1 y.1 h).trans q
theorem s_f192 (c:Certificate)(h:JS c=true):Qt7 c=some (.t tI (Wv c),[]):=by
 simp only [JS,Bc] at h
 obtain ⟨h1,h2,h3⟩:=h
 have hd:decide ((0:Int)<=0/\(0:Int)<=(Q0 c).length)=true:=Be (by omega)
 unfold Wv
 simp only [Qt7,Qkk,h1,h2,h3,hd,B6,Qf,By,Ea]
 refine br9 (fun g=>by simp [QV,g]) fun g1=>br9 (fun g=>by simp [QV,g]) fun g2=>br9 (fun g=>by simp only [Bx] at g;simp [QV,g]) fun g3=>br9 (fun g=>by simp only [Bx] at g;simp [QV,g]) fun g4=>br9 (fun g=>by simp only [Bx,Eb] at g;simp [QV,g]) fun g5=>br9 (fun g=>by simp [QV,Js,g]) fun g6=>br9 (fun g=>by simp [QV,Js,g]) fun g7=>br9 (fun g=>by simp only [Bx] at g;simp [QV,JY,g]) fun g8=>br9 (fun g=>by simp only [Bx] at g;simp [QV,JY,g]) fun g9=>br9 (fun g=>by simp [QV,g]) fun g10=>br9 (fun g=>by simp [QV,g]) fun g11=>br9 (fun g=>by simp [QV,g]) fun g12=>br9 (fun g=>by simp [QV,g]) fun g13=>br9 (fun g=>by simp [QV,g]) fun g14=> ?_
 have tail: ∀ (hp:(c.2.2.2.2.2.2.2.2.1||ieq c.2.2.2.2.2.2.2.2.2.1 0)=true),br (igt (Qc (Q0 c)) 8) (some (V.t tI 9,([]:List VO))) (br (!YH (Q0 c) 0) (some (V.t tI 9,[])) (br (ilt (UD c).1 0) (some (V.t tI 9,[])) (br (igt (UD c).1 2147483648) (some (V.t tI 9,[])) (br (ilt (UD c).2.1 0) (some (V.t tI 9,[])) (br (ige (UD c).2.1 4294967296) (some (V.t tI 9,[])) (some (V.t tI 0,[])))))))=some (V.t tI (bif QV c then 0 else 9),([]:List VO)):=by
  intro hp
  refine br9 (fun g=>by simp [QV,Xn,g]) fun g15=>br9 (fun g=>by simp only [Bx] at g;simp [QV,Xn,g]) fun g16=>br9 (fun g=>by simp [QV,Js,g]) fun g17=>br9 (fun g=>by simp [QV,Js,g]) fun g18=>br9 (fun g=>by simp [QV,Wu,g]) fun g19=>br9 (fun g=>by simp [QV,Wu,g]) fun g20=> ?_
  simp only [Bool.not_eq_false'] at g3 g4 g5 g8 g9 g16
  simp only [Eb] at g5
  have:QV c=true:=by
   simp only [QV,Xn,JY,Js,Wu,g1,g2,g3,g4,g6,g7,g8,g9,g10,g11,g12,g13,g14,g15,g16,g17,g18,g19,g20,hp,DB,B6,Bu]
   simpa only [JY,B7] using g5
  rw [this]
  rfl
 cases ha:c.2.2.2.2.2.2.2.2.1 with
 |true=>
  rw [BF,Qi]
  exact tail (by rw [ha];rfl)
 |false=>
  rw [DB,Qf]
  refine br9 (fun g=>by simp only [Bx] at g;simp [QV,ha,g]) fun g=> ?_
  exact tail (by simp only [Bool.not_eq_false'] at g;rw [g,Bool.or_true])
def Qc8:Ent:=Qo (.pr QP .nil) (fun x=>(JS x.1)) (fun x=>(.t tI (Wv x.1)))
theorem Qkl:EM 192 Qc8:=mS (lk:=lkL (lkc QIN lkn)) Qkj Qt3 [((.t 2),some tI)] false (gB (gD Qaw (gD QkO (gD QEy (gD QtW gN))))) fun m=>Qs m fun x hok=>kT (s_f192 x.1 hok)
end
end Go.Proofs.YthlcobdnemhcdaaGreat.K
noncomputable section
namespace Go.Proofs.YthlcobdnemhcdaaGreat.K
open Go.RowKit
noncomputable section
theorem QDP (n:Int):(Em n).length<=8:=by
 rw [Em,Qxd]
 exact Qel n
theorem EN (n:Nat)(m:Int):okT (n+1) (Ji m)=true:=by
 have:=QDP m
 show okV (n+1) (.mk 2 (Em m) false [])=true
 simp only [okV,List.isEmpty_nil,BW,DH,B7,Bv]
 rw [Be (by omega)]
 rfl
theorem Qhw (n:Nat){s:ByteArray}(h:s.size<=100000):okT (n+1) (Zu s)=true:=by
 have:=EP s
 show okV (n+1) (.mk 12 (QZ s) false [])=true
 simp only [okV,List.isEmpty_nil,BW,DH,B7,Bv]
 rw [Be (by omega)]
 rfl
theorem QSq (n:Nat)(b:Bool):okT (n+1) (Gk b)=true:=by cases b<;>rfl
theorem Qqa {n:Nat}{l:List Qn}(hl:l.length<=100000)(h: ∀ x∈l,okT n x=true):okT (n+1) (WF l)=true:=by
 show okV (n+1) (.mk 48 [] true (l.map Val.of))=true
 simp only [okV,List.isEmpty_nil,B8,B7,Bv,BT,Bc,Bi,Dj]
 refine ⟨⟨⟨rfl,rfl⟩,Be ⟨by omega,hl⟩⟩, ?_⟩
 rintro v ⟨x,hx,rfl⟩
 exact h x hx
theorem Qqb {n:Nat}{l:List Qn}(hl:l.length<=100000)(h: ∀ x∈l,okT n x=true):ZH (n+1) l=true:=by
 simp only [ZH,Bc,Ba,Bi]
 exact ⟨hl,h⟩
theorem Qqc (x:Qn):((x.1,(x.2.1,(x.2.2.1,(List.map Val.of (List.map Val.un x.2.2.2.1),())))):Qn)=x:=by
 rw [EC]
theorem EO (m:Int):(ZN (Ji m)).length<=18:=by
 have h1:=QDP m
 have h2:=Qfd ((Em m).length+0)
 rw [Qfc]
 simp only [Ji,Yo,Br,Bm,Bv]
 omega
theorem Qqd (s:ByteArray):(ZN (Zu s)).length<=10+s.size:=by
 have h1:=EP s
 have h2:=Qfd ((QZ s).length+0)
 rw [Qfc]
 simp only [Zu,Yo,Br,Bm,Bv]
 omega
theorem QSr (b:Bool):(ZN (Gk b)).length<=11:=by cases b<;>decide
theorem Qqe (l:List Qn):(ZN (WF l)).length<=10+(ZX l).length:=by
 have h2:=Qfd (0+(Yo (l.map Val.of)).length)
 rw [Qfc]
 simp only [WF,ZX,Br,Bm,Bv]
 omega
def Xe (u:Keep):Qn:=WF [Ji u.1,Ji u.2.1]
def G4 (u:Keep):Bool:=Ym u.1&&Ym u.2.1
theorem QDQ (n:Nat)(u:Keep):okT (n+2) (Xe u)=true:=
 Qqa (by simp) fun x hx=>by
  simp only [BA,BQ,Dd] at hx
  rcases hx with rfl|rfl<;>exact EN _ _
theorem QDR (u:Keep):(ZN (Xe u)).length<=46:=by
 have h0:=Qqe [Ji u.1,Ji u.2.1]
 have h1:=EO u.1
 have h2:=EO u.2.1
 simp only [Ex,QaO,Bm,Bv] at h0
 unfold Xe
 omega
theorem QSs (u:Keep):Um [Ji u.1,Ji u.2.1]=true:=
 Qqb (n:=11) (by simp) fun x hx=>by
  simp only [BA,BQ,Dd] at hx
  rcases hx with rfl|rfl<;>exact EN _ _
def QSt:TC:=aF Tryz.f262 [(6,pD [(0,[1]),(1,[1]),(2,[]),(3,[1]),(4,[1]),(5,[]),(6,[]),(7,[]),(8,[2])] (.of [0,1,2,3,4,5,6,7,8]))]
def g_f262:G:=gG 11 [(164,Qks),(167,QnU)] (fun _ _=>none)
def QDS (p0:Keep):OV:=
 let a1:=((Ji p0.2.1).1,(((Ji p0.2.1).2).1,((((Ji p0.2.1).2).2).1,((List.map Val.of (List.map Val.un (((((Ji p0.2.1).2).2).2).1))),()))))
 let a2:=((Ji p0.1).1,(((Ji p0.1).2).1,((((Ji p0.1).2).2).1,((List.map Val.of (List.map Val.un (((((Ji p0.1).2).2).2).1))),()))))
 br (Ym p0.1) (br (Ym p0.2.1) (br (Um ([a2,a1])) (some (.t QJ (WF ([a2,a1])),[])) none) none) none
theorem s_f262 (u:Keep)(h:G4 u=true):QDS u=some (.t QJ (Xe u),[]):=by
 simp only [G4,Bc] at h
 simp only [QDS,h.1,h.2,Qqc,QSs,Qf]
 rfl
def QDT:Ent:=Qo (.pr Qk .nil) (fun x=>(G4 x.1)) (fun x=>(.t QJ (Xe x.1)))
theorem QSu:EM 262 QDT:=mS g_f262 QSt [((.c 2 true 4),some QJ)] false (gB (gD Qug (gD QzF gN))) fun m=>Qs m fun x hok=>kT (s_f262 x.1 hok)
def U1 (c:Certificate):List Qn:=[Ji c.1,Zu c.2.1,Zu c.2.2.1,Xe c.2.2.2.1,Ji c.2.2.2.2.1,Xe c.2.2.2.2.2.1,Ji c.2.2.2.2.2.2.1,Ji c.2.2.2.2.2.2.2.1,Gk c.2.2.2.2.2.2.2.2.1,Ji c.2.2.2.2.2.2.2.2.2.1,WF ((Q0 c).map Zu)]
def U2 (c:Certificate):Qn:=WF (U1 c)
def OO (c:Certificate):Bool:=JS c&&QV c
theorem QSv {u:Keep}(h:Jf u=true):0<=u.2.1/\u.2.1<=16384/\1<=u.1/\u.1<=22:=by
 simp only [Jf,Ba] at h
 have ham: ∀ (s t:List Int),(∀ x∈s,0<=x/\x<=16384)->Zy u.2.1 s t > 0->0<=u.2.1/\u.2.1<=16384:=by
  intro s t hs hg
  unfold Zy at hg
  split at hg
  ·rename_i k hk
   have hm:u.2.1∈s:=by
    have key: ∀ (s:List Int) (k:Nat),J1 u.2.1 s=some k->u.2.1∈s:=by
     intro s
     induction s with
     |nil=>intro k hk;cases hk
     |cons a s ih=>
      intro k hk
      unfold J1 at hk
      split at hk
      ·rename_i ha
       have:=eq_of_beq ha
       rw [this];exact B2
      ·obtain ⟨j,hj,_⟩:=Bj.1 hk
       exact BR _ (ih j hj)
    exact key s k hk
   exact hs _ hm
  ·omega
 rw [←and_assoc]
 unfold XB at h
 repeat' split at h
 ·refine ⟨?_,by omega⟩
  unfold Fz at h
  split at h<;>omega
 ·refine ⟨?_,by omega⟩
  unfold I2 at h
  split at h
  ·rename_i hc
   simp only [J6,BO,BA,BQ,Dd] at hc
   omega
  ·omega
 ·exact ⟨ham _ _ (by simp) h,by omega⟩
 ·exact ⟨ham _ _ (by simp) h,by omega⟩
 ·exact ⟨ham _ _ (by simp) h,by omega⟩
 ·exact ⟨ham _ _ (by simp) h,by omega⟩
 ·exact ⟨ham _ _ (by simp) h,by omega⟩
 ·refine ⟨ham _ _ (by simp) h, ?_⟩
  unfold Zy at h
  split at h
  ·rename_i k hk
   unfold J1 at hk
   split at hk
   ·injection hk with hk
    subst hk
    simp only [List.getD_cons_zero,WC] at h
    repeat' split at h
    all_goals omega
   ·cases hk
  ·omega
theorem QDU {u:Keep}{k:Int}(h:JY u k=true):G4 u=true:=by
 simp only [JY,Bc] at h
 have:=QSv h.1
 simp only [G4,Ym,Bc,Ba]
 omega
theorem Qqf {s:ByteArray}(h:Jr s=true):s.size<=32:=by
 simp only [Jr,Bc,Ba] at h
 exact h.2.2
theorem QSw {l:List ByteArray}: ∀ {k:Nat},YH l k=true→ ∀ j (hj:j<l.length),k<=j->Jr l[j]=true:=by
 intro k h j hj hk
 simp only [YH,Bi,List.mem_range'_1,Bc] at h
 have:=(h j ⟨hk,by omega⟩).1
 simpa only [Bt,Bk hj,B3] using this
theorem QSx {l:List ByteArray}(h:Xn l=true):l.length<=8∧ ∀ s∈l,s.size<=32:=by
 simp only [Xn,Bc,Bx,igt,Qc,Bn] at h
 refine ⟨by omega,fun s hs=> ?_⟩
 obtain ⟨j,hj,rfl⟩:=List.mem_iff_getElem.1 hs
 exact Qqf (QSw h.1 j hj (Da _))
theorem Qhx {c:Certificate}(h:QV c=true):Ym c.1=true/\c.2.1.size<=32/\c.2.2.1.size<=32/\G4 c.2.2.2.1=true/\Ym c.2.2.2.2.1=true/\G4 c.2.2.2.2.2.1=true/\Ym c.2.2.2.2.2.2.1=true/\Ym c.2.2.2.2.2.2.2.1=true/\Ym c.2.2.2.2.2.2.2.2.2.1=true/\(Q0 c).length<=8∧ ∀ s∈Q0 c,s.size<=32:=by
 simp only [QV,Js,Bc,Bx,ilt,igt,Bn] at h
 obtain ⟨h1,h2,h3,h4,h5,h6,⟨h7,h7'⟩,h8,⟨h9,h9'⟩,h10,h11,h12,h13,h14,h15,h16⟩:=h
 have hn:=QSx h5
 refine ⟨Be (by omega),Qqf h3,Qqf h4,QDU h6,Be (by omega),QDU h8,Be (by omega),Be (by omega),Be (by omega),hn.1,hn.2⟩
theorem QSy (n:Nat){l:List ByteArray}(h:l.length<=8)(hs: ∀ s∈l,s.size<=32):okT (n+2) (WF (l.map Zu))=true:=
 Qqa (by rw [BT];omega) fun x hx=>by
  obtain ⟨s,hm,rfl⟩:=Dj.1 hx
  exact Qhw _ (by have:=hs s hm;omega)
theorem QDV (n:Nat){c:Certificate}(h:QV c=true): ∀ x∈U1 c,okT (n+2) x=true:=by
 obtain ⟨h1,h2,h3,h4,h5,h6,h7,h8,h9,h10,h11⟩:=Qhx h
 intro x hx
 simp only [U1,BA,BQ,Dd] at hx
 rcases hx with rfl|rfl|rfl|rfl|rfl|rfl|rfl|rfl|rfl|rfl|rfl
 ·exact EN _ _
 ·exact Qhw _ (by omega)
 ·exact Qhw _ (by omega)
 ·exact QDQ _ _
 ·exact EN _ _
 ·exact QDQ _ _
 ·exact EN _ _
 ·exact EN _ _
 ·exact QSq _ _
 ·exact EN _ _
 ·exact QSy _ h10 h11
theorem QDW: ∀ {l:List ByteArray},(∀ s∈l,s.size<=32)->(ZX (l.map Zu)).length<=42*l.length
 | [],_=>by simp [QaO]
 |s::l,h=>by
  have h1:=h s (by simp)
  have h2:=Qqd s
  have h3:=QDW (l:=l) fun u hu=>h u (by simp [hu])
  rw [BP,Ex,Bm,Br]
  omega
theorem Qqg {c:Certificate}(h:QV c=true):(ZN (U2 c)).length<=1000:=by
 obtain ⟨h1,h2,h3,h4,h5,h6,h7,h8,h9,h10,h11⟩:=Qhx h
 have e0:=Qqe (U1 c)
 have e1:=EO c.1
 have e2:=Qqd c.2.1
 have e3:=Qqd c.2.2.1
 have e4:=QDR c.2.2.2.1
 have e5:=EO c.2.2.2.2.1
 have e6:=QDR c.2.2.2.2.2.1
 have e7:=EO c.2.2.2.2.2.2.1
 have e8:=EO c.2.2.2.2.2.2.2.1
 have e9:=QSr c.2.2.2.2.2.2.2.2.1
 have e10:=EO c.2.2.2.2.2.2.2.2.2.1
 have e11:=Qqe ((Q0 c).map Zu)
 have e12:=QDW h11
 simp only [U1,Ex,QaO,Bm,Bv] at e0
 unfold U2
 simp only [U1]
 omega
theorem enc_ok {c:Certificate}(h:QV c=true):GJ (U2 c)=true:=by
 have:=Qqg h
 simp only [GJ,Bc,Ba]
 refine ⟨Qqa (by simp [U1]) (QDV 9 h),by omega⟩
theorem QSz {c:Certificate}(h:QV c=true):Um ((Q0 c).map Zu)=true:=by
 obtain ⟨h1,h2,h3,h4,h5,h6,h7,h8,h9,h10,h11⟩:=Qhx h
 exact Qqb (n:=11) (by rw [BT];omega) fun x hx=>by
  obtain ⟨s,hm,rfl⟩:=Dj.1 hx
  exact Qhw _ (by have:=h11 s hm;omega)
theorem QSA {c:Certificate}(h:QV c=true):Um (U1 c)=true:=Qqb (n:=11) (by simp [U1]) (QDV 9 h)
theorem Qqh {s:ByteArray}(h:s.size<=32):X6 s=true:=Be (by omega)
abbrev Qhy:Sh:=⟨[(1,.ptr 1 0),(2,.ptr 2 0),(3,.ms 3),(4,.ty tI)],[(1,.box QP),(2,.box QJ),(3,.arr 233 QJ),(20,.no)]⟩
abbrev QDX:Sh:=⟨[(1,.ptr 1 0),(2,.ptr 2 0),(3,.ms 3)],[(1,.box QP),(2,.box QJ),(3,.arr 233 QJ),(20,.no)]⟩
def Qqi:Fg:=Qhy.f
def QDY:TC:=aF Tryz.f234 [(58,.nw 3 233),(58,pL 0 Qqi),(931,.fg QDX.f),(30,pD [(0,[1]),(1,[1]),(2,[]),(3,[1]),(4,[1]),(5,[]),(6,[1]),(7,[1]),(8,[]),(9,[1]),(10,[1]),(11,[]),(12,[1]),(13,[1]),(14,[]),(15,[1]),(16,[1]),(17,[]),(18,[1]),(19,[1]),(20,[]),(21,[1]),(22,[1]),(23,[]),(24,[1]),(25,[1]),(26,[]),(27,[1]),(28,[1]),(29,[]),(30,[3,20]),(31,[3,20,52,5052,10052,15052]),(32,[]),(33,[]),(34,[2])] (.of [0,1,2,3,4,5,6,7,8,9,10,11,12,13,14,15,16,17,18,19,20,21,22,23,24,25,26,27,28,29,30,31,32,33,34]))]
def QDZ:TC:=lb 0 QDY
def QD0 (x4:Int)(y1:Certificate)(y2:Qn)(y3:List Qn):VS:=Qhy.st ((),(),(),x4,()) (y1,y2,y3,(),())
def Qqj (y1:Certificate)(y2:Qn)(y3:List Qn):VS:=QDX.st ((),(),(),()) (y1,y2,y3,(),())
def QSB:VS->Option (Bool×List (Bool×Exit×VS)):=mkL Qhy (fun x y=>(decide (0<=x.2.2.2.1/\x.2.2.2.1<=(Q0 y.1).length/\y.2.2.1.length<=x.2.2.2.1.toNat/\(Q0 y.1).length<=8)&&(Q0 y.1).all fun s=>decide (s.size<=32))) (fun x y=>[(true,.exit 0,Qqj (y.1) (y.2.1) (y.2.2.1++((Q0 y.1).drop x.2.2.2.1.toNat).map Zu))])
def Qqk:G:=gG 55 [(164,Qks),(165,Qui),(167,QnU),(262,QDT),(263,Quj)] (Ls [QSB])
def Qhz (x4:Int)(y1:Certificate)(y2:Qn)(y3:List Qn):OX:=Qx (QA Qqk Qqi QDZ) (QD0 x4 y1 y2 y3)
def QbN (kk:Int->Certificate->Qn->List Qn->OX)(x4:Int)(y1:Certificate)(y2:Qn)(y3:List Qn):OX:=
 let a1:=Zu (lgt .str y1.2.2.2.2.2.2.2.2.2.2.1 (Int.toNat x4))
 let a2:=((a1.2).1,(((a1.2).2).1,((List.map Val.of (List.map Val.un ((((a1.2).2).2).1))),())))
 br (ilt x4 (Qc y1.2.2.2.2.2.2.2.2.2.2.1)) (br (cIx y1.2.2.2.2.2.2.2.2.2.2.1 x4) (br (X6 (lgt .str y1.2.2.2.2.2.2.2.2.2.2.1 (Int.toNat x4))) (br (Qq y3 ([(a1.1,a2)]) 64) (kk (Qj .i64 x4 1) y1 y2 (y3++([(a1.1,a2)]))) none) none) none) (some (.exit 0,Qqj y1 y2 y3))
def QhA (x4:Int)(y1:Certificate)(y2:Qn)(y3:List Qn):OX:=some (.exit 0,Qqj (y1) (y2) (y3++((Q0 y1).drop x4.toNat).map Zu))
theorem QD1 (x4:Int)(y1:Certificate)(y2:Qn)(y3:List Qn):Qhz x4 y1 y2 y3=QbN Qhz x4 y1 y2 y3:=lnT (x:=QbN (fun x4 y1 y2 y3=>some (.normal,QD0 x4 y1 y2 y3)) x4 y1 y2 y3) (by simp only [QbN,nxA];rfl)
def QD2 (p0:Certificate):OV:=
 let a3:=((((p0).2).2).2)
 let a1:=((a3.2).2)
 let a2:=(WF (([]:List Qn)++((Q0 p0).drop (0:Int).toNat).map Zu))
 let a4:=((Ji (((((a1.2).2).2).2).1)).1,(((Ji (((((a1.2).2).2).2).1)).2).1,((((Ji (((((a1.2).2).2).2).1)).2).2).1,((List.map Val.of (List.map Val.un (((((Ji (((((a1.2).2).2).2).1)).2).2).2).1))),()))))
 let a5:=((Gk ((((a1.2).2).2).1)).1,(((Gk ((((a1.2).2).2).1)).2).1,((((Gk ((((a1.2).2).2).1)).2).2).1,((List.map Val.of (List.map Val.un (((((Gk ((((a1.2).2).2).1)).2).2).2).1))),()))))
 let a6:=((Zu ((((p0).2).2).1)).1,(((Zu ((((p0).2).2).1)).2).1,((((Zu ((((p0).2).2).1)).2).2).1,((List.map Val.of (List.map Val.un (((((Zu ((((p0).2).2).1)).2).2).2).1))),()))))
 let a7:=((Ji (((a1.2).2).1)).1,(((Ji (((a1.2).2).1)).2).1,((((Ji (((a1.2).2).1)).2).2).1,((List.map Val.of (List.map Val.un (((((Ji (((a1.2).2).1)).2).2).2).1))),()))))
 let a8:=((Zu (((p0).2).1)).1,(((Zu (((p0).2).1)).2).1,((((Zu (((p0).2).1)).2).2).1,((List.map Val.of (List.map Val.un (((((Zu (((p0).2).1)).2).2).2).1))),()))))
 let a9:=((Ji ((a3.2).1)).1,(((Ji ((a3.2).1)).2).1,((((Ji ((a3.2).1)).2).2).1,((List.map Val.of (List.map Val.un (((((Ji ((a3.2).1)).2).2).2).1))),()))))
 let a10:=((Ji ((a1.2).1)).1,(((Ji ((a1.2).1)).2).1,((((Ji ((a1.2).1)).2).2).1,((List.map Val.of (List.map Val.un (((((Ji ((a1.2).1)).2).2).2).1))),()))))
 let a11:=((Ji ((p0).1)).1,(((Ji ((p0).1)).2).1,((((Ji ((p0).1)).2).2).1,((List.map Val.of (List.map Val.un (((((Ji ((p0).1)).2).2).2).1))),()))))
 let a12:=((Xe (a3.1)).1,(((Xe (a3.1)).2).1,((((Xe (a3.1)).2).2).1,((List.map Val.of (List.map Val.un (((((Xe (a3.1)).2).2).2).1))),()))))
 let a13:=((Xe (a1.1)).1,(((Xe (a1.1)).2).1,((((Xe (a1.1)).2).2).1,((List.map Val.of (List.map Val.un (((((Xe (a1.1)).2).2).2).1))),()))))
 let a14:=((a2.2).1,(((a2.2).2).1,((List.map Val.of (List.map Val.un ((((a2.2).2).2).1))),())))
 br (decide (0<=(0:Int)/\(0:Int)<=(Q0 p0).length/\([]:List Qn).length<=(0:Int).toNat/\(Q0 p0).length<=8)&&(Q0 p0).all fun s=>decide (s.size<=32)) (br (Ym ((p0).1)) (br (X6 (((p0).2).1)) (br (X6 ((((p0).2).2).1)) (br (G4 (a3.1)) (br (Ym ((a3.2).1)) (br (G4 (a1.1)) (br (Ym ((a1.2).1)) (br (Ym (((a1.2).2).1)) (br (Ym (((((a1.2).2).2).2).1)) (br (Um (([]:List Qn)++((Q0 p0).drop (0:Int).toNat).map Zu)) (br (Um ([a11,a8,a6,a12,a9,a13,a10,a7,a5,a4,(a2.1,a14)])) (some (.t QJ (WF ([a11,a8,a6,a12,a9,a13,a10,a7,a5,a4,(a2.1,a14)])),[])) none) none) none) none) none) none) none) none) none) none) none) none
theorem QSC (x4:Int)(y1:Certificate)(y2:Qn)(y3:List Qn)(h:(decide (0<=x4/\x4<=(Q0 y1).length/\y3.length<=x4.toNat/\(Q0 y1).length<=8)&&(Q0 y1).all fun s=>decide (s.size<=32))=true):Qhz x4 y1 y2 y3=QhA x4 y1 y2 y3:=by
 simp only [Bc,Ba,Bi] at h
 obtain ⟨⟨h0,h1,h2,h3⟩,hn⟩:=h
 obtain ⟨k,rfl⟩:=Bl h0
 rw [Bb] at h2
 revert y3
 refine QQ (Q0 y1) (fun k=> ∀ y3:List Qn,y3.length<=k->Qhz (k:Int) y1 y2 y3=QhA (k:Int) y1 y2 y3) ?_ ?_ k (by omega)
 ·intro y3 _
  rw [QD1]
  simp only [QbN,QhA,show ilt ((Q0 y1).length:Int) (Qc (Q0 y1))=false from Bq (by simp only [Qc];omega),Qi,Bb,BS,List.map_nil,BL]
 ·intro k hk ih y3 hy
  rw [QD1]
  have hx:=hn (Q0 y1)[k] (Bw hk)
  simp only [QbN,show ilt (k:Int) (Qc (Q0 y1))=true from Be (by simp only [Qc];omega),QK,hk,Bo,Qf,Bb,QO (show k<4611686018427387904 by omega),QL (y:= .str) hk,Qqh hx,Qqc]
  rw [Q1 (by omega) (by simp only [Bh];omega),Qf,ih _ (by simp only [Bm,Bh];omega)]
  simp only [QhA,Bb,Bg hk,BP,BI,BH]
theorem QSD:LO Qqk Qqi QDZ 0:=QI (s:=Qhy) fun x y h _ q=>by simp only [QG,QH] at q;exact (QSC x.2.2.2.1 y.1 y.2.1 y.2.2.1 h).trans q
theorem s_f234 (c:Certificate)(h:OO c=true):QD2 c=some (.t QJ (U2 c),[]):=by
 simp only [OO,Bc] at h
 obtain ⟨_,hv⟩:=h
 obtain ⟨h1,h2,h3,h4,h5,h6,h7,h8,h9,h10,h11⟩:=Qhx hv
 have hc:=QSz hv
 have hp:=QSA hv
 have ha:((Q0 c).all fun s=>decide (s.size<=32))=true:=Bi.2 fun s hs=>Be (h11 s hs)
 have hl:(0:Int)<=0/\(0:Int)<=(Q0 c).length/\([]:List Qn).length<=0/\(Q0 c).length<=8:=⟨by omega,by omega,by simp,h10⟩
 simp only [U1] at hp
 simp only [QD2,ha,B6,h1,Qqh h2,Qqh h3,h4,h5,h6,h7,h8,h9,Qf,By,BG,BV,Qqc,hc,hp]
 rw [Be hl]
 rfl
def QD3:Ent:=Qo (.pr QP .nil) (fun x=>(OO x.1)) (fun x=>(.t QJ (U2 x.1)))
theorem QSE:EM 234 QD3:=mS (lk:=lkL (lkc QSD lkn)) Qqk QDY [((.c 2 true 4),some QJ)] false (gB (gD Qug (gD QIU (gD QzF (gD QSu (gD QIW gN)))))) fun m=>Qs m fun x hok=>kT (s_f234 x.1 hok)
end
end Go.Proofs.YthlcobdnemhcdaaGreat.K
noncomputable section
namespace Go.Proofs.YthlcobdnemhcdaaGreat.K
open Go.RowKit
noncomputable section
def YF (c:Certificate):List Int×Int:=bif QV c then GK (U2 c) else ([],9)
theorem QHM {c:Certificate}(h:QV c=true):YF c=(ZN (U2 c),0):=by
 have:=Qqg h
 rw [YF,h,B8,GK,if_neg (by omega)]
theorem QHN (c:Certificate):(YF c).1.length<=1000:=by
 cases h:QV c with
 |true=>
  rw [QHM h]
  exact Qqg h
 |false=>
  rw [YF,h]
  simp
def QHO:TC:=aF Tryz.f193 []
def g_f193:G:=gG 12 [(166,QzD),(192,Qc8),(234,QD3)] (fun _ _=>none)
def QjB (p0:Certificate):OV:=br (JS p0) (br (ine (Wv p0) 0) (some (.tu [(.t (.sl (.int .u8)) ([]:List Int)),(.t tI 9)],[])) (br (OO p0) (br (GJ (U2 p0)) (some (.tu [(.t (.sl (.int .u8)) ((GK (U2 p0)).1)),(.t tI ((GK (U2 p0)).2))],[])) none) none)) none
theorem s_f193 (c:Certificate)(h:JS c=true):QjB c=some (.tu [.t (.sl (.int .u8)) (YF c).1,.t tI (YF c).2],[]):=by
 unfold YF
 cases hv:QV c with
 |true=>simp only [QjB,h,hv,Vv,enc_ok hv,show OO c=true from by rw [OO,h,hv];rfl,BF,Qf,Qi,B8]
 |false=>simp only [QjB,h,hv,Vv,DB,Qf,BW]
def QsB:Ent:=Qo (.pr QP .nil) (fun x=>(JS x.1)) (fun x=>(.tu [(.t (.sl (.int .u8)) ((YF x.1).1)),(.t tI ((YF x.1).2))]))
theorem QHP:EM 193 QsB:=mS g_f193 QHO [((.t 2),some (.sl (.int .u8))),((.t 3),some tI)] false (gB (gD QNM (gD Qkl (gD QSE gN)))) fun m=>Qs m fun x hok=>kT (s_f193 x.1 hok)
def YG (s x:Int):Int:=QeH .u32 (OE .u32 s (icv .u32 x)) 16777619
def W8 (b:List Int):Int:=icv .i64 (b.foldl YG 2166136261)
def Vd (b:List Int):Bool:=decide (b.length<=100000)
abbrev QjC:Sh:=⟨[(3,.ty (.int .u32)),(6,.ty (.sl (.int .u8))),(7,.ty tI),(8,.ty tI)],[]⟩
abbrev QjD:Sh:=⟨[(3,.ty (.int .u32))],[]⟩
def QHQ:Fg:=QjC.f
def QHR:TC:=(.sq (.reg [(oP 9 (.bin false .lss (.t 8) (.t 7)))]) (.sq (.cd (.t 9) .sk (.fg QjD.f (.ex 0))) (.sq (.bk 1 (.sq (.reg [(oP 10 (.ix 1 (.t 6) (.t 8))),(oL 11 10),(oV 5 11)]) (.reg [(oV 12 3),(oV 13 5),(oP 14 (.cv .u32 (.t 13))),(oP 15 (.bin false .xor (.t 12) (.t 14))),(oP 16 (.bin false .mul (.t 15) (.c (.v (.int .u32 16777619))))),(oV 3 16)]))) (.reg [(oP 17 (.bin false .add (.t 8) (cI 1))),(oV 8 17)]))))
def QsC (x3:Int)(x6:List Int)(x7 x8:Int):VS:=QjC.st (x3,x6,x7,x8,()) ()
def E9 (x3:Int):VS:=QjD.st (x3,()) ()
def QHS:VS->Option (Bool×List (Bool×Exit×VS)):=mkL QjC (fun x y=>(QD x.2.1 x.2.2.1 x.2.2.2.1)) (fun x y=>[(true,.exit 0,E9 ((x.2.1.drop x.2.2.2.1.toNat).foldl YG x.1))])
def g_f276:G:=gG 20 [] (Ls [QHS])
def QcE (x3:Int)(x6:List Int)(x7 x8:Int):OX:=Qx (QA g_f276 QHQ QHR) (QsC x3 x6 x7 x8)
def Ve (kk:Int->List Int->Int->Int->OX)(x3:Int)(x6:List Int)(x7 x8:Int):OX:=br (ilt x8 x7) (br (cIx x6 x8) (kk (QeH .u32 (OE .u32 x3 (icv .u32 (lgt (.int .u8) x6 (Int.toNat x8)))) 16777619) x6 x7 (Qj .i64 x8 1)) none) (some (.exit 0,E9 x3))
def QcF (x3:Int)(x6:List Int)(x7 x8:Int):OX:=some (.exit 0,E9 ((x6.drop x8.toNat).foldl YG x3))
theorem QsD (x3:Int)(x6:List Int)(x7 x8:Int):QcE x3 x6 x7 x8=Ve QcE x3 x6 x7 x8:=lnT (x:=Ve (fun x3 x6 x7 x8=>some (.normal,QsC x3 x6 x7 x8)) x3 x6 x7 x8) (by simp only [Ve,nxA];rfl)
theorem l_f276_0 (x3:Int)(x6:List Int)(x7 x8:Int)(h:(QD x6 x7 x8)=true):QcE x3 x6 x7 x8=QcF x3 x6 x7 x8:=by
 obtain ⟨rfl,h3,k,rfl,hk⟩:=JG h
 clear h
 revert x3
 refine QQ x6 (fun k=> ∀ x3:Int,QcE x3 x6 (x6.length:Int) (k:Int)=QcF x3 x6 (x6.length:Int) (k:Int)) ?_ ?_ k hk
 ·intro x3
  rw [QsD]
  simp only [Ve,QcF,Qy,BN,BM,Qi,Bb,BS,List.foldl_nil]
 ·intro k hk ih x3
  rw [QsD]
  simp only [Ve,Qy,QK,hk,Bo,Qf,Bb,QO (show k<4611686018427387904 by omega),QL (y:= .int .u8) hk,ih]
  simp only [QcF,Bb,Bg hk,Dp,YG]
abbrev QcG:Sh:=⟨[(0,.ty (.sl (.int .u8))),(3,.ty (.int .u32)),(4,.ty tI)],[]⟩
def QjE:Fg:=QcG.f
def QsE:TC:=aF Tryz.f118 [(58,pL 0 QjE),(931,.fg QjD.f)]
def QsF:TC:=lb 0 QsE
def QsG (x0:List Int)(x3 x4:Int):VS:=QcG.st (x0,x3,x4,()) ()
def QHT:VS->Option (Bool×List (Bool×Exit×VS)):=mkL QcG (fun x y=>(Gd x.1 x.2.2.1)) (fun x y=>[(true,.exit 0,E9 ((x.1.drop x.2.2.1.toNat).foldl YG x.2.1))])
def QjF:G:=gG 21 [] (Ls [QHT])
def QcH (x0:List Int)(x3 x4:Int):OX:=Qx (QA QjF QjE QsF) (QsG x0 x3 x4)
def Vf (kk:List Int->Int->Int->OX)(x0:List Int)(x3 x4:Int):OX:=br (ilt x4 (Qc x0)) (br (cIx x0 x4) (kk x0 (QeH .u32 (OE .u32 x3 (icv .u32 (lgt (.int .u8) x0 (Int.toNat x4)))) 16777619) (Qj .i64 x4 1)) none) (some (.exit 0,E9 x3))
def QcI (x0:List Int)(x3 x4:Int):OX:=some (.exit 0,E9 ((x0.drop x4.toNat).foldl YG x3))
theorem QsH (x0:List Int)(x3 x4:Int):QcH x0 x3 x4=Vf QcH x0 x3 x4:=lnT (x:=Vf (fun x0 x3 x4=>some (.normal,QsG x0 x3 x4)) x0 x3 x4) (by simp only [Vf,nxA];rfl)
def QsI (p0:List Int):OV:=br (Gd p0 (0:Int)) (some (.t tI (icv .i64 ((p0.drop (0:Int).toNat).foldl YG (2166136261:Int))),[])) none
theorem QHU (x0:List Int)(x3 x4:Int)(h:(Gd x0 x4)=true):QcH x0 x3 x4=QcI x0 x3 x4:=by
 simp only [Gd,Ba] at h
 obtain ⟨h0,h1,h2⟩:=h
 obtain ⟨k,rfl⟩:=Bl h0
 revert x3
 refine QQ x0 (fun k=> ∀ x3:Int,QcH x0 x3 (k:Int)=QcI x0 x3 (k:Int)) ?_ ?_ k (by omega)
 ·intro x3
  rw [QsH]
  simp only [Vf,QcI,show ilt (x0.length:Int) (Qc x0)=false from Bq (by simp only [Qc];omega),Qi,Bb,BS,List.foldl_nil]
 ·intro k hk ih x3
  rw [QsH]
  simp only [Vf,show ilt (k:Int) (Qc x0)=true from Be (by simp only [Qc];omega),QK,hk,Bo,Qf,Bb,QO (show k<4611686018427387904 by omega),QL (y:= .int .u8) hk,ih]
  simp only [QcI,Bb,Bg hk,Dp,YG]
theorem QHV:LO QjF QjE QsF 0:=QI (s:=QcG) fun x y h _ q=>by simp only [QG,QH] at q;exact (QHU x.1 x.2.1 x.2.2.1 h).trans q
theorem s_f118 (b:List Int)(h:Vd b=true):QsI b=some (.t tI (W8 b),[]):=by
 simp only [Vd,Ba] at h
 simp only [QsI,show Gd b 0=true from Be (by omega),Qf,By,BG]
 rfl
def QsJ:Ent:=Qo (.pr (.sl (.int .u8)) .nil) (fun x=>(Vd x.1)) (fun x=>(.t tI (W8 x.1)))
theorem QHW:EM 118 QsJ:=mS (lk:=lkL (lkc QHV lkn)) QjF QsE [((.t 2),some tI)] false (gB gN) fun m=>Qs m fun x hok=>kT (s_f118 x.1 hok)
theorem lenB_C (c:Certificate):Vd (YF c).1=true:=Be (by have:=QHN c;omega)
def QHX (c:Certificate)(k:Int):Bool:=ieq (YF c).2 0&&(ieq (UD c).1 k&&ieq (UD c).2.1 (W8 (YF c).1))
def Gh (c:Certificate)(_k:Int):Bool:=JS c
def Yl (c:Certificate):Certificate:=c
def QHY:TC:=aF Tryz.f191 []
def g_f191:G:=⟨TYs,[3],9,EL [],keeps,(fun _ _=>none),IL [],RL []⟩
def QsK (p0:Certificate):OV:=br (Qq ([]:List ByteArray) p0.2.2.2.2.2.2.2.2.2.2.1 16) (some (.t QP (p0.1,(p0.2.1,(p0.2.2.1,((p0.2.2.2.1.1,(p0.2.2.2.1.2.1,())),(p0.2.2.2.2.1,((p0.2.2.2.2.2.1.1,(p0.2.2.2.2.2.1.2.1,())),(p0.2.2.2.2.2.2.1,(p0.2.2.2.2.2.2.2.1,(p0.2.2.2.2.2.2.2.2.1,(p0.2.2.2.2.2.2.2.2.2.1,((([]:List ByteArray)++p0.2.2.2.2.2.2.2.2.2.2.1),((p0.2.2.2.2.2.2.2.2.2.2.2.1.1,(p0.2.2.2.2.2.2.2.2.2.2.2.1.2.1,())),())))))))))))),[])) none
theorem QcJ {c:Certificate}(h:JS c=true):(Q0 c).length<=100000:=by
 simp only [JS,Y0,Bc,Ba] at h
 exact h.2.2.1
theorem s_f191 (c:Certificate)(h:JS c=true):QsK c=some (.t QP (Yl c),[]):=by
 have hn:c.2.2.2.2.2.2.2.2.2.2.1.length<=100000:=QcJ h
 simp only [QsK]
 rw [Q1 (by omega) (by simp only [Bv];omega),Qf]
 rfl
def QsL:Ent:=Qo (.pr QP .nil) (fun x=>(JS x.1)) (fun x=>(.t QP (Yl x.1)))
theorem QHZ:EM 191 QsL:=mS g_f191 QHY [((.c 2 true 15),some QP)] false (Jp _ (fun p hp=>by cases hp)) fun m=>Qs m fun x hok=>kT (s_f191 x.1 hok)
def Vg (c:Certificate)(s:Keep):Certificate:=(c.1,(c.2.1,(c.2.2.1,(c.2.2.2.1,(c.2.2.2.2.1,(c.2.2.2.2.2.1,(c.2.2.2.2.2.2.1,(c.2.2.2.2.2.2.2.1,(c.2.2.2.2.2.2.2.2.1,(c.2.2.2.2.2.2.2.2.2.1,(c.2.2.2.2.2.2.2.2.2.2.1,(s,()))))))))))))
def Fc (c:Certificate):Certificate:=Vg c (0,(0,()))
def Vh (c:Certificate)(k:Int):Bool:= !QV (Fc c)||(ilt k 0||igt k 2147483648)
abbrev Vi:Certificate:=Ty.zero QP
def YZ (c:Certificate)(k:Int):Certificate×Int:=bif Vh c k then (Vi,9) else (Vg c (k,(W8 (YF (Fc c)).1,())),0)
def QH0:TC:=aF Tryz.f139 []
def g_f139:G:=gG 35 [(118,QsJ),(191,QsL),(192,Qc8),(193,QsB)] (fun _ _=>none)
def QsM (p0:Certificate)(p1:Int):OV:=
 let a4:=((Yl p0).2)
 let a1:=((((a4.2).2).2).2)
 let a5:=(((a1.2).2).2)
 let a2:=((YF ((Yl p0).1,(a4.1,((a4.2).1,(((a4.2).2).1,((((a4.2).2).2).1,(a1.1,((a1.2).1,(((a1.2).2).1,(a5.1,((a5.2).1,(((a5.2).2).1,((0,(0,())),(((a5.2).2).2).2))))))))))))).1)
 let a3:=(JS ((Yl p0).1,(a4.1,((a4.2).1,(((a4.2).2).1,((((a4.2).2).2).1,(a1.1,((a1.2).1,(((a1.2).2).1,(a5.1,((a5.2).1,(((a5.2).2).1,((0,(0,())),(((a5.2).2).2).2)))))))))))))
 let a6:=ByteArray.mk #[]
 br (JS p0) (br a3 (br (ine (Wv ((Yl p0).1,(a4.1,((a4.2).1,(((a4.2).2).1,((((a4.2).2).2).1,(a1.1,((a1.2).1,(((a1.2).2).1,(a5.1,((a5.2).1,(((a5.2).2).1,((0,(0,())),(((a5.2).2).2).2))))))))))))) 0) (some (.tu [(.t QP (0,(a6,(a6,((0,(0,())),(0,((0,(0,())),(0,(0,(false,(0,(([]:List ByteArray),((0,(0,())),()))))))))))))),(.t tI 9)],[])) (br (ilt p1 0) (some (.tu [(.t QP (0,(a6,(a6,((0,(0,())),(0,((0,(0,())),(0,(0,(false,(0,(([]:List ByteArray),((0,(0,())),()))))))))))))),(.t tI 9)],[])) (br (igt p1 2147483648) (some (.tu [(.t QP (0,(a6,(a6,((0,(0,())),(0,((0,(0,())),(0,(0,(false,(0,(([]:List ByteArray),((0,(0,())),()))))))))))))),(.t tI 9)],[])) (br a3 (br (Vd a2) (some (.tu [(.t QP ((Yl p0).1,(a4.1,((a4.2).1,(((a4.2).2).1,((((a4.2).2).2).1,(a1.1,((a1.2).1,(((a1.2).2).1,(a5.1,((a5.2).1,(((a5.2).2).1,((p1,((W8 a2),())),(((a5.2).2).2).2))))))))))))),(.t tI 0)],[])) none) none)))) none) none
theorem s_f139 (c:Certificate)(k:Int)(h:Gh c k=true):QsM c k=some (.tu [.t QP (YZ c k).1,.t tI (YZ c k).2],[]):=by
 have h:JS c=true:=h
 have hu:JS (Fc c)=true:=h
 have e:((Yl c).1,((Yl c).2.1,((Yl c).2.2.1,((Yl c).2.2.2.1,((Yl c).2.2.2.2.1,((Yl c).2.2.2.2.2.1,((Yl c).2.2.2.2.2.2.1,((Yl c).2.2.2.2.2.2.2.1,((Yl c).2.2.2.2.2.2.2.2.1,((Yl c).2.2.2.2.2.2.2.2.2.1,((Yl c).2.2.2.2.2.2.2.2.2.2.1,((0,(0,())),()))))))))))))=Fc c:=rfl
 simp only [QsM,h,e,hu,Vv,lenB_C,Qf]
 unfold YZ Vh
 cases QV (Fc c) with
 |false=>rfl
 |true=>
  rw [BF,Qi,Dh]
  cases ilt k 0 with
  |true=>rfl
  |false=>
   rw [Qi,Dh]
   cases igt k 2147483648<;>rfl
def QjG:Ent:=Qo (.pr QP (.pr tI .nil)) (fun x=>(Gh x.1 x.2.1)) (fun x=>(.tu [(.t QP ((YZ x.1 x.2.1).1)),(.t tI ((YZ x.1 x.2.1).2))]))
theorem QsN:EM 139 QjG:=mS g_f139 QH0 [((.c 4 true 15),some QP),((.t 5),some tI)] false (gB (gD QHW (gD QHZ (gD Qkl (gD QHP gN))))) fun m=>Qs m fun x hok=>kT (s_f139 x.1 x.2.1 hok)
def JJ (l:List Certificate):Bool:=decide (l.length<=100000)&&l.all JS
def F8 (key:Keep)(id:Int)(l:List Certificate):Bool:=ieq (Qc l) 0||(((l.getD 0 Vi).2.2.2.1==key)&&ieq (l.getD 0 Vi).2.2.2.2.1 id)
def Xm (key:Keep)(id:Int)(l:List Certificate):Bool:=Jf key&&(!ine (Yx key.1) 2&&(Js id&&(!igt (Qc l) 8&&(l.all QV&&F8 key id l))))
def Fd (_key:Keep)(_id:Int)(l:List Certificate):Bool:=JJ l
theorem QsO (key:Keep)(id:Int)(l:List Certificate):br (ieq (Qc l) 0) (some (V.t .bool true,([]:List VO))) (br (cIx l 0) (br ((lgt QP l 0).2.2.2.1==key) (br (cIx l 0) (some (V.t .bool (ieq (lgt QP l 0).2.2.2.2.1 id),[])) none) (some (V.t .bool false,[]))) none)=some (V.t .bool (F8 key id l),[]):=by
 unfold F8
 cases l with
 |nil=>rfl
 |cons c l=>
  have h1:ieq (Qc (c::l)) 0=false:=by
   simp only [ieq,Qc,Br,DU]
   omega
  have h2:cIx (c::l) 0=true:=by simp only [cIx,Br,Ba];omega
  rw [h1,Qi,h2,Qf,Dh,Qf]
  show br (c.2.2.2.1==key) _ _=some (V.t .bool ((c.2.2.2.1==key)&&ieq c.2.2.2.2.1 id),[])
  cases c.2.2.2.1==key<;>rfl
abbrev QcK:Sh:=⟨[(1,.ty tI),(2,.ty (.sl QP)),(3,.ptr 3 0),(28,.ty (.sl QP)),(29,.ty tI),(30,.ty tI)],[(3,.box Qk)]⟩
abbrev QjH:Sh:=⟨[(6,.ty .bool)],[]⟩
abbrev QjI:Sh:=⟨[(1,.ty tI),(2,.ty (.sl QP)),(3,.ptr 3 0)],[(3,.box Qk)]⟩
def QjJ:Fg:=QcK.f
def QsP:TC:=aF Tryz.f171 [(58,pL 0 QjJ),(933,.fg QjI.f),(29901,.fg QjH.f),(30,pD [(0,[]),(1,[]),(2,[]),(3,[]),(4,[]),(5,[]),(6,[]),(7,[]),(8,[3]),(9,[]),(10,[]),(11,[]),(12,[]),(13,[]),(14,[]),(15,[]),(16,[]),(17,[]),(18,[]),(19,[])] (.of [0,1,2,3,4,5,6,7,8,9,10,11,12,13,14,15,16,17,18,19]))]
def QsQ:TC:=lb 0 QsP
def QsR (x1:Int)(x2 x28:List Certificate)(x29 x30:Int)(y3:Keep):VS:=QcK.st (x1,x2,(),x28,x29,x30,()) (y3,())
def Ia (x6:Bool):VS:=QjH.st (x6,()) ()
def Ib (x1:Int)(x2:List Certificate)(y3:Keep):VS:=QjI.st (x1,x2,(),()) (y3,())
def QH1:VS->Option (Bool×List (Bool×Exit×VS)):=mkL QcK (fun x y=>(QD x.2.2.2.1 x.2.2.2.2.1 x.2.2.2.2.2.1&&JJ x.2.2.2.1)) (fun x y=>[((!(x.2.2.2.1.drop x.2.2.2.2.2.1.toNat).all QV),.ret,Ia (false)),(true,.exit 0,Ib (x.1) (x.2.1) (y.1))])
def QjK:G:=gG 57 [(92,FA),(175,QcZ),(218,Qdq),(219,Qt0)] (Ls [QH1])
def QcL (x1:Int)(x2 x28:List Certificate)(x29 x30:Int)(y3:Keep):OX:=Qx (QA QjK QjJ QsQ) (QsR x1 x2 x28 x29 x30 y3)
def Vj (kk:Int->List Certificate->List Certificate->Int->Int->Keep->OX)(x1:Int)(x2 x28:List Certificate)(x29 x30:Int)(y3:Keep):OX:=
 let a1:=lgt QP x28 (Int.toNat x30)
 br (ilt x30 x29) (br (cIx x28 x30) (br (JS a1) (br (ine (Wv a1) 0) (some (.ret,Ia false)) (kk x1 x2 x28 x29 (Qj .i64 x30 1) y3)) none) none) (some (.exit 0,Ib x1 x2 y3))
def QcM (x1:Int)(x2 x28:List Certificate)(x29 x30:Int)(y3:Keep):OX:=br (!(x28.drop x30.toNat).all QV) (some (.ret,Ia (false)))<|some (.exit 0,Ib (x1) (x2) (y3))
theorem QsS (x1:Int)(x2 x28:List Certificate)(x29 x30:Int)(y3:Keep):QcL x1 x2 x28 x29 x30 y3=Vj QcL x1 x2 x28 x29 x30 y3:=lnT (x:=Vj (fun x1 x2 x28 x29 x30 y3=>some (.normal,QsR x1 x2 x28 x29 x30 y3)) x1 x2 x28 x29 x30 y3) (by simp only [Vj,nxA];rfl)
def QsT (p0:Keep)(p1:Int)(p2:List Certificate):OV:=
 let a1:=((((lgt QP (p2) (Int.toNat 0)).2).2).2)
 br (!(Jf p0)) (some (.t .bool false,[])) (br (ine (Yx p0.1) 2) (some (.t .bool false,[])) (br (!(Js p1)) (some (.t .bool false,[])) (br (igt (Qc p2) 8) (some (.t .bool false,[])) (br (QD p2 (Qc p2) (0:Int)&&JJ p2) (br (!(p2.drop (0:Int).toNat).all QV) (some (.t .bool (false),[])) (br (ieq (Qc (p2)) 0) (some (.t .bool true,[])) (br (cIx (p2) 0) (br (and (ieq ((a1.1).1) ((p0).1)) (and (ieq (((a1.1).2).1) (((p0).2).1)) true)) (br (cIx (p2) 0) (some (.t .bool (ieq ((a1.2).1) (p1)),[])) none) (some (.t .bool false,[]))) none))) none))))
theorem QH2 (x1:Int)(x2 x28:List Certificate)(x29 x30:Int)(y3:Keep)(h:(QD x28 x29 x30&&JJ x28)=true):QcL x1 x2 x28 x29 x30 y3=QcM x1 x2 x28 x29 x30 y3:=by
 simp only [Bc] at h
 obtain ⟨h0,hc⟩:=h
 obtain ⟨rfl,h3,k,rfl,hk⟩:=JG h0
 clear h0
 simp only [JJ,Bc,Bi] at hc
 refine QQ x28 (fun k=>QcL x1 x2 x28 (x28.length:Int) (k:Int) y3=QcM x1 x2 x28 (x28.length:Int) (k:Int) y3) ?_ ?_ k hk
 ·rw [QsS]
  simp only [Vj,QcM,Qy,BN,BM,Qi,Bb,BS,DH,BF]
 ·intro k hk ih
  rw [QsS]
  have hx:=hc.2 x28[k] (Bw hk)
  simp only [Vj,Qy,QK,hk,Bo,Qf,Bb,QO (show k<4611686018427387904 by omega),QL (y:=QP) hk,hx,Vv,ih]
  simp only [QcM,Bb,Bg hk,B0]
  cases QV x28[k]<;>rfl
theorem QH3:LO QjK QjJ QsQ 0:=QI (s:=QcK) fun x y h _ q=>by simp only [QG,QH] at q;exact (QH2 x.1 x.2.1 x.2.2.2.1 x.2.2.2.2.1 x.2.2.2.2.2.1 y.1 h).trans q
theorem s_f171 (key:Keep)(id:Int)(l:List Certificate)(h:Fd key id l=true):QsT key id l=some (.t .bool (Xm key id l),[]):=by
 have h:JJ l=true:=h
 have hl:l.length<=100000:=by simp only [JJ,Bc,Ba] at h;exact h.1
 simp only [QsT,JH hl,h,B6,Qf,By,BG,Qvl]
 unfold Xm
 refine (brB<|brB<|brB<|brB<|brB (QsO key id l)).trans ?_
 simp only [Bool.not_not]
def QsU:Ent:=Qo (.pr Qk (.pr tI (.pr (.sl QP) .nil))) (fun x=>(Fd x.1 x.2.1 x.2.2.1)) (fun x=>(.t .bool (Xm x.1 x.2.1 x.2.2.1)))
theorem QH4:EM 171 QsU:=mS (lk:=lkL (lkc QH3 lkn)) QjK QsP [((.t 6),some .bool)] false (gB (gD Eu (gD Qkc (gD QkN (gD QIK gN))))) fun m=>Qs m fun x hok=>kT (s_f171 x.1 x.2.1 x.2.2.1 hok)
abbrev QcN:Sh:=⟨[(1,.ty tI),(2,.ty (.sl QP)),(3,.ptr 3 0),(7,.ty tI)],[(3,.box Qk)]⟩
def QjL:Fg:=QcN.f
def QsV:TC:=aF Tryz.f185 [(58,pL 0 QjL),(931,.fg QjI.f),(7461,.fg QjH.f),(30,pD [(0,[]),(1,[]),(2,[]),(3,[]),(4,[]),(5,[]),(6,[]),(7,[]),(8,[3]),(9,[]),(10,[]),(11,[]),(12,[]),(13,[]),(14,[]),(15,[]),(16,[]),(17,[]),(18,[]),(19,[])] (.of [0,1,2,3,4,5,6,7,8,9,10,11,12,13,14,15,16,17,18,19]))]
def QsW:TC:=lb 0 QsV
def QsX (x1:Int)(x2:List Certificate)(x7:Int)(y3:Keep):VS:=QcN.st (x1,x2,(),x7,()) (y3,())
def QH5:VS->Option (Bool×List (Bool×Exit×VS)):=mkL QcN (fun x y=>(decide (0<=x.2.2.2.1/\x.2.2.2.1<=x.2.1.length)&&JJ x.2.1)) (fun x y=>[((!(x.2.1.drop x.2.2.2.1.toNat).all QV),.ret,Ia (false)),(true,.exit 0,Ib (x.1) (x.2.1) (y.1))])
def QjM:G:=gG 55 [(192,Qc8),(229,Qkg)] (Ls [QH5])
def QcO (x1:Int)(x2:List Certificate)(x7:Int)(y3:Keep):OX:=Qx (QA QjM QjL QsW) (QsX x1 x2 x7 y3)
def Vk (kk:Int->List Certificate->Int->Keep->OX)(x1:Int)(x2:List Certificate)(x7:Int)(y3:Keep):OX:=
 let a1:=lgt QP x2 (Int.toNat x7)
 br (ilt x7 (Qc x2)) (br (cIx x2 x7) (br (JS a1) (br (ine (Wv a1) 0) (some (.ret,Ia false)) (kk x1 x2 (Qj .i64 x7 1) y3)) none) none) (some (.exit 0,Ib x1 x2 y3))
def QcP (x1:Int)(x2:List Certificate)(x7:Int)(y3:Keep):OX:=br (!(x2.drop x7.toNat).all QV) (some (.ret,Ia (false)))<|some (.exit 0,Ib (x1) (x2) (y3))
theorem QsY (x1:Int)(x2:List Certificate)(x7:Int)(y3:Keep):QcO x1 x2 x7 y3=Vk QcO x1 x2 x7 y3:=lnT (x:=Vk (fun x1 x2 x7 y3=>some (.normal,QsX x1 x2 x7 y3)) x1 x2 x7 y3) (by simp only [Vk,nxA];rfl)
def QsZ (p0:Keep)(p1:Int)(p2:List Certificate):OV:=
 let a1:=((((lgt QP (p2) (Int.toNat 0)).2).2).2)
 br (!(Eb p0)) (some (.t .bool false,[])) (br (ilt p1 0) (some (.t .bool false,[])) (br (igt p1 2147483648) (some (.t .bool false,[])) (br (igt (Qc p2) 8) (some (.t .bool false,[])) (br (decide (0<=(0:Int)/\(0:Int)<=p2.length)&&JJ p2) (br (!(p2.drop (0:Int).toNat).all QV) (some (.t .bool (false),[])) (br (ieq (Qc (p2)) 0) (some (.t .bool true,[])) (br (cIx (p2) 0) (br (and (ieq ((a1.1).1) ((p0).1)) (and (ieq (((a1.1).2).1) (((p0).2).1)) true)) (br (cIx (p2) 0) (some (.t .bool (ieq ((a1.2).1) (p1)),[])) none) (some (.t .bool false,[]))) none))) none))))
theorem QH6 (x1:Int)(x2:List Certificate)(x7:Int)(y3:Keep)(h:(decide (0<=x7/\x7<=x2.length)&&JJ x2)=true):QcO x1 x2 x7 y3=QcP x1 x2 x7 y3:=by
 simp only [JJ,Bc,Ba,Bi] at h
 obtain ⟨⟨h0,h1⟩,h3,hc⟩:=h
 obtain ⟨k,rfl⟩:=Bl h0
 refine QQ x2 (fun k=>QcO x1 x2 (k:Int) y3=QcP x1 x2 (k:Int) y3) ?_ ?_ k (by omega)
 ·rw [QsY]
  simp only [Vk,QcP,show ilt (x2.length:Int) (Qc x2)=false from Bq (by simp only [Qc];omega),Qi,Bb,BS,DH,BF]
 ·intro k hk ih
  rw [QsY]
  have hx:=hc x2[k] (Bw hk)
  simp only [Vk,show ilt (k:Int) (Qc x2)=true from Be (by simp only [Qc];omega),QK,hk,Bo,Qf,Bb,QO (show k<4611686018427387904 by omega),QL (y:=QP) hk,hx,Vv,ih]
  simp only [QcP,Bb,Bg hk,B0]
  cases QV x2[k]<;>rfl
theorem QH7:LO QjM QjL QsW 0:=QI (s:=QcN) fun x y h _ q=>by simp only [QG,QH] at q;exact (QH6 x.1 x.2.1 x.2.2.2.1 y.1 h).trans q
theorem s_f185 (key:Keep)(id:Int)(l:List Certificate)(h:Fd key id l=true):QsZ key id l=some (.t .bool (Xm key id l),[]):=by
 have h:JJ l=true:=h
 have hl:l.length<=100000:=by simp only [JJ,Bc,Ba] at h;exact h.1
 have hd:(0:Int)<=0/\(0:Int)<=l.length:=⟨by omega,by omega⟩
 simp only [QsZ,h,Be hd,B6,Qf,By,BG,Qvl]
 unfold Xm Eb JY Js
 refine (brB<|brB<|brB<|brB<|brB (QsO key id l)).trans ?_
 simp only [Bool.not_not,Ea,Bool.and_assoc]
def Qs0:Ent:=Qo (.pr Qk (.pr tI (.pr (.sl QP) .nil))) (fun x=>(Fd x.1 x.2.1 x.2.2.1)) (fun x=>(.t .bool (Xm x.1 x.2.1 x.2.2.1)))
theorem QH8:EM 185 Qs0:=mS (lk:=lkL (lkc QH7 lkn)) QjM QsV [((.t 6),some .bool)] false (gB (gD Qkl (gD QtW gN))) fun m=>Qs m fun x hok=>kT (s_f185 x.1 x.2.1 x.2.2.1 hok)
end
end Go.Proofs.YthlcobdnemhcdaaGreat.K
noncomputable section
namespace Go.Proofs
open Go.Shelf
def Tryz.lays137_ren:Go.Shelf.Ren:=⟨fun|137=>248|217=>267|266=>278|n=>n,fun|9=>9|5=>5|3=>3|n=>n,fun|n=>n⟩
theorem Tryz.lays137:Go.Proofs.Lays.n137 Tryz.prog Tryz.lays137_ren:={
 mixed:=by kernel_rfl
 f137:=Tryz.func248.trans (congrArg some (by kernel_rfl))
 f217:=Tryz.func267.trans (congrArg some (by kernel_rfl))
 f266:=Tryz.func278.trans (congrArg some (by kernel_rfl))
 t3:=Tryz.underlying3
 a3:=Tryz.isAgg3
 z3:=Tryz.sizeOf3
 v3:=Tryz.zeroValue3
 t5:=Tryz.underlying5
 a5:=Tryz.isAgg5
 z5:=Tryz.sizeOf5
 v5:=Tryz.zeroValue5
 t9:=Tryz.underlying9
 a9:=Tryz.isAgg9
 z9:=Tryz.sizeOf9
 v9:=Tryz.zeroValue9}
end Go.Proofs
namespace Go.Proofs.YthlcobdnemhcdaaGreat.K
open Go.RowKit Go.Shelf
noncomputable section
def ixB (s:ByteArray)(c:Int):Int:=Lib.indexByte s.data.toList c.toNat.toUInt8
def QAk:Ent:=Qo (.pr .str (.pr (.int .u8) .nil)) (fun x=>true) (fun x=>(.t tI (ixB x.1 x.2.1)))
theorem QOE:Ja Tryz.prog 248:= .inr ⟨by decide,_,Tryz.func248,by kernel_rfl,by kernel_rfl⟩
theorem QOF:Qu Tryz.prog 248 (Qv QAk):=QeK fun x hok X w σ vs hfin hc=>by
 obtain ⟨s,c,u⟩:=x
 simp only [Ty.canon,V.ds,V.d,Ty.d,Cs,C] at hc
 obtain ⟨v1,r1,rfl,⟨rfl,_⟩,v2,r2,rfl,⟨rfl,_⟩,rfl⟩:=hc
 refine (Any.strings_IndexByte Tryz.lays137 s c w).mono ?_
 rintro e w' ⟨rfl,rfl⟩
 refine ⟨_,rfl, ?_,Below.refl _ _⟩
 simp only [V.d,Ty.d,C]
 exact ⟨rfl,rfl⟩
def Ol (c:Int)(o:ByteArray):Bool:=(ige c 97&&ile c 122)||((ige c 65&&ile c 90)||((ige c 48&&ile c 57)||ige (ixB o c) 0))
def QOG:TC:=aF Tryz.f216 []
def g_f216:G:=gG 33 [(248,QAk)] (fun _ _=>none)
def QoC (p0:Int)(p1:ByteArray):OV:=br (ige p0 48) (br (ile p0 57) (some (.t .bool true,[])) (some (.t .bool (ige (ixB p1 p0) 0),[]))) (some (.t .bool (ige (ixB p1 p0) 0),[]))
def QoD (p0:Int)(p1:ByteArray):OV:=br (ige p0 65) (br (ile p0 90) (some (.t .bool true,[])) (QoC p0 p1)) (QoC p0 p1)
def QAl (p0:Int)(p1:ByteArray):OV:=br (ige p0 97) (br (ile p0 122) (some (.t .bool true,[])) (QoD p0 p1)) (QoD p0 p1)
theorem brO {a b r:Bool}{X:OV}(h:X=some (.t .bool r,[])):br a (br b (some (.t .bool true,[])) X) X=some (.t .bool ((a&&b)||r),[]):=by
 subst h
 cases a<;>cases b<;>rfl
theorem s_f216 (c:Int)(o:ByteArray):QAl c o=some (.t .bool (Ol c o),[]):=by
 simp only [QAl,QoD,QoC]
 exact brO (brO (brO rfl))
def QAm:Ent:=Qo (.pr (.int .u8) (.pr .str .nil)) (fun x=>true) (fun x=>(.t .bool (Ol x.1 x.2.1)))
theorem QOH:EM 216 QAm:=mS g_f216 QOG [((.t 4),some .bool)] false (gB (gC QOE QOF gN)) fun m=>Qs m fun x _=>kT (s_f216 x.1 x.2.1)
def YL (c:Int):Bool:= !(ilt c 97||igt c 122)||(!(ilt c 65||igt c 90)||(!(ilt c 48||igt c 57)||(ieq c 45||(ieq c 95||ieq c 46))))
def Y9 (s:ByteArray):Bool:=(QZ s).all YL&&decide (1<=s.size/\s.size<=32)
set_option maxRecDepth 100000 in
theorem QOI:((List.range 256).all fun n=>Ol (n:Int) (ByteArray.mk #[45,95,46])==YL (n:Int))=true:=by kernel_rfl
theorem QOJ {s:ByteArray}{c:Int}(h:c∈QZ s):Ol c (ByteArray.mk #[45,95,46])=YL c:=by
 obtain ⟨b,_,rfl⟩:=Dj.1 h
 have:=Bi.1 QOI b.toNat (by rw [Dg];exact b.toNat_lt)
 exact eq_of_beq this
abbrev QfK:Sh:=⟨[(0,.ty .str),(6,.ty (.sl (.int .u8))),(7,.ty tI),(8,.ty tI)],[]⟩
abbrev Qa6:Sh:=⟨[(2,.ty .bool)],[]⟩
abbrev QAn:Sh:=⟨[(0,.ty .str)],[]⟩
def QoE:Fg:=QfK.f
def QAo:TC:=aF Tryz.f168 [(26,pL 0 QoE),(421,.fg QAn.f),(13517,.fg Qa6.f)]
def QAp:TC:=lb 0 QAo
def QAq (x0:ByteArray)(x6:List Int)(x7 x8:Int):VS:=QfK.st (x0,x6,x7,x8,()) ()
def Wh (x2:Bool):VS:=Qa6.st (x2,()) ()
def QoF (x0:ByteArray):VS:=QAn.st (x0,()) ()
def QOK:VS->Option (Bool×List (Bool×Exit×VS)):=mkL QfK (fun x y=>(U3 x.2.1 x.2.2.1 x.2.2.2.1&&XN x.2.1 (QZ x.1))) (fun x y=>[((!((x.2.1.drop x.2.2.2.1.toNat).all YL)),.ret,Wh (false)),(true,.exit 0,QoF (x.1))])
def QoG:G:=gG 24 [(216,QAm),(29000144,Qan)] (Ls [QOK])
def QfL (x0:ByteArray)(x6:List Int)(x7 x8:Int):OX:=Qx (QA QoG QoE QAp) (QAq x0 x6 x7 x8)
def Qa7 (kk:ByteArray->List Int->Int->Int->OX)(x0:ByteArray)(x6:List Int)(x7 x8:Int):OX:=br (ilt x8 x7) (br (cIx x6 x8) (br (!(Ol (lgt (.int .u8) x6 (Int.toNat x8)) (ByteArray.mk #[45,95,46]))) (some (.ret,Wh false)) (kk x0 x6 x7 (Qj .i64 x8 1))) none) (some (.exit 0,QoF x0))
def QfM (x0:ByteArray)(x6:List Int)(x7 x8:Int):OX:=br (!((x6.drop x8.toNat).all YL)) (some (.ret,Wh (false)))<|some (.exit 0,QoF (x0))
theorem QAr (x0:ByteArray)(x6:List Int)(x7 x8:Int):QfL x0 x6 x7 x8=Qa7 QfL x0 x6 x7 x8:=lnT (x:=Qa7 (fun x0 x6 x7 x8=>some (.normal,QAq x0 x6 x7 x8)) x0 x6 x7 x8) (by simp only [Qa7,nxA];rfl)
def QAs (p0:ByteArray):OV:=br (X6 p0) (br (U3 (QZ p0) (Qc (QZ p0)) (0:Int)&&XN (QZ p0) (QZ p0)) (br (!(((QZ p0).drop (0:Int).toNat).all YL)) (some (.t .bool (false),[])) (br (ige (Zg (p0)) 1) (some (.t .bool (ile (Zg (p0)) 32),[])) (some (.t .bool false,[])))) none) none
theorem QOL (x0:ByteArray)(x6:List Int)(x7 x8:Int)(h:(U3 x6 x7 x8&&XN x6 (QZ x0))=true):QfL x0 x6 x7 x8=QfM x0 x6 x7 x8:=by
 simp only [Bc] at h
 obtain ⟨h,hs⟩:=h
 have hs:=Qkb hs
 obtain ⟨rfl,h3,k,rfl,hk⟩:=QEi h
 clear h
 refine QQ x6 (fun k=>QfL x0 x6 (x6.length:Int) (k:Int)=QfM x0 x6 (x6.length:Int) (k:Int)) ?_ ?_ k hk
 ·rw [QAr]
  simp [Qa7,QfM,Qy,Qi]
 ·intro k hk ih
  rw [QAr]
  have hw:Ol x6[k] (ByteArray.mk #[45,95,46])=YL x6[k]:=QOJ (s:=x0) (by rw [←hs];exact Bw hk)
  simp only [Qa7,Qy,QK,hk,Bo,Qf,Bb,QhE (show k<9223372036854775807 by omega),QL (y:= .int .u8) hk,ih,hw]
  simp only [QfM,Bb,Bg hk,B0]
  cases YL x6[k]<;>rfl
theorem QOM:LO QoG QoE QAp 0:=QI (s:=QfK) fun x y h _ q=>by simp only [QG,QH] at q;exact (QOL x.1 x.2.1 x.2.2.1 x.2.2.2.1 h).trans q
theorem s_f168 (s:ByteArray)(h:Jn s=true):QAs s=some (.t .bool (Y9 s),[]):=by
 simp only [Jn,Ba] at h
 have hl:=EP s
 simp only [QAs,show X6 s=true from Be (by omega),QEj (show (QZ s).length<=9223372036854775807 by omega),Qka,B6,Qf,By,BG,Y9]
 cases (QZ s).all YL with
 |false=>rfl
 |true=>
  simp only [BF,Qi,Bu]
  refine QY (fun g=> ?_) (fun g=> ?_)
  ·simp only [ige,Zg,Ba] at g
   apply F4
   rw [DC]
   simp only [ile,Zg,Ba]
   omega
  ·simp only [ige,Zg,Bn] at g
   apply F4
   rw [eq_comm,Bn]
   omega
def QAt:Ent:=Qo (.pr .str .nil) (fun x=>(Jn x.1)) (fun x=>(.t .bool (Y9 x.1)))
theorem QON:EM 168 QAt:=mS (lk:=lkL (lkc QOM lkn)) QoG QAo [((.t 2),some .bool)] false (gB (gD QOH (gC Qew Qex gN))) fun m=>Qs m fun x hok=>kT (s_f168 x.1 hok)
abbrev QfN:Sh:=⟨[(0,.ty .str),(3,.ty tI)],[]⟩
abbrev Om:Sh:=⟨[],[]⟩
def QoH:Fg:=QfN.f
def QAu:TC:=aF Tryz.f183 [(58,pL 0 QoH),(931,.fg Om.f),(14925,.fg Qa6.f)]
def QAv:TC:=lb 0 QAu
def QAw (x0:ByteArray)(x3:Int):VS:=QfN.st (x0,x3,()) ()
def QoI  : VS:=Om.st () ()
def QOO:VS->Option (Bool×List (Bool×Exit×VS)):=mkL QfN (fun x y=>(Jn x.1&&decide (0<=x.2.1/\x.2.1<=x.1.size))) (fun x y=>[((!(((QZ x.1).drop x.2.1.toNat).all YL)),.ret,Wh (false)),(true,.exit 0,QoI)])
def QoJ:G:=gG 56 [] (Ls [QOO])
def QfO (x0:ByteArray)(x3:Int):OX:=Qx (QA QoJ QoH QAv) (QAw x0 x3)
def QfP (kk:ByteArray->Int->OX)(x0:ByteArray)(x3:Int):OX:=
 let a1:=Qj .i64 x3 1
 br (ine (sgt x0 x3) 45) (br (ine (sgt x0 x3) 95) (br (ine (sgt x0 x3) 46) (some (.ret,Wh false)) (kk x0 a1)) (kk x0 a1)) (kk x0 a1)
def QfQ (kk:ByteArray->Int->OX)(x0:ByteArray)(x3:Int):OX:=br (ilt (sgt x0 x3) 48) (QfP kk x0 x3) (br (igt (sgt x0 x3) 57) (QfP kk x0 x3) (kk x0 (Qj .i64 x3 1)))
def QfR (kk:ByteArray->Int->OX)(x0:ByteArray)(x3:Int):OX:=br (ilt (sgt x0 x3) 65) (QfQ kk x0 x3) (br (igt (sgt x0 x3) 90) (QfQ kk x0 x3) (kk x0 (Qj .i64 x3 1)))
def Qa8 (kk:ByteArray->Int->OX)(x0:ByteArray)(x3:Int):OX:=br (ilt x3 (Zg x0)) (br (cSx x0 x3) (br (ilt (sgt x0 x3) 97) (QfR kk x0 x3) (br (igt (sgt x0 x3) 122) (QfR kk x0 x3) (kk x0 (Qj .i64 x3 1)))) none) (some (.exit 0,QoI))
def QfS (x0:ByteArray)(x3:Int):OX:=br (!(((QZ x0).drop x3.toNat).all YL)) (some (.ret,Wh (false)))<|some (.exit 0,QoI)
theorem QAx (x0:ByteArray)(x3:Int):QfO x0 x3=Qa8 QfO x0 x3:=lnT (x:=Qa8 (fun x0 x3=>some (.normal,QAw x0 x3)) x0 x3) (by simp only [Qa8,QfR,QfQ,QfP,nxA];rfl)
def QAy (p0:ByteArray):OV:=br (ilt (Zg p0) 1) (some (.t .bool false,[])) (br (igt (Zg p0) 32) (some (.t .bool false,[])) (br (Jn p0&&decide (0<=(0:Int)/\(0:Int)<=p0.size)) (br (!(((QZ p0).drop (0:Int).toNat).all YL)) (some (.t .bool (false),[])) (some (.t .bool true,[]))) none))
theorem QOP {β:Type}(c:Int)(bad ok:Option β):(br (ilt c 97) (br (ilt c 65) (br (ilt c 48) (br (ine c 45) (br (ine c 95) (br (ine c 46) bad ok) ok) ok) (br (igt c 57) (br (ine c 45) (br (ine c 95) (br (ine c 46) bad ok) ok) ok) ok)) (br (igt c 90) (br (ilt c 48) (br (ine c 45) (br (ine c 95) (br (ine c 46) bad ok) ok) ok) (br (igt c 57) (br (ine c 45) (br (ine c 95) (br (ine c 46) bad ok) ok) ok) ok)) ok)) (br (igt c 122) (br (ilt c 65) (br (ilt c 48) (br (ine c 45) (br (ine c 95) (br (ine c 46) bad ok) ok) ok) (br (igt c 57) (br (ine c 45) (br (ine c 95) (br (ine c 46) bad ok) ok) ok) ok)) (br (igt c 90) (br (ilt c 48) (br (ine c 45) (br (ine c 95) (br (ine c 46) bad ok) ok) ok) (br (igt c 57) (br (ine c 45) (br (ine c 95) (br (ine c 46) bad ok) ok) ok) ok)) ok)) ok))=br (YL c) ok bad:=by
 simp only [YL,Ea]
 cases ilt c 97<;>cases igt c 122<;>cases ilt c 65<;>cases igt c 90<;>cases ilt c 48<;>cases igt c 57<;>cases ieq c 45<;>cases ieq c 95<;>cases ieq c 46<;>rfl
theorem QOQ (x0:ByteArray)(x3:Int)(h:(Jn x0&&decide (0<=x3/\x3<=x0.size))=true):QfO x0 x3=QfS x0 x3:=by
 simp only [Jn,Bc,Ba] at h
 obtain ⟨h0,h1,h2⟩:=h
 obtain ⟨k,rfl⟩:=Bl h1
 have hl:=EP x0
 refine QQ (QZ x0) (fun k=>QfO x0 (k:Int)=QfS x0 (k:Int)) ?_ ?_ k (by omega)
 ·rw [QAx]
  simp [Qa8,QfS,ilt,Zg,hl,Qi,Dn (show (QZ x0).length<=x0.size by omega)]
 ·intro k hk ih
  have hk2:k<x0.size:=by omega
  rw [QAx]
  simp only [Qa8,QfR,QfQ,QfP,show ilt (k:Int) (Zg x0)=true from by simp only [ilt,Zg,Ba];omega,show cSx x0 (k:Int)=true from by simp only [cSx,Ba];omega,Qf,QEr hk2,QhE (show k<9223372036854775807 by omega),ih,QOP]
  simp only [QfS,Bb,Bg hk,B0]
  cases YL (QZ x0)[k]<;>rfl
theorem QOR:LO QoJ QoH QAv 0:=QI (s:=QfN) fun x y h _ q=>by simp only [QG,QH] at q;exact (QOQ x.1 x.2.1 h).trans q
theorem s_f183 (s:ByteArray)(h:Jn s=true):QAy s=some (.t .bool (Y9 s),[]):=by
 simp only [QAy]
 unfold Y9
 refine QY (fun g=> ?_) (fun g=>QY (fun g2=> ?_) (fun g2=> ?_))
 ·simp only [ilt,Zg,Ba] at g
  rw [Bq (show ¬ (1<=s.size/\s.size<=32) by omega),Bool.and_false]
 ·simp only [igt,Zg,Ba] at g2
  rw [Bq (show ¬ (1<=s.size/\s.size<=32) by omega),Bool.and_false]
 ·simp only [ilt,igt,Zg,Bn] at g g2
  rw [h,Be (show (0:Int)<=0/\(0:Int)<=s.size by omega),Be (show 1<=s.size/\s.size<=32 by omega),B7,B7,Qf,By,BG]
  cases (QZ s).all YL<;>rfl
def QAz:Ent:=Qo (.pr .str .nil) (fun x=>(Jn x.1)) (fun x=>(.t .bool (Y9 x.1)))
theorem QOS:EM 183 QAz:=mS (lk:=lkL (lkc QOR lkn)) QoJ QAu [((.t 2),some .bool)] false (gB gN) fun m=>Qs m fun x hok=>kT (s_f183 x.1 hok)
def Zr {α:Type}(l:List α):Bool:=decide (l.length<=100000)
def YM (l:List Int)(k:Nat):Bool:=(List.range' k (l.length-k)).all fun j=>decide (j=0)||ilt (l.getD (j-1) 0) (l.getD j 0)
def Wi (l:List Int):Bool:=YM l 0
theorem QoK (l:List Int):YM l l.length=true:=by
 unfold YM
 rw [Nat.sub_self]
 rfl
theorem QoL {l:List Int}{k:Nat}(hk:k<l.length):YM l k=((decide (k=0)||ilt (l.getD (k-1) 0) l[k])&&YM l (k+1)):=by
 have:l.length-k=(l.length-(k+1))+1:=by omega
 unfold YM
 rw [this,List.range'_succ,B0]
 simp only [Bt,Bk hk,B3]
theorem QoM {β:Type}{l:List Int}{k:Nat}(hk:k<l.length)(hb:k<4611686018427387904)(bad ok:Option β):
  br (igt (k:Int) 0) (br (cIx l (Qw .i64 (k:Int) 1)) (br (ige (lgt tI l (Int.toNat (Qw .i64 (k:Int) 1))) l[k]) bad ok) none) ok=br (decide (k=0)||ilt (l.getD (k-1) 0) l[k]) ok bad:=by
 by_cases h0:k=0
 ·subst h0
  rw [show igt ((0:Nat):Int) 0=false from rfl,Qi,Be rfl,Bool.true_or,Qf]
 ·have e:Qw .i64 (k:Int) 1=((k-1:Nat):Int):=by rw [JO (by omega)];omega
  rw [show igt (k:Int) 0=true from Be (by omega),Qf,e,Bb,QK,Be (show k-1<l.length by omega),Qf,Bq h0,Dh,QcY]
  show br (!ilt (l.getD (k-1) 0) l[k]) bad ok=_
  cases ilt (l.getD (k-1) 0) l[k]<;>rfl
abbrev QfT:Sh:=⟨[(0,.ty (.sl tI)),(5,.ty tI),(6,.ty tI)],[]⟩
def QoN:Fg:=QfT.f
def QAA:TC:=aF Tryz.f170 [(26,pL 0 QoN),(421,.fg Om.f),(3378,pD [(0,[]),(1,[]),(2,[]),(3,[]),(4,[]),(5,[]),(6,[]),(7,[]),(8,[]),(9,[]),(10,[]),(11,[]),(12,[]),(13,[])] (.of [0,1,2,3,4,5,6,7,8,9,10,11,12,13])),(13517,.fg Qa6.f)]
def QAB:TC:=lb 0 QAA
def QAC (x0:List Int)(x5 x6:Int):VS:=QfT.st (x0,x5,x6,()) ()
def QoO  : VS:=Om.st () ()
def QOT:VS->Option (Bool×List (Bool×Exit×VS)):=mkL QfT (fun x y=>(QD x.1 x.2.1 x.2.2.1)) (fun x y=>[((!YM x.1 x.2.2.1.toNat),.ret,Wh (false)),(true,.exit 0,QoO)])
def QoP:G:=gG 24 [] (Ls [QOT])
def QfU (x0:List Int)(x5 x6:Int):OX:=Qx (QA QoP QoN QAB) (QAC x0 x5 x6)
def Qa9 (kk:List Int->Int->Int->OX)(x0:List Int)(x5 x6:Int):OX:=br (ilt x6 x5) (br (igt x6 0) (br (cIx x0 (Qw .i64 x6 1)) (br (cIx x0 x6) (br (ige (lgt tI x0 (Int.toNat (Qw .i64 x6 1))) (lgt tI x0 (Int.toNat x6))) (some (.ret,Wh false)) (kk x0 x5 (Qj .i64 x6 1))) none) none) (kk x0 x5 (Qj .i64 x6 1))) (some (.exit 0,QoO))
def QfV (x0:List Int)(x5 x6:Int):OX:=br (!YM x0 x6.toNat) (some (.ret,Wh (false)))<|some (.exit 0,QoO)
theorem QAD (x0:List Int)(x5 x6:Int):QfU x0 x5 x6=Qa9 QfU x0 x5 x6:=lnT (x:=Qa9 (fun x0 x5 x6=>some (.normal,QAC x0 x5 x6)) x0 x5 x6) (by simp only [Qa9,nxA];rfl)
def QAE (p0:List Int):OV:=br (QD p0 (Qc p0) (0:Int)) (br (!YM p0 (0:Int).toNat) (some (.t .bool (false),[])) (some (.t .bool true,[]))) none
theorem QOU (x0:List Int)(x5 x6:Int)(h:(QD x0 x5 x6)=true):QfU x0 x5 x6=QfV x0 x5 x6:=by
 obtain ⟨rfl,h3,k,rfl,hk⟩:=JG h
 clear h
 refine QQ x0 (fun k=>QfU x0 (x0.length:Int) (k:Int)=QfV x0 (x0.length:Int) (k:Int)) ?_ ?_ k hk
 ·rw [QAD]
  simp only [Qa9,QfV,Qy,BN,BM,Qi,Bb,QoK,BF]
 ·intro k hk ih
  rw [QAD]
  simp only [Qa9,Qy,QK,hk,Bo,Qf,Bb,QO (show k<4611686018427387904 by omega),QL (y:=tI) hk,ih,QoM hk (show k<4611686018427387904 by omega)]
  simp only [QfV,Bb,QoL hk]
  cases decide (k=0)||ilt (x0.getD (k-1) 0) x0[k]<;>rfl
theorem QOV:LO QoP QoN QAB 0:=QI (s:=QfT) fun x y h _ q=>by simp only [QG,QH] at q;exact (QOU x.1 x.2.1 x.2.2.1 h).trans q
theorem s_f170 (l:List Int)(h:Zr l=true):QAE l=some (.t .bool (Wi l),[]):=by
 simp only [Zr,Ba] at h
 simp only [QAE,JH h,Qf,By]
 unfold Wi
 cases YM l 0<;>rfl
def QAF:Ent:=Qo (.pr (.sl tI) .nil) (fun x=>(Zr x.1)) (fun x=>(.t .bool (Wi x.1)))
theorem QOW:EM 170 QAF:=mS (lk:=lkL (lkc QOV lkn)) QoP QAA [((.t 2),some .bool)] false (gB gN) fun m=>Qs m fun x hok=>kT (s_f170 x.1 hok)
def Un (a:Int):Bool:=ieq (Yx a) 1
def QOX:TC:=aF Tryz.f176 []
def g_f176:G:=gG 6 [(218,Qdq)] (fun _ _=>none)
def r_f176 (p0:Int):OV:=some (.t .bool (ieq (Yx p0) 1),[])
theorem s_f176 (a:Int):r_f176 a=some (.t .bool (Un a),[]):=rfl
def QAG:Ent:=Qo (.pr tI .nil) (fun x=>true) (fun x=>(.t .bool (Un x.1)))
theorem QOY:EM 176 QAG:=mS g_f176 QOX [((.t 2),some .bool)] false (gB (gD QkN gN)) fun m=>Qs m fun x _=>kT (s_f176 x.1)
def Xa (l:List Int)(k:Nat):Bool:=(List.range' k (l.length-k)).all fun j=>ieq (Zm (l.getD j 0)).2 0&& !J6 (l.take j) (l.getD j 0)
def Xb (l:List Int):Bool:=Xa l 0
theorem QAH (l:List Int):Xa l l.length=true:=by
 unfold Xa
 rw [Nat.sub_self]
 rfl
theorem QAI {l:List Int}{k:Nat}(hk:k<l.length):Xa l k=((ieq (Zm l[k]).2 0&& !J6 (l.take k) l[k])&&Xa l (k+1)):=by
 have:l.length-k=(l.length-(k+1))+1:=by omega
 unfold Xa
 rw [this,List.range'_succ,B0]
 simp only [Bt,Bk hk,B3]
theorem QAJ (l:List Int)(k:Nat):lsl l 0 (k:Int)=l.take k:=by
 simp [lsl]
theorem QAK {l:List Int}{k:Nat}(hk:k<=l.length):cSl l 0 (k:Int) ((List.length l:Nat):Int)=true:=by
 simp only [cSl,Ba]
 omega
abbrev QfW:Sh:=⟨[(0,.ty (.sl tI)),(7,.ty (.sl tI)),(8,.ty tI),(9,.ty tI)],[]⟩
def QoQ:Fg:=QfW.f
def QAL:TC:=aF Tryz.f169 [(26,pL 0 QoQ),(421,.fg Om.f),(27037,.fg Qa6.f)]
def QAM:TC:=lb 0 QAL
def QAN (x0 x7:List Int)(x8 x9:Int):VS:=QfW.st (x0,x7,x8,x9,()) ()
def QoR  : VS:=Om.st () ()
def QOZ:VS->Option (Bool×List (Bool×Exit×VS)):=mkL QfW (fun x y=>(QD x.2.1 x.2.2.1 x.2.2.2.1&&XN x.1 x.2.1)) (fun x y=>[((!Xa x.2.1 x.2.2.2.1.toNat),.ret,Wh (false)),(true,.exit 0,QoR)])
def QoS:G:=gG 29 [(201,Qmj),(217,Qvb)] (Ls [QOZ])
def QfX (x0 x7:List Int)(x8 x9:Int):OX:=Qx (QA QoS QoQ QAM) (QAN x0 x7 x8 x9)
def Qba (kk:List Int->List Int->Int->Int->OX)(x0 x7:List Int)(x8 x9:Int):OX:=
 let a1:=lgt tI x7 (Int.toNat x9)
 br (ilt x9 x8) (br (cIx x7 x9) (br (ine ((Zm a1).2) 0) (some (.ret,Wh false)) (br (cSl x0 0 x9 ((List.length x0:Nat):Int)) (br (Z2 (lsl x0 0 x9) a1) (br (J6 (lsl x0 0 x9) a1) (some (.ret,Wh false)) (kk x0 x7 x8 (Qj .i64 x9 1))) none) none)) none) (some (.exit 0,QoR))
def QfY (x0 x7:List Int)(x8 x9:Int):OX:=br (!Xa x7 x9.toNat) (some (.ret,Wh (false)))<|some (.exit 0,QoR)
theorem QAO (x0 x7:List Int)(x8 x9:Int):QfX x0 x7 x8 x9=Qba QfX x0 x7 x8 x9:=lnT (x:=Qba (fun x0 x7 x8 x9=>some (.normal,QAN x0 x7 x8 x9)) x0 x7 x8 x9) (by simp only [Qba,nxA];rfl)
def QAP (p0:List Int):OV:=br (QD p0 (Qc p0) (0:Int)&&XN p0 p0) (br (!Xa p0 (0:Int).toNat) (some (.t .bool (false),[])) (some (.t .bool true,[]))) none
theorem QO0 (x0 x7:List Int)(x8 x9:Int)(h:(QD x7 x8 x9&&XN x0 x7)=true):QfX x0 x7 x8 x9=QfY x0 x7 x8 x9:=by
 simp only [Bc] at h
 obtain ⟨h0,hs⟩:=h
 have hs:=Qkb hs
 subst hs
 obtain ⟨rfl,h3,k,rfl,hk⟩:=JG h0
 clear h0
 refine QQ x0 (fun k=>QfX x0 x0 (x0.length:Int) (k:Int)=QfY x0 x0 (x0.length:Int) (k:Int)) ?_ ?_ k hk
 ·rw [QAO]
  simp only [Qba,QfY,Qy,BN,BM,Qi,Bb,QAH,BF]
 ·intro k hk ih
  rw [QAO]
  have hi:Z2 (x0.take k) x0[k]=true:=Be (by rw [B4];omega)
  simp only [Qba,Qy,QK,hk,Bo,Qf,Bb,QO (show k<4611686018427387904 by omega),QL (y:=tI) hk,ih,QAJ,QAK (show k<=x0.length by omega),hi,Ea]
  simp only [QfY,Bb,QAI hk]
  cases ieq (Zm x0[k]).2 0<;>cases J6 (x0.take k) x0[k]<;>rfl
theorem QO1:LO QoS QoQ QAM 0:=QI (s:=QfW) fun x y h _ q=>by simp only [QG,QH] at q;exact (QO0 x.1 x.2.1 x.2.2.1 x.2.2.2.1 h).trans q
theorem s_f169 (l:List Int)(h:Zr l=true):QAP l=some (.t .bool (Xb l),[]):=by
 simp only [Zr,Ba] at h
 simp only [QAP,JH h,Qka,B6,Qf,By]
 unfold Xb
 cases Xa l 0<;>rfl
def QAQ:Ent:=Qo (.pr (.sl tI) .nil) (fun x=>(Zr x.1)) (fun x=>(.t .bool (Xb x.1)))
theorem QO2:EM 169 QAQ:=mS (lk:=lkL (lkc QO1 lkn)) QoS QAL [((.t 2),some .bool)] false (gB (gD QwN (gD QJE gN))) fun m=>Qs m fun x hok=>kT (s_f169 x.1 hok)
def Wj (n:Int):Bool:= !Js n
def QO3:TC:=aF Tryz.f173 []
def QO4:G:=gG 8 [(175,QcZ)] (fun _ _=>none)
def QAR (p0:Int):OV:=some (.t .bool (!(Js p0)),[.box (.c (.func (.func 175) #[] #[]))])
theorem QO5 (n:Int):QAR n=some (.t .bool (Wj n),[.box (.c (.func (.func 175) #[] #[]))]):=by
 simp only [QAR]
 rfl
def QAS:Ent:=GE [.ty tI,.ptr 50000 0] [.bc 175] (fun x y=>true) (fun x y=>(.t .bool (Wj x.1))) (fun x y=>[.box (.c (.func (.func 175) #[] #[]))])
theorem QO6:EM 173 QAS:=mS QO4 QO3 [((.t 3),some .bool)] false (gB (gD Qkc gN)) fun m=>Fy (X8 m fun x y _=>kT (QO5 x.1))
def On (l:List Int):Int:=match Jy Wj l with|some k=>(k:Int)|none=> -1
abbrev QfZ:Sh:=⟨[(0,.ty (.sl tI)),(1,.fn 173 [(50000,0)]),(7,.ty tI),(8,.ty tI)],[(50000,.bc 175)]⟩
abbrev QAT:Sh:=⟨[(4,.ty tI)],[(50000,.bc 175)]⟩
abbrev QAU:Sh:=⟨[],[(50000,.bc 175)]⟩
def QoT:Fg:=QfZ.f
def QAV:TC:=aF Tryz.f220 [(26,pL 0 QoT),(421,.fg QAU.f),(13517,.fg QAT.f)]
def QAW:TC:=lb 0 QAV
def QAX (x0:List Int)(x7 x8:Int):VS:=QfZ.st (x0,(),x7,x8,()) ((),())
def QoU (x4:Int):VS:=QAT.st (x4,()) ((),())
def QoV  : VS:=QAU.st () ((),())
def QO7:VS->Option (Bool×List (Bool×Exit×VS)):=mkL QfZ (fun x y=>(QD x.1 x.2.2.1 x.2.2.2.1)) (fun x y=>[(((Jy Wj (x.1.drop x.2.2.2.1.toNat)).isSome),.ret,QoU (x.2.2.2.1+((Jy Wj (x.1.drop x.2.2.2.1.toNat)).getD 0:Nat))),(true,.exit 0,QoV)])
def QoW:G:=gG 19 [(173,QAS)] (Ls [QO7])
def Qf0 (x0:List Int)(x7 x8:Int):OX:=Qx (QA QoW QoT QAW) (QAX x0 x7 x8)
def Qbb (kk:List Int->Int->Int->OX)(x0:List Int)(x7 x8:Int):OX:=br (ilt x8 x7) (br (cIx x0 x8) (br (Wj (lgt tI x0 (Int.toNat x8))) (some (.ret,QoU x8)) (kk x0 x7 (Qj .i64 x8 1))) none) (some (.exit 0,QoV))
def Qf1 (x0:List Int)(x7 x8:Int):OX:=
 let a1:=Jy Wj (x0.drop x8.toNat)
 br (a1.isSome) (some (.ret,QoU (x8+(a1.getD 0:Nat))))<|some (.exit 0,QoV)
theorem QAY (x0:List Int)(x7 x8:Int):Qf0 x0 x7 x8=Qbb Qf0 x0 x7 x8:=lnT (x:=Qbb (fun x0 x7 x8=>some (.normal,QAX x0 x7 x8)) x0 x7 x8) (by simp only [Qbb,nxA];rfl)
def QAZ (p0:List Int):OV:=
 let a1:=(Jy Wj (p0.drop (0:Int).toNat))
 br (QD p0 (Qc p0) (0:Int)) (br (a1.isSome) (some (.t tI ((0:Int)+(a1.getD 0:Nat)),[.box (.c (.func (.func 175) #[] #[]))])) (some (.t tI (-1),[.box (.c (.func (.func 175) #[] #[]))]))) none
theorem QO8 (x0:List Int)(x7 x8:Int)(h:(QD x0 x7 x8)=true):Qf0 x0 x7 x8=Qf1 x0 x7 x8:=by
 obtain ⟨rfl,h3,k,rfl,hk⟩:=JG h
 clear h
 refine QQ x0 (fun k=>Qf0 x0 (x0.length:Int) (k:Int)=Qf1 x0 (x0.length:Int) (k:Int)) ?_ ?_ k hk
 ·rw [QAY]
  simp [Qbb,Qf1,Qy,Qi,Jy]
 ·intro k hk ih
  rw [QAY]
  simp only [Qbb,Qy,QK,hk,Bo,Qf,Bb,QO (show k<4611686018427387904 by omega),ih,QL (y:=tI) hk]
  simp only [Qf1,Bb,Bg hk,Jy]
  cases h:Wj x0[k] with
  |true=>simp [Qf]
  |false=>
   simp only [Qi,BK,Dc]
   cases hq:Jy Wj (x0.drop (k+1)) with
   |none=>rfl
   |some j=>
    simp only [De,Dw,B3,Qf]
    congr 3
    omega
theorem QO9:LO QoW QoT QAW 0:=QI (s:=QfZ) fun x y h _ q=>by simp only [QG,QH] at q;exact (QO8 x.1 x.2.2.1 x.2.2.2.1 h).trans q
theorem QPa (l:List Int)(h:Zr l=true):QAZ l=some (.t tI (On l),[.box (.c (.func (.func 175) #[] #[]))]):=by
 simp only [Zr,Ba] at h
 simp only [QAZ,JH h,Qf,By,BG,On]
 cases Jy Wj l<;>simp [Qf,Qi]
def QA0:Ent:=GE [.ty (.sl tI),.fn 173 [(50000,0)]] [.bc 175] (fun x y=>(Zr x.1)) (fun x y=>(.t tI (On x.1))) (fun x y=>[.box (.c (.func (.func 175) #[] #[]))])
theorem QPb:EM 220 QA0:=mS (lk:=lkL (lkc QO9 lkn)) QoW QAV [((.t 4),some tI)] false (gB (gD QO6 gN)) fun m=>Fy (X8 m fun x y hok=>kT (QPa x.1 hok))
def ED (l:List Int):Bool:= !l.all Js
def QPc:TC:=aF Tryz.f174 []
def QPd:G:=gG 9 [(220,QA0)] (fun _ _=>none)
def QA1 (p0:List Int):OV:=br (Zr p0) (some (.t .bool (ige (On p0) 0),[.box (.c (.func (.func 175) #[] #[]))])) none
theorem QPe (l:List Int)(h:Zr l=true):QA1 l=some (.t .bool (ED l),[.box (.c (.func (.func 175) #[] #[]))]):=by
 simp only [QA1,h,Qf]
 have e:ige (On l) 0=ED l:=by
  have e2:ED l=l.any Wj:=by
   unfold ED
   rw [List.not_all_eq_any_not]
   rfl
  rw [e2]
  unfold On
  cases hq:Jy Wj l with
  |none=>rw [QbQ.1 hq];rfl
  |some k=>
   rw [←Qqr,hq]
   simp only [ige,Dw,Ba]
   omega
 rw [e]
def QA2:Ent:=GE [.ty (.sl tI),.fn 173 [(50000,0)]] [.bc 175] (fun x y=>(Zr x.1)) (fun x y=>(.t .bool (ED x.1))) (fun x y=>[.box (.c (.func (.func 175) #[] #[]))])
theorem QPf:EM 174 QA2:=mS QPd QPc [((.t 4),some .bool)] false (gB (gD QPb gN)) fun m=>Fy (X8 m fun x y hok=>kT (QPe x.1 hok))
def QA3:TC:=aF Tryz.f172 []
def QA4:List (RV×Option Ty):=[((.t 2),none)]
def QA5:G:=gG 4 [] (fun _ _=>none)
def QA6  : OV:=some (.fn 173 [(.ptr 50000 0)],[.box (.c (.func (.func 175) #[] #[]))])
theorem QPg  : QS QA5 QA3 QA4 true [.c (.func (.func 175) ⟨[]⟩ ⟨[]⟩)] []=QA6  :=by kernel_rfl
theorem QPh:QA6=some (.fn 173 [.ptr 50000 0],[.box (.c (.func (.func 175) #[] #[]))]):=rfl
def QA7:Ent:=GE [.cf 175] [] (fun x y=>true) (fun x y=>(.fn 173 [(.ptr 50000 0)])) (fun x y=>[.box (.c (.func (.func 175) #[] #[]))])
theorem QPi:EM 172 QA7:=mS QA5 QA3 QA4 true (gB gN) fun m=>Fy (X8 m fun x y _=>(QPg ).trans (QPh ))
def Wk (n:Int):Bool:= !Un n
def QPj:TC:=aF Tryz.f173 []
def QPk:G:=gG 8 [(176,QAG)] (fun _ _=>none)
def QA8 (p0:Int):OV:=some (.t .bool (!(Un p0)),[.box (.c (.func (.func 176) #[] #[]))])
theorem QPl (n:Int):QA8 n=some (.t .bool (Wk n),[.box (.c (.func (.func 176) #[] #[]))]):=by
 simp only [QA8]
 rfl
def QA9:Ent:=GE [.ty tI,.ptr 50000 0] [.bc 176] (fun x y=>true) (fun x y=>(.t .bool (Wk x.1))) (fun x y=>[.box (.c (.func (.func 176) #[] #[]))])
theorem QPm:EM 173 QA9:=mS QPk QPj [((.t 3),some .bool)] false (gB (gD QOY gN)) fun m=>Fy (X8 m fun x y _=>kT (QPl x.1))
def Oo (l:List Int):Int:=match Jy Wk l with|some k=>(k:Int)|none=> -1
abbrev Qf2:Sh:=⟨[(0,.ty (.sl tI)),(1,.fn 173 [(50000,0)]),(7,.ty tI),(8,.ty tI)],[(50000,.bc 176)]⟩
abbrev QBa:Sh:=⟨[(4,.ty tI)],[(50000,.bc 176)]⟩
abbrev QBb:Sh:=⟨[],[(50000,.bc 176)]⟩
def QoX:Fg:=Qf2.f
def QBc:TC:=aF Tryz.f220 [(26,pL 0 QoX),(421,.fg QBb.f),(13517,.fg QBa.f)]
def QBd:TC:=lb 0 QBc
def QBe (x0:List Int)(x7 x8:Int):VS:=Qf2.st (x0,(),x7,x8,()) ((),())
def QoY (x4:Int):VS:=QBa.st (x4,()) ((),())
def QoZ  : VS:=QBb.st () ((),())
def QPn:VS->Option (Bool×List (Bool×Exit×VS)):=mkL Qf2 (fun x y=>(QD x.1 x.2.2.1 x.2.2.2.1)) (fun x y=>[(((Jy Wk (x.1.drop x.2.2.2.1.toNat)).isSome),.ret,QoY (x.2.2.2.1+((Jy Wk (x.1.drop x.2.2.2.1.toNat)).getD 0:Nat))),(true,.exit 0,QoZ)])
def Qo0:G:=gG 19 [(173,QA9)] (Ls [QPn])
def Qf3 (x0:List Int)(x7 x8:Int):OX:=Qx (QA Qo0 QoX QBd) (QBe x0 x7 x8)
def Qbc (kk:List Int->Int->Int->OX)(x0:List Int)(x7 x8:Int):OX:=br (ilt x8 x7) (br (cIx x0 x8) (br (Wk (lgt tI x0 (Int.toNat x8))) (some (.ret,QoY x8)) (kk x0 x7 (Qj .i64 x8 1))) none) (some (.exit 0,QoZ))
def Qf4 (x0:List Int)(x7 x8:Int):OX:=
 let a1:=Jy Wk (x0.drop x8.toNat)
 br (a1.isSome) (some (.ret,QoY (x8+(a1.getD 0:Nat))))<|some (.exit 0,QoZ)
theorem QBf (x0:List Int)(x7 x8:Int):Qf3 x0 x7 x8=Qbc Qf3 x0 x7 x8:=lnT (x:=Qbc (fun x0 x7 x8=>some (.normal,QBe x0 x7 x8)) x0 x7 x8) (by simp only [Qbc,nxA];rfl)
def QBg (p0:List Int):OV:=
 let a1:=(Jy Wk (p0.drop (0:Int).toNat))
 br (QD p0 (Qc p0) (0:Int)) (br (a1.isSome) (some (.t tI ((0:Int)+(a1.getD 0:Nat)),[.box (.c (.func (.func 176) #[] #[]))])) (some (.t tI (-1),[.box (.c (.func (.func 176) #[] #[]))]))) none
theorem QPo (x0:List Int)(x7 x8:Int)(h:(QD x0 x7 x8)=true):Qf3 x0 x7 x8=Qf4 x0 x7 x8:=by
 obtain ⟨rfl,h3,k,rfl,hk⟩:=JG h
 clear h
 refine QQ x0 (fun k=>Qf3 x0 (x0.length:Int) (k:Int)=Qf4 x0 (x0.length:Int) (k:Int)) ?_ ?_ k hk
 ·rw [QBf]
  simp [Qbc,Qf4,Qy,Qi,Jy]
 ·intro k hk ih
  rw [QBf]
  simp only [Qbc,Qy,QK,hk,Bo,Qf,Bb,QO (show k<4611686018427387904 by omega),ih,QL (y:=tI) hk]
  simp only [Qf4,Bb,Bg hk,Jy]
  cases h:Wk x0[k] with
  |true=>simp [Qf]
  |false=>
   simp only [Qi,BK,Dc]
   cases hq:Jy Wk (x0.drop (k+1)) with
   |none=>rfl
   |some j=>
    simp only [De,Dw,B3,Qf]
    congr 3
    omega
theorem QPp:LO Qo0 QoX QBd 0:=QI (s:=Qf2) fun x y h _ q=>by simp only [QG,QH] at q;exact (QPo x.1 x.2.2.1 x.2.2.2.1 h).trans q
theorem QPq (l:List Int)(h:Zr l=true):QBg l=some (.t tI (Oo l),[.box (.c (.func (.func 176) #[] #[]))]):=by
 simp only [Zr,Ba] at h
 simp only [QBg,JH h,Qf,By,BG,Oo]
 cases Jy Wk l<;>simp [Qf,Qi]
def QBh:Ent:=GE [.ty (.sl tI),.fn 173 [(50000,0)]] [.bc 176] (fun x y=>(Zr x.1)) (fun x y=>(.t tI (Oo x.1))) (fun x y=>[.box (.c (.func (.func 176) #[] #[]))])
theorem QPr:EM 220 QBh:=mS (lk:=lkL (lkc QPp lkn)) Qo0 QBc [((.t 4),some tI)] false (gB (gD QPm gN)) fun m=>Fy (X8 m fun x y hok=>kT (QPq x.1 hok))
def EE (l:List Int):Bool:= !l.all Un
def QPs:TC:=aF Tryz.f174 []
def QPt:G:=gG 9 [(220,QBh)] (fun _ _=>none)
def QBi (p0:List Int):OV:=br (Zr p0) (some (.t .bool (ige (Oo p0) 0),[.box (.c (.func (.func 176) #[] #[]))])) none
theorem QPu (l:List Int)(h:Zr l=true):QBi l=some (.t .bool (EE l),[.box (.c (.func (.func 176) #[] #[]))]):=by
 simp only [QBi,h,Qf]
 have e:ige (Oo l) 0=EE l:=by
  have e2:EE l=l.any Wk:=by
   unfold EE
   rw [List.not_all_eq_any_not]
   rfl
  rw [e2]
  unfold Oo
  cases hq:Jy Wk l with
  |none=>rw [QbQ.1 hq];rfl
  |some k=>
   rw [←Qqr,hq]
   simp only [ige,Dw,Ba]
   omega
 rw [e]
def QBj:Ent:=GE [.ty (.sl tI),.fn 173 [(50000,0)]] [.bc 176] (fun x y=>(Zr x.1)) (fun x y=>(.t .bool (EE x.1))) (fun x y=>[.box (.c (.func (.func 176) #[] #[]))])
theorem QPv:EM 174 QBj:=mS QPt QPs [((.t 4),some .bool)] false (gB (gD QPr gN)) fun m=>Fy (X8 m fun x y hok=>kT (QPu x.1 hok))
def QBk:TC:=aF Tryz.f172 []
def QBl:List (RV×Option Ty):=[((.t 2),none)]
def QBm:G:=gG 4 [] (fun _ _=>none)
def QBn  : OV:=some (.fn 173 [(.ptr 50000 0)],[.box (.c (.func (.func 176) #[] #[]))])
theorem QPw  : QS QBm QBk QBl true [.c (.func (.func 176) ⟨[]⟩ ⟨[]⟩)] []=QBn  :=by kernel_rfl
theorem QPx:QBn=some (.fn 173 [.ptr 50000 0],[.box (.c (.func (.func 176) #[] #[]))]):=rfl
def QBo:Ent:=GE [.cf 176] [] (fun x y=>true) (fun x y=>(.fn 173 [(.ptr 50000 0)])) (fun x y=>[.box (.c (.func (.func 176) #[] #[]))])
theorem QPy:EM 172 QBo:=mS QBm QBk QBl true (gB gN) fun m=>Fy (X8 m fun x y _=>(QPw ).trans (QPx ))
end
end Go.Proofs.YthlcobdnemhcdaaGreat.K
