import Derived.Test.YtckcgijklnloiaaGreatQ4
import Derived.Test.YtckcgijklnloiaaGreatQ5
set_option linter.unusedSimpArgs false
set_option linter.unusedVariables false
namespace Go.Proofs.YtckcgijklnloiaaGreat.K
open Go.RowKit
noncomputable section
def kindF (a:Int):Int:=(ofF a).1.2.1
noncomputable def Qyg:TC:=(.sq (.reg (rT Tryz.f155 0)) (.sq (.reg (rT Tryz.f155 1)) (.sq (.reg (rT Tryz.f155 2)) .rt)))
def QIo:List (RV×Option Ty):=[((.t 2),some tI)]
def QCv:G:=⟨TYs,[],12,EL [(180,QyW)],keeps,(fun _ _=>none),IL [],RL []⟩
def QTU (p0:Int):Option (V×List VO):=some (.t tI ((((ofF p0).1).2).1),[])
theorem e_f155 (p0:Int):runF QCv Qyg QIo false [.t tI p0] []=QTU p0:=by kernel_rfl
theorem QAE:Qag Tryz.prog 155:= .inr ⟨by decide,_,Tryz.func155,by kernel_rfl,by kernel_rfl⟩
theorem QYK:GOk Tryz.prog QCv:=Qak _ (gA (gC QMO QKK gN))
theorem QW3:Qyg.lok QCv:=by repeat (first | exact trivial | refine ⟨?_, ?_⟩)
theorem s_f155 (a:Int):QTU a=some (.t tI (kindF a),[]):=rfl
def QsU:Ent:=spec (.pr tI .nil) (fun x=>true) (fun x=>(.t tI (kindF x.1)))
theorem QzK:Meets Tryz.prog 155 (strip QsU):=Qaf (R:=runF QCv Qyg QIo false) (mG Tryz.func155 (by kernel_rfl) Tryz.ntmps155 (by kernel_rfl) QYK QW3) fun x _=>(e_f155 x.1).trans (s_f155 x.1)
noncomputable def QyK:TC:=(.sq (.reg (rT Tryz.f110 0)) (.sq (.reg (rT Tryz.f110 1)) .rt))
def QIS:List (RV×Option Ty):=[((.t 0),some (.sl Qdk))]
def QCN:G:=⟨TYs,[],25,EL [],keeps,(fun _ _=>none),IL [],RL []⟩
def QT3  : Option (V×List VO):=some (.t (.sl Qdk) ([((ByteArray.mk #[]),(0,())),((ByteArray.mk #[109,100,53]),(1,())),((ByteArray.mk #[115,104,97,49]),(1,())),((ByteArray.mk #[115,104,97,50,53,54]),(1,())),((ByteArray.mk #[115,104,97,51,56,52]),(1,())),((ByteArray.mk #[114,115,97]),(2,())),((ByteArray.mk #[100,115,97]),(2,())),((ByteArray.mk #[101,99,100,115,97]),(2,())),((ByteArray.mk #[101,100,50,53,53,49,57]),(2,())),((ByteArray.mk #[109,108,100,115,97]),(2,())),((ByteArray.mk #[114,115,97,107,120]),(3,())),((ByteArray.mk #[100,104,101]),(3,())),((ByteArray.mk #[101,99,100,104,101]),(3,())),((ByteArray.mk #[109,108,107,101,109]),(3,())),((ByteArray.mk #[114,99,52]),(4,())),((ByteArray.mk #[100,101,115,51]),(4,())),((ByteArray.mk #[97,101,115,99,98,99]),(4,())),((ByteArray.mk #[97,101,115,103,99,109]),(4,())),((ByteArray.mk #[99,104,97,99,104,97]),(4,())),((ByteArray.mk #[104,109,97,99,109,100,53]),(5,())),((ByteArray.mk #[104,109,97,99,115,104,97,49]),(5,())),((ByteArray.mk #[104,109,97,99,115,104,97,50,53,54]),(5,())),((ByteArray.mk #[97,101,97,100]),(5,()))]),[])
theorem e_f110  : runF QCN QyK QIS false [] []=QT3  :=by kernel_rfl
theorem Q0e:Qag Tryz.prog 110:= .inr ⟨by decide,_,Tryz.func110,by kernel_rfl,by kernel_rfl⟩
theorem QZe:GOk Tryz.prog QCN:=Qak _ (fun p hp=>by cases hp)
theorem QXx:QyK.lok QCN:=by repeat (first | exact trivial | refine ⟨?_, ?_⟩)
def QBn:Ty.T (.sl Qdk):=([((ByteArray.mk #[]),(0,())),((ByteArray.mk #[109,100,53]),(1,())),((ByteArray.mk #[115,104,97,49]),(1,())),((ByteArray.mk #[115,104,97,50,53,54]),(1,())),((ByteArray.mk #[115,104,97,51,56,52]),(1,())),((ByteArray.mk #[114,115,97]),(2,())),((ByteArray.mk #[100,115,97]),(2,())),((ByteArray.mk #[101,99,100,115,97]),(2,())),((ByteArray.mk #[101,100,50,53,53,49,57]),(2,())),((ByteArray.mk #[109,108,100,115,97]),(2,())),((ByteArray.mk #[114,115,97,107,120]),(3,())),((ByteArray.mk #[100,104,101]),(3,())),((ByteArray.mk #[101,99,100,104,101]),(3,())),((ByteArray.mk #[109,108,107,101,109]),(3,())),((ByteArray.mk #[114,99,52]),(4,())),((ByteArray.mk #[100,101,115,51]),(4,())),((ByteArray.mk #[97,101,115,99,98,99]),(4,())),((ByteArray.mk #[97,101,115,103,99,109]),(4,())),((ByteArray.mk #[99,104,97,99,104,97]),(4,())),((ByteArray.mk #[104,109,97,99,109,100,53]),(5,())),((ByteArray.mk #[104,109,97,99,115,104,97,49]),(5,())),((ByteArray.mk #[104,109,97,99,115,104,97,50,53,54]),(5,())),((ByteArray.mk #[97,101,97,100]),(5,()))])
theorem s_f110:QT3=some (.t (.sl Qdk) QBn,[]):=rfl
def QHp:Ent:=spec .nil (fun x=>true) (fun x=>(.t (.sl Qdk) QBn))
theorem QV8:Meets Tryz.prog 110 (strip QHp):=Qaf (R:=runF QCN QyK QIS false) (mG Tryz.func110 (by kernel_rfl) Tryz.ntmps110 (by kernel_rfl) QZe QXx) fun x _=>(e_f110 ).trans (s_f110)
noncomputable def QFJ:TC:=(.sq (.reg (rT Tryz.f70 0)) (.sq (.sq (.reg (rT Tryz.f70 1)) (.cd (.t 8) (.sq (.reg (rT Tryz.f70 2)) .rt) .sk)) (.sq (.reg (rT Tryz.f70 3)) .rt)))
def QTm:List (RV×Option Ty):=[((.t 2),some tI)]
def g_f70:G:=⟨TYs,[],14,EL [(110,QHp)],keeps,(fun _ _=>none),IL [],RL []⟩
def r_f70 (p0:Int):Option (V×List VO):=br (ilt p0 1) (some (.t tI 0,[])) (br (igt p0 22) (some (.t tI 0,[])) (br (cIx QBn p0) (some (.t tI (((lgt Qdk QBn (Int.toNat p0)).2).1),[])) none))
theorem e_f70 (p0:Int):runF g_f70 QFJ QTm false [.t tI p0] []=r_f70 p0:=by kernel_rfl
theorem QUt:Qag Tryz.prog 70:= .inr ⟨by decide,_,Tryz.func70,by kernel_rfl,by kernel_rfl⟩
theorem gk_f70:GOk Tryz.prog g_f70:=Qak _ (gA (gC Q0e QV8 gN))
theorem lk_f70:QFJ.lok g_f70:=by repeat (first | exact trivial | refine ⟨?_, ?_⟩)
theorem QOC {a:Int}(h1:1≤a)(h2:a≤22):a=1∨a=2∨a=3∨a=4∨a=5∨a=6∨a=7∨a=8∨a=9∨a=10∨a=11∨a=12∨a=13∨a=14∨a=15∨a=16∨a=17∨a=18∨a=19∨a=20∨a=21∨a=22:=by omega
theorem s_f70 (a:Int):r_f70 a=some (.t tI (kindF a),[]):=by
 simp only [r_f70]
 refine QaE (fun h1=> ?_) (fun h1=>QaE (fun h2=> ?_) (fun h2=> ?_))
 ·have h1:a<1:=by simpa [ilt] using h1
  simp [kindF,ofF,h1,noRow]
 ·have h2:22<a:=by simpa [igt] using h2
  simp [kindF,ofF,h2,noRow]
 ·have h1: ¬ a<1:=by simpa [ilt] using h1
  have h2: ¬ 22<a:=by simpa [igt] using h2
  rcases QOC (a:=a) (by omega) (by omega) with rfl | rfl | rfl | rfl | rfl | rfl | rfl | rfl | rfl | rfl | rfl | rfl | rfl | rfl | rfl | rfl | rfl | rfl | rfl | rfl | rfl | rfl <;> rfl
def QGj:Ent:=spec (.pr tI .nil) (fun x=>true) (fun x=>(.t tI (kindF x.1)))
theorem QUa:Meets Tryz.prog 70 (strip QGj):=Qaf (R:=runF g_f70 QFJ QTm false) (mG Tryz.func70 (by kernel_rfl) Tryz.ntmps70 (by kernel_rfl) gk_f70 lk_f70) fun x _=>(e_f70 x.1).trans (s_f70 x.1)
def useP (a b:Int):Keep:=(a,(b,()))
noncomputable def Qyc:TC:=(.sq (.reg (rT Tryz.f159 0)) (.sq (.reg (rT Tryz.f159 1)) .rt))
def QIk:List (RV×Option Ty):=[((.c 4 true 2),some Qah)]
def QCs:G:=⟨TYs,[],8,EL [],keeps,(fun _ _=>none),IL [],RL []⟩
def QTT (p0 p1:Int):Option (V×List VO):=some (.t Qah (p0,(p1,())),[])
theorem e_f159 (p0 p1:Int):runF QCs Qyc QIk false [.t tI p0, .t tI p1] []=QTT p0 p1:=by kernel_rfl
theorem QZN:Qag Tryz.prog 159:= .inr ⟨by decide,_,Tryz.func159,by kernel_rfl,by kernel_rfl⟩
theorem QYG:GOk Tryz.prog QCs:=Qak _ (fun p hp=>by cases hp)
theorem QWZ:Qyc.lok QCs:=by repeat (first | exact trivial | refine ⟨?_, ?_⟩)
theorem s_f159 (a b:Int):QTT a b=some (.t Qah (useP a b),[]):=rfl
def QGV:Ent:=spec (.pr tI (.pr tI .nil)) (fun x=>true) (fun x=>(.t Qah (useP x.1 x.2.1)))
theorem QVH:Meets Tryz.prog 159 (strip QGV):=Qaf (R:=runF QCs Qyc QIk false) (mG Tryz.func159 (by kernel_rfl) Tryz.ntmps159 (by kernel_rfl) QYG QWZ) fun x _=>(e_f159 x.1 x.2.1).trans (s_f159 x.1 x.2.1)
noncomputable def Qx6:TC:=(.sq (.reg (rT Tryz.f168 0)) (.sq (.reg (rT Tryz.f168 1)) .rt))
def QIe:List (RV×Option Ty):=[((.c 4 true 2),some Qah)]
def QCo:G:=⟨TYs,[],8,EL [],keeps,(fun _ _=>none),IL [],RL []⟩
def QTS (p0 p1:Int):Option (V×List VO):=some (.t Qah (p0,(p1,())),[])
theorem e_f168 (p0 p1:Int):runF QCo Qx6 QIe false [.t tI p0, .t tI p1] []=QTS p0 p1:=by kernel_rfl
theorem QZH:Qag Tryz.prog 168:= .inr ⟨by decide,_,Tryz.func168,by kernel_rfl,by kernel_rfl⟩
theorem QYA:GOk Tryz.prog QCo:=Qak _ (fun p hp=>by cases hp)
theorem QWT:Qx6.lok QCo:=by repeat (first | exact trivial | refine ⟨?_, ?_⟩)
theorem s_f168 (a b:Int):QTS a b=some (.t Qah (useP a b),[]):=rfl
def QGP:Ent:=spec (.pr tI (.pr tI .nil)) (fun x=>true) (fun x=>(.t Qah (useP x.1 x.2.1)))
theorem QVB:Meets Tryz.prog 168 (strip QGP):=Qaf (R:=runF QCo Qx6 QIe false) (mG Tryz.func168 (by kernel_rfl) Tryz.ntmps168 (by kernel_rfl) QYA QWT) fun x _=>(e_f168 x.1 x.2.1).trans (s_f168 x.1 x.2.1)
def suiP (c:Int)(n:ByteArray)(e s f m:Keep)(l o:Int):Suite:=(c,(n,(e,(s,(f,(m,(l,(o,()))))))))
noncomputable def Qx5:TC:=(.sq (.reg (rT Tryz.f169 0)) (.sq (.reg (rT Tryz.f169 1)) .rt))
def QId:List (RV×Option Ty):=[((.c 16 true 12),some Qay)]
def QCn:G:=⟨TYs,[],26,EL [],keeps,(fun _ _=>none),IL [],RL []⟩
def QTR (p0:Int)(p1:ByteArray)(p2 p3 p4 p5:Keep)(p6 p7:Int):Option (V×List VO):=some (.t Qay (p0,(p1,((p2.1,(p2.2.1,())),((p3.1,(p3.2.1,())),((p4.1,(p4.2.1,())),((p5.1,(p5.2.1,())),(p6,(p7,())))))))),[])
theorem e_f169 (p0:Int)(p1:ByteArray)(p2 p3 p4 p5:Keep)(p6 p7:Int):runF QCn Qx5 QId false [.t tI p0, .t .str p1, .t Qah p2, .t Qah p3, .t Qah p4, .t Qah p5, .t tI p6, .t tI p7] []=QTR p0 p1 p2 p3 p4 p5 p6 p7:=by kernel_rfl
theorem QZG:Qag Tryz.prog 169:= .inr ⟨by decide,_,Tryz.func169,by kernel_rfl,by kernel_rfl⟩
theorem QYz:GOk Tryz.prog QCn:=Qak _ (fun p hp=>by cases hp)
theorem QWS:Qx5.lok QCn:=by repeat (first | exact trivial | refine ⟨?_, ?_⟩)
theorem s_f169 (c:Int)(n:ByteArray)(e s f m:Keep)(l o:Int):QTR c n e s f m l o=some (.t Qay (suiP c n e s f m l o),[]):=rfl
def QGO:Ent:=spec (.pr tI (.pr .str (.pr Qah (.pr Qah (.pr Qah (.pr Qah (.pr tI (.pr tI .nil)))))))) (fun x=>true) (fun x=>(.t Qay (suiP x.1 x.2.1 x.2.2.1 x.2.2.2.1 x.2.2.2.2.1 x.2.2.2.2.2.1 x.2.2.2.2.2.2.1 x.2.2.2.2.2.2.2.1)))
theorem QVA:Meets Tryz.prog 169 (strip QGO):=Qaf (R:=runF QCn Qx5 QId false) (mG Tryz.func169 (by kernel_rfl) Tryz.ntmps169 (by kernel_rfl) QYz QWS) fun x _=>(e_f169 x.1 x.2.1 x.2.2.1 x.2.2.2.1 x.2.2.2.2.1 x.2.2.2.2.2.1 x.2.2.2.2.2.2.1 x.2.2.2.2.2.2.2.1).trans (s_f169 x.1 x.2.1 x.2.2.1 x.2.2.2.1 x.2.2.2.2.1 x.2.2.2.2.2.1 x.2.2.2.2.2.2.1 x.2.2.2.2.2.2.2.1)
noncomputable def QM7:List DO:=dT Tryz.f144 6
noncomputable def Qym:TC:=(.sq (.reg (rT Tryz.f144 0)) (.sq (.reg (rT Tryz.f144 1)) (.sq (.reg (rT Tryz.f144 2)) (.sq (.reg (rT Tryz.f144 3)) (.sq (.reg (rT Tryz.f144 4)) (.sq (.reg (rT Tryz.f144 5)) (.sq (.dr QM7 [(0,[1]),(1,[2]),(2,[4]),(3,[9]),(4,[]),(5,[1]),(6,[2]),(7,[4]),(8,[10]),(9,[]),(10,[1]),(11,[2]),(12,[5]),(13,[10]),(14,[]),(15,[]),(16,[]),(17,[5]),(18,[10]),(19,[]),(20,[]),(21,[2]),(22,[5]),(23,[10]),(24,[]),(25,[1]),(26,[2]),(27,[6]),(28,[10]),(29,[]),(30,[]),(31,[2]),(32,[6]),(33,[10]),(34,[]),(35,[13]),(36,[2]),(37,[6]),(38,[10]),(39,[]),(40,[13]),(41,[]),(42,[]),(43,[11]),(44,[]),(45,[13]),(46,[2]),(47,[7]),(48,[12]),(49,[]),(50,[]),(51,[]),(52,[8]),(53,[12]),(54,[]),(55,[13]),(56,[2]),(57,[14]),(58,[12]),(59,[]),(60,[1]),(61,[2]),(62,[8]),(63,[12]),(64,[]),(65,[13]),(66,[3]),(67,[7]),(68,[12]),(69,[]),(70,[13]),(71,[3]),(72,[14]),(73,[12]),(74,[]),(75,[]),(76,[3]),(77,[8]),(78,[12]),(79,[]),(80,[]),(81,[])] (.of [0,1,2,3,4,5,6,7,8,9,10,11,12,13,14,15,16,17,18,19,20,21,22,23,24,25,26,27,28,29,30,31,32,33,34,35,36,37,38,39,40,41,42,43,44,45,46,47,48,49,50,51,52,53,54,55,56,57,58,59,60,61,62,63,64,65,66,67,68,69,70,71,72,73,74,75,76,77,78,79,80,81])) .rt)))))))
def QIu:List (RV×Option Ty):=[((.t 0),some (.sl Qay))]
def QCA:G:=⟨TYs,[],110,EL [(168,QGP),(169,QGO)],keeps,(fun _ _=>none),IL [],RL []⟩
def Qci:Ty.T (.sl Qay):=
 let a1:=(suiP 9 (ByteArray.mk #[101,99,100,104,101,45,101,99,100,115,97,45,97,101,115,50,53,54,45,115,104,97,50,53,54]) (useP 12 256) (useP 7 0) (useP 16 256) (useP 21 0) 3 3)
 let a2:=(suiP 11 (ByteArray.mk #[101,99,100,104,101,45,101,99,100,115,97,45,97,101,115,50,53,54,45,103,99,109]) (useP 12 384) (useP 7 0) (useP 17 256) (useP 22 0) 3 3)
 let a3:=(suiP 10 (ByteArray.mk #[101,99,100,104,101,45,114,115,97,45,97,101,115,49,50,56,45,103,99,109]) (useP 12 256) (useP 5 0) (useP 17 128) (useP 22 0) 3 3)
 let a4:=(suiP 8 (ByteArray.mk #[101,99,100,104,101,45,114,115,97,45,97,101,115,49,50,56,45,115,104,97]) (useP 12 256) (useP 5 0) (useP 16 128) (useP 20 0) 1 3)
 let a5:=(suiP 7 (ByteArray.mk #[100,104,101,45,114,115,97,45,97,101,115,49,50,56,45,115,104,97]) (useP 11 2048) (useP 5 0) (useP 16 128) (useP 20 0) 1 3)
 let a6:=(suiP 16 (ByteArray.mk #[109,108,107,101,109,45,97,101,115,50,53,54,45,103,99,109]) (useP 13 768) (0,(0,())) (useP 17 256) (useP 22 0) 4 4)
 let a7:=(suiP 4 (ByteArray.mk #[100,104,101,45,100,115,97,45,100,101,115,51,45,115,104,97]) (useP 11 1024) (useP 6 0) (useP 15 168) (useP 20 0) 1 3)
 let a8:=(suiP 5 (ByteArray.mk #[100,104,101,45,114,115,97,45,100,101,115,51,45,115,104,97]) (useP 11 1024) (useP 5 0) (useP 15 168) (useP 20 0) 1 3)
 let a9:=(suiP 12 (ByteArray.mk #[101,99,100,104,101,45,114,115,97,45,99,104,97,99,104,97]) (useP 12 256) (useP 5 0) (useP 18 0) (useP 22 0) 3 3)
 let a10:=(suiP 13 (ByteArray.mk #[114,115,97,45,97,101,115,50,53,54,45,103,99,109]) (useP 10 0) (useP 5 0) (useP 17 256) (useP 22 0) 3 3)
 let a11:=(suiP 6 (ByteArray.mk #[114,115,97,45,97,101,115,49,50,56,45,115,104,97]) (useP 10 0) (useP 5 0) (useP 16 128) (useP 20 0) 1 3)
 let a12:=(suiP 3 (ByteArray.mk #[114,115,97,45,100,101,115,51,45,115,104,97]) (useP 10 0) (useP 5 0) (useP 15 168) (useP 20 0) 1 3)
 let a13:=(suiP 1 (ByteArray.mk #[114,115,97,45,114,99,52,45,109,100,53]) (useP 10 0) (useP 5 0) (useP 14 128) (useP 19 0) 1 2)
 let a14:=(suiP 2 (ByteArray.mk #[114,115,97,45,114,99,52,45,115,104,97]) (useP 10 0) (useP 5 0) (useP 14 128) (useP 20 0) 1 3)
 let a15:=(suiP 14 (ByteArray.mk #[97,101,115,49,50,56,45,103,99,109]) (useP 12 256) (0,(0,())) (useP 17 128) (useP 22 0) 4 4)
 let a16:=(suiP 15 (ByteArray.mk #[99,104,97,99,104,97]) (useP 12 256) (0,(0,())) (useP 18 0) (useP 22 0) 4 4)
 let a17:=(((a13.2).2).2)
 let a18:=(((a14.2).2).2)
 let a19:=(((a12.2).2).2)
 let a20:=(((a11.2).2).2)
 let a21:=(((a10.2).2).2)
 let a22:=(((a15.2).2).2)
 let a23:=(((a16.2).2).2)
 let a24:=(((a7.2).2).2)
 let a25:=(((a8.2).2).2)
 let a26:=(((a5.2).2).2)
 let a27:=(((a4.2).2).2)
 let a28:=(((a1.2).2).2)
 let a29:=(((a3.2).2).2)
 let a30:=(((a2.2).2).2)
 let a31:=(((a9.2).2).2)
 let a32:=(((a6.2).2).2)
 ([(a13.1,((a13.2).1,(((((a13.2).2).1).1,(((((a13.2).2).1).2).1,())),(((a17.1).1,(((a17.1).2).1,())),((((a17.2).1).1,((((a17.2).1).2).1,())),(((((a17.2).2).1).1,(((((a17.2).2).1).2).1,())),((((a17.2).2).2).1,(((((a17.2).2).2).2).1,())))))))),(a14.1,((a14.2).1,(((((a14.2).2).1).1,(((((a14.2).2).1).2).1,())),(((a18.1).1,(((a18.1).2).1,())),((((a18.2).1).1,((((a18.2).1).2).1,())),(((((a18.2).2).1).1,(((((a18.2).2).1).2).1,())),((((a18.2).2).2).1,(((((a18.2).2).2).2).1,())))))))),(a12.1,((a12.2).1,(((((a12.2).2).1).1,(((((a12.2).2).1).2).1,())),(((a19.1).1,(((a19.1).2).1,())),((((a19.2).1).1,((((a19.2).1).2).1,())),(((((a19.2).2).1).1,(((((a19.2).2).1).2).1,())),((((a19.2).2).2).1,(((((a19.2).2).2).2).1,())))))))),(a7.1,((a7.2).1,(((((a7.2).2).1).1,(((((a7.2).2).1).2).1,())),(((a24.1).1,(((a24.1).2).1,())),((((a24.2).1).1,((((a24.2).1).2).1,())),(((((a24.2).2).1).1,(((((a24.2).2).1).2).1,())),((((a24.2).2).2).1,(((((a24.2).2).2).2).1,())))))))),(a8.1,((a8.2).1,(((((a8.2).2).1).1,(((((a8.2).2).1).2).1,())),(((a25.1).1,(((a25.1).2).1,())),((((a25.2).1).1,((((a25.2).1).2).1,())),(((((a25.2).2).1).1,(((((a25.2).2).1).2).1,())),((((a25.2).2).2).1,(((((a25.2).2).2).2).1,())))))))),(a11.1,((a11.2).1,(((((a11.2).2).1).1,(((((a11.2).2).1).2).1,())),(((a20.1).1,(((a20.1).2).1,())),((((a20.2).1).1,((((a20.2).1).2).1,())),(((((a20.2).2).1).1,(((((a20.2).2).1).2).1,())),((((a20.2).2).2).1,(((((a20.2).2).2).2).1,())))))))),(a5.1,((a5.2).1,(((((a5.2).2).1).1,(((((a5.2).2).1).2).1,())),(((a26.1).1,(((a26.1).2).1,())),((((a26.2).1).1,((((a26.2).1).2).1,())),(((((a26.2).2).1).1,(((((a26.2).2).1).2).1,())),((((a26.2).2).2).1,(((((a26.2).2).2).2).1,())))))))),(a4.1,((a4.2).1,(((((a4.2).2).1).1,(((((a4.2).2).1).2).1,())),(((a27.1).1,(((a27.1).2).1,())),((((a27.2).1).1,((((a27.2).1).2).1,())),(((((a27.2).2).1).1,(((((a27.2).2).1).2).1,())),((((a27.2).2).2).1,(((((a27.2).2).2).2).1,())))))))),(a1.1,((a1.2).1,(((((a1.2).2).1).1,(((((a1.2).2).1).2).1,())),(((a28.1).1,(((a28.1).2).1,())),((((a28.2).1).1,((((a28.2).1).2).1,())),(((((a28.2).2).1).1,(((((a28.2).2).1).2).1,())),((((a28.2).2).2).1,(((((a28.2).2).2).2).1,())))))))),(a3.1,((a3.2).1,(((((a3.2).2).1).1,(((((a3.2).2).1).2).1,())),(((a29.1).1,(((a29.1).2).1,())),((((a29.2).1).1,((((a29.2).1).2).1,())),(((((a29.2).2).1).1,(((((a29.2).2).1).2).1,())),((((a29.2).2).2).1,(((((a29.2).2).2).2).1,())))))))),(a2.1,((a2.2).1,(((((a2.2).2).1).1,(((((a2.2).2).1).2).1,())),(((a30.1).1,(((a30.1).2).1,())),((((a30.2).1).1,((((a30.2).1).2).1,())),(((((a30.2).2).1).1,(((((a30.2).2).1).2).1,())),((((a30.2).2).2).1,(((((a30.2).2).2).2).1,())))))))),(a9.1,((a9.2).1,(((((a9.2).2).1).1,(((((a9.2).2).1).2).1,())),(((a31.1).1,(((a31.1).2).1,())),((((a31.2).1).1,((((a31.2).1).2).1,())),(((((a31.2).2).1).1,(((((a31.2).2).1).2).1,())),((((a31.2).2).2).1,(((((a31.2).2).2).2).1,())))))))),(a10.1,((a10.2).1,(((((a10.2).2).1).1,(((((a10.2).2).1).2).1,())),(((a21.1).1,(((a21.1).2).1,())),((((a21.2).1).1,((((a21.2).1).2).1,())),(((((a21.2).2).1).1,(((((a21.2).2).1).2).1,())),((((a21.2).2).2).1,(((((a21.2).2).2).2).1,())))))))),(a15.1,((a15.2).1,(((((a15.2).2).1).1,(((((a15.2).2).1).2).1,())),(((a22.1).1,(((a22.1).2).1,())),((((a22.2).1).1,((((a22.2).1).2).1,())),(((((a22.2).2).1).1,(((((a22.2).2).1).2).1,())),((((a22.2).2).2).1,(((((a22.2).2).2).2).1,())))))))),(a16.1,((a16.2).1,(((((a16.2).2).1).1,(((((a16.2).2).1).2).1,())),(((a23.1).1,(((a23.1).2).1,())),((((a23.2).1).1,((((a23.2).1).2).1,())),(((((a23.2).2).1).1,(((((a23.2).2).1).2).1,())),((((a23.2).2).2).1,(((((a23.2).2).2).2).1,())))))))),(a6.1,((a6.2).1,(((((a6.2).2).1).1,(((((a6.2).2).1).2).1,())),(((a32.1).1,(((a32.1).2).1,())),((((a32.2).1).1,((((a32.2).1).2).1,())),(((((a32.2).2).1).1,(((((a32.2).2).1).2).1,())),((((a32.2).2).2).1,(((((a32.2).2).2).2).1,()))))))))])
def QTW  : Option (V×List VO):=some (.t (.sl Qay) Qci,[])
theorem e_f144  : runF QCA Qym QIu false [] []=QTW  :=by kernel_rfl
theorem QZV:Qag Tryz.prog 144:= .inr ⟨by decide,_,Tryz.func144,by kernel_rfl,by kernel_rfl⟩
theorem QYQ:GOk Tryz.prog QCA:=Qak _ (gA (gC QZH QVB (gC QZG QVA gN)))
theorem QW9:Qym.lok QCA:=by repeat (first | exact trivial | refine ⟨?_, ?_⟩)
theorem s_f144:QTW=some (.t (.sl Qay) Qci,[]):=rfl
def QG4:Ent:=spec .nil (fun x=>true) (fun x=>(.t (.sl Qay) Qci))
theorem QVP:Meets Tryz.prog 144 (strip QG4):=Qaf (R:=runF QCA Qym QIu false) (mG Tryz.func144 (by kernel_rfl) Tryz.ntmps144 (by kernel_rfl) QYQ QW9) fun x _=>(e_f144 ).trans (s_f144)
abbrev QFe:Suite:=Ty.zero Qay
def codeL (k:Nat)(l:List Suite):List Suite:=(List.range' k (16 - k)).foldl (fun l i=>l.set i (((i+1:Nat):Int),(l.getD i QFe).2)) l
noncomputable def QM9:List DO:=dT Tryz.f133 4
def Qhr:Fg:=⟨[(15,none),(113,some tI),(114,some tI)],[(111,none)]⟩
noncomputable def Qjs:TC:=(.sq (.reg (rT Tryz.f133 6)) (.sq (.cd (.t 115) .sk (.fg ⟨[(15,none)],[(111,none)]⟩ (.ex 0))) (.sq (.bk 1 (.sq (.reg (rT Tryz.f133 7)) (.reg (rT Tryz.f133 8)))) (.reg (rT Tryz.f133 9)))))
noncomputable def Qyt:TC:=(.sq (.reg (rT Tryz.f133 0)) (.sq (.reg (rT Tryz.f133 1)) (.sq (.reg (rT Tryz.f133 2)) (.sq (.reg (rT Tryz.f133 3)) (.sq (.dr QM9 [(0,[1]),(1,[2]),(2,[]),(3,[11]),(4,[]),(5,[1]),(6,[2]),(7,[]),(8,[12]),(9,[]),(10,[1]),(11,[2]),(12,[6]),(13,[12]),(14,[]),(15,[]),(16,[3]),(17,[6]),(18,[12]),(19,[]),(20,[]),(21,[2]),(22,[6]),(23,[12]),(24,[]),(25,[1]),(26,[2]),(27,[7]),(28,[12]),(29,[]),(30,[]),(31,[2]),(32,[7]),(33,[12]),(34,[]),(35,[14]),(36,[2]),(37,[7]),(38,[12]),(39,[]),(40,[14]),(41,[4]),(42,[]),(43,[]),(44,[]),(45,[14]),(46,[2]),(47,[8]),(48,[13]),(49,[]),(50,[]),(51,[4]),(52,[9]),(53,[13]),(54,[]),(55,[14]),(56,[2]),(57,[10]),(58,[13]),(59,[]),(60,[1]),(61,[2]),(62,[9]),(63,[13]),(64,[]),(65,[14]),(66,[5]),(67,[8]),(68,[13]),(69,[]),(70,[14]),(71,[5]),(72,[10]),(73,[13]),(74,[]),(75,[]),(76,[5]),(77,[9]),(78,[13]),(79,[]),(80,[111,5111,10111,15111]),(81,[111])] (.of [0,1,2,3,4,5,6,7,8,9,10,11,12,13,14,15,16,17,18,19,20,21,22,23,24,25,26,27,28,29,30,31,32,33,34,35,36,37,38,39,40,41,42,43,44,45,46,47,48,49,50,51,52,53,54,55,56,57,58,59,60,61,62,63,64,65,66,67,68,69,70,71,72,73,74,75,76,77,78,79,80,81])) (.sq (.sq (.reg (rT Tryz.f133 5)) (.bk 0 (.lp 0 Qhr Qjs))) (.sq (.reg (rT Tryz.f133 10)) .rt)))))))
def QIB:List (RV×Option Ty):=[((.t 0),some (.sl Qay))]
abbrev QpG:Sh:=⟨[(15, .ms 111),(113, .ty tI),(114, .ty tI)],[(111, .arr 142 Qay)]⟩
def QoS (x113 x114:Int)(y111:List Suite):VS:=QpG.st ((),x113,x114,()) (y111,())
abbrev QvM:Sh:=⟨[(15, .ms 111)],[(111, .arr 142 Qay)]⟩
def Qex (y111:List Suite):VS:=QvM.st ((),()) (y111,())
def QSl:VS→Option (Bool×List (Bool×Exit×VS)):=mkL QpG (fun x y=>(decide (0≤x.2.2.1∧x.2.2.1≤16∧x.2.1=16∧y.1.length=16))) (fun x y=>[(true, .exit 0,Qex (codeL x.2.2.1.toNat y.1))])
def Qmw:G:=⟨TYs,[111],125,EL [(159,QGV)],keeps,(Ls [QSl]),IL [],RL []⟩
def QDD (x113 x114:Int)(y111:List Suite):Option (Exit×VS):=
 let a1:=Int.toNat x114
 br (ilt x114 x113) (br (cIx y111 x114) (br (cLd y111 a1) (some (.normal,QoS x113 (iadd .i64 x114 1) (List.set y111 a1 ((iadd .i64 x114 1),(lgt Qay y111 a1).2)))) none) none) (some (.exit 0,Qex y111))
noncomputable def Qkh (x113 x114:Int)(y111:List Suite):Option (Exit×VS):=loopF (Qai Qmw Qhr Qjs) (QoS x113 x114 y111)
noncomputable def Qud (x113 x114:Int)(y111:List Suite):Option (Exit×VS):=
 let a1:=Int.toNat x114
 br (ilt x114 x113) (br (cIx y111 x114) (br (cLd y111 a1) (Qkh x113 (iadd .i64 x114 1) (List.set y111 a1 ((iadd .i64 x114 1),(lgt Qay y111 a1).2))) none) none) (some (.exit 0,Qex y111))
def QqT (x113 x114:Int)(y111:List Suite):Option (Exit×VS):=some (.exit 0,Qex (codeL x114.toNat y111))
theorem QN2 (x113 x114:Int)(y111:List Suite):Qai Qmw Qhr Qjs (QoS x113 x114 y111)=QDD x113 x114 y111:=by kernel_rfl
theorem QwL (x113 x114:Int)(y111:List Suite):Qkh x113 x114 y111=Qud x113 x114 y111:=(Qan _ _).trans (by
 rw [QN2]
 simp only [QDD,Qud,QaA,nxt_n,nxt_r,nxt_e,nxt_0]
 rfl)
def QTX  : Option (V×List VO):=
 let a1:=((useP 5 0).1,(((useP 5 0).2).1,()))
 let a2:=((useP 20 0).1,(((useP 20 0).2).1,()))
 let a3:=((useP 22 0).1,(((useP 22 0).2).1,()))
 let a4:=((useP 12 256).1,(((useP 12 256).2).1,()))
 let a5:=((useP 10 0).1,(((useP 10 0).2).1,()))
 let a6:=((useP 15 168).1,(((useP 15 168).2).1,()))
 let a7:=((useP 16 128).1,(((useP 16 128).2).1,()))
 let a8:=((useP 17 256).1,(((useP 17 256).2).1,()))
 let a9:=(ByteArray.mk #[101,99,100,104,101,45,101,99,100,115,97,45,97,101,115,50,53,54,45,115,104,97,50,53,54])
 let a10:=(ByteArray.mk #[101,99,100,104,101,45,101,99,100,115,97,45,97,101,115,50,53,54,45,103,99,109])
 let a11:=((useP 11 1024).1,(((useP 11 1024).2).1,()))
 let a12:=(ByteArray.mk #[101,99,100,104,101,45,114,115,97,45,97,101,115,49,50,56,45,115,104,97])
 let a13:=(ByteArray.mk #[101,99,100,104,101,45,114,115,97,45,97,101,115,49,50,56,45,103,99,109])
 let a14:=((useP 14 128).1,(((useP 14 128).2).1,()))
 let a15:=((useP 17 128).1,(((useP 17 128).2).1,()))
 let a16:=(ByteArray.mk #[100,104,101,45,114,115,97,45,97,101,115,49,50,56,45,115,104,97])
 let a17:=((useP 18 0).1,(((useP 18 0).2).1,()))
 let a18:=((useP 7 0).1,(((useP 7 0).2).1,()))
 let a19:=(ByteArray.mk #[100,104,101,45,100,115,97,45,100,101,115,51,45,115,104,97])
 let a20:=(ByteArray.mk #[100,104,101,45,114,115,97,45,100,101,115,51,45,115,104,97])
 let a21:=(ByteArray.mk #[109,108,107,101,109,45,97,101,115,50,53,54,45,103,99,109])
 let a22:=(ByteArray.mk #[101,99,100,104,101,45,114,115,97,45,99,104,97,99,104,97])
 let a23:=(ByteArray.mk #[114,115,97,45,97,101,115,49,50,56,45,115,104,97])
 let a24:=(ByteArray.mk #[114,115,97,45,97,101,115,50,53,54,45,103,99,109])
 let a25:=(ByteArray.mk #[114,115,97,45,100,101,115,51,45,115,104,97])
 let a26:=(ByteArray.mk #[114,115,97,45,114,99,52,45,109,100,53])
 let a27:=(ByteArray.mk #[114,115,97,45,114,99,52,45,115,104,97])
 let a28:=(ByteArray.mk #[97,101,115,49,50,56,45,103,99,109])
 let a29:=((useP 11 2048).1,(((useP 11 2048).2).1,()))
 let a30:=((useP 16 256).1,(((useP 16 256).2).1,()))
 let a31:=((useP 12 384).1,(((useP 12 384).2).1,()))
 let a32:=((useP 13 768).1,(((useP 13 768).2).1,()))
 let a33:=(ByteArray.mk #[99,104,97,99,104,97])
 let a34:=((useP 19 0).1,(((useP 19 0).2).1,()))
 let a35:=((useP 21 0).1,(((useP 21 0).2).1,()))
 let a36:=((useP 6 0).1,(((useP 6 0).2).1,()))
 br (decide (0≤(0:Int)∧(0:Int)≤16∧(llen ([(0,(a26,(a5,(a1,(a14,(a34,(1,(2,())))))))),(0,(a27,(a5,(a1,(a14,(a2,(1,(3,())))))))),(0,(a25,(a5,(a1,(a6,(a2,(1,(3,())))))))),(0,(a19,(a11,(a36,(a6,(a2,(1,(3,())))))))),(0,(a20,(a11,(a1,(a6,(a2,(1,(3,())))))))),(0,(a23,(a5,(a1,(a7,(a2,(1,(3,())))))))),(0,(a16,(a29,(a1,(a7,(a2,(1,(3,())))))))),(0,(a12,(a4,(a1,(a7,(a2,(1,(3,())))))))),(0,(a9,(a4,(a18,(a30,(a35,(3,(3,())))))))),(0,(a13,(a4,(a1,(a15,(a3,(3,(3,())))))))),(0,(a10,(a31,(a18,(a8,(a3,(3,(3,())))))))),(0,(a22,(a4,(a1,(a17,(a3,(3,(3,())))))))),(0,(a24,(a5,(a1,(a8,(a3,(3,(3,())))))))),(0,(a28,(a4,((0,(0,())),(a15,(a3,(4,(4,())))))))),(0,(a33,(a4,((0,(0,())),(a17,(a3,(4,(4,())))))))),(0,(a21,(a32,((0,(0,())),(a8,(a3,(4,(4,()))))))))]))=16∧([(0,(a26,(a5,(a1,(a14,(a34,(1,(2,())))))))),(0,(a27,(a5,(a1,(a14,(a2,(1,(3,())))))))),(0,(a25,(a5,(a1,(a6,(a2,(1,(3,())))))))),(0,(a19,(a11,(a36,(a6,(a2,(1,(3,())))))))),(0,(a20,(a11,(a1,(a6,(a2,(1,(3,())))))))),(0,(a23,(a5,(a1,(a7,(a2,(1,(3,())))))))),(0,(a16,(a29,(a1,(a7,(a2,(1,(3,())))))))),(0,(a12,(a4,(a1,(a7,(a2,(1,(3,())))))))),(0,(a9,(a4,(a18,(a30,(a35,(3,(3,())))))))),(0,(a13,(a4,(a1,(a15,(a3,(3,(3,())))))))),(0,(a10,(a31,(a18,(a8,(a3,(3,(3,())))))))),(0,(a22,(a4,(a1,(a17,(a3,(3,(3,())))))))),(0,(a24,(a5,(a1,(a8,(a3,(3,(3,())))))))),(0,(a28,(a4,((0,(0,())),(a15,(a3,(4,(4,())))))))),(0,(a33,(a4,((0,(0,())),(a17,(a3,(4,(4,())))))))),(0,(a21,(a32,((0,(0,())),(a8,(a3,(4,(4,()))))))))]).length=16)) (some (.t (.sl Qay) (codeL (0:Int).toNat ([(0,(a26,(a5,(a1,(a14,(a34,(1,(2,())))))))),(0,(a27,(a5,(a1,(a14,(a2,(1,(3,())))))))),(0,(a25,(a5,(a1,(a6,(a2,(1,(3,())))))))),(0,(a19,(a11,(a36,(a6,(a2,(1,(3,())))))))),(0,(a20,(a11,(a1,(a6,(a2,(1,(3,())))))))),(0,(a23,(a5,(a1,(a7,(a2,(1,(3,())))))))),(0,(a16,(a29,(a1,(a7,(a2,(1,(3,())))))))),(0,(a12,(a4,(a1,(a7,(a2,(1,(3,())))))))),(0,(a9,(a4,(a18,(a30,(a35,(3,(3,())))))))),(0,(a13,(a4,(a1,(a15,(a3,(3,(3,())))))))),(0,(a10,(a31,(a18,(a8,(a3,(3,(3,())))))))),(0,(a22,(a4,(a1,(a17,(a3,(3,(3,())))))))),(0,(a24,(a5,(a1,(a8,(a3,(3,(3,())))))))),(0,(a28,(a4,((0,(0,())),(a15,(a3,(4,(4,())))))))),(0,(a33,(a4,((0,(0,())),(a17,(a3,(4,(4,())))))))),(0,(a21,(a32,((0,(0,())),(a8,(a3,(4,(4,()))))))))])),[])) none
theorem e_f133  : runF Qmw Qyt QIB false [] []=QTX  :=by kernel_rfl
theorem QZ1:Qag Tryz.prog 133:= .inr ⟨by decide,_,Tryz.func133,by kernel_rfl,by kernel_rfl⟩
theorem QYX:GOk Tryz.prog Qmw:=Qak _ (gA (gC QZN QVH gN))
theorem QQj (x113 x114:Int)(y111:List Suite)(h:(decide (0≤x114∧x114≤16∧x113=16∧y111.length=16))=true):Qkh x113 x114 y111=QqT x113 x114 y111:=by
 simp only [decide_eq_true_eq] at h
 obtain ⟨h1,h2,rfl,h4⟩:=h
 obtain ⟨k,rfl⟩:=Int.eq_ofNat_of_zero_le h1
 revert y111
 refine QSy 16 (fun k=> ∀ y111:List Suite,y111.length=16→Qkh 16 (k:Int) y111=QqT 16 (k:Int) y111) ?_ ?_ k (by omega)
 ·intro y111 _
  rw [QwL]
  rfl
 ·intro k hk ih y111 hy
  rw [QwL]
  have e1:ilt (k:Int) 16=true:=decide_eq_true (by omega)
  have e2:cLd y111 k=true:=decide_eq_true (by omega)
  have e3:codeL k y111=codeL (k+1) (y111.set k (((k+1:Nat):Int),(y111.getD k QFe).2)):=by
   have:16 - k=(16 - (k+1))+1:=by omega
   unfold codeL
   rw [this,List.range'_succ,List.foldl_cons]
  simp only [Qud,e1,Qab,Qax,show decide (k<y111.length)=true from decide_eq_true (by omega),Int.toNat_natCast,e2,add1 (show k<4611686018427387904 by omega)]
  rw [ih _ (by rw [List.length_set]; exact hy)]
  simp only [QqT,Int.toNat_natCast,e3]
theorem QLm: ∀ S l p,Qmw.L 0 (fgt Qhr S)=some (true,l)→pickA l=some p→loopF (Qai Qmw Qhr Qjs) S=some p:=
 QaB (s:=QpG) ⟨by decide,by decide⟩ (by kernel_rfl) fun x y hok p hp=>by
 simp only [Qap,Qam] at hp
 exact (QQj x.2.1 x.2.2.1 y.1 (by simpa using hok)).trans hp
theorem QXg:Qyt.lok Qmw:=by
 repeat (first | exact trivial | exact QLm | refine ⟨?_, ?_⟩)
set_option maxRecDepth 100000 in
theorem s_f133:QTX=some (.t (.sl Qay) Qci,[]):=by kernel_rfl
def QHb:Ent:=spec .nil (fun x=>true) (fun x=>(.t (.sl Qay) Qci))
theorem QVV:Meets Tryz.prog 133 (strip QHb):=Qaf (R:=runF Qmw Qyt QIB false) (mG Tryz.func133 (by kernel_rfl) Tryz.ntmps133 (by kernel_rfl) QYX QXg) fun x _=>(e_f133 ).trans (s_f133)
theorem QDY:(List.length (α:=Qay.T) Qci)=16:=by kernel_rfl
theorem Qow:llen (α:=Qay.T) Qci=16:=by kernel_rfl
theorem Qu3 {c:Int}(h:1≤c∧c≤16):cIx (α:=Qay.T) Qci (c - 1)=true:=by
 have:=QDY
 simp only [cIx,decide_eq_true_eq]
 omega
def QaH (c:Int):Suite×Int:=if c<1∨16<c then (QFe,8) else (lgt Qay Qci (c - 1).toNat,0)
noncomputable def QFx:TC:=(.sq (.reg (rT Tryz.f85 0)) (.sq (.reg (rT Tryz.f85 1)) (.sq (.sq (.reg (rT Tryz.f85 2)) (.cd (.t 13) (.sq (.reg (rT Tryz.f85 3)) .rt) .sk)) (.sq (.reg (rT Tryz.f85 4)) .rt))))
def QTa:List (RV×Option Ty):=[((.c 2 true 12),some Qay),((.t 3),some tI)]
def g_f85:G:=⟨TYs,[],20,EL [(133,QHb)],keeps,(fun _ _=>none),IL [],RL []⟩
def r_f85 (p0:Int):Option (V×List VO):=br (ilt p0 1) (some (.tu [(.t Qay (0,((ByteArray.mk #[]),((0,(0,())),((0,(0,())),((0,(0,())),((0,(0,())),(0,(0,()))))))))),(.t tI 8)],[])) (br (igt p0 (llen Qci)) (some (.tu [(.t Qay (0,((ByteArray.mk #[]),((0,(0,())),((0,(0,())),((0,(0,())),((0,(0,())),(0,(0,()))))))))),(.t tI 8)],[])) (br (cIx Qci (isub .i64 p0 1)) (some (.tu [(.t Qay (lgt Qay Qci (Int.toNat (isub .i64 p0 1)))),(.t tI 0)],[])) none))
theorem e_f85 (p0:Int):runF g_f85 QFx QTa false [.t tI p0] []=r_f85 p0:=by kernel_rfl
theorem QC3:Qag Tryz.prog 85:= .inr ⟨by decide,_,Tryz.func85,by kernel_rfl,by kernel_rfl⟩
theorem gk_f85:GOk Tryz.prog g_f85:=Qak _ (gA (gC QZ1 QVV gN))
theorem lk_f85:QFx.lok g_f85:=by repeat (first | exact trivial | refine ⟨?_, ?_⟩)
theorem s_f85 (c:Int):r_f85 c=some (.tu [.t Qay (QaH c).1, .t tI (QaH c).2],[]):=by
 simp only [r_f85]
 unfold QaH
 refine QaE (fun h1=> ?_) (fun h1=>QaE (fun h2=> ?_) (fun h2=> ?_))
 ·simp only [ilt,decide_eq_true_eq] at h1
  rw [if_pos (.inl h1)]
  rfl
 ·have h2:=of_decide_eq_true h2
  have:=Qow
  rw [if_pos (.inr (by omega))]
  rfl
 ·simp only [ilt,decide_eq_false_iff_not] at h1
  have h2:=of_decide_eq_false h2
  have:=Qow
  rw [if_neg (by omega),Qbg (by omega),Qu3 (by omega),Qab]
def Qvb:Ent:=spec (.pr tI .nil) (fun x=>true) (fun x=>(.tu [(.t Qay ((QaH x.1).1)),(.t tI ((QaH x.1).2))]))
theorem QBA:Meets Tryz.prog 85 (strip Qvb):=Qaf (R:=runF g_f85 QFx QTa false) (mG Tryz.func85 (by kernel_rfl) Tryz.ntmps85 (by kernel_rfl) gk_f85 lk_f85) fun x _=>(e_f85 x.1).trans (s_f85 x.1)
noncomputable def QyM:TC:=(.sq (.reg (rT Tryz.f103 0)) (.sq (.sq (.reg (rT Tryz.f103 1)) (.cd (.t 9) (.sq (.reg (rT Tryz.f103 2)) .rt) .sk)) (.sq (.reg (rT Tryz.f103 3)) .rt)))
def QIU:List (RV×Option Ty):=[((.c 2 true 12),some Qay),((.t 3),some tI)]
def QCO:G:=⟨TYs,[],16,EL [(144,QG4)],keeps,(fun _ _=>none),IL [],RL []⟩
def QJ6 (p0:Int):Option (V×List VO):=br (ilt p0 1) (some (.tu [(.t Qay (0,((ByteArray.mk #[]),((0,(0,())),((0,(0,())),((0,(0,())),((0,(0,())),(0,(0,()))))))))),(.t tI 8)],[])) (br (igt p0 16) (some (.tu [(.t Qay (0,((ByteArray.mk #[]),((0,(0,())),((0,(0,())),((0,(0,())),((0,(0,())),(0,(0,()))))))))),(.t tI 8)],[])) (br (cIx Qci (isub .i64 p0 1)) (some (.tu [(.t Qay (lgt Qay Qci (Int.toNat (isub .i64 p0 1)))),(.t tI 0)],[])) none))
theorem e_f103 (p0:Int):runF QCO QyM QIU false [.t tI p0] []=QJ6 p0:=by kernel_rfl
theorem Q0g:Qag Tryz.prog 103:= .inr ⟨by decide,_,Tryz.func103,by kernel_rfl,by kernel_rfl⟩
theorem QZg:GOk Tryz.prog QCO:=Qak _ (gA (gC QZV QVP gN))
theorem QXz:QyM.lok QCO:=by repeat (first | exact trivial | refine ⟨?_, ?_⟩)
theorem s_f103 (c:Int):QJ6 c=some (.tu [.t Qay (QaH c).1, .t tI (QaH c).2],[]):=by
 simp only [QJ6]
 unfold QaH
 refine QaE (fun h1=> ?_) (fun h1=>QaE (fun h2=> ?_) (fun h2=> ?_))
 ·simp only [ilt,decide_eq_true_eq] at h1
  rw [if_pos (.inl h1)]
  rfl
 ·simp only [igt,decide_eq_true_eq] at h2
  rw [if_pos (.inr (by omega))]
  rfl
 ·simp only [ilt,decide_eq_false_iff_not] at h1
  simp only [igt,decide_eq_false_iff_not] at h2
  rw [if_neg (by omega),Qbg (by omega),Qu3 (by omega),Qab]
def QHr:Ent:=spec (.pr tI .nil) (fun x=>true) (fun x=>(.tu [(.t Qay ((QaH x.1).1)),(.t tI ((QaH x.1).2))]))
theorem QWa:Meets Tryz.prog 103 (strip QHr):=Qaf (R:=runF QCO QyM QIU false) (mG Tryz.func103 (by kernel_rfl) Tryz.ntmps103 (by kernel_rfl) QZg QXz) fun x _=>(e_f103 x.1).trans (s_f103 x.1)
def QhB:Fg:=⟨[(0,some (.sl tI)),(1,some tI),(5,some tI)],[]⟩
noncomputable def QjC:TC:=(.sq (.sq (.reg (rT Tryz.f104 2)) (.cd (.t 9) .sk (.fg ⟨[],[]⟩ (.ex 0)))) (.sq (.bk 1 (.sq (.reg (rT Tryz.f104 3)) (.cd (.t 17) (.sq (.reg (rT Tryz.f104 4)) (.fg ⟨[(4,some .bool)],[]⟩ .rt)) .sk))) (.reg (rT Tryz.f104 5))))
noncomputable def QyL:TC:=(.sq (.reg (rT Tryz.f104 0)) (.sq (.sq (.reg (rT Tryz.f104 1)) (.bk 0 (.lp 0 QhB QjC))) (.sq (.reg (rT Tryz.f104 6)) .rt)))
def QIT:List (RV×Option Ty):=[((.t 4),some .bool)]
abbrev QpS:Sh:=⟨[(0, .ty (.sl tI)),(1, .ty tI),(5, .ty tI)],[]⟩
def Qo0 (x0:List Int)(x1 x5:Int):VS:=QpS.st (x0,x1,x5,()) ()
abbrev Qtv:Sh:=⟨[(4, .ty .bool)],[]⟩
def Qdx (x4:Bool):VS:=Qtv.st (x4,()) ()
abbrev QvW:Sh:=⟨[],[]⟩
def QeG  : VS:=QvW.st () ()
def QSv:VS→Option (Bool×List (Bool×Exit×VS)):=mkL QpS (fun x y=>(decide (x.1.length≤100000∧0≤x.2.2.1∧x.2.2.1≤x.1.length))) (fun x y=>[(((x.1.drop x.2.2.1.toNat).contains x.2.1), .ret,Qdx (true)),(true, .exit 0,QeG)])
def QmE:G:=⟨TYs,[],18,EL [],keeps,(Ls [QSv]),IL [],RL []⟩
def QDM (x0:List Int)(x1 x5:Int):Option (Exit×VS):=br (ilt x5 (llen x0)) (br (cIx x0 x5) (br (ieq (lgt tI x0 (Int.toNat x5)) x1) (some (.ret,Qdx true)) (some (.normal,Qo0 x0 x1 (iadd .i64 x5 1)))) none) (some (.exit 0,QeG))
noncomputable def Qkp (x0:List Int)(x1 x5:Int):Option (Exit×VS):=loopF (Qai QmE QhB QjC) (Qo0 x0 x1 x5)
noncomputable def QnO (x0:List Int)(x1 x5:Int):Option (Exit×VS):=br (ilt x5 (llen x0)) (br (cIx x0 x5) (br (ieq (lgt tI x0 (Int.toNat x5)) x1) (some (.ret,Qdx true)) (Qkp x0 x1 (iadd .i64 x5 1))) none) (some (.exit 0,QeG))
def QkT (x0:List Int)(x1 x5:Int):Option (Exit×VS):=br ((x0.drop x5.toNat).contains x1) (some (.ret,Qdx (true)))<|some (.exit 0,QeG)
theorem QOc (x0:List Int)(x1 x5:Int):Qai QmE QhB QjC (Qo0 x0 x1 x5)=QDM x0 x1 x5:=by kernel_rfl
theorem QwV (x0:List Int)(x1 x5:Int):Qkp x0 x1 x5=QnO x0 x1 x5:=(Qan _ _).trans (by
 rw [QOc]
 simp only [QDM,QnO,QaA,nxt_n,nxt_r,nxt_e,nxt_0]
 rfl)
def QJ5 (p0:List Int)(p1:Int):Option (V×List VO):=br (decide (p0.length≤100000∧0≤(0:Int)∧(0:Int)≤p0.length)) (br ((p0.drop (0:Int).toNat).contains p1) (some (.t .bool (true),[])) (some (.t .bool false,[]))) none
theorem e_f104 (p0:List Int)(p1:Int):runF QmE QyL QIT false [.t (.sl tI) p0, .t tI p1] []=QJ5 p0 p1:=by kernel_rfl
theorem Q0f:Qag Tryz.prog 104:= .inr ⟨by decide,_,Tryz.func104,by kernel_rfl,by kernel_rfl⟩
theorem QZf:GOk Tryz.prog QmE:=Qak _ (fun p hp=>by cases hp)
theorem QQt (x0:List Int)(x1 x5:Int)(h:(decide (x0.length≤100000∧0≤x5∧x5≤x0.length))=true):Qkp x0 x1 x5=QkT x0 x1 x5:=by
 simp only [decide_eq_true_eq] at h
 obtain ⟨h2,h3,h4⟩:=h
 obtain ⟨k,rfl⟩:=Int.eq_ofNat_of_zero_le h3
 refine Qat x0 (fun k=>Qkp x0 x1 (k:Int)=QkT x0 x1 (k:Int)) ?_ ?_ k (by omega)
 ·rw [QwV]
  simp [QnO,QkT,Qar,llen,Qae]
 ·intro k hk ih
  rw [QwV]
  simp only [QnO,Qar,llen,Qax,hk,decide_true,Qab,Int.toNat_natCast,add1 (show k<4611686018427387904 by omega),ih,QaC (y:=tI) hk]
  simp only [QkT,Int.toNat_natCast,List.drop_eq_getElem_cons hk,List.contains_cons,ieq]
  have hc:(x1 == x0[k])=(x0[k] == x1):=Bool.beq_comm
  rw [hc]
  cases x0[k] == x1 <;> rfl
theorem QLw: ∀ S l p,QmE.L 0 (fgt QhB S)=some (true,l)→pickA l=some p→loopF (Qai QmE QhB QjC) S=some p:=
 QaB (s:=QpS) ⟨by decide,by decide⟩ (by kernel_rfl) fun x y hok p hp=>by
 simp only [Qap,Qam] at hp
 exact (QQt x.1 x.2.1 x.2.2.1 (by simpa using hok)).trans hp
theorem QXy:QyL.lok QmE:=by
 repeat (first | exact trivial | exact QLw | refine ⟨?_, ?_⟩)
theorem s_f104 (l:List Int)(n:Int)(h:Qa2 l n=true):QJ5 l n=some (.t .bool (hasF l n),[]):=by
 simp only [Qa2,decide_eq_true_eq] at h
 simp only [QJ5,Int.toNat_zero,List.drop_zero]
 rw [Qlg ⟨h,Int.le_refl 0,by omega⟩,Qab]
 unfold hasF
 cases l.contains n <;> rfl
def QHq:Ent:=spec (.pr (.sl tI) (.pr tI .nil)) (fun x=>(Qa2 x.1 x.2.1)) (fun x=>(.t .bool (hasF x.1 x.2.1)))
theorem QV9:Meets Tryz.prog 104 (strip QHq):=Qaf (R:=runF QmE QyL QIT false) (mG Tryz.func104 (by kernel_rfl) Tryz.ntmps104 (by kernel_rfl) QZf QXy) fun x hok=>(e_f104 x.1 x.2.1).trans (s_f104 x.1 x.2.1 hok)
theorem QXW (a b:Keep):(and (ieq a.1 b.1) (and (ieq a.2.1 b.2.1) true))=(a == b):=by
 obtain ⟨a1,a2,_⟩:=a
 obtain ⟨b1,b2,_⟩:=b
 show _=((a1 == b1)&&((a2 == b2)&&true))
 rfl
end
end Go.Proofs.YtckcgijklnloiaaGreat.K
namespace Go.Proofs.YtckcgijklnloiaaGreat.K
open Go.RowKit
noncomputable section
theorem Quu (a b:Int):ige a b= !ilt a b:=by
 simp only [ige,ilt]
 rw [Bool.eq_iff_iff]
 simp
theorem QAk (a b:Int):ile a b= !igt a b:=by
 simp only [ile,igt]
 rw [Bool.eq_iff_iff]
 simp
theorem QAj (a b:Int):ine a b= !ieq a b:=rfl
theorem brB {q r:Bool}{X:Option (V×List VO)}(h:X=some (.t .bool r,[])):br q (some (.t .bool false,[])) X=some (.t .bool (!q&&r),[]):=by
 subst h
 cases q <;> rfl
theorem brA {q r:Bool}{X:Option (V×List VO)}(h:X=some (.t .bool r,[])):br q X (some (.t .bool false,[]))=some (.t .bool (q&&r),[]):=by
 subst h
 cases q <;> rfl
theorem br9 {q v:Bool}{n:Int}{X:Option (V×List VO)}(h0:q=true→v=false)(hX:q=false→X=some (.t tI (bif v then 0 else n),[])):br q (some (.t tI n,[])) X=some (.t tI (bif v then 0 else n),[]):=by
 cases q with
 | true=>rw [Qab,h0 rfl]; rfl
 | false=>rw [Qae,hX rfl]
open Classical in
def samB {α:Type}(a b:α):Bool:=decide (a=b)
theorem QpW {α:Type}(a:α):samB a a=true:=by
 unfold samB
 simp
theorem Qzo {α:Type}{a b:α}(h:samB a b=true):a=b:=by
 unfold samB at h
 simpa using h
def keyI (n:Int):Bool:= !ilt n 0&& !igt n 2147483648
noncomputable def QyD:TC:=(.sq (.reg (rT Tryz.f121 0)) (.sq (.reg (rT Tryz.f121 1)) .rt))
def QIL:List (RV×Option Ty):=[((.t 2),some .bool)]
def QCL:G:=⟨TYs,[],9,EL [],keeps,(fun _ _=>none),IL [],RL []⟩
def QJZ (p0:Int):Option (V×List VO):=br (ige p0 0) (some (.t .bool (ile p0 2147483648),[])) (some (.t .bool false,[]))
theorem e_f121 (p0:Int):runF QCL QyD QIL false [.t tI p0] []=QJZ p0:=by kernel_rfl
theorem QAI:Qag Tryz.prog 121:= .inr ⟨by decide,_,Tryz.func121,by kernel_rfl,by kernel_rfl⟩
theorem QY7:GOk Tryz.prog QCL:=Qak _ (fun p hp=>by cases hp)
theorem QXq:QyD.lok QCL:=by repeat (first | exact trivial | refine ⟨?_, ?_⟩)
theorem s_f121 (n:Int):QJZ n=some (.t .bool (keyI n),[]):=by
 simp only [QJZ,Quu,QAk]
 exact brA rfl
def QsX:Ent:=spec (.pr tI .nil) (fun x=>true) (fun x=>(.t .bool (keyI x.1)))
theorem QzO:Meets Tryz.prog 121 (strip QsX):=Qaf (R:=runF QCL QyD QIL false) (mG Tryz.func121 (by kernel_rfl) Tryz.ntmps121 (by kernel_rfl) QY7 QXq) fun x _=>(e_f121 x.1).trans (s_f121 x.1)
def sumI (n:Int):Bool:= !ilt n 0&& !ige n 4294967296
noncomputable def Qx9:TC:=(.sq (.reg (rT Tryz.f165 0)) (.sq (.reg (rT Tryz.f165 1)) .rt))
def QIh:List (RV×Option Ty):=[((.t 2),some .bool)]
def QCq:G:=⟨TYs,[],9,EL [],keeps,(fun _ _=>none),IL [],RL []⟩
def QJG (p0:Int):Option (V×List VO):=br (ige p0 0) (some (.t .bool (ilt p0 4294967296),[])) (some (.t .bool false,[]))
theorem e_f165 (p0:Int):runF QCq Qx9 QIh false [.t tI p0] []=QJG p0:=by kernel_rfl
theorem QZK:Qag Tryz.prog 165:= .inr ⟨by decide,_,Tryz.func165,by kernel_rfl,by kernel_rfl⟩
theorem QYD:GOk Tryz.prog QCq:=Qak _ (fun p hp=>by cases hp)
theorem QWW:Qx9.lok QCq:=by repeat (first | exact trivial | refine ⟨?_, ?_⟩)
theorem s_f165 (n:Int):QJG n=some (.t .bool (sumI n),[]):=by
 simp only [QJG,sumI,Quu,Bool.not_not]
 exact brA rfl
def QGS:Ent:=spec (.pr tI .nil) (fun x=>true) (fun x=>(.t .bool (sumI x.1)))
theorem QVE:Meets Tryz.prog 165 (strip QGS):=Qaf (R:=runF QCq Qx9 QIh false) (mG Tryz.func165 (by kernel_rfl) Tryz.ntmps165 (by kernel_rfl) QYD QWW) fun x _=>(e_f165 x.1).trans (s_f165 x.1)
def Qdj (l:List ByteArray)(k:Nat):Bool:=(List.range' k (l.length - k)).all fun j=>QaT (l.getD j ByteArray.empty)&&(decide (j=0)||slt (l.getD (j - 1) ByteArray.empty) (l.getD j ByteArray.empty))
theorem Qsg (l:List ByteArray):Qdj l l.length=true:=by
 unfold Qdj
 rw [Nat.sub_self]
 rfl
theorem Qql {l:List ByteArray}{k:Nat}(hk:k<l.length):Qdj l k=((QaT l[k]&&(decide (k=0)||slt (l.getD (k - 1) ByteArray.empty) l[k]))&&Qdj l (k+1)):=by
 have:l.length - k=(l.length - (k+1))+1:=by omega
 unfold Qdj
 rw [this,List.range'_succ,List.all_cons]
 simp only [List.getD_eq_getElem?_getD,List.getElem?_eq_getElem hk,Option.getD_some]
def QeL (l:List ByteArray):Bool:=Qdj l 0&& !igt (llen l) 8
def Qb7 (l:List ByteArray):Bool:=decide (l.length≤100000)&&l.all nameG
def Qhm:Fg:=⟨[(0,some (.sl .str)),(5,some (.sl .str)),(6,some tI),(7,some tI)],[]⟩
noncomputable def Qjn:TC:=(.sq (.reg (rT Tryz.f163 2)) (.sq (.cd (.t 8) .sk (.fg ⟨[(0,some (.sl .str))],[]⟩ (.ex 0))) (.sq (.bk 1 (.sq (.reg (rT Tryz.f163 3)) (.sq (.reg (rT Tryz.f163 4)) (.cd (.t 27) (.sq (.reg (rT Tryz.f163 5)) (.fg ⟨[(2,some .bool)],[]⟩ .rt)) .sk)))) (.reg (rT Tryz.f163 6)))))
noncomputable def Qyb:TC:=(.sq (.reg (rT Tryz.f163 0)) (.sq (.sq (.reg (rT Tryz.f163 1)) (.bk 0 (.lp 0 Qhm Qjn))) (.sq (.reg (rT Tryz.f163 7)) .rt)))
def QIj:List (RV×Option Ty):=[((.t 2),some .bool)]
abbrev Qpy:Sh:=⟨[(0, .ty (.sl .str)),(5, .ty (.sl .str)),(6, .ty tI),(7, .ty tI)],[]⟩
def QjG (x0 x5:List ByteArray)(x6 x7:Int):VS:=Qpy.st (x0,x5,x6,x7,()) ()
abbrev Qtg:Sh:=⟨[(2, .ty .bool)],[]⟩
def QbL (x2:Bool):VS:=Qtg.st (x2,()) ()
abbrev QvH:Sh:=⟨[(0, .ty (.sl .str))],[]⟩
def Qes (x0:List ByteArray):VS:=QvH.st (x0,()) ()
def QSg:VS→Option (Bool×List (Bool×Exit×VS)):=mkL Qpy (fun x y=>(rngOk x.2.1 x.2.2.1 x.2.2.2.1&&samB x.1 x.2.1&&Qb7 x.2.1)) (fun x y=>[((!Qdj x.2.1 x.2.2.2.1.toNat), .ret,QbL (false)),(true, .exit 0,Qes (x.1))])
def Qmr:G:=⟨TYs,[],32,EL [(124,QsW)],keeps,(Ls [QSg]),IL [],RL []⟩
def QDy (x0 x5:List ByteArray)(x6 x7:Int):Option (Exit×VS):=
 let a1:=lgt .str x5 (Int.toNat x7)
 br (ilt x7 x6) (br (cIx x5 x7) (br (nameG a1) (br (!(QaT a1)) (some (.ret,QbL false)) (br (igt x7 0) (br (cIx x0 (isub .i64 x7 1)) (br (!slt (lgt .str x0 (Int.toNat (isub .i64 x7 1))) a1) (some (.ret,QbL false)) (some (.normal,QjG x0 x5 x6 (iadd .i64 x7 1)))) none) (some (.normal,QjG x0 x5 x6 (iadd .i64 x7 1))))) none) none) (some (.exit 0,Qes x0))
noncomputable def QgZ (x0 x5:List ByteArray)(x6 x7:Int):Option (Exit×VS):=loopF (Qai Qmr Qhm Qjn) (QjG x0 x5 x6 x7)
noncomputable def QnB (x0 x5:List ByteArray)(x6 x7:Int):Option (Exit×VS):=
 let a1:=lgt .str x5 (Int.toNat x7)
 br (ilt x7 x6) (br (cIx x5 x7) (br (nameG a1) (br (!(QaT a1)) (some (.ret,QbL false)) (br (igt x7 0) (br (cIx x0 (isub .i64 x7 1)) (br (!slt (lgt .str x0 (Int.toNat (isub .i64 x7 1))) a1) (some (.ret,QbL false)) (QgZ x0 x5 x6 (iadd .i64 x7 1))) none) (QgZ x0 x5 x6 (iadd .i64 x7 1)))) none) none) (some (.exit 0,Qes x0))
def QkF (x0 x5:List ByteArray)(x6 x7:Int):Option (Exit×VS):=br (!Qdj x5 x7.toNat) (some (.ret,QbL (false)))<|some (.exit 0,Qes (x0))
theorem QNX (x0 x5:List ByteArray)(x6 x7:Int):Qai Qmr Qhm Qjn (QjG x0 x5 x6 x7)=QDy x0 x5 x6 x7:=by kernel_rfl
theorem QwG (x0 x5:List ByteArray)(x6 x7:Int):QgZ x0 x5 x6 x7=QnB x0 x5 x6 x7:=(Qan _ _).trans (by
 rw [QNX]
 simp only [QDy,QnB,QaA,nxt_n,nxt_r,nxt_e,nxt_0]
 rfl)
def QJI (p0:List ByteArray):Option (V×List VO):=br (rngOk p0 (llen p0) (0:Int)&&samB p0 p0&&Qb7 p0) (br (!Qdj p0 (0:Int).toNat) (some (.t .bool (false),[])) (some (.t .bool (ile (llen (p0)) 8),[]))) none
theorem e_f163 (p0:List ByteArray):runF Qmr Qyb QIj false [.t (.sl .str) p0] []=QJI p0:=by kernel_rfl
theorem QZM:Qag Tryz.prog 163:= .inr ⟨by decide,_,Tryz.func163,by kernel_rfl,by kernel_rfl⟩
theorem QYF:GOk Tryz.prog Qmr:=Qak _ (gA (gC QAH QzN gN))
theorem QBX {l:List ByteArray}{k:Nat}(h:0<k)(hk:k<l.length):lgt .str l (Int.toNat (isub .i64 (k:Int) 1))=l.getD (k - 1) ByteArray.empty∧cIx l (isub .i64 (k:Int) 1)=decide (k - 1<l.length)∨4611686018427387904≤k:=by
 rcases Nat.lt_or_ge k 4611686018427387904 with hb | hb
 ·left
  have e:isub .i64 (k:Int) 1=((k - 1:Nat):Int):=by rw [Qbg (by omega)]; omega
  rw [e,Int.toNat_natCast,Qax]
  exact ⟨rfl,rfl⟩
 ·exact .inr hb
theorem QQe (x0 x5:List ByteArray)(x6 x7:Int)(h:(rngOk x5 x6 x7&&samB x0 x5&&Qb7 x5)=true):QgZ x0 x5 x6 x7=QkF x0 x5 x6 x7:=by
 simp only [Bool.and_eq_true] at h
 obtain ⟨⟨h0,hs⟩,hn⟩:=h
 have hs:=Qzo hs
 subst hs
 obtain ⟨rfl,h3,k,rfl,hk⟩:=rng_k h0
 clear h0
 simp only [Qb7,Bool.and_eq_true,List.all_eq_true] at hn
 refine Qat x0 (fun k=>QgZ x0 x0 (x0.length:Int) (k:Int)=QkF x0 x0 (x0.length:Int) (k:Int)) ?_ ?_ k hk
 ·rw [QwG]
  simp only [QnB,QkF,Qar,Nat.lt_irrefl,decide_false,Qae,Int.toNat_natCast,Qsg,Bool.not_true]
 ·intro k hk ih
  rw [QwG]
  have hx:=hn.2 x0[k] (List.getElem_mem hk)
  simp only [QnB,Qar,Qax,hk,decide_true,Qab,Int.toNat_natCast,add1 (show k<4611686018427387904 by omega),QaC (y:= .str) hk,hx,ih]
  simp only [QkF,Int.toNat_natCast,Qql hk]
  cases hg:QaT x0[k] with
  | false=>rfl
  | true=>
   simp only [Bool.not_true,Qae,Bool.true_and]
   by_cases h0:k=0
   ·subst h0
    simp only [show igt ((0:Nat):Int) 0=false from rfl,Qae,decide_true,Bool.true_or,Bool.true_and]
   ·rcases QBX (l:=x0) (k:=k) (by omega) hk with ⟨e1,e2⟩ | hb
    ·rw [show igt (k:Int) 0=true from decide_eq_true (by omega),Qab,e2,decide_eq_true (show k - 1<x0.length by omega),Qab,e1,decide_eq_false h0,Bool.false_or]
     cases slt (x0.getD (k - 1) ByteArray.empty) x0[k] <;> rfl
    ·omega
theorem QLh: ∀ S l p,Qmr.L 0 (fgt Qhm S)=some (true,l)→pickA l=some p→loopF (Qai Qmr Qhm Qjn) S=some p:=
 QaB (s:=Qpy) ⟨by decide,by decide⟩ (by kernel_rfl) fun x y hok p hp=>by
 simp only [Qap,Qam] at hp
 exact (QQe x.1 x.2.1 x.2.2.1 x.2.2.2.1 (by simpa using hok)).trans hp
theorem QWY:Qyb.lok Qmr:=by
 repeat (first | exact trivial | exact QLh | refine ⟨?_, ?_⟩)
theorem s_f163 (l:List ByteArray)(h:Qb7 l=true):QJI l=some (.t .bool (QeL l),[]):=by
 have hl:l.length≤100000:=by simp only [Qb7,Bool.and_eq_true,decide_eq_true_eq] at h; exact h.1
 simp only [QJI,rng_0 hl,QpW,h,Bool.and_self,Qab,Int.toNat_zero,QAk,QeL]
 cases Qdj l 0 <;> rfl
def QGU:Ent:=spec (.pr (.sl .str) .nil) (fun x=>(Qb7 x.1)) (fun x=>(.t .bool (QeL x.1)))
theorem QVG:Meets Tryz.prog 163 (strip QGU):=Qaf (R:=runF Qmr Qyb QIj false) (mG Tryz.func163 (by kernel_rfl) Tryz.ntmps163 (by kernel_rfl) QYF QWY) fun x hok=>(e_f163 x.1).trans (s_f163 x.1 hok)
def kindU (u:Keep)(k:Int):Bool:=Qby u&&ieq (kindF u.1) k
noncomputable def Qya:TC:=(.sq (.reg (rT Tryz.f164 0)) (.sq (.reg (rT Tryz.f164 1)) .rt))
def QIi:List (RV×Option Ty):=[((.t 4),some .bool)]
def QCr:G:=⟨TYs,[],14,EL [(125,QsV),(155,QsU)],keeps,(fun _ _=>none),IL [],RL []⟩
def QJH (p0:Keep)(p1:Int):Option (V×List VO):=br (Qby p0) (some (.t .bool (ieq (kindF p0.1) p1),[])) (some (.t .bool false,[]))
theorem e_f164 (p0:Keep)(p1:Int):runF QCr Qya QIi false [.t Qah p0, .t tI p1] []=QJH p0 p1:=by kernel_rfl
theorem QZL:Qag Tryz.prog 164:= .inr ⟨by decide,_,Tryz.func164,by kernel_rfl,by kernel_rfl⟩
theorem QYE:GOk Tryz.prog QCr:=Qak _ (gA (gC QAG QzM (gC QAE QzK gN)))
theorem QWX:Qya.lok QCr:=by repeat (first | exact trivial | refine ⟨?_, ?_⟩)
theorem s_f164 (u:Keep)(k:Int):QJH u k=some (.t .bool (kindU u k),[]):=by
 simp only [QJH]
 exact brA rfl
def QGT:Ent:=spec (.pr Qah (.pr tI .nil)) (fun x=>true) (fun x=>(.t .bool (kindU x.1 x.2.1)))
theorem QVF:Meets Tryz.prog 164 (strip QGT):=Qaf (R:=runF QCr Qya QIi false) (mG Tryz.func164 (by kernel_rfl) Tryz.ntmps164 (by kernel_rfl) QYE QWX) fun x _=>(e_f164 x.1 x.2.1).trans (s_f164 x.1 x.2.1)
def signU (u:Keep):Bool:=kindU u 2
noncomputable def Qyl:TC:=(.sq (.reg (rT Tryz.f145 0)) (.sq (.reg (rT Tryz.f145 1)) .rt))
def QIt:List (RV×Option Ty):=[((.t 2),some .bool)]
def QCz:G:=⟨TYs,[],11,EL [(70,QGj),(147,QyY)],keeps,(fun _ _=>none),IL [],RL []⟩
def QJO (p0:Keep):Option (V×List VO):=br (Qby p0) (some (.t .bool (ieq (kindF p0.1) 2),[])) (some (.t .bool false,[]))
theorem e_f145 (p0:Keep):runF QCz Qyl QIt false [.t Qah p0] []=QJO p0:=by kernel_rfl
theorem QZU:Qag Tryz.prog 145:= .inr ⟨by decide,_,Tryz.func145,by kernel_rfl,by kernel_rfl⟩
theorem QYP:GOk Tryz.prog QCz:=Qak _ (gA (gC QUt QUa (gC QMQ QKM gN)))
theorem QW8:Qyl.lok QCz:=by repeat (first | exact trivial | refine ⟨?_, ?_⟩)
theorem s_f145 (u:Keep):QJO u=some (.t .bool (signU u),[]):=by
 simp only [QJO]
 exact brA rfl
def QG3:Ent:=spec (.pr Qah .nil) (fun x=>true) (fun x=>(.t .bool (signU x.1)))
theorem QVO:Meets Tryz.prog 145 (strip QG3):=Qaf (R:=runF QCz Qyl QIt false) (mG Tryz.func145 (by kernel_rfl) Tryz.ntmps145 (by kernel_rfl) QYP QW8) fun x _=>(e_f145 x.1).trans (s_f145 x.1)
abbrev QaF (c:Qaa):List ByteArray:=c.2.2.2.2.2.2.2.2.2.2.1
abbrev cSeal (c:Qaa):Keep:=c.2.2.2.2.2.2.2.2.2.2.2.1
def QaG (c:Qaa):Bool:=nameG c.2.1&&(nameG c.2.2.1&&Qb7 (QaF c))
def QaD (c:Qaa):Bool:=
 !ilt c.1 0&&(!igt c.1 1099511627776&&(QaT c.2.1&&(QaT c.2.2.1&&(QeL (QaF c)&&(kindU c.2.2.2.1 2&&(keyI c.2.2.2.2.1&&(kindU c.2.2.2.2.2.1 1&&(keyI (cSeal c).1&&(sumI (cSeal c).2.1&&
 (!ilt c.2.2.2.2.2.2.1 0&&(!igt c.2.2.2.2.2.2.1 c.2.2.2.2.2.2.2.1&&(!igt c.2.2.2.2.2.2.2.1 40000&&(!ilt c.2.2.2.2.2.2.2.2.2.1 0&&(!igt c.2.2.2.2.2.2.2.2.2.1 8&&(c.2.2.2.2.2.2.2.2.1||ieq c.2.2.2.2.2.2.2.2.2.1 0)))))))))))))))
noncomputable def Qys:TC:=(.sq (.reg (rT Tryz.f138 0)) (.sq (.sq (.reg (rT Tryz.f138 1)) (.cd (.t 28) (.sq (.reg (rT Tryz.f138 2)) .rt) .sk)) (.sq (.sq (.reg (rT Tryz.f138 3)) (.cd (.t 58) (.sq (.reg (rT Tryz.f138 4)) .rt) .sk)) (.sq (.sq (.reg (rT Tryz.f138 5)) (.cd (.t 73) (.sq (.reg (rT Tryz.f138 6)) .rt) .sk)) (.sq (.reg (rT Tryz.f138 7)) .rt)))))
def QIA:List (RV×Option Ty):=[((.t 2),some .bool)]
def QCE:G:=⟨TYs,[],91,EL [(121,QsX),(124,QsW),(163,QGU),(164,QGT),(165,QGS)],keeps,(fun _ _=>none),IL [],RL []⟩
def QJU (p0:Qaa):Option (V×List VO):=br (ilt p0.1 0) (some (.t .bool false,[])) (br (igt p0.1 1099511627776) (some (.t .bool false,[])) (br (nameG p0.2.1) (br (!(QaT p0.2.1)) (some (.t .bool false,[])) (br (nameG p0.2.2.1) (br (!(QaT p0.2.2.1)) (some (.t .bool false,[])) (br (Qb7 p0.2.2.2.2.2.2.2.2.2.2.1) (br (!(QeL p0.2.2.2.2.2.2.2.2.2.2.1)) (some (.t .bool false,[])) (br (!(kindU p0.2.2.2.1 2)) (some (.t .bool false,[])) (br (!(keyI p0.2.2.2.2.1)) (some (.t .bool false,[])) (br (!(kindU p0.2.2.2.2.2.1 1)) (some (.t .bool false,[])) (br (!(keyI p0.2.2.2.2.2.2.2.2.2.2.2.1.1)) (some (.t .bool false,[])) (br (!(sumI p0.2.2.2.2.2.2.2.2.2.2.2.1.2.1)) (some (.t .bool false,[])) (br (ilt p0.2.2.2.2.2.2.1 0) (some (.t .bool false,[])) (br (igt p0.2.2.2.2.2.2.1 p0.2.2.2.2.2.2.2.1) (some (.t .bool false,[])) (br (igt p0.2.2.2.2.2.2.2.1 40000) (some (.t .bool false,[])) (br (ige p0.2.2.2.2.2.2.2.2.2.1 0) (br (ile p0.2.2.2.2.2.2.2.2.2.1 8) (br (p0.2.2.2.2.2.2.2.2.1) (some (.t .bool true,[])) (some (.t .bool (ieq p0.2.2.2.2.2.2.2.2.2.1 0),[]))) (some (.t .bool false,[]))) (some (.t .bool false,[])))))))))))) none)) none)) none))
theorem e_f138 (p0:Qaa):runF QCE Qys QIA false [.t Qac p0] []=QJU p0:=by kernel_rfl
theorem QMS:Qag Tryz.prog 138:= .inr ⟨by decide,_,Tryz.func138,by kernel_rfl,by kernel_rfl⟩
theorem QYW:GOk Tryz.prog QCE:=Qak _ (gA (gC QAI QzO (gC QAH QzN (gC QZM QVG (gC QZL QVF (gC QZK QVE gN))))))
theorem QXf:Qys.lok QCE:=by repeat (first | exact trivial | refine ⟨?_, ?_⟩)
theorem s_f138 (c:Qaa)(h:QaG c=true):QJU c=some (.t .bool (QaD c),[]):=by
 simp only [QaG,Bool.and_eq_true] at h
 obtain ⟨h1,h2,h3⟩:=h
 simp only [QJU,h1,h2,h3,Qab,Quu,QAk]
 refine (brB<|brB<|brB<|brB<|brB<|brB<|brB<|brB<|brB<|brB<|brB<|brB<|brB<|brA<|brA (r:=c.2.2.2.2.2.2.2.2.1||ieq c.2.2.2.2.2.2.2.2.2.1 0) ?_).trans ?_
 ·cases c.2.2.2.2.2.2.2.2.1 <;> rfl
 ·simp only [Bool.not_not,QaD]
def Qy0:Ent:=spec (.pr Qac .nil) (fun x=>(QaG x.1)) (fun x=>(.t .bool (QaD x.1)))
theorem QKO:Meets Tryz.prog 138 (strip Qy0):=Qaf (R:=runF QCE Qys QIA false) (mG Tryz.func138 (by kernel_rfl) Tryz.ntmps138 (by kernel_rfl) QYW QXf) fun x hok=>(e_f138 x.1).trans (s_f138 x.1 hok)
def Qfl (c:Qaa):Int:=bif QaD c then 0 else 9
theorem QhE (c:Qaa):ine (Qfl c) 0= !QaD c:=by
 unfold Qfl
 cases QaD c <;> rfl
noncomputable def QFs:TC:=(.sq (.reg (rT Tryz.f96 0)) (.sq (.sq (.reg (rT Tryz.f96 1)) (.cd (.t 5) (.sq (.reg (rT Tryz.f96 2)) .rt) .sk)) (.sq (.reg (rT Tryz.f96 3)) .rt)))
def QS5:List (RV×Option Ty):=[((.t 2),some tI)]
def g_f96:G:=⟨TYs,[],6,EL [(138,Qy0)],keeps,(fun _ _=>none),IL [],RL []⟩
def r_f96 (p0:Qaa):Option (V×List VO):=br (QaG p0) (br (!(QaD p0)) (some (.t tI 9,[])) (some (.t tI 0,[]))) none
theorem e_f96 (p0:Qaa):runF g_f96 QFs QS5 false [.t Qac p0] []=r_f96 p0:=by kernel_rfl
theorem QUo:Qag Tryz.prog 96:= .inr ⟨by decide,_,Tryz.func96,by kernel_rfl,by kernel_rfl⟩
theorem gk_f96:GOk Tryz.prog g_f96:=Qak _ (gA (gC QMS QKO gN))
theorem lk_f96:QFs.lok g_f96:=by repeat (first | exact trivial | refine ⟨?_, ?_⟩)
theorem s_f96 (c:Qaa)(h:QaG c=true):r_f96 c=some (.t tI (Qfl c),[]):=by
 simp only [r_f96,h,Qab,Qfl]
 cases QaD c <;> rfl
def QGe:Ent:=spec (.pr Qac .nil) (fun x=>(QaG x.1)) (fun x=>(.t tI (Qfl x.1)))
theorem QT5:Meets Tryz.prog 96 (strip QGe):=Qaf (R:=runF g_f96 QFs QS5 false) (mG Tryz.func96 (by kernel_rfl) Tryz.ntmps96 (by kernel_rfl) gk_f96 lk_f96) fun x hok=>(e_f96 x.1).trans (s_f96 x.1 hok)
noncomputable def QNa:List DO:=dT Tryz.f130 9
def Qht:Fg:=⟨[(1,none),(3,some tI)],[(1,some Qac)]⟩
noncomputable def Qju:TC:=(.sq (.sq (.reg (rT Tryz.f130 8)) (.cd (.t 96) .sk (.fg ⟨[(1,none)],[(1,some Qac)]⟩ (.ex 0)))) (.sq (.bk 1 (.sq (.dr QNa [(0,[1]),(1,[1]),(2,[]),(3,[]),(4,[]),(5,[]),(6,[]),(7,[]),(8,[]),(9,[]),(10,[]),(11,[1]),(12,[1]),(13,[]),(14,[]),(15,[]),(16,[]),(17,[1]),(18,[1]),(19,[]),(20,[]),(21,[]),(22,[]),(23,[]),(24,[])] (.of [0,1,2,3,4,5,6,7,8,9,10,11,12,13,14,15,16,17,18,19,20,21,22,23,24])) (.cd (.t 123) (.sq (.reg (rT Tryz.f130 10)) (.fg ⟨[(2,some tI)],[]⟩ .rt)) .sk))) (.reg (rT Tryz.f130 11))))
noncomputable def Qyw:TC:=(.sq (.reg (rT Tryz.f130 0)) (.sq (.sq (.reg (rT Tryz.f130 1)) (.cd (.t 39) (.sq (.reg (rT Tryz.f130 2)) .rt) .sk)) (.sq (.sq (.reg (rT Tryz.f130 3)) (.cd (.t 67) (.sq (.reg (rT Tryz.f130 4)) .rt) .sk)) (.sq (.sq (.reg (rT Tryz.f130 5)) (.cd (.t 91) (.sq (.reg (rT Tryz.f130 6)) .rt) .sk)) (.sq (.sq (.reg (rT Tryz.f130 7)) (.bk 0 (.lp 0 Qht Qju))) (.sq (.sq (.reg (rT Tryz.f130 12)) (.cd (.t 145) (.sq (.reg (rT Tryz.f130 13)) .rt) .sk)) (.sq (.reg (rT Tryz.f130 14)) .rt)))))))
def QIE:List (RV×Option Ty):=[((.t 2),some tI)]
abbrev QpI:Sh:=⟨[(1, .ptr 1 0),(3, .ty tI)],[(1, .box Qac)]⟩
def QjH (x3:Int)(y1:Qaa):VS:=QpI.st ((),x3,()) (y1,())
abbrev Qtl:Sh:=⟨[(2, .ty tI)],[]⟩
def QbN (x2:Int):VS:=Qtl.st (x2,()) ()
abbrev QvO:Sh:=⟨[(1, .ptr 1 0)],[(1, .box Qac)]⟩
def Qez (y1:Qaa):VS:=QvO.st ((),()) (y1,())
def QSn:VS→Option (Bool×List (Bool×Exit×VS)):=mkL QpI (fun x y=>(decide (0≤x.2.1∧x.2.1≤(QaF y.1).length)&&Qb7 (QaF y.1))) (fun x y=>[((!Qdj (QaF y.1) x.2.1.toNat), .ret,QbN (9)),(true, .exit 0,Qez (y.1))])
def Qmy:G:=⟨TYs,[],146,EL [(70,QGj),(145,QG3),(146,QG2),(147,QyY)],keeps,(Ls [QSn]),IL [],RL []⟩
def QDF (x3:Int)(y1:Qaa):Option (Exit×VS):=
 let a1:=lgt .str y1.2.2.2.2.2.2.2.2.2.2.1 (Int.toNat x3)
 let a2:=cIx y1.2.2.2.2.2.2.2.2.2.2.1 x3
 br (ilt x3 (llen y1.2.2.2.2.2.2.2.2.2.2.1)) (br a2 (br (nameG a1) (br (!(QaT a1)) (some (.ret,QbN 9)) (br (igt x3 0) (br (cIx y1.2.2.2.2.2.2.2.2.2.2.1 (isub .i64 x3 1)) (br a2 (br (!slt (lgt .str y1.2.2.2.2.2.2.2.2.2.2.1 (Int.toNat (isub .i64 x3 1))) a1) (some (.ret,QbN 9)) (some (.normal,QjH (iadd .i64 x3 1) y1))) none) none) (some (.normal,QjH (iadd .i64 x3 1) y1)))) none) none) (some (.exit 0,Qez y1))
noncomputable def Qg0 (x3:Int)(y1:Qaa):Option (Exit×VS):=loopF (Qai Qmy Qht Qju) (QjH x3 y1)
noncomputable def QnH (x3:Int)(y1:Qaa):Option (Exit×VS):=
 let a1:=lgt .str y1.2.2.2.2.2.2.2.2.2.2.1 (Int.toNat x3)
 let a2:=cIx y1.2.2.2.2.2.2.2.2.2.2.1 x3
 br (ilt x3 (llen y1.2.2.2.2.2.2.2.2.2.2.1)) (br a2 (br (nameG a1) (br (!(QaT a1)) (some (.ret,QbN 9)) (br (igt x3 0) (br (cIx y1.2.2.2.2.2.2.2.2.2.2.1 (isub .i64 x3 1)) (br a2 (br (!slt (lgt .str y1.2.2.2.2.2.2.2.2.2.2.1 (Int.toNat (isub .i64 x3 1))) a1) (some (.ret,QbN 9)) (Qg0 (iadd .i64 x3 1) y1)) none) none) (Qg0 (iadd .i64 x3 1) y1))) none) none) (some (.exit 0,Qez y1))
def QkL (x3:Int)(y1:Qaa):Option (Exit×VS):=br (!Qdj (QaF y1) x3.toNat) (some (.ret,QbN (9)))<|some (.exit 0,Qez (y1))
theorem QN4 (x3:Int)(y1:Qaa):Qai Qmy Qht Qju (QjH x3 y1)=QDF x3 y1:=by kernel_rfl
theorem QwN (x3:Int)(y1:Qaa):Qg0 x3 y1=QnH x3 y1:=(Qan _ _).trans (by
 rw [QN4]
 simp only [QDF,QnH,QaA,nxt_n,nxt_r,nxt_e,nxt_0]
 rfl)
def QtU (p0:Qaa):Option (V×List VO):=
 let a1:=(((((((((((((p0).2).2).2).2).2).2).2).2).2).2).2).1)
 br (igt (llen p0.2.2.2.2.2.2.2.2.2.2.1) 8) (some (.t tI 9,[])) (br (decide (0≤(0:Int)∧(0:Int)≤(QaF p0).length)&&Qb7 (QaF p0)) (br (!Qdj (QaF p0) (0:Int).toNat) (some (.t tI (9),[])) (br (ilt (a1.1) 0) (some (.t tI 9,[])) (br (igt (a1.1) 2147483648) (some (.t tI 9,[])) (br (ilt ((a1.2).1) 0) (some (.t tI 9,[])) (br (ige ((a1.2).1) 4294967296) (some (.t tI 9,[])) (some (.t tI 0,[]))))))) none)
def QJW (p0:Qaa):Option (V×List VO):=br (ilt p0.1 0) (some (.t tI 9,[])) (br (igt p0.1 1099511627776) (some (.t tI 9,[])) (br (nameG p0.2.1) (br (!(QaT p0.2.1)) (some (.t tI 9,[])) (br (nameG p0.2.2.1) (br (!(QaT p0.2.2.1)) (some (.t tI 9,[])) (br (!(signU p0.2.2.2.1)) (some (.t tI 9,[])) (br (ilt p0.2.2.2.2.1 0) (some (.t tI 9,[])) (br (igt p0.2.2.2.2.1 2147483648) (some (.t tI 9,[])) (br (!(Qby p0.2.2.2.2.2.1)) (some (.t tI 9,[])) (br (ine (kindF p0.2.2.2.2.2.1.1) 1) (some (.t tI 9,[])) (br (ilt p0.2.2.2.2.2.2.1 0) (some (.t tI 9,[])) (br (igt p0.2.2.2.2.2.2.1 p0.2.2.2.2.2.2.2.1) (some (.t tI 9,[])) (br (igt p0.2.2.2.2.2.2.2.1 40000) (some (.t tI 9,[])) (br (ilt p0.2.2.2.2.2.2.2.2.2.1 0) (some (.t tI 9,[])) (br (igt p0.2.2.2.2.2.2.2.2.2.1 8) (some (.t tI 9,[])) (br (!p0.2.2.2.2.2.2.2.2.1) (br (ine p0.2.2.2.2.2.2.2.2.2.1 0) (some (.t tI 9,[])) (QtU p0)) (QtU p0))))))))))))) none)) none))
theorem e_f130 (p0:Qaa):runF Qmy Qyw QIE false [.t Qac p0] []=QJW p0:=by kernel_rfl
theorem QMT:Qag Tryz.prog 130:= .inr ⟨by decide,_,Tryz.func130,by kernel_rfl,by kernel_rfl⟩
theorem QY0:GOk Tryz.prog Qmy:=Qak _ (gA (gC QUt QUa (gC QZU QVO (gC QZT QVN (gC QMQ QKM gN)))))
theorem QQl (x3:Int)(y1:Qaa)(h:(decide (0≤x3∧x3≤(QaF y1).length)&&Qb7 (QaF y1))=true):Qg0 x3 y1=QkL x3 y1:=by
 simp only [Bool.and_eq_true,decide_eq_true_eq] at h
 obtain ⟨⟨h0,h1⟩,hn⟩:=h
 obtain ⟨k,rfl⟩:=Int.eq_ofNat_of_zero_le h0
 simp only [Qb7,Bool.and_eq_true,List.all_eq_true,decide_eq_true_eq] at hn
 refine Qat (QaF y1) (fun k=>Qg0 (k:Int) y1=QkL (k:Int) y1) ?_ ?_ k (by omega)
 ·rw [QwN]
  simp only [QnH,QkL,show ilt ((QaF y1).length:Int) (llen (QaF y1))=false from decide_eq_false (by simp only [llen]; omega),Qae,Int.toNat_natCast,Qsg,Bool.not_true]
 ·intro k hk ih
  rw [QwN]
  have hx:=hn.2 (QaF y1)[k] (List.getElem_mem hk)
  simp only [QnH,show ilt (k:Int) (llen (QaF y1))=true from decide_eq_true (by simp only [llen]; omega),Qax,hk,decide_true,Qab,Int.toNat_natCast,add1 (show k<4611686018427387904 by omega),QaC (y:= .str) hk,hx,ih]
  simp only [QkL,Int.toNat_natCast,Qql hk]
  cases hg:QaT (QaF y1)[k] with
  | false=>rfl
  | true=>
   simp only [Bool.not_true,Qae,Bool.true_and]
   by_cases h0:k=0
   ·subst h0
    simp only [show igt ((0:Nat):Int) 0=false from rfl,Qae,decide_true,Bool.true_or,Bool.true_and]
   ·rcases QBX (l:=QaF y1) (k:=k) (by omega) hk with ⟨e1,e2⟩ | hb
    ·rw [show igt (k:Int) 0=true from decide_eq_true (by omega),Qab,e2,decide_eq_true (show k - 1<(QaF y1).length by omega),Qab,e1,decide_eq_false h0,Bool.false_or]
     cases slt ((QaF y1).getD (k - 1) ByteArray.empty) (QaF y1)[k] <;> rfl
    ·omega
theorem QLo: ∀ S l p,Qmy.L 0 (fgt Qht S)=some (true,l)→pickA l=some p→loopF (Qai Qmy Qht Qju) S=some p:=
 QaB (s:=QpI) ⟨by decide,by decide⟩ (by kernel_rfl) fun x y hok p hp=>by
 simp only [Qap,Qam] at hp
 exact (QQl x.2.1 y.1 (by simpa using hok)).trans hp
theorem QXj:Qyw.lok Qmy:=by
 repeat (first | exact trivial | exact QLo | refine ⟨?_, ?_⟩)
theorem s_f130 (c:Qaa)(h:QaG c=true):QJW c=some (.t tI (Qfl c),[]):=by
 simp only [QaG,Bool.and_eq_true] at h
 obtain ⟨h1,h2,h3⟩:=h
 have hd:decide ((0:Int)≤0∧(0:Int)≤(QaF c).length)=true:=decide_eq_true (by omega)
 unfold Qfl
 simp only [QJW,QtU,h1,h2,h3,hd,Bool.and_self,Qab,Int.toNat_zero,QAj]
 refine br9 (fun g=>by simp [QaD,g]) fun g1=>br9 (fun g=>by simp [QaD,g]) fun g2=>br9 (fun g=>by simp only [Bool.not_eq_true'] at g; simp [QaD,g]) fun g3=>br9 (fun g=>by simp only [Bool.not_eq_true'] at g; simp [QaD,g]) fun g4=>br9 (fun g=>by simp only [Bool.not_eq_true',signU] at g; simp [QaD,g]) fun g5=>br9 (fun g=>by simp [QaD,keyI,g]) fun g6=>br9 (fun g=>by simp [QaD,keyI,g]) fun g7=>br9 (fun g=>by simp only [Bool.not_eq_true'] at g; simp [QaD,kindU,g]) fun g8=>br9 (fun g=>by simp only [Bool.not_eq_true'] at g; simp [QaD,kindU,g]) fun g9=>br9 (fun g=>by simp [QaD,g]) fun g10=>br9 (fun g=>by simp [QaD,g]) fun g11=>br9 (fun g=>by simp [QaD,g]) fun g12=>br9 (fun g=>by simp [QaD,g]) fun g13=>br9 (fun g=>by simp [QaD,g]) fun g14=> ?_
 have tail: ∀ (hp:(c.2.2.2.2.2.2.2.2.1||ieq c.2.2.2.2.2.2.2.2.2.1 0)=true),br (igt (llen (QaF c)) 8) (some (V.t tI 9,([]:List VO))) (br (!Qdj (QaF c) 0) (some (V.t tI 9,[])) (br (ilt (cSeal c).1 0) (some (V.t tI 9,[])) (br (igt (cSeal c).1 2147483648) (some (V.t tI 9,[])) (br (ilt (cSeal c).2.1 0) (some (V.t tI 9,[])) (br (ige (cSeal c).2.1 4294967296) (some (V.t tI 9,[])) (some (V.t tI 0,[])))))))=some (V.t tI (bif QaD c then 0 else 9),([]:List VO)):=by
  intro hp
  refine br9 (fun g=>by simp [QaD,QeL,g]) fun g15=>br9 (fun g=>by simp only [Bool.not_eq_true'] at g; simp [QaD,QeL,g]) fun g16=>br9 (fun g=>by simp [QaD,keyI,g]) fun g17=>br9 (fun g=>by simp [QaD,keyI,g]) fun g18=>br9 (fun g=>by simp [QaD,sumI,g]) fun g19=>br9 (fun g=>by simp [QaD,sumI,g]) fun g20=> ?_
  simp only [Bool.not_eq_false'] at g3 g4 g5 g8 g9 g16
  simp only [signU] at g5
  have:QaD c=true:=by
   simp only [QaD,QeL,kindU,keyI,sumI,g1,g2,g3,g4,g6,g7,g8,g9,g10,g11,g12,g13,g14,g15,g16,g17,g18,g19,g20,hp,Bool.not_false,Bool.and_self,Bool.true_and]
   simpa only [kindU,Bool.and_true] using g5
  rw [this]
  rfl
 cases ha:c.2.2.2.2.2.2.2.2.1 with
 | true=>
  rw [Bool.not_true,Qae]
  exact tail (by rw [ha]; rfl)
 | false=>
  rw [Bool.not_false,Qab]
  refine br9 (fun g=>by simp only [Bool.not_eq_true'] at g; simp [QaD,ha,g]) fun g=> ?_
  exact tail (by simp only [Bool.not_eq_false'] at g; rw [g,Bool.or_true])
def Qy1:Ent:=spec (.pr Qac .nil) (fun x=>(QaG x.1)) (fun x=>(.t tI (Qfl x.1)))
theorem QKP:Meets Tryz.prog 130 (strip Qy1):=Qaf (R:=runF Qmy Qyw QIE false) (mG Tryz.func130 (by kernel_rfl) Tryz.ntmps130 (by kernel_rfl) QY0 QXj) fun x hok=>(e_f130 x.1).trans (s_f130 x.1 hok)
end
end Go.Proofs.YtckcgijklnloiaaGreat.K
namespace Go.Proofs.YtckcgijklnloiaaGreat.K
open Go.RowKit
noncomputable section
theorem QT4 (n:Int):(intL n).length≤8:=by
 rw [intL,Qrv]
 exact Qwk n
theorem QiU (n:Nat)(m:Int):okT (n+1) (intT m)=true:=by
 have:=QT4 m
 show okV (n+1) (.mk 2 (intL m) false [])=true
 simp only [okV,List.isEmpty_nil,cond_false,List.all_nil,Bool.and_true,List.length_nil]
 rw [decide_eq_true (by omega)]
 rfl
theorem QtZ (n:Nat){s:ByteArray}(h:s.size≤100000):okT (n+1) (txtT s)=true:=by
 have:=QdL s
 show okV (n+1) (.mk 12 (QaI s) false [])=true
 simp only [okV,List.isEmpty_nil,cond_false,List.all_nil,Bool.and_true,List.length_nil]
 rw [decide_eq_true (by omega)]
 rfl
theorem QPg (n:Nat)(b:Bool):okT (n+1) (boolT b)=true:=by cases b <;> rfl
theorem QzB {n:Nat}{l:List ValT}(hl:l.length≤100000)(h: ∀ x ∈ l,okT n x=true):okT (n+1) (lstT l)=true:=by
 show okV (n+1) (.mk 48 [] true (l.map Val.of))=true
 simp only [okV,List.isEmpty_nil,cond_true,Bool.and_true,List.length_nil,List.length_map,Bool.and_eq_true,List.all_eq_true,List.mem_map]
 refine ⟨⟨⟨rfl,rfl⟩,decide_eq_true ⟨by omega,hl⟩⟩, ?_⟩
 rintro v ⟨x,hx,rfl⟩
 exact h x hx
theorem Qrq {n:Nat}{l:List ValT}(hl:l.length≤100000)(h: ∀ x ∈ l,okT n x=true):copLF (n+1) l=true:=by
 simp only [copLF,Bool.and_eq_true,decide_eq_true_eq,List.all_eq_true]
 exact ⟨hl,h⟩
theorem Qlo (x:ValT):((x.1,(x.2.1,(x.2.2.1,(List.map Val.of (List.map Val.un x.2.2.2.1),())))):ValT)=x:=by
 rw [QcZ]
theorem QiX (m:Int):(encT (intT m)).length≤18:=by
 have h1:=QT4 m
 have h2:=Qh0 ((intL m).length+0)
 rw [Qrc]
 simp only [intT,encVs,List.length_cons,List.length_append,List.length_nil]
 omega
theorem QAy (s:ByteArray):(encT (txtT s)).length≤10+s.size:=by
 have h1:=QdL s
 have h2:=Qh0 ((QaI s).length+0)
 rw [Qrc]
 simp only [txtT,encVs,List.length_cons,List.length_append,List.length_nil]
 omega
theorem QQR (b:Bool):(encT (boolT b)).length≤11:=by cases b <;> decide
theorem QAz (l:List ValT):(encT (lstT l)).length≤10+(encL l).length:=by
 have h2:=Qh0 (0+(encVs (l.map Val.of)).length)
 rw [Qrc]
 simp only [lstT,encL,List.length_cons,List.length_append,List.length_nil]
 omega
def useT (u:Keep):ValT:=lstT [intT u.1,intT u.2.1]
def Qd4 (u:Keep):Bool:=i64Ok u.1&&i64Ok u.2.1
theorem QKi (n:Nat)(u:Keep):okT (n+2) (useT u)=true:=
 QzB (by simp) fun x hx=>by
  simp only [List.mem_cons,List.not_mem_nil,or_false] at hx
  rcases hx with rfl | rfl <;> exact QiU _ _
theorem QMo (u:Keep):(encT (useT u)).length≤46:=by
 have h0:=QAz [intT u.1,intT u.2.1]
 have h1:=QiX u.1
 have h2:=QiX u.2.1
 simp only [Qcw,Qic,List.length_append,List.length_nil] at h0
 unfold useT
 omega
theorem QFl (u:Keep):copOk [intT u.1,intT u.2.1]=true:=
 Qrq (n:=11) (by simp) fun x hx=>by
  simp only [List.mem_cons,List.not_mem_nil,or_false] at hx
  rcases hx with rfl | rfl <;> exact QiU _ _
noncomputable def QM2:List DO:=dT Tryz.f225 1
noncomputable def QxF:TC:=(.sq (.reg (rT Tryz.f225 0)) (.sq (.dr QM2 [(0,[1]),(1,[1]),(2,[]),(3,[1]),(4,[1]),(5,[]),(6,[]),(7,[]),(8,[2])] (.of [0,1,2,3,4,5,6,7,8])) .rt))
def QHN:List (RV×Option Ty):=[((.c 2 true 4),some Qaj)]
def QB8:G:=⟨TYs,[],11,EL [(223,QsT),(224,QyT)],keeps,(fun _ _=>none),IL [],RL []⟩
def QJh (p0:Keep):Option (V×List VO):=
 let a1:=((intT p0.2.1).1,(((intT p0.2.1).2).1,((((intT p0.2.1).2).2).1,((List.map Val.of (List.map Val.un (((((intT p0.2.1).2).2).2).1))),()))))
 let a2:=((intT p0.1).1,(((intT p0.1).2).1,((((intT p0.1).2).2).1,((List.map Val.of (List.map Val.un (((((intT p0.1).2).2).2).1))),()))))
 br (i64Ok p0.1) (br (i64Ok p0.2.1) (br (copOk ([a2,a1])) (some (.t Qaj (lstT ([a2,a1])),[])) none) none) none
theorem e_f225 (p0:Keep):runF QB8 QxF QHN false [.t Qah p0] []=QJh p0:=by kernel_rfl
theorem QZr:Qag Tryz.prog 225:= .inr ⟨by decide,_,Tryz.func225,by kernel_rfl,by kernel_rfl⟩
theorem QX9:GOk Tryz.prog QB8:=Qak _ (gA (gC QAC QzI (gC QMF QKH gN)))
theorem QWs:QxF.lok QB8:=by repeat (first | exact trivial | refine ⟨?_, ?_⟩)
theorem s_f225 (u:Keep)(h:Qd4 u=true):QJh u=some (.t Qaj (useT u),[]):=by
 simp only [Qd4,Bool.and_eq_true] at h
 simp only [QJh,h.1,h.2,Qlo,QFl,Qab]
 rfl
def QGt:Ent:=spec (.pr Qah .nil) (fun x=>(Qd4 x.1)) (fun x=>(.t Qaj (useT x.1)))
theorem QVf:Meets Tryz.prog 225 (strip QGt):=Qaf (R:=runF QB8 QxF QHN false) (mG Tryz.func225 (by kernel_rfl) Tryz.ntmps225 (by kernel_rfl) QX9 QWs) fun x hok=>(e_f225 x.1).trans (s_f225 x.1 hok)
noncomputable def QM4:List DO:=dT Tryz.f188 1
noncomputable def QxV:TC:=(.sq (.reg (rT Tryz.f188 0)) (.sq (.dr QM4 [(0,[1]),(1,[1]),(2,[]),(3,[1]),(4,[1]),(5,[]),(6,[]),(7,[]),(8,[2])] (.of [0,1,2,3,4,5,6,7,8])) .rt))
def QH3:List (RV×Option Ty):=[((.c 2 true 4),some Qaj)]
def QCi:G:=⟨TYs,[],11,EL [(186,QyV),(187,QyU)],keeps,(fun _ _=>none),IL [],RL []⟩
def QJv (p0:Keep):Option (V×List VO):=
 let a1:=((intT p0.2.1).1,(((intT p0.2.1).2).1,((((intT p0.2.1).2).2).1,((List.map Val.of (List.map Val.un (((((intT p0.2.1).2).2).2).1))),()))))
 let a2:=((intT p0.1).1,(((intT p0.1).2).1,((((intT p0.1).2).2).1,((List.map Val.of (List.map Val.un (((((intT p0.1).2).2).2).1))),()))))
 br (i64Ok p0.1) (br (i64Ok p0.2.1) (br (copOk ([a2,a1])) (some (.t Qaj (lstT ([a2,a1])),[])) none) none) none
theorem e_f188 (p0:Keep):runF QCi QxV QH3 false [.t Qah p0] []=QJv p0:=by kernel_rfl
theorem QZC:Qag Tryz.prog 188:= .inr ⟨by decide,_,Tryz.func188,by kernel_rfl,by kernel_rfl⟩
theorem QYp:GOk Tryz.prog QCi:=Qak _ (gA (gC QMK QKJ (gC QMJ QKI gN)))
theorem QWI:QxV.lok QCi:=by repeat (first | exact trivial | refine ⟨?_, ?_⟩)
theorem s_f188 (u:Keep)(h:Qd4 u=true):QJv u=some (.t Qaj (useT u),[]):=by
 simp only [Qd4,Bool.and_eq_true] at h
 simp only [QJv,h.1,h.2,Qlo,QFl,Qab]
 rfl
def QGH:Ent:=spec (.pr Qah .nil) (fun x=>(Qd4 x.1)) (fun x=>(.t Qaj (useT x.1)))
theorem QVt:Meets Tryz.prog 188 (strip QGH):=Qaf (R:=runF QCi QxV QH3 false) (mG Tryz.func188 (by kernel_rfl) Tryz.ntmps188 (by kernel_rfl) QYp QWI) fun x hok=>(e_f188 x.1).trans (s_f188 x.1 hok)
def QgT (c:Qaa):List ValT:=[intT c.1,txtT c.2.1,txtT c.2.2.1,useT c.2.2.2.1,intT c.2.2.2.2.1,useT c.2.2.2.2.2.1,intT c.2.2.2.2.2.2.1,intT c.2.2.2.2.2.2.2.1,boolT c.2.2.2.2.2.2.2.2.1,intT c.2.2.2.2.2.2.2.2.2.1,lstT ((QaF c).map txtT)]
def bodyT (c:Qaa):ValT:=lstT (QgT c)
def Qgo (c:Qaa):Bool:=QaG c&&QaD c
theorem QDV {u:Keep}(h:Qby u=true):0≤u.2.1∧u.2.1≤16384∧1≤u.1∧u.1≤22:=by
 simp only [Qby,decide_eq_true_eq] at h
 have ham: ∀ (s t:List Int),(∀ x ∈ s,0≤x∧x≤16384)→QbC u.2.1 s t > 0→0≤u.2.1∧u.2.1≤16384:=by
  intro s t hs hg
  unfold QbC at hg
  split at hg
  ·rename_i k hk
   have hm:u.2.1 ∈ s:=by
    have key: ∀ (s:List Int) (k:Nat),idxN u.2.1 s=some k→u.2.1 ∈ s:=by
     intro s
     induction s with
     | nil=>intro k hk; cases hk
     | cons a s ih=>
      intro k hk
      unfold idxN at hk
      split at hk
      ·rename_i ha
       have:=eq_of_beq ha
       rw [this]; exact List.mem_cons_self
      ·obtain ⟨j,hj,_⟩:=Option.map_eq_some_iff.1 hk
       exact List.mem_cons_of_mem _ (ih j hj)
    exact key s k hk
   exact hs _ hm
  ·omega
 rw [← and_assoc]
 unfold strF at h
 repeat' split at h
 ·refine ⟨?_,by omega⟩
  unfold QeN at h
  split at h <;> omega
 ·refine ⟨?_,by omega⟩
  unfold Qsq at h
  split at h
  ·rename_i hc
   simp only [hasF,List.contains_iff_mem,List.mem_cons,List.not_mem_nil,or_false] at hc
   omega
  ·omega
 ·exact ⟨ham _ _ (by simp) h,by omega⟩
 ·exact ⟨ham _ _ (by simp) h,by omega⟩
 ·exact ⟨ham _ _ (by simp) h,by omega⟩
 ·exact ⟨ham _ _ (by simp) h,by omega⟩
 ·exact ⟨ham _ _ (by simp) h,by omega⟩
 ·refine ⟨ham _ _ (by simp) h, ?_⟩
  unfold QbC at h
  split at h
  ·rename_i k hk
   unfold idxN at hk
   split at hk
   ·injection hk with hk
    subst hk
    simp only [List.getD_cons_zero,Qda] at h
    repeat' split at h
    all_goals omega
   ·cases hk
  ·omega
theorem Qw0 {u:Keep}{k:Int}(h:kindU u k=true):Qd4 u=true:=by
 simp only [kindU,Bool.and_eq_true] at h
 have:=QDV h.1
 simp only [Qd4,i64Ok,Bool.and_eq_true,decide_eq_true_eq]
 omega
theorem QlI {s:ByteArray}(h:QaT s=true):s.size≤32:=by
 simp only [QaT,Bool.and_eq_true,decide_eq_true_eq] at h
 exact h.2.2
theorem QEj {l:List ByteArray}: ∀ {k:Nat},Qdj l k=true→ ∀ j (hj:j<l.length),k≤j→QaT l[j]=true:=by
 intro k h j hj hk
 simp only [Qdj,List.all_eq_true,List.mem_range'_1,Bool.and_eq_true] at h
 have:=(h j ⟨hk,by omega⟩).1
 simpa only [List.getD_eq_getElem?_getD,List.getElem?_eq_getElem hj,Option.getD_some] using this
theorem QKp {l:List ByteArray}(h:QeL l=true):l.length≤8∧ ∀ s ∈ l,s.size≤32:=by
 simp only [QeL,Bool.and_eq_true,Bool.not_eq_true',igt,llen,decide_eq_false_iff_not] at h
 refine ⟨by omega,fun s hs=> ?_⟩
 obtain ⟨j,hj,rfl⟩:=List.mem_iff_getElem.1 hs
 exact QlI (QEj h.1 j hj (Nat.zero_le _))
theorem Qgr {c:Qaa}(h:QaD c=true):i64Ok c.1=true∧c.2.1.size≤32∧c.2.2.1.size≤32∧Qd4 c.2.2.2.1=true∧i64Ok c.2.2.2.2.1=true∧Qd4 c.2.2.2.2.2.1=true∧i64Ok c.2.2.2.2.2.2.1=true∧i64Ok c.2.2.2.2.2.2.2.1=true∧i64Ok c.2.2.2.2.2.2.2.2.2.1=true∧(QaF c).length≤8∧ ∀ s ∈ QaF c,s.size≤32:=by
 simp only [QaD,keyI,Bool.and_eq_true,Bool.not_eq_true',ilt,igt,decide_eq_false_iff_not] at h
 obtain ⟨h1,h2,h3,h4,h5,h6,⟨h7,h7'⟩,h8,⟨h9,h9'⟩,h10,h11,h12,h13,h14,h15,h16⟩:=h
 have hn:=QKp h5
 refine ⟨decide_eq_true (by omega),QlI h3,QlI h4,Qw0 h6,decide_eq_true (by omega),Qw0 h8,decide_eq_true (by omega),decide_eq_true (by omega),decide_eq_true (by omega),hn.1,hn.2⟩
theorem QKj (n:Nat){l:List ByteArray}(h:l.length≤8)(hs: ∀ s ∈ l,s.size≤32):okT (n+2) (lstT (l.map txtT))=true:=
 QzB (by rw [List.length_map]; omega) fun x hx=>by
  obtain ⟨s,hm,rfl⟩:=List.mem_map.1 hx
  exact QtZ _ (by have:=hs s hm; omega)
theorem Qwg (n:Nat){c:Qaa}(h:QaD c=true): ∀ x ∈ QgT c,okT (n+2) x=true:=by
 obtain ⟨h1,h2,h3,h4,h5,h6,h7,h8,h9,h10,h11⟩:=Qgr h
 intro x hx
 simp only [QgT,List.mem_cons,List.not_mem_nil,or_false] at hx
 rcases hx with rfl | rfl | rfl | rfl | rfl | rfl | rfl | rfl | rfl | rfl | rfl
 ·exact QiU _ _
 ·exact QtZ _ (by omega)
 ·exact QtZ _ (by omega)
 ·exact QKi _ _
 ·exact QiU _ _
 ·exact QKi _ _
 ·exact QiU _ _
 ·exact QiU _ _
 ·exact QPg _ _
 ·exact QiU _ _
 ·exact QKj _ h10 h11
theorem QC1: ∀ {l:List ByteArray},(∀ s ∈ l,s.size≤32)→(encL (l.map txtT)).length≤42 * l.length
 | [],_=>by simp [Qic]
 | s::l,h=>by
  have h1:=h s (by simp)
  have h2:=QAy s
  have h3:=QC1 (l:=l) fun u hu=>h u (by simp [hu])
  rw [List.map_cons,Qcw,List.length_append,List.length_cons]
  omega
theorem QuE {c:Qaa}(h:QaD c=true):(encT (bodyT c)).length≤1000:=by
 obtain ⟨h1,h2,h3,h4,h5,h6,h7,h8,h9,h10,h11⟩:=Qgr h
 have e0:=QAz (QgT c)
 have e1:=QiX c.1
 have e2:=QAy c.2.1
 have e3:=QAy c.2.2.1
 have e4:=QMo c.2.2.2.1
 have e5:=QiX c.2.2.2.2.1
 have e6:=QMo c.2.2.2.2.2.1
 have e7:=QiX c.2.2.2.2.2.2.1
 have e8:=QiX c.2.2.2.2.2.2.2.1
 have e9:=QQR c.2.2.2.2.2.2.2.2.1
 have e10:=QiX c.2.2.2.2.2.2.2.2.2.1
 have e11:=QAz ((QaF c).map txtT)
 have e12:=QC1 h11
 simp only [QgT,Qcw,Qic,List.length_append,List.length_nil] at e0
 unfold bodyT
 simp only [QgT]
 omega
theorem QUn {c:Qaa}(h:QaD c=true):encOk (bodyT c)=true:=by
 have:=QuE h
 simp only [encOk,Bool.and_eq_true,decide_eq_true_eq]
 refine ⟨QzB (by simp [QgT]) (Qwg 9 h),by omega⟩
theorem Qwl {c:Qaa}(h:QaD c=true):copOk ((QaF c).map txtT)=true:=by
 obtain ⟨h1,h2,h3,h4,h5,h6,h7,h8,h9,h10,h11⟩:=Qgr h
 exact Qrq (n:=11) (by rw [List.length_map]; omega) fun x hx=>by
  obtain ⟨s,hm,rfl⟩:=List.mem_map.1 hx
  exact QtZ _ (by have:=h11 s hm; omega)
theorem Qwe {c:Qaa}(h:QaD c=true):copOk (QgT c)=true:=Qrq (n:=11) (by simp [QgT]) (Qwg 9 h)
theorem QdK {s:ByteArray}(h:s.size≤32):Qbi s=true:=decide_eq_true (by omega)
noncomputable def QM3:List DO:=dT Tryz.f202 7
def Qhf:Fg:=⟨[(1,none),(2,none),(3,none),(7,some (.sl .str)),(8,some tI),(9,some tI)],[(1,some Qac),(2,some Qaj),(3,none),(17,none)]⟩
noncomputable def Qjg:TC:=(.sq (.reg (rT Tryz.f202 3)) (.sq (.cd (.t 10) .sk (.fg ⟨[(1,none),(2,none),(3,none)],[(1,some Qac),(2,some Qaj),(3,none),(17,none)]⟩ (.ex 0))) (.sq (.bk 1 (.sq (.reg (rT Tryz.f202 4)) (.reg (rT Tryz.f202 5)))) (.reg (rT Tryz.f202 6)))))
noncomputable def QxS:TC:=(.sq (.reg (rT Tryz.f202 0)) (.sq (.reg (rT Tryz.f202 1)) (.sq (.sq (.reg (rT Tryz.f202 2)) (.bk 0 (.nw 3 202 (.lp 0 Qhf Qjg)))) (.sq (.dr QM3 [(0,[1]),(1,[1]),(2,[]),(3,[1]),(4,[1]),(5,[]),(6,[1]),(7,[1]),(8,[]),(9,[1]),(10,[1]),(11,[]),(12,[1]),(13,[1]),(14,[]),(15,[1]),(16,[1]),(17,[]),(18,[1]),(19,[1]),(20,[]),(21,[1]),(22,[1]),(23,[]),(24,[1]),(25,[1]),(26,[]),(27,[1]),(28,[1]),(29,[]),(30,[3,17]),(31,[3,17,50,5050,10050,15050]),(32,[]),(33,[]),(34,[2])] (.of [0,1,2,3,4,5,6,7,8,9,10,11,12,13,14,15,16,17,18,19,20,21,22,23,24,25,26,27,28,29,30,31,32,33,34])) .rt))))
def QH0:List (RV×Option Ty):=[((.c 2 true 4),some Qaj)]
abbrev Qpq:Sh:=⟨[(1, .ptr 1 0),(2, .ptr 2 0),(3, .ms 3),(7, .ty (.sl .str)),(8, .ty tI),(9, .ty tI)],[(1, .box Qac),(2, .box Qaj),(3, .arr 202 Qaj),(17, .no)]⟩
def QoH (x7:List ByteArray)(x8 x9:Int)(y1:Qaa)(y2:ValT)(y3:List ValT):VS:=Qpq.st ((),(),(),x7,x8,x9,()) (y1,y2,y3,(),())
abbrev Qvz:Sh:=⟨[(1, .ptr 1 0),(2, .ptr 2 0),(3, .ms 3)],[(1, .box Qac),(2, .box Qaj),(3, .arr 202 Qaj),(17, .no)]⟩
def Qel (y1:Qaa)(y2:ValT)(y3:List ValT):VS:=Qvz.st ((),(),(),()) (y1,y2,y3,(),())
def QR9:VS→Option (Bool×List (Bool×Exit×VS)):=mkL Qpq (fun x y=>(rngOk x.2.2.2.1 x.2.2.2.2.1 x.2.2.2.2.2.1&&decide (y.2.2.1.length≤x.2.2.2.2.2.1.toNat∧x.2.2.2.1.length≤8)&&x.2.2.2.1.all fun s=>decide (s.size≤32))) (fun x y=>[(true, .exit 0,Qel (y.1) (y.2.1) (y.2.2.1++(x.2.2.2.1.drop x.2.2.2.2.2.1.toNat).map txtT))])
def Qmk:G:=⟨TYs,[],53,EL [(222,QGu),(223,QsT),(224,QyT),(225,QGt),(226,QGs),(227,QGr)],keeps,(Ls [QR9]),IL [],RL []⟩
def QDr (x7:List ByteArray)(x8 x9:Int)(y1:Qaa)(y2:ValT)(y3:List ValT):Option (Exit×VS):=
 let a1:=((txtT (lgt .str x7 (Int.toNat x9))).1,(((txtT (lgt .str x7 (Int.toNat x9))).2).1,((((txtT (lgt .str x7 (Int.toNat x9))).2).2).1,((List.map Val.of (List.map Val.un (((((txtT (lgt .str x7 (Int.toNat x9))).2).2).2).1))),()))))
 br (ilt x9 x8) (br (cIx x7 x9) (br (Qbi (lgt .str x7 (Int.toNat x9))) (br (cApp y3 ([a1]) 64) (some (.normal,QoH x7 x8 (iadd .i64 x9 1) y1 y2 (y3++([a1])))) none) none) none) (some (.exit 0,Qel y1 y2 y3))
noncomputable def Qj5 (x7:List ByteArray)(x8 x9:Int)(y1:Qaa)(y2:ValT)(y3:List ValT):Option (Exit×VS):=loopF (Qai Qmk Qhf Qjg) (QoH x7 x8 x9 y1 y2 y3)
noncomputable def Qnw (x7:List ByteArray)(x8 x9:Int)(y1:Qaa)(y2:ValT)(y3:List ValT):Option (Exit×VS):=
 let a1:=((txtT (lgt .str x7 (Int.toNat x9))).1,(((txtT (lgt .str x7 (Int.toNat x9))).2).1,((((txtT (lgt .str x7 (Int.toNat x9))).2).2).1,((List.map Val.of (List.map Val.un (((((txtT (lgt .str x7 (Int.toNat x9))).2).2).2).1))),()))))
 br (ilt x9 x8) (br (cIx x7 x9) (br (Qbi (lgt .str x7 (Int.toNat x9))) (br (cApp y3 ([a1]) 64) (Qj5 x7 x8 (iadd .i64 x9 1) y1 y2 (y3++([a1]))) none) none) none) (some (.exit 0,Qel y1 y2 y3))
def QkB (x7:List ByteArray)(x8 x9:Int)(y1:Qaa)(y2:ValT)(y3:List ValT):Option (Exit×VS):=some (.exit 0,Qel (y1) (y2) (y3++(x7.drop x9.toNat).map txtT))
theorem QNQ (x7:List ByteArray)(x8 x9:Int)(y1:Qaa)(y2:ValT)(y3:List ValT):Qai Qmk Qhf Qjg (QoH x7 x8 x9 y1 y2 y3)=QDr x7 x8 x9 y1 y2 y3:=by kernel_rfl
theorem QwA (x7:List ByteArray)(x8 x9:Int)(y1:Qaa)(y2:ValT)(y3:List ValT):Qj5 x7 x8 x9 y1 y2 y3=Qnw x7 x8 x9 y1 y2 y3:=(Qan _ _).trans (by
 rw [QNQ]
 simp only [QDr,Qnw,QaA,nxt_n,nxt_r,nxt_e,nxt_0]
 rfl)
def QJt (p0:Qaa):Option (V×List VO):=
 let a3:=((((p0).2).2).2)
 let a1:=((a3.2).2)
 let a2:=(lstT (([]:List ValT)++(p0.2.2.2.2.2.2.2.2.2.2.1.drop (0:Int).toNat).map txtT))
 let a4:=((intT (((((a1.2).2).2).2).1)).1,(((intT (((((a1.2).2).2).2).1)).2).1,((((intT (((((a1.2).2).2).2).1)).2).2).1,((List.map Val.of (List.map Val.un (((((intT (((((a1.2).2).2).2).1)).2).2).2).1))),()))))
 let a5:=((boolT ((((a1.2).2).2).1)).1,(((boolT ((((a1.2).2).2).1)).2).1,((((boolT ((((a1.2).2).2).1)).2).2).1,((List.map Val.of (List.map Val.un (((((boolT ((((a1.2).2).2).1)).2).2).2).1))),()))))
 let a6:=((txtT ((((p0).2).2).1)).1,(((txtT ((((p0).2).2).1)).2).1,((((txtT ((((p0).2).2).1)).2).2).1,((List.map Val.of (List.map Val.un (((((txtT ((((p0).2).2).1)).2).2).2).1))),()))))
 let a7:=((intT (((a1.2).2).1)).1,(((intT (((a1.2).2).1)).2).1,((((intT (((a1.2).2).1)).2).2).1,((List.map Val.of (List.map Val.un (((((intT (((a1.2).2).1)).2).2).2).1))),()))))
 let a8:=((txtT (((p0).2).1)).1,(((txtT (((p0).2).1)).2).1,((((txtT (((p0).2).1)).2).2).1,((List.map Val.of (List.map Val.un (((((txtT (((p0).2).1)).2).2).2).1))),()))))
 let a9:=((intT ((a3.2).1)).1,(((intT ((a3.2).1)).2).1,((((intT ((a3.2).1)).2).2).1,((List.map Val.of (List.map Val.un (((((intT ((a3.2).1)).2).2).2).1))),()))))
 let a10:=((intT ((a1.2).1)).1,(((intT ((a1.2).1)).2).1,((((intT ((a1.2).1)).2).2).1,((List.map Val.of (List.map Val.un (((((intT ((a1.2).1)).2).2).2).1))),()))))
 let a11:=((intT ((p0).1)).1,(((intT ((p0).1)).2).1,((((intT ((p0).1)).2).2).1,((List.map Val.of (List.map Val.un (((((intT ((p0).1)).2).2).2).1))),()))))
 let a12:=((useT (a3.1)).1,(((useT (a3.1)).2).1,((((useT (a3.1)).2).2).1,((List.map Val.of (List.map Val.un (((((useT (a3.1)).2).2).2).1))),()))))
 let a13:=((useT (a1.1)).1,(((useT (a1.1)).2).1,((((useT (a1.1)).2).2).1,((List.map Val.of (List.map Val.un (((((useT (a1.1)).2).2).2).1))),()))))
 let a14:=((a2.2).1,(((a2.2).2).1,((List.map Val.of (List.map Val.un ((((a2.2).2).2).1))),())))
 br (rngOk p0.2.2.2.2.2.2.2.2.2.2.1 (llen p0.2.2.2.2.2.2.2.2.2.2.1) (0:Int)&&decide (([]:List ValT).length≤(0:Int).toNat∧p0.2.2.2.2.2.2.2.2.2.2.1.length≤8)&&p0.2.2.2.2.2.2.2.2.2.2.1.all fun s=>decide (s.size≤32)) (br (i64Ok ((p0).1)) (br (Qbi (((p0).2).1)) (br (Qbi ((((p0).2).2).1)) (br (Qd4 (a3.1)) (br (i64Ok ((a3.2).1)) (br (Qd4 (a1.1)) (br (i64Ok ((a1.2).1)) (br (i64Ok (((a1.2).2).1)) (br (i64Ok (((((a1.2).2).2).2).1)) (br (copOk (([]:List ValT)++(p0.2.2.2.2.2.2.2.2.2.2.1.drop (0:Int).toNat).map txtT)) (br (copOk ([a11,a8,a6,a12,a9,a13,a10,a7,a5,a4,(a2.1,a14)])) (some (.t Qaj (lstT ([a11,a8,a6,a12,a9,a13,a10,a7,a5,a4,(a2.1,a14)])),[])) none) none) none) none) none) none) none) none) none) none) none) none
theorem e_f202 (p0:Qaa):runF Qmk QxS QH0 false [.t Qac p0] []=QJt p0:=by kernel_rfl
theorem QZz:Qag Tryz.prog 202:= .inr ⟨by decide,_,Tryz.func202,by kernel_rfl,by kernel_rfl⟩
theorem QYm:GOk Tryz.prog Qmk:=Qak _ (gA (gC QZs QVg (gC QAC QzI (gC QMF QKH (gC QZr QVf (gC QZq QVe (gC QZp QVd gN)))))))
theorem QP7 (x7:List ByteArray)(x8 x9:Int)(y1:Qaa)(y2:ValT)(y3:List ValT)(h:(rngOk x7 x8 x9&&decide (y3.length≤x9.toNat∧x7.length≤8)&&x7.all fun s=>decide (s.size≤32))=true):Qj5 x7 x8 x9 y1 y2 y3=QkB x7 x8 x9 y1 y2 y3:=by
 simp only [Bool.and_eq_true,decide_eq_true_eq,List.all_eq_true] at h
 obtain ⟨⟨h0,h1,h2⟩,hn⟩:=h
 obtain ⟨rfl,h3,k,rfl,hk⟩:=rng_k h0
 clear h0
 rw [Int.toNat_natCast] at h1
 revert y3
 refine Qat x7 (fun k=> ∀ y3:List ValT,y3.length≤k→Qj5 x7 (x7.length:Int) (k:Int) y1 y2 y3=QkB x7 (x7.length:Int) (k:Int) y1 y2 y3) ?_ ?_ k hk
 ·intro y3 _
  rw [QwA]
  simp only [Qnw,QkB,Qar,Nat.lt_irrefl,decide_false,Qae,Int.toNat_natCast,List.drop_length,List.map_nil,List.append_nil]
 ·intro k hk ih y3 hy
  rw [QwA]
  have hx:=hn x7[k] (List.getElem_mem hk)
  simp only [Qnw,Qar,Qax,hk,decide_true,Qab,Int.toNat_natCast,add1 (show k<4611686018427387904 by omega),QaC (y:= .str) hk,QdK hx,Qlo]
  rw [cAppN (by omega) (by simp only [List.length_singleton]; omega),Qab,ih _ (by simp only [List.length_append,List.length_singleton]; omega)]
  simp only [QkB,Int.toNat_natCast,List.drop_eq_getElem_cons hk,List.map_cons,List.append_assoc,List.singleton_append]
theorem QLa: ∀ S l p,Qmk.L 0 (fgt Qhf S)=some (true,l)→pickA l=some p→loopF (Qai Qmk Qhf Qjg) S=some p:=
 QaB (s:=Qpq) ⟨by decide,by decide⟩ (by kernel_rfl) fun x y hok p hp=>by
 simp only [Qap,Qam] at hp
 exact (QP7 x.2.2.2.1 x.2.2.2.2.1 x.2.2.2.2.2.1 y.1 y.2.1 y.2.2.1 (by simpa using hok)).trans hp
theorem QWF:QxS.lok Qmk:=by
 repeat (first | exact trivial | exact QLa | refine ⟨?_, ?_⟩)
theorem s_f202 (c:Qaa)(h:Qgo c=true):QJt c=some (.t Qaj (bodyT c),[]):=by
 simp only [Qgo,Bool.and_eq_true] at h
 obtain ⟨_,hv⟩:=h
 obtain ⟨h1,h2,h3,h4,h5,h6,h7,h8,h9,h10,h11⟩:=Qgr hv
 have hc:=Qwl hv
 have hp:=Qwe hv
 have ha:((QaF c).all fun s=>decide (s.size≤32))=true:=List.all_eq_true.2 fun s hs=>decide_eq_true (h11 s hs)
 have hl:([]:List ValT).length≤0∧(QaF c).length≤8:=⟨by simp,h10⟩
 simp only [QgT] at hp
 simp only [QJt,rng_0 (show (QaF c).length≤100000 by omega),ha,Bool.and_self,h1,QdK h2,QdK h3,h4,h5,h6,h7,h8,h9,Qab,Int.toNat_zero,List.drop_zero,List.nil_append,Qlo,hc,hp]
 rw [decide_eq_true hl]
 rfl
def QGE:Ent:=spec (.pr Qac .nil) (fun x=>(Qgo x.1)) (fun x=>(.t Qaj (bodyT x.1)))
theorem QVq:Meets Tryz.prog 202 (strip QGE):=Qaf (R:=runF Qmk QxS QH0 false) (mG Tryz.func202 (by kernel_rfl) Tryz.ntmps202 (by kernel_rfl) QYm QWF) fun x hok=>(e_f202 x.1).trans (s_f202 x.1 hok)
noncomputable def QM6:List DO:=dT Tryz.f158 6
def Qhn:Fg:=⟨[(1,none),(2,none),(3,none),(4,some tI)],[(1,some Qac),(2,some Qaj),(3,none),(20,none)]⟩
noncomputable def Qjo:TC:=(.sq (.sq (.reg (rT Tryz.f158 3)) (.cd (.t 9) .sk (.fg ⟨[(1,none),(2,none),(3,none)],[(1,some Qac),(2,some Qaj),(3,none),(20,none)]⟩ (.ex 0)))) (.sq (.bk 1 (.reg (rT Tryz.f158 4))) (.reg (rT Tryz.f158 5))))
noncomputable def Qyd:TC:=(.sq (.reg (rT Tryz.f158 0)) (.sq (.reg (rT Tryz.f158 1)) (.sq (.sq (.reg (rT Tryz.f158 2)) (.bk 0 (.nw 3 202 (.lp 0 Qhn Qjo)))) (.sq (.dr QM6 [(0,[1]),(1,[1]),(2,[]),(3,[1]),(4,[1]),(5,[]),(6,[1]),(7,[1]),(8,[]),(9,[1]),(10,[1]),(11,[]),(12,[1]),(13,[1]),(14,[]),(15,[1]),(16,[1]),(17,[]),(18,[1]),(19,[1]),(20,[]),(21,[1]),(22,[1]),(23,[]),(24,[1]),(25,[1]),(26,[]),(27,[1]),(28,[1]),(29,[]),(30,[3,20]),(31,[3,20,52,5052,10052,15052]),(32,[]),(33,[]),(34,[2])] (.of [0,1,2,3,4,5,6,7,8,9,10,11,12,13,14,15,16,17,18,19,20,21,22,23,24,25,26,27,28,29,30,31,32,33,34])) .rt))))
def QIl:List (RV×Option Ty):=[((.c 2 true 4),some Qaj)]
abbrev Qpz:Sh:=⟨[(1, .ptr 1 0),(2, .ptr 2 0),(3, .ms 3),(4, .ty tI)],[(1, .box Qac),(2, .box Qaj),(3, .arr 202 Qaj),(20, .no)]⟩
def QoO (x4:Int)(y1:Qaa)(y2:ValT)(y3:List ValT):VS:=Qpz.st ((),(),(),x4,()) (y1,y2,y3,(),())
abbrev QvI:Sh:=⟨[(1, .ptr 1 0),(2, .ptr 2 0),(3, .ms 3)],[(1, .box Qac),(2, .box Qaj),(3, .arr 202 Qaj),(20, .no)]⟩
def Qet (y1:Qaa)(y2:ValT)(y3:List ValT):VS:=QvI.st ((),(),(),()) (y1,y2,y3,(),())
def QSh:VS→Option (Bool×List (Bool×Exit×VS)):=mkL Qpz (fun x y=>(decide (0≤x.2.2.2.1∧x.2.2.2.1≤(QaF y.1).length∧y.2.2.1.length≤x.2.2.2.1.toNat∧(QaF y.1).length≤8)&&(QaF y.1).all fun s=>decide (s.size≤32))) (fun x y=>[(true, .exit 0,Qet (y.1) (y.2.1) (y.2.2.1++((QaF y.1).drop x.2.2.2.1.toNat).map txtT))])
def Qms:G:=⟨TYs,[],55,EL [(185,QGI),(186,QyV),(187,QyU),(188,QGH),(189,QGG)],keeps,(Ls [QSh]),IL [],RL []⟩
def QDz (x4:Int)(y1:Qaa)(y2:ValT)(y3:List ValT):Option (Exit×VS):=
 let a1:=txtT (lgt .str y1.2.2.2.2.2.2.2.2.2.2.1 (Int.toNat x4))
 let a2:=((a1.2).1,(((a1.2).2).1,((List.map Val.of (List.map Val.un ((((a1.2).2).2).1))),())))
 br (ilt x4 (llen y1.2.2.2.2.2.2.2.2.2.2.1)) (br (cIx y1.2.2.2.2.2.2.2.2.2.2.1 x4) (br (Qbi (lgt .str y1.2.2.2.2.2.2.2.2.2.2.1 (Int.toNat x4))) (br (cApp y3 ([(a1.1,a2)]) 64) (some (.normal,QoO (iadd .i64 x4 1) y1 y2 (y3++([(a1.1,a2)])))) none) none) none) (some (.exit 0,Qet y1 y2 y3))
noncomputable def Qkc (x4:Int)(y1:Qaa)(y2:ValT)(y3:List ValT):Option (Exit×VS):=loopF (Qai Qms Qhn Qjo) (QoO x4 y1 y2 y3)
noncomputable def QnC (x4:Int)(y1:Qaa)(y2:ValT)(y3:List ValT):Option (Exit×VS):=
 let a1:=txtT (lgt .str y1.2.2.2.2.2.2.2.2.2.2.1 (Int.toNat x4))
 let a2:=((a1.2).1,(((a1.2).2).1,((List.map Val.of (List.map Val.un ((((a1.2).2).2).1))),())))
 br (ilt x4 (llen y1.2.2.2.2.2.2.2.2.2.2.1)) (br (cIx y1.2.2.2.2.2.2.2.2.2.2.1 x4) (br (Qbi (lgt .str y1.2.2.2.2.2.2.2.2.2.2.1 (Int.toNat x4))) (br (cApp y3 ([(a1.1,a2)]) 64) (Qkc (iadd .i64 x4 1) y1 y2 (y3++([(a1.1,a2)]))) none) none) none) (some (.exit 0,Qet y1 y2 y3))
def QkG (x4:Int)(y1:Qaa)(y2:ValT)(y3:List ValT):Option (Exit×VS):=some (.exit 0,Qet (y1) (y2) (y3++((QaF y1).drop x4.toNat).map txtT))
theorem QNY (x4:Int)(y1:Qaa)(y2:ValT)(y3:List ValT):Qai Qms Qhn Qjo (QoO x4 y1 y2 y3)=QDz x4 y1 y2 y3:=by kernel_rfl
theorem QwH (x4:Int)(y1:Qaa)(y2:ValT)(y3:List ValT):Qkc x4 y1 y2 y3=QnC x4 y1 y2 y3:=(Qan _ _).trans (by
 rw [QNY]
 simp only [QDz,QnC,QaA,nxt_n,nxt_r,nxt_e,nxt_0]
 rfl)
def QJJ (p0:Qaa):Option (V×List VO):=
 let a3:=((((p0).2).2).2)
 let a1:=((a3.2).2)
 let a2:=(lstT (([]:List ValT)++((QaF p0).drop (0:Int).toNat).map txtT))
 let a4:=((intT (((((a1.2).2).2).2).1)).1,(((intT (((((a1.2).2).2).2).1)).2).1,((((intT (((((a1.2).2).2).2).1)).2).2).1,((List.map Val.of (List.map Val.un (((((intT (((((a1.2).2).2).2).1)).2).2).2).1))),()))))
 let a5:=((boolT ((((a1.2).2).2).1)).1,(((boolT ((((a1.2).2).2).1)).2).1,((((boolT ((((a1.2).2).2).1)).2).2).1,((List.map Val.of (List.map Val.un (((((boolT ((((a1.2).2).2).1)).2).2).2).1))),()))))
 let a6:=((txtT ((((p0).2).2).1)).1,(((txtT ((((p0).2).2).1)).2).1,((((txtT ((((p0).2).2).1)).2).2).1,((List.map Val.of (List.map Val.un (((((txtT ((((p0).2).2).1)).2).2).2).1))),()))))
 let a7:=((intT (((a1.2).2).1)).1,(((intT (((a1.2).2).1)).2).1,((((intT (((a1.2).2).1)).2).2).1,((List.map Val.of (List.map Val.un (((((intT (((a1.2).2).1)).2).2).2).1))),()))))
 let a8:=((txtT (((p0).2).1)).1,(((txtT (((p0).2).1)).2).1,((((txtT (((p0).2).1)).2).2).1,((List.map Val.of (List.map Val.un (((((txtT (((p0).2).1)).2).2).2).1))),()))))
 let a9:=((intT ((a3.2).1)).1,(((intT ((a3.2).1)).2).1,((((intT ((a3.2).1)).2).2).1,((List.map Val.of (List.map Val.un (((((intT ((a3.2).1)).2).2).2).1))),()))))
 let a10:=((intT ((a1.2).1)).1,(((intT ((a1.2).1)).2).1,((((intT ((a1.2).1)).2).2).1,((List.map Val.of (List.map Val.un (((((intT ((a1.2).1)).2).2).2).1))),()))))
 let a11:=((intT ((p0).1)).1,(((intT ((p0).1)).2).1,((((intT ((p0).1)).2).2).1,((List.map Val.of (List.map Val.un (((((intT ((p0).1)).2).2).2).1))),()))))
 let a12:=((useT (a3.1)).1,(((useT (a3.1)).2).1,((((useT (a3.1)).2).2).1,((List.map Val.of (List.map Val.un (((((useT (a3.1)).2).2).2).1))),()))))
 let a13:=((useT (a1.1)).1,(((useT (a1.1)).2).1,((((useT (a1.1)).2).2).1,((List.map Val.of (List.map Val.un (((((useT (a1.1)).2).2).2).1))),()))))
 let a14:=((a2.2).1,(((a2.2).2).1,((List.map Val.of (List.map Val.un ((((a2.2).2).2).1))),())))
 br (decide (0≤(0:Int)∧(0:Int)≤(QaF p0).length∧([]:List ValT).length≤(0:Int).toNat∧(QaF p0).length≤8)&&(QaF p0).all fun s=>decide (s.size≤32)) (br (i64Ok ((p0).1)) (br (Qbi (((p0).2).1)) (br (Qbi ((((p0).2).2).1)) (br (Qd4 (a3.1)) (br (i64Ok ((a3.2).1)) (br (Qd4 (a1.1)) (br (i64Ok ((a1.2).1)) (br (i64Ok (((a1.2).2).1)) (br (i64Ok (((((a1.2).2).2).2).1)) (br (copOk (([]:List ValT)++((QaF p0).drop (0:Int).toNat).map txtT)) (br (copOk ([a11,a8,a6,a12,a9,a13,a10,a7,a5,a4,(a2.1,a14)])) (some (.t Qaj (lstT ([a11,a8,a6,a12,a9,a13,a10,a7,a5,a4,(a2.1,a14)])),[])) none) none) none) none) none) none) none) none) none) none) none) none
theorem e_f158 (p0:Qaa):runF Qms Qyd QIl false [.t Qac p0] []=QJJ p0:=by kernel_rfl
theorem QZO:Qag Tryz.prog 158:= .inr ⟨by decide,_,Tryz.func158,by kernel_rfl,by kernel_rfl⟩
theorem QYH:GOk Tryz.prog Qms:=Qak _ (gA (gC QZD QVu (gC QMK QKJ (gC QMJ QKI (gC QZC QVt (gC QZB QVs gN))))))
theorem QQf (x4:Int)(y1:Qaa)(y2:ValT)(y3:List ValT)(h:(decide (0≤x4∧x4≤(QaF y1).length∧y3.length≤x4.toNat∧(QaF y1).length≤8)&&(QaF y1).all fun s=>decide (s.size≤32))=true):Qkc x4 y1 y2 y3=QkG x4 y1 y2 y3:=by
 simp only [Bool.and_eq_true,decide_eq_true_eq,List.all_eq_true] at h
 obtain ⟨⟨h0,h1,h2,h3⟩,hn⟩:=h
 obtain ⟨k,rfl⟩:=Int.eq_ofNat_of_zero_le h0
 rw [Int.toNat_natCast] at h2
 revert y3
 refine Qat (QaF y1) (fun k=> ∀ y3:List ValT,y3.length≤k→Qkc (k:Int) y1 y2 y3=QkG (k:Int) y1 y2 y3) ?_ ?_ k (by omega)
 ·intro y3 _
  rw [QwH]
  simp only [QnC,QkG,show ilt ((QaF y1).length:Int) (llen (QaF y1))=false from decide_eq_false (by simp only [llen]; omega),Qae,Int.toNat_natCast,List.drop_length,List.map_nil,List.append_nil]
 ·intro k hk ih y3 hy
  rw [QwH]
  have hx:=hn (QaF y1)[k] (List.getElem_mem hk)
  simp only [QnC,show ilt (k:Int) (llen (QaF y1))=true from decide_eq_true (by simp only [llen]; omega),Qax,hk,decide_true,Qab,Int.toNat_natCast,add1 (show k<4611686018427387904 by omega),QaC (y:= .str) hk,QdK hx,Qlo]
  rw [cAppN (by omega) (by simp only [List.length_singleton]; omega),Qab,ih _ (by simp only [List.length_append,List.length_singleton]; omega)]
  simp only [QkG,Int.toNat_natCast,List.drop_eq_getElem_cons hk,List.map_cons,List.append_assoc,List.singleton_append]
theorem QLi: ∀ S l p,Qms.L 0 (fgt Qhn S)=some (true,l)→pickA l=some p→loopF (Qai Qms Qhn Qjo) S=some p:=
 QaB (s:=Qpz) ⟨by decide,by decide⟩ (by kernel_rfl) fun x y hok p hp=>by
 simp only [Qap,Qam] at hp
 exact (QQf x.2.2.2.1 y.1 y.2.1 y.2.2.1 (by simpa using hok)).trans hp
theorem QW0:Qyd.lok Qms:=by
 repeat (first | exact trivial | exact QLi | refine ⟨?_, ?_⟩)
theorem s_f158 (c:Qaa)(h:Qgo c=true):QJJ c=some (.t Qaj (bodyT c),[]):=by
 simp only [Qgo,Bool.and_eq_true] at h
 obtain ⟨_,hv⟩:=h
 obtain ⟨h1,h2,h3,h4,h5,h6,h7,h8,h9,h10,h11⟩:=Qgr hv
 have hc:=Qwl hv
 have hp:=Qwe hv
 have ha:((QaF c).all fun s=>decide (s.size≤32))=true:=List.all_eq_true.2 fun s hs=>decide_eq_true (h11 s hs)
 have hl:(0:Int)≤0∧(0:Int)≤(QaF c).length∧([]:List ValT).length≤0∧(QaF c).length≤8:=⟨by omega,by omega,by simp,h10⟩
 simp only [QgT] at hp
 simp only [QJJ,ha,Bool.and_self,h1,QdK h2,QdK h3,h4,h5,h6,h7,h8,h9,Qab,Int.toNat_zero,List.drop_zero,List.nil_append,Qlo,hc,hp]
 rw [decide_eq_true hl]
 rfl
def QGW:Ent:=spec (.pr Qac .nil) (fun x=>(Qgo x.1)) (fun x=>(.t Qaj (bodyT x.1)))
theorem QVI:Meets Tryz.prog 158 (strip QGW):=Qaf (R:=runF Qms Qyd QIl false) (mG Tryz.func158 (by kernel_rfl) Tryz.ntmps158 (by kernel_rfl) QYH QW0) fun x hok=>(e_f158 x.1).trans (s_f158 x.1 hok)
end
end Go.Proofs.YtckcgijklnloiaaGreat.K
namespace Go.Proofs.YtckcgijklnloiaaGreat.K
open Go.RowKit
noncomputable section
def QbB (c:Qaa):List Int×Int:=bif QaD c then encE (bodyT c) else ([],9)
theorem QNz {c:Qaa}(h:QaD c=true):QbB c=(encT (bodyT c),0):=by
 have:=QuE h
 rw [QbB,h,cond_true,encE,if_neg (by omega)]
theorem QE2 (c:Qaa):(QbB c).1.length≤1000:=by
 cases h:QaD c with
 | true=>
  rw [QNz h]
  exact QuE h
 | false=>
  rw [QbB,h]
  simp
noncomputable def Qx8:TC:=(.sq (.reg (rT Tryz.f166 0)) (.sq (.sq (.reg (rT Tryz.f166 1)) (.cd (.t 6) (.sq (.reg (rT Tryz.f166 2)) .rt) .sk)) (.sq (.reg (rT Tryz.f166 3)) .rt)))
def QIg:List (RV×Option Ty):=[((.t 2),some (.sl (.int .u8))),((.t 3),some tI)]
def QCp:G:=⟨TYs,[],12,EL [(138,Qy0),(201,QGF),(202,QGE)],keeps,(fun _ _=>none),IL [],RL []⟩
def QBs (p0:Qaa):Option (V×List VO):=br (QaG p0) (br (!(QaD p0)) (some (.tu [(.t (.sl (.int .u8)) ([]:List Int)),(.t tI 9)],[])) (br (Qgo p0) (br (encOk (bodyT p0)) (some (.tu [(.t (.sl (.int .u8)) ((encE (bodyT p0)).1)),(.t tI ((encE (bodyT p0)).2))],[])) none) none)) none
theorem e_f166 (p0:Qaa):runF QCp Qx8 QIg false [.t Qac p0] []=QBs p0:=by kernel_rfl
theorem QZJ:Qag Tryz.prog 166:= .inr ⟨by decide,_,Tryz.func166,by kernel_rfl,by kernel_rfl⟩
theorem QYC:GOk Tryz.prog QCp:=Qak _ (gA (gC QMS QKO (gC QZA QVr (gC QZz QVq gN))))
theorem QWV:Qx8.lok QCp:=by repeat (first | exact trivial | refine ⟨?_, ?_⟩)
theorem s_f166 (c:Qaa)(h:QaG c=true):QBs c=some (.tu [.t (.sl (.int .u8)) (QbB c).1, .t tI (QbB c).2],[]):=by
 unfold QbB
 cases hv:QaD c with
 | true=>simp only [QBs,h,hv,QUn hv,show Qgo c=true from by rw [Qgo,h,hv]; rfl,Bool.not_true,Qab,Qae,cond_true]
 | false=>simp only [QBs,h,hv,Bool.not_false,Qab,cond_false]
def QGR:Ent:=spec (.pr Qac .nil) (fun x=>(QaG x.1)) (fun x=>(.tu [(.t (.sl (.int .u8)) ((QbB x.1).1)),(.t tI ((QbB x.1).2))]))
theorem QVD:Meets Tryz.prog 166 (strip QGR):=Qaf (R:=runF QCp Qx8 QIg false) (mG Tryz.func166 (by kernel_rfl) Tryz.ntmps166 (by kernel_rfl) QYC QWV) fun x hok=>(e_f166 x.1).trans (s_f166 x.1 hok)
noncomputable def Qyv:TC:=(.sq (.reg (rT Tryz.f131 0)) (.sq (.sq (.reg (rT Tryz.f131 1)) (.cd (.t 6) (.sq (.reg (rT Tryz.f131 2)) .rt) .sk)) (.sq (.reg (rT Tryz.f131 3)) .rt)))
def QID:List (RV×Option Ty):=[((.t 2),some (.sl (.int .u8))),((.t 3),some tI)]
def QCF:G:=⟨TYs,[],12,EL [(130,Qy1),(157,QGX),(158,QGW)],keeps,(fun _ _=>none),IL [],RL []⟩
def QBt (p0:Qaa):Option (V×List VO):=br (QaG p0) (br (ine (Qfl p0) 0) (some (.tu [(.t (.sl (.int .u8)) ([]:List Int)),(.t tI 9)],[])) (br (Qgo p0) (br (encOk (bodyT p0)) (some (.tu [(.t (.sl (.int .u8)) ((encE (bodyT p0)).1)),(.t tI ((encE (bodyT p0)).2))],[])) none) none)) none
theorem e_f131 (p0:Qaa):runF QCF Qyv QID false [.t Qac p0] []=QBt p0:=by kernel_rfl
theorem QZ3:Qag Tryz.prog 131:= .inr ⟨by decide,_,Tryz.func131,by kernel_rfl,by kernel_rfl⟩
theorem QYZ:GOk Tryz.prog QCF:=Qak _ (gA (gC QMT QKP (gC QZP QVJ (gC QZO QVI gN))))
theorem QXi:Qyv.lok QCF:=by repeat (first | exact trivial | refine ⟨?_, ?_⟩)
theorem s_f131 (c:Qaa)(h:QaG c=true):QBt c=some (.tu [.t (.sl (.int .u8)) (QbB c).1, .t tI (QbB c).2],[]):=by
 unfold QbB
 cases hv:QaD c with
 | true=>simp only [QBt,h,hv,QhE,QUn hv,show Qgo c=true from by rw [Qgo,h,hv]; rfl,Bool.not_true,Qab,Qae,cond_true]
 | false=>simp only [QBt,h,hv,QhE,Bool.not_false,Qab,cond_false]
def QHd:Ent:=spec (.pr Qac .nil) (fun x=>(QaG x.1)) (fun x=>(.tu [(.t (.sl (.int .u8)) ((QbB x.1).1)),(.t tI ((QbB x.1).2))]))
theorem QVX:Meets Tryz.prog 131 (strip QHd):=Qaf (R:=runF QCF Qyv QID false) (mG Tryz.func131 (by kernel_rfl) Tryz.ntmps131 (by kernel_rfl) QYZ QXi) fun x hok=>(e_f131 x.1).trans (s_f131 x.1 hok)
def stepS (s x:Int):Int:=imul .u32 (ibxor .u32 s (icv .u32 x)) 16777619
def sumB (b:List Int):Int:=icv .i64 (b.foldl stepS 2166136261)
def lenB (b:List Int):Bool:=decide (b.length≤100000)
def Qhl:Fg:=⟨[(3,some (.int .u32)),(6,some (.sl (.int .u8))),(7,some tI),(8,some tI)],[]⟩
noncomputable def Qjm:TC:=(.sq (.reg (rT Tryz.f167 3)) (.sq (.cd (.t 9) .sk (.fg ⟨[(3,some (.int .u32))],[]⟩ (.ex 0))) (.sq (.bk 1 (.sq (.reg (rT Tryz.f167 4)) (.reg (rT Tryz.f167 5)))) (.reg (rT Tryz.f167 6)))))
noncomputable def Qx7:TC:=(.sq (.reg (rT Tryz.f167 0)) (.sq (.reg (rT Tryz.f167 1)) (.sq (.sq (.reg (rT Tryz.f167 2)) (.bk 0 (.lp 0 Qhl Qjm))) (.sq (.reg (rT Tryz.f167 7)) .rt))))
def QIf:List (RV×Option Ty):=[((.t 2),some tI)]
abbrev Qpx:Sh:=⟨[(3, .ty (.int .u32)),(6, .ty (.sl (.int .u8))),(7, .ty tI),(8, .ty tI)],[]⟩
def QoN (x3:Int)(x6:List Int)(x7 x8:Int):VS:=Qpx.st (x3,x6,x7,x8,()) ()
abbrev QvG:Sh:=⟨[(3, .ty (.int .u32))],[]⟩
def Qer (x3:Int):VS:=QvG.st (x3,()) ()
def QSf:VS→Option (Bool×List (Bool×Exit×VS)):=mkL Qpx (fun x y=>(rngOk x.2.1 x.2.2.1 x.2.2.2.1)) (fun x y=>[(true, .exit 0,Qer ((x.2.1.drop x.2.2.2.1.toNat).foldl stepS x.1))])
def Qmq:G:=⟨TYs,[],20,EL [],keeps,(Ls [QSf]),IL [],RL []⟩
def QDx (x3:Int)(x6:List Int)(x7 x8:Int):Option (Exit×VS):=br (ilt x8 x7) (br (cIx x6 x8) (some (.normal,QoN (imul .u32 (ibxor .u32 x3 (icv .u32 (lgt (.int .u8) x6 (Int.toNat x8)))) 16777619) x6 x7 (iadd .i64 x8 1))) none) (some (.exit 0,Qer x3))
noncomputable def Qkb (x3:Int)(x6:List Int)(x7 x8:Int):Option (Exit×VS):=loopF (Qai Qmq Qhl Qjm) (QoN x3 x6 x7 x8)
noncomputable def QnA (x3:Int)(x6:List Int)(x7 x8:Int):Option (Exit×VS):=br (ilt x8 x7) (br (cIx x6 x8) (Qkb (imul .u32 (ibxor .u32 x3 (icv .u32 (lgt (.int .u8) x6 (Int.toNat x8)))) 16777619) x6 x7 (iadd .i64 x8 1)) none) (some (.exit 0,Qer x3))
def QkE (x3:Int)(x6:List Int)(x7 x8:Int):Option (Exit×VS):=some (.exit 0,Qer ((x6.drop x8.toNat).foldl stepS x3))
theorem QNW (x3:Int)(x6:List Int)(x7 x8:Int):Qai Qmq Qhl Qjm (QoN x3 x6 x7 x8)=QDx x3 x6 x7 x8:=by kernel_rfl
theorem QwF (x3:Int)(x6:List Int)(x7 x8:Int):Qkb x3 x6 x7 x8=QnA x3 x6 x7 x8:=(Qan _ _).trans (by
 rw [QNW]
 simp only [QDx,QnA,QaA,nxt_n,nxt_r,nxt_e,nxt_0]
 rfl)
def QJF (p0:List Int):Option (V×List VO):=br (rngOk p0 (llen p0) (0:Int)) (some (.t tI (icv .i64 ((p0.drop (0:Int).toNat).foldl stepS (2166136261:Int))),[])) none
theorem e_f167 (p0:List Int):runF Qmq Qx7 QIf false [.t (.sl (.int .u8)) p0] []=QJF p0:=by kernel_rfl
theorem QZI:Qag Tryz.prog 167:= .inr ⟨by decide,_,Tryz.func167,by kernel_rfl,by kernel_rfl⟩
theorem QYB:GOk Tryz.prog Qmq:=Qak _ (fun p hp=>by cases hp)
theorem QQd (x3:Int)(x6:List Int)(x7 x8:Int)(h:(rngOk x6 x7 x8)=true):Qkb x3 x6 x7 x8=QkE x3 x6 x7 x8:=by
 obtain ⟨rfl,h3,k,rfl,hk⟩:=rng_k h
 clear h
 revert x3
 refine Qat x6 (fun k=> ∀ x3:Int,Qkb x3 x6 (x6.length:Int) (k:Int)=QkE x3 x6 (x6.length:Int) (k:Int)) ?_ ?_ k hk
 ·intro x3
  rw [QwF]
  simp only [QnA,QkE,Qar,Nat.lt_irrefl,decide_false,Qae,Int.toNat_natCast,List.drop_length,List.foldl_nil]
 ·intro k hk ih x3
  rw [QwF]
  simp only [QnA,Qar,Qax,hk,decide_true,Qab,Int.toNat_natCast,add1 (show k<4611686018427387904 by omega),QaC (y:= .int .u8) hk,ih]
  simp only [QkE,Int.toNat_natCast,List.drop_eq_getElem_cons hk,List.foldl_cons,stepS]
theorem QLg: ∀ S l p,Qmq.L 0 (fgt Qhl S)=some (true,l)→pickA l=some p→loopF (Qai Qmq Qhl Qjm) S=some p:=
 QaB (s:=Qpx) ⟨by decide,by decide⟩ (by kernel_rfl) fun x y hok p hp=>by
 simp only [Qap,Qam] at hp
 exact (QQd x.1 x.2.1 x.2.2.1 x.2.2.2.1 (by simpa using hok)).trans hp
theorem QWU:Qx7.lok Qmq:=by
 repeat (first | exact trivial | exact QLg | refine ⟨?_, ?_⟩)
theorem s_f167 (b:List Int)(h:lenB b=true):QJF b=some (.t tI (sumB b),[]):=by
 simp only [lenB,decide_eq_true_eq] at h
 simp only [QJF,rng_0 h,Qab,Int.toNat_zero,List.drop_zero]
 rfl
def QGQ:Ent:=spec (.pr (.sl (.int .u8)) .nil) (fun x=>(lenB x.1)) (fun x=>(.t tI (sumB x.1)))
theorem QVC:Meets Tryz.prog 167 (strip QGQ):=Qaf (R:=runF Qmq Qx7 QIf false) (mG Tryz.func167 (by kernel_rfl) Tryz.ntmps167 (by kernel_rfl) QYB QWU) fun x hok=>(e_f167 x.1).trans (s_f167 x.1 hok)
def Qhs:Fg:=⟨[(0,some (.sl (.int .u8))),(3,some (.int .u32)),(4,some tI)],[]⟩
noncomputable def Qjt:TC:=(.sq (.sq (.reg (rT Tryz.f132 3)) (.cd (.t 8) .sk (.fg ⟨[(3,some (.int .u32))],[]⟩ (.ex 0)))) (.sq (.bk 1 (.reg (rT Tryz.f132 4))) (.reg (rT Tryz.f132 5))))
noncomputable def Qyu:TC:=(.sq (.reg (rT Tryz.f132 0)) (.sq (.reg (rT Tryz.f132 1)) (.sq (.sq (.reg (rT Tryz.f132 2)) (.bk 0 (.lp 0 Qhs Qjt))) (.sq (.reg (rT Tryz.f132 6)) .rt))))
def QIC:List (RV×Option Ty):=[((.t 2),some tI)]
abbrev QpH:Sh:=⟨[(0, .ty (.sl (.int .u8))),(3, .ty (.int .u32)),(4, .ty tI)],[]⟩
def QoT (x0:List Int)(x3 x4:Int):VS:=QpH.st (x0,x3,x4,()) ()
abbrev QvN:Sh:=⟨[(3, .ty (.int .u32))],[]⟩
def Qey (x3:Int):VS:=QvN.st (x3,()) ()
def QSm:VS→Option (Bool×List (Bool×Exit×VS)):=mkL QpH (fun x y=>(idxOk x.1 x.2.2.1)) (fun x y=>[(true, .exit 0,Qey ((x.1.drop x.2.2.1.toNat).foldl stepS x.2.1))])
def Qmx:G:=⟨TYs,[],21,EL [],keeps,(Ls [QSm]),IL [],RL []⟩
def QDE (x0:List Int)(x3 x4:Int):Option (Exit×VS):=br (ilt x4 (llen x0)) (br (cIx x0 x4) (some (.normal,QoT x0 (imul .u32 (ibxor .u32 x3 (icv .u32 (lgt (.int .u8) x0 (Int.toNat x4)))) 16777619) (iadd .i64 x4 1))) none) (some (.exit 0,Qey x3))
noncomputable def Qki (x0:List Int)(x3 x4:Int):Option (Exit×VS):=loopF (Qai Qmx Qhs Qjt) (QoT x0 x3 x4)
noncomputable def QnG (x0:List Int)(x3 x4:Int):Option (Exit×VS):=br (ilt x4 (llen x0)) (br (cIx x0 x4) (Qki x0 (imul .u32 (ibxor .u32 x3 (icv .u32 (lgt (.int .u8) x0 (Int.toNat x4)))) 16777619) (iadd .i64 x4 1)) none) (some (.exit 0,Qey x3))
def QkK (x0:List Int)(x3 x4:Int):Option (Exit×VS):=some (.exit 0,Qey ((x0.drop x4.toNat).foldl stepS x3))
theorem QN3 (x0:List Int)(x3 x4:Int):Qai Qmx Qhs Qjt (QoT x0 x3 x4)=QDE x0 x3 x4:=by kernel_rfl
theorem QwM (x0:List Int)(x3 x4:Int):Qki x0 x3 x4=QnG x0 x3 x4:=(Qan _ _).trans (by
 rw [QN3]
 simp only [QDE,QnG,QaA,nxt_n,nxt_r,nxt_e,nxt_0]
 rfl)
def QJV (p0:List Int):Option (V×List VO):=br (idxOk p0 (0:Int)) (some (.t tI (icv .i64 ((p0.drop (0:Int).toNat).foldl stepS (2166136261:Int))),[])) none
theorem e_f132 (p0:List Int):runF Qmx Qyu QIC false [.t (.sl (.int .u8)) p0] []=QJV p0:=by kernel_rfl
theorem QZ2:Qag Tryz.prog 132:= .inr ⟨by decide,_,Tryz.func132,by kernel_rfl,by kernel_rfl⟩
theorem QYY:GOk Tryz.prog Qmx:=Qak _ (fun p hp=>by cases hp)
theorem QQk (x0:List Int)(x3 x4:Int)(h:(idxOk x0 x4)=true):Qki x0 x3 x4=QkK x0 x3 x4:=by
 simp only [idxOk,decide_eq_true_eq] at h
 obtain ⟨h0,h1,h2⟩:=h
 obtain ⟨k,rfl⟩:=Int.eq_ofNat_of_zero_le h0
 revert x3
 refine Qat x0 (fun k=> ∀ x3:Int,Qki x0 x3 (k:Int)=QkK x0 x3 (k:Int)) ?_ ?_ k (by omega)
 ·intro x3
  rw [QwM]
  simp only [QnG,QkK,show ilt (x0.length:Int) (llen x0)=false from decide_eq_false (by simp only [llen]; omega),Qae,Int.toNat_natCast,List.drop_length,List.foldl_nil]
 ·intro k hk ih x3
  rw [QwM]
  simp only [QnG,show ilt (k:Int) (llen x0)=true from decide_eq_true (by simp only [llen]; omega),Qax,hk,decide_true,Qab,Int.toNat_natCast,add1 (show k<4611686018427387904 by omega),QaC (y:= .int .u8) hk,ih]
  simp only [QkK,Int.toNat_natCast,List.drop_eq_getElem_cons hk,List.foldl_cons,stepS]
theorem QLn: ∀ S l p,Qmx.L 0 (fgt Qhs S)=some (true,l)→pickA l=some p→loopF (Qai Qmx Qhs Qjt) S=some p:=
 QaB (s:=QpH) ⟨by decide,by decide⟩ (by kernel_rfl) fun x y hok p hp=>by
 simp only [Qap,Qam] at hp
 exact (QQk x.1 x.2.1 x.2.2.1 (by simpa using hok)).trans hp
theorem QXh:Qyu.lok Qmx:=by
 repeat (first | exact trivial | exact QLn | refine ⟨?_, ?_⟩)
theorem s_f132 (b:List Int)(h:lenB b=true):QJV b=some (.t tI (sumB b),[]):=by
 simp only [lenB,decide_eq_true_eq] at h
 simp only [QJV,show idxOk b 0=true from decide_eq_true (by omega),Qab,Int.toNat_zero,List.drop_zero]
 rfl
def QHc:Ent:=spec (.pr (.sl (.int .u8)) .nil) (fun x=>(lenB x.1)) (fun x=>(.t tI (sumB x.1)))
theorem QVW:Meets Tryz.prog 132 (strip QHc):=Qaf (R:=runF Qmx Qyu QIC false) (mG Tryz.func132 (by kernel_rfl) Tryz.ntmps132 (by kernel_rfl) QYY QXh) fun x hok=>(e_f132 x.1).trans (s_f132 x.1 hok)
theorem QUi (c:Qaa):lenB (QbB c).1=true:=decide_eq_true (by have:=QE2 c; omega)
def Qlx (c:Qaa)(k:Int):Bool:=ieq (QbB c).2 0&&(ieq (cSeal c).1 k&&ieq (cSeal c).2.1 (sumB (QbB c).1))
def QbW (c:Qaa)(_k:Int):Bool:=QaG c
noncomputable def QM8:List DO:=dT Tryz.f141 2
noncomputable def Qyp:TC:=(.sq (.reg (rT Tryz.f141 0)) (.sq (.reg (rT Tryz.f141 1)) (.sq (.dr QM8 [(0,[]),(1,[]),(2,[]),(3,[2]),(4,[2]),(5,[]),(6,[]),(7,[]),(8,[]),(9,[]),(10,[]),(11,[])] (.of [0,1,2,3,4,5,6,7,8,9,10,11])) .rt)))
def QIx:List (RV×Option Ty):=[((.t 4),some .bool)]
def QCC:G:=⟨TYs,[],23,EL [(166,QGR),(167,QGQ)],keeps,(fun _ _=>none),IL [],RL []⟩
def QJR (p0:Qaa)(p1:Int):Option (V×List VO):=br (QaG p0) (br (ieq ((QbB p0).2) 0) (br (lenB ((QbB p0).1)) (some (.t .bool (and (ieq p0.2.2.2.2.2.2.2.2.2.2.2.1.1 p1) (and (ieq p0.2.2.2.2.2.2.2.2.2.2.2.1.2.1 (sumB ((QbB p0).1))) true)),[])) none) (some (.t .bool false,[]))) none
theorem e_f141 (p0:Qaa)(p1:Int):runF QCC Qyp QIx false [.t Qac p0, .t tI p1] []=QJR p0 p1:=by kernel_rfl
theorem QZX:Qag Tryz.prog 141:= .inr ⟨by decide,_,Tryz.func141,by kernel_rfl,by kernel_rfl⟩
theorem QYT:GOk Tryz.prog QCC:=Qak _ (gA (gC QZJ QVD (gC QZI QVC gN)))
theorem QXc:Qyp.lok QCC:=by repeat (first | exact trivial | refine ⟨?_, ?_⟩)
theorem s_f141 (c:Qaa)(k:Int)(h:QbW c k=true):QJR c k=some (.t .bool (Qlx c k),[]):=by
 simp only [QJR,show QaG c=true from h,QUi,Qab,Bool.and_true]
 exact brA rfl
def QG6:Ent:=spec (.pr Qac (.pr tI .nil)) (fun x=>(QbW x.1 x.2.1)) (fun x=>(.t .bool (Qlx x.1 x.2.1)))
theorem QVR:Meets Tryz.prog 141 (strip QG6):=Qaf (R:=runF QCC Qyp QIx false) (mG Tryz.func141 (by kernel_rfl) Tryz.ntmps141 (by kernel_rfl) QYT QXc) fun x hok=>(e_f141 x.1 x.2.1).trans (s_f141 x.1 x.2.1 hok)
def copyC (c:Qaa):Qaa:=c
noncomputable def Qyx:TC:=(.sq (.reg (rT Tryz.f129 0)) (.sq (.reg (rT Tryz.f129 1)) (.sq (.reg (rT Tryz.f129 2)) .rt)))
def QIF:List (RV×Option Ty):=[((.c 2 true 15),some Qac)]
def QCG:G:=⟨TYs,[3],9,EL [],keeps,(fun _ _=>none),IL [],RL []⟩
def QJX (p0:Qaa):Option (V×List VO):=br (cApp ([]:List ByteArray) p0.2.2.2.2.2.2.2.2.2.2.1 16) (some (.t Qac (p0.1,(p0.2.1,(p0.2.2.1,((p0.2.2.2.1.1,(p0.2.2.2.1.2.1,())),(p0.2.2.2.2.1,((p0.2.2.2.2.2.1.1,(p0.2.2.2.2.2.1.2.1,())),(p0.2.2.2.2.2.2.1,(p0.2.2.2.2.2.2.2.1,(p0.2.2.2.2.2.2.2.2.1,(p0.2.2.2.2.2.2.2.2.2.1,((([]:List ByteArray)++p0.2.2.2.2.2.2.2.2.2.2.1),((p0.2.2.2.2.2.2.2.2.2.2.2.1.1,(p0.2.2.2.2.2.2.2.2.2.2.2.1.2.1,())),())))))))))))),[])) none
theorem e_f129 (p0:Qaa):runF QCG Qyx QIF false [.t Qac p0] []=QJX p0:=by kernel_rfl
theorem QZ4:Qag Tryz.prog 129:= .inr ⟨by decide,_,Tryz.func129,by kernel_rfl,by kernel_rfl⟩
theorem QY1:GOk Tryz.prog QCG:=Qak _ (fun p hp=>by cases hp)
theorem QXk:Qyx.lok QCG:=by repeat (first | exact trivial | refine ⟨?_, ?_⟩)
theorem Qxi {c:Qaa}(h:QaG c=true):(QaF c).length≤100000:=by
 simp only [QaG,Qb7,Bool.and_eq_true,decide_eq_true_eq] at h
 exact h.2.2.1
theorem s_f129 (c:Qaa)(h:QaG c=true):QJX c=some (.t Qac (copyC c),[]):=by
 have hn:c.2.2.2.2.2.2.2.2.2.2.1.length≤100000:=Qxi h
 simp only [QJX]
 rw [cAppN (by omega) (by simp only [List.length_nil]; omega),Qab]
 rfl
def QHf:Ent:=spec (.pr Qac .nil) (fun x=>(QaG x.1)) (fun x=>(.t Qac (copyC x.1)))
theorem QVY:Meets Tryz.prog 129 (strip QHf):=Qaf (R:=runF QCG Qyx QIF false) (mG Tryz.func129 (by kernel_rfl) Tryz.ntmps129 (by kernel_rfl) QY1 QXk) fun x hok=>(e_f129 x.1).trans (s_f129 x.1 hok)
def sealC (c:Qaa)(s:Keep):Qaa:=(c.1,(c.2.1,(c.2.2.1,(c.2.2.2.1,(c.2.2.2.2.1,(c.2.2.2.2.2.1,(c.2.2.2.2.2.2.1,(c.2.2.2.2.2.2.2.1,(c.2.2.2.2.2.2.2.2.1,(c.2.2.2.2.2.2.2.2.2.1,(c.2.2.2.2.2.2.2.2.2.2.1,(s,()))))))))))))
def unsC (c:Qaa):Qaa:=sealC c (0,(0,()))
def Qpb (c:Qaa)(k:Int):Bool:= !QaD (unsC c)||(ilt k 0||igt k 2147483648)
abbrev zCert:Qaa:=Ty.zero Qac
def signC (c:Qaa)(k:Int):Qaa×Int:=bif Qpb c k then (zCert,9) else (sealC c (k,(sumB (QbB (unsC c)).1,())),0)
noncomputable def QFy:TC:=(.sq (.reg (rT Tryz.f84 0)) (.sq (.reg (rT Tryz.f84 1)) (.sq (.reg (rT Tryz.f84 2)) (.sq (.sq (.reg (rT Tryz.f84 3)) (.cd (.t 22) (.sq (.reg (rT Tryz.f84 4)) .rt) .sk)) (.sq (.reg (rT Tryz.f84 5)) (.sq (.reg (rT Tryz.f84 6)) (.sq (.reg (rT Tryz.f84 7)) .rt)))))))
def QTb:List (RV×Option Ty):=[((.c 4 true 15),some Qac),((.t 5),some tI)]
def g_f84:G:=⟨TYs,[],35,EL [(129,QHf),(130,Qy1),(131,QHd),(132,QHc)],keeps,(fun _ _=>none),IL [],RL []⟩
def r_f84 (p0:Qaa)(p1:Int):Option (V×List VO):=
 let a4:=((copyC p0).2)
 let a1:=((((a4.2).2).2).2)
 let a5:=(((a1.2).2).2)
 let a2:=((QbB ((copyC p0).1,(a4.1,((a4.2).1,(((a4.2).2).1,((((a4.2).2).2).1,(a1.1,((a1.2).1,(((a1.2).2).1,(a5.1,((a5.2).1,(((a5.2).2).1,((0,(0,())),(((a5.2).2).2).2))))))))))))).1)
 let a3:=(QaG ((copyC p0).1,(a4.1,((a4.2).1,(((a4.2).2).1,((((a4.2).2).2).1,(a1.1,((a1.2).1,(((a1.2).2).1,(a5.1,((a5.2).1,(((a5.2).2).1,((0,(0,())),(((a5.2).2).2).2)))))))))))))
 let a6:=ByteArray.mk #[]
 br (QaG p0) (br a3 (br (ine (Qfl ((copyC p0).1,(a4.1,((a4.2).1,(((a4.2).2).1,((((a4.2).2).2).1,(a1.1,((a1.2).1,(((a1.2).2).1,(a5.1,((a5.2).1,(((a5.2).2).1,((0,(0,())),(((a5.2).2).2).2))))))))))))) 0) (some (.tu [(.t Qac (0,(a6,(a6,((0,(0,())),(0,((0,(0,())),(0,(0,(false,(0,(([]:List ByteArray),((0,(0,())),()))))))))))))),(.t tI 9)],[])) (br (ilt p1 0) (some (.tu [(.t Qac (0,(a6,(a6,((0,(0,())),(0,((0,(0,())),(0,(0,(false,(0,(([]:List ByteArray),((0,(0,())),()))))))))))))),(.t tI 9)],[])) (br (igt p1 2147483648) (some (.tu [(.t Qac (0,(a6,(a6,((0,(0,())),(0,((0,(0,())),(0,(0,(false,(0,(([]:List ByteArray),((0,(0,())),()))))))))))))),(.t tI 9)],[])) (br a3 (br (lenB a2) (some (.tu [(.t Qac ((copyC p0).1,(a4.1,((a4.2).1,(((a4.2).2).1,((((a4.2).2).2).1,(a1.1,((a1.2).1,(((a1.2).2).1,(a5.1,((a5.2).1,(((a5.2).2).1,((p1,((sumB a2),())),(((a5.2).2).2).2))))))))))))),(.t tI 0)],[])) none) none)))) none) none
theorem e_f84 (p0:Qaa)(p1:Int):runF g_f84 QFy QTb false [.t Qac p0, .t tI p1] []=r_f84 p0 p1:=by kernel_rfl
theorem en_f84:Qag Tryz.prog 84:= .inr ⟨by decide,_,Tryz.func84,by kernel_rfl,by kernel_rfl⟩
theorem gk_f84:GOk Tryz.prog g_f84:=Qak _ (gA (gC QZ4 QVY (gC QMT QKP (gC QZ3 QVX (gC QZ2 QVW gN)))))
theorem lk_f84:QFy.lok g_f84:=by repeat (first | exact trivial | refine ⟨?_, ?_⟩)
theorem s_f84 (c:Qaa)(k:Int)(h:QbW c k=true):r_f84 c k=some (.tu [.t Qac (signC c k).1, .t tI (signC c k).2],[]):=by
 have h:QaG c=true:=h
 have hu:QaG (unsC c)=true:=h
 have e:((copyC c).1,((copyC c).2.1,((copyC c).2.2.1,((copyC c).2.2.2.1,((copyC c).2.2.2.2.1,((copyC c).2.2.2.2.2.1,((copyC c).2.2.2.2.2.2.1,((copyC c).2.2.2.2.2.2.2.1,((copyC c).2.2.2.2.2.2.2.2.1,((copyC c).2.2.2.2.2.2.2.2.2.1,((copyC c).2.2.2.2.2.2.2.2.2.2.1,((0,(0,())),()))))))))))))=unsC c:=rfl
 simp only [r_f84,h,e,hu,QhE,QUi,Qab]
 unfold signC Qpb
 cases QaD (unsC c) with
 | false=>rfl
 | true=>
  rw [Bool.not_true,Qae,Bool.false_or]
  cases ilt k 0 with
  | true=>rfl
  | false=>
   rw [Qae,Bool.false_or]
   cases igt k 2147483648 <;> rfl
def QSI:Ent:=spec (.pr Qac (.pr tI .nil)) (fun x=>(QbW x.1 x.2.1)) (fun x=>(.tu [(.t Qac ((signC x.1 x.2.1).1)),(.t tI ((signC x.1 x.2.1).2))]))
theorem ms_f84:Meets Tryz.prog 84 (strip QSI):=Qaf (R:=runF g_f84 QFy QTb false) (mG Tryz.func84 (by kernel_rfl) Tryz.ntmps84 (by kernel_rfl) gk_f84 lk_f84) fun x hok=>(e_f84 x.1 x.2.1).trans (s_f84 x.1 x.2.1 hok)
def QaZ (l:List Qaa):Bool:=decide (l.length≤100000)&&l.all QaG
def QlT (key:Keep)(id:Int)(l:List Qaa):Bool:=ieq (llen l) 0||(((l.getD 0 zCert).2.2.2.1 == key)&&ieq (l.getD 0 zCert).2.2.2.2.1 id)
def Qis (key:Keep)(id:Int)(l:List Qaa):Bool:=Qby key&&(!ine (kindF key.1) 2&&(keyI id&&(!igt (llen l) 8&&(l.all QaD&&QlT key id l))))
def Qpc (_key:Keep)(_id:Int)(l:List Qaa):Bool:=QaZ l
theorem QEH (key:Keep)(id:Int)(l:List Qaa):br (ieq (llen l) 0) (some (V.t .bool true,([]:List VO))) (br (cIx l 0) (br ((lgt Qac l 0).2.2.2.1 == key) (br (cIx l 0) (some (V.t .bool (ieq (lgt Qac l 0).2.2.2.2.1 id),[])) none) (some (V.t .bool false,[]))) none)=some (V.t .bool (QlT key id l),[]):=by
 unfold QlT
 cases l with
 | nil=>rfl
 | cons c l=>
  have h1:ieq (llen (c::l)) 0=false:=by
   simp only [ieq,llen,List.length_cons,beq_eq_false_iff_ne]
   omega
  have h2:cIx (c::l) 0=true:=by simp only [cIx,List.length_cons,decide_eq_true_eq]; omega
  rw [h1,Qae,h2,Qab,Bool.false_or,Qab]
  show br (c.2.2.2.1 == key) _ _=some (V.t .bool ((c.2.2.2.1 == key)&&ieq c.2.2.2.2.1 id),[])
  cases c.2.2.2.1 == key <;> rfl
noncomputable def QNb:List DO:=dT Tryz.f117 9
def Qhv:Fg:=⟨[(1,some tI),(2,some (.sl Qac)),(3,none),(28,some (.sl Qac)),(29,some tI),(30,some tI)],[(3,some Qah)]⟩
noncomputable def Qjw:TC:=(.sq (.reg (rT Tryz.f117 4)) (.sq (.cd (.t 31) .sk (.fg ⟨[(1,some tI),(2,some (.sl Qac)),(3,none)],[(3,some Qah)]⟩ (.ex 0))) (.sq (.bk 1 (.sq (.reg (rT Tryz.f117 5)) (.sq (.reg (rT Tryz.f117 6)) (.cd (.t 36) (.sq (.reg (rT Tryz.f117 7)) (.fg ⟨[(6,some .bool)],[]⟩ .rt)) .sk)))) (.reg (rT Tryz.f117 8)))))
noncomputable def QyE:TC:=(.sq (.reg (rT Tryz.f117 0)) (.sq (.sq (.reg (rT Tryz.f117 1)) (.cd (.t 27) (.sq (.reg (rT Tryz.f117 2)) .rt) .sk)) (.sq (.sq (.reg (rT Tryz.f117 3)) (.bk 0 (.lp 0 Qhv Qjw))) (.sq (.dr QNb [(0,[]),(1,[]),(2,[]),(3,[]),(4,[]),(5,[]),(6,[]),(7,[]),(8,[3]),(9,[]),(10,[]),(11,[]),(12,[]),(13,[]),(14,[]),(15,[]),(16,[]),(17,[]),(18,[]),(19,[])] (.of [0,1,2,3,4,5,6,7,8,9,10,11,12,13,14,15,16,17,18,19])) .rt))))
def QIM:List (RV×Option Ty):=[((.t 6),some .bool)]
abbrev QpM:Sh:=⟨[(1, .ty tI),(2, .ty (.sl Qac)),(3, .ptr 3 0),(28, .ty (.sl Qac)),(29, .ty tI),(30, .ty tI)],[(3, .box Qah)]⟩
def QoV (x1:Int)(x2 x28:List Qaa)(x29 x30:Int)(y3:Keep):VS:=QpM.st (x1,x2,(),x28,x29,x30,()) (y3,())
abbrev Qtr:Sh:=⟨[(6, .ty .bool)],[]⟩
def Qdu (x6:Bool):VS:=Qtr.st (x6,()) ()
abbrev QvQ:Sh:=⟨[(1, .ty tI),(2, .ty (.sl Qac)),(3, .ptr 3 0)],[(3, .box Qah)]⟩
def QeB (x1:Int)(x2:List Qaa)(y3:Keep):VS:=QvQ.st (x1,x2,(),()) (y3,())
def QSp:VS→Option (Bool×List (Bool×Exit×VS)):=mkL QpM (fun x y=>(rngOk x.2.2.2.1 x.2.2.2.2.1 x.2.2.2.2.2.1&&QaZ x.2.2.2.1)) (fun x y=>[((!(x.2.2.2.1.drop x.2.2.2.2.2.1.toNat).all QaD), .ret,Qdu (false)),(true, .exit 0,QeB (x.1) (x.2.1) (y.1))])
def QmA:G:=⟨TYs,[],57,EL [(96,QGe),(121,QsX),(125,QsV),(155,QsU)],keeps,(Ls [QSp]),IL [],RL []⟩
def QDH (x1:Int)(x2 x28:List Qaa)(x29 x30:Int)(y3:Keep):Option (Exit×VS):=
 let a1:=lgt Qac x28 (Int.toNat x30)
 br (ilt x30 x29) (br (cIx x28 x30) (br (QaG a1) (br (ine (Qfl a1) 0) (some (.ret,Qdu false)) (some (.normal,QoV x1 x2 x28 x29 (iadd .i64 x30 1) y3))) none) none) (some (.exit 0,QeB x1 x2 y3))
noncomputable def Qkk (x1:Int)(x2 x28:List Qaa)(x29 x30:Int)(y3:Keep):Option (Exit×VS):=loopF (Qai QmA Qhv Qjw) (QoV x1 x2 x28 x29 x30 y3)
noncomputable def QnJ (x1:Int)(x2 x28:List Qaa)(x29 x30:Int)(y3:Keep):Option (Exit×VS):=
 let a1:=lgt Qac x28 (Int.toNat x30)
 br (ilt x30 x29) (br (cIx x28 x30) (br (QaG a1) (br (ine (Qfl a1) 0) (some (.ret,Qdu false)) (Qkk x1 x2 x28 x29 (iadd .i64 x30 1) y3)) none) none) (some (.exit 0,QeB x1 x2 y3))
def QkN (x1:Int)(x2 x28:List Qaa)(x29 x30:Int)(y3:Keep):Option (Exit×VS):=br (!(x28.drop x30.toNat).all QaD) (some (.ret,Qdu (false)))<|some (.exit 0,QeB (x1) (x2) (y3))
theorem QN6 (x1:Int)(x2 x28:List Qaa)(x29 x30:Int)(y3:Keep):Qai QmA Qhv Qjw (QoV x1 x2 x28 x29 x30 y3)=QDH x1 x2 x28 x29 x30 y3:=by kernel_rfl
theorem QwP (x1:Int)(x2 x28:List Qaa)(x29 x30:Int)(y3:Keep):Qkk x1 x2 x28 x29 x30 y3=QnJ x1 x2 x28 x29 x30 y3:=(Qan _ _).trans (by
 rw [QN6]
 simp only [QDH,QnJ,QaA,nxt_n,nxt_r,nxt_e,nxt_0]
 rfl)
def QJ0 (p0:Keep)(p1:Int)(p2:List Qaa):Option (V×List VO):=
 let a1:=((((lgt Qac (p2) (Int.toNat 0)).2).2).2)
 br (!(Qby p0)) (some (.t .bool false,[])) (br (ine (kindF p0.1) 2) (some (.t .bool false,[])) (br (!(keyI p1)) (some (.t .bool false,[])) (br (igt (llen p2) 8) (some (.t .bool false,[])) (br (rngOk p2 (llen p2) (0:Int)&&QaZ p2) (br (!(p2.drop (0:Int).toNat).all QaD) (some (.t .bool (false),[])) (br (ieq (llen (p2)) 0) (some (.t .bool true,[])) (br (cIx (p2) 0) (br (and (ieq ((a1.1).1) ((p0).1)) (and (ieq (((a1.1).2).1) (((p0).2).1)) true)) (br (cIx (p2) 0) (some (.t .bool (ieq ((a1.2).1) (p1)),[])) none) (some (.t .bool false,[]))) none))) none))))
theorem e_f117 (p0:Keep)(p1:Int)(p2:List Qaa):runF QmA QyE QIM false [.t Qah p0, .t tI p1, .t (.sl Qac) p2] []=QJ0 p0 p1 p2:=by kernel_rfl
theorem QZ8:Qag Tryz.prog 117:= .inr ⟨by decide,_,Tryz.func117,by kernel_rfl,by kernel_rfl⟩
theorem QY8:GOk Tryz.prog QmA:=Qak _ (gA (gC QUo QT5 (gC QAI QzO (gC QAG QzM (gC QAE QzK gN)))))
theorem QQn (x1:Int)(x2 x28:List Qaa)(x29 x30:Int)(y3:Keep)(h:(rngOk x28 x29 x30&&QaZ x28)=true):Qkk x1 x2 x28 x29 x30 y3=QkN x1 x2 x28 x29 x30 y3:=by
 simp only [Bool.and_eq_true] at h
 obtain ⟨h0,hc⟩:=h
 obtain ⟨rfl,h3,k,rfl,hk⟩:=rng_k h0
 clear h0
 simp only [QaZ,Bool.and_eq_true,List.all_eq_true] at hc
 refine Qat x28 (fun k=>Qkk x1 x2 x28 (x28.length:Int) (k:Int) y3=QkN x1 x2 x28 (x28.length:Int) (k:Int) y3) ?_ ?_ k hk
 ·rw [QwP]
  simp only [QnJ,QkN,Qar,Nat.lt_irrefl,decide_false,Qae,Int.toNat_natCast,List.drop_length,List.all_nil,Bool.not_true]
 ·intro k hk ih
  rw [QwP]
  have hx:=hc.2 x28[k] (List.getElem_mem hk)
  simp only [QnJ,Qar,Qax,hk,decide_true,Qab,Int.toNat_natCast,add1 (show k<4611686018427387904 by omega),QaC (y:=Qac) hk,hx,QhE,ih]
  simp only [QkN,Int.toNat_natCast,List.drop_eq_getElem_cons hk,List.all_cons]
  cases QaD x28[k] <;> rfl
theorem QLq: ∀ S l p,QmA.L 0 (fgt Qhv S)=some (true,l)→pickA l=some p→loopF (Qai QmA Qhv Qjw) S=some p:=
 QaB (s:=QpM) ⟨by decide,by decide⟩ (by kernel_rfl) fun x y hok p hp=>by
 simp only [Qap,Qam] at hp
 exact (QQn x.1 x.2.1 x.2.2.2.1 x.2.2.2.2.1 x.2.2.2.2.2.1 y.1 (by simpa using hok)).trans hp
theorem QXr:QyE.lok QmA:=by
 repeat (first | exact trivial | exact QLq | refine ⟨?_, ?_⟩)
theorem s_f117 (key:Keep)(id:Int)(l:List Qaa)(h:Qpc key id l=true):QJ0 key id l=some (.t .bool (Qis key id l),[]):=by
 have h:QaZ l=true:=h
 have hl:l.length≤100000:=by simp only [QaZ,Bool.and_eq_true,decide_eq_true_eq] at h; exact h.1
 simp only [QJ0,rng_0 hl,h,Bool.and_self,Qab,Int.toNat_zero,List.drop_zero,QXW]
 unfold Qis
 refine (brB<|brB<|brB<|brB<|brB (QEH key id l)).trans ?_
 simp only [Bool.not_not]
def QHj:Ent:=spec (.pr Qah (.pr tI (.pr (.sl Qac) .nil))) (fun x=>(Qpc x.1 x.2.1 x.2.2.1)) (fun x=>(.t .bool (Qis x.1 x.2.1 x.2.2.1)))
theorem QV2:Meets Tryz.prog 117 (strip QHj):=Qaf (R:=runF QmA QyE QIM false) (mG Tryz.func117 (by kernel_rfl) Tryz.ntmps117 (by kernel_rfl) QY8 QXr) fun x hok=>(e_f117 x.1 x.2.1 x.2.2.1).trans (s_f117 x.1 x.2.1 x.2.2.1 hok)
end
end Go.Proofs.YtckcgijklnloiaaGreat.K
