import Derived.Test.YtckcgijklnloiaaGreatQ7
import Derived.Test.YtckcgijklnloiaaGreatQ3
import Derived.RangeFuncCalls
import Derived.RangeFuncBound
import Derived.Shelf.RegionOpen
import Derived.OwnWalkIn
import Derived.TacticsInMore
import Derived.LoopNIn
import Derived.LoopIn
set_option linter.unusedSimpArgs false
set_option linter.unusedVariables false
noncomputable section
namespace Go.Proofs.YtckcgijklnloiaaGreat.K
open Go.RowKit
noncomputable section
abbrev iB (d:Qd):Bool:=igt (Ql (JF d) 3) 0
abbrev iD2 (d:Qd):Qd:=Qg (JF d) 3
abbrev iA (d:Qd):Int:=dof (iD2 d) [5,7]
def G8 (d:Qd):Qb:=bif iB d then (iA d,(Y9 (Qt (iD2 d) [5,7]) (iA d),())) else Yr d
def iD3 (d:Qd):Qd:=bif iB d then Z5 (Qt (iD2 d) [5,7]) (iA d) else iD2 d
def iId (d:Qd):Int:=100+Ql (iD3 d) 20
abbrev iD4 (d:Qd):Qd:=Qg (iD3 d) 20
abbrev iD5 (d:Qd):Qd:=Qg (iD4 d) 9
def iCh (d:Qd)(nm:ByteArray):List Qf:=bif !done (iD4 d) 9 then Y7 (iD5 d) nm (G8 d) (iId d) else []
def iD6 (d:Qd)(nm:ByteArray):Qd:=bif !done (iD4 d) 9 then U2 (iD5 d) nm (G8 d) (iId d) else iD5 d
def idV (d:Qd)(nm:ByteArray):QA:=(G8 d,(iId d,(iCh d nm,())))
theorem Qs9 {d:Qd}(h:dOk d=true):dOk (iD3 d)=true:=by
 unfold iD3
 cases iB d
 ·exact QG (n:=3) (Qfk h)
 ·exact Qfo (JH (l:=[5,7]) (QG (n:=3) (Qfk h)))
theorem QWS {d:Qd}{nm:ByteArray}{k:Qb}{id:Int}(h:dOk d=true):dOk (U2 d nm k id)=true:=by
 have h2:=(QaJ (dof d [1,0,2]).toNat 0 _ (Bf.2 ⟨QG (n:=2) (JH (l:=[1,0,2]) h),rfl⟩:XY ([],Qg (Qt d [1,0,2]) 2,W6,1+Ql (Qt d [1,0,2]) 2)=true)).1
 exact Qxu (Bf.1 h2).1
theorem Qdx {d:Qd}{nm:ByteArray}(h:dOk d=true):dOk (iD6 d nm)=true:=by
 have h5:dOk (iD5 d)=true:=QG (n:=9) (QG (n:=20) (Qs9 h))
 unfold iD6
 cases !done (iD4 d) 9
 ·exact h5
 ·exact QWS h5
def ZE:Nat->ByteArray->Qd->List QA×Qd
 |0,_,d=>([],d)
 |n+1,nm,d=>(idV d nm::(ZE n nm (iD6 d nm)).1,(ZE n nm (iD6 d nm)).2)
theorem Qdy: ∀ (n:Nat) (nm:ByteArray) (d:Qd),dOk d=true->dOk (ZE n nm d).2=true/\(ZE n nm d).1.length=n
 |0,_,d,h=>⟨h,rfl⟩
 |n+1,nm,d,h=>by
  have:=Qdy n nm (iD6 d nm) (Qdx h)
  exact ⟨this.1,by simp only [ZE,Bp,this.2]⟩
abbrev eL0 (d:Qd):Int:=dof d [1,1,2,3]
abbrev eD1 (d:Qd):Qd:=Qt d [1,1,2,3]
abbrev eD2 (d:Qd):Qd:=Y0 (eD1 d)
abbrev eD3 (d:Qd):Qd:=Qg (eD2 d) 2
abbrev eD4 (d:Qd):Qd:=Qg (eD3 d) 2
abbrev eD5 (d:Qd):Qd:=Qg (eD4 d) (5-eL0 d)
abbrev eD6 (d:Qd):Qd:=Qg (eD5 d) 3
abbrev eB (d:Qd):Bool:=igt (Ql (eD5 d) 3) 0
def WQ (d:Qd):Int:=bif eB d then 1 else eL0 d
def WR (d:Qd):Int:=bif eB d then dof (eD6 d) [3,4,2] else eL0 d+Ql (eD4 d) (5-eL0 d)
def eD7 (d:Qd):Qd:=bif eB d then Qt (eD6 d) [3,4,2] else eD6 d
abbrev eD8 (d:Qd):Qd:=Qt (eD7 d) [1,2,1,3,0]
def ZW (d:Qd)(nm:ByteArray):List QA×Qd:=ZE (dof (eD7 d) [1,2,1,3,0]).toNat nm (eD8 d)
abbrev eAn (d:Qd)(nm:ByteArray):List Int:=lgt (.sl tI) [[1,2],[1,2],[1],[2,11],([]:List Int)] (Ql (ZW d nm).2 5).toNat
abbrev eD10 (d:Qd)(nm:ByteArray):Qd:=Qg (ZW d nm).2 5
abbrev eHs (d:Qd)(nm:ByteArray):List Int:=lgt (.sl tI) [[1,2,3,4],[2,3,4],[3,4]] (Ql (eD10 d nm) 3).toNat
def epV (d:Qd)(nm:ByteArray):Endpoint:=(nm,(WQ d,(WR d,(WN (eD1 d),(done (eD2 d) 2,((ZW d nm).1,(eAn d nm,(eHs d nm,(done (eD3 d) 2,())))))))))
def epN (d:Qd)(nm:ByteArray):Qd:=Qg (eD10 d nm) 3
def Ea (d:Qd)(nm:ByteArray):Bool:=dOk d&&decide (nm.size<=1000)
def QWT:List DO:=dT Tryz.f36 2
abbrev G9:Sh:=⟨[(0,.ptr 50000 0),(1,.ty .str),(4,.ptr 4 0),(5,.ptr 5 0),(6,.ty tI)],[(4,.box Qj),(5,.bag [.ty .str,.ty tI,.ty tI,.ms 15,.ty .bool,.ms 20505,.nl,.nl,.ty .bool]),(15,.arr 3 tI),(78,.no),(5015,.no),(10015,.no),(15015,.no),(20505,.arr 99 Q1),(50000,.box QM)]⟩
abbrev Qta:Sh:=⟨[(0,.ptr 50000 0),(4,.ptr 4 0),(5,.ptr 5 0)],[(4,.box Qj),(5,.bag [.ty .str,.ty tI,.ty tI,.ms 15,.ty .bool,.ms 20505,.nl,.nl,.ty .bool]),(15,.arr 3 tI),(78,.no),(5015,.no),(10015,.no),(15015,.no),(20505,.arr 99 Q1),(50000,.box QM)]⟩
def Eb:Fg:=G9.f
def US:TC:=aF Tryz.f36 [(14,pD [(0,[5,15,78,5015,10015,15015,20505]),(1,[5,15,78,5015,10015,15015,20505]),(2,[50000]),(3,[5,15,78,5015,10015,15015,20505]),(4,[5,15,78,5015,10015,15015,20505]),(5,[15,78,5015,10015,15015,20505]),(6,[27,5027,10027,15027,50000]),(7,[15,78,5015,10015,15015,20505]),(8,[5,15,78,5015,10015,15015,20505]),(9,[4,5,15,78,5015,10015,15015,20505])] (.of [0,1,2,3,4,5,6,7,8,9])),(250,.nf 5 5 99 20505),(250,pL 0 Eb),(4003,.fg ⟨[(0,none),(4,none),(5,none)],[(4,some Qj),(5,some Qj),(15,none),(78,none),(5015,none),(10015,none),(15015,none),(20505,none),(50000,some QM)]⟩)]
def VP:TC:=lb 0 US
def Iq:List (RV×Option Ty):=[((.c 4 true 9),none)]
def Fa (x1:ByteArray)(x6:Int)(y4:Endpoint)(y5_0:ByteArray)(y5_1 y5_2:Int)(y5_4 y5_8:Bool)(y15:List Int)(QV:List QA)(Qa:Qd):VS:=G9.st ((),x1,(),(),x6,()) (y4,(y5_0,y5_1,y5_2,(),y5_4,(),(),(),y5_8,()),y15,(),(),(),(),QV,Qa,())
def Ec (y4:Endpoint)(y5_0:ByteArray)(y5_1 y5_2:Int)(y5_4 y5_8:Bool)(y15:List Int)(QV:List QA)(Qa:Qd):VS:=Qta.st ((),(),(),()) (y4,(y5_0,y5_1,y5_2,(),y5_4,(),(),(),y5_8,()),y15,(),(),(),(),QV,Qa,())
def Qtb:VS->Option (Bool×List (Bool×Exit×VS)):=mkL G9 (fun x y=>(decide (0<=x.2.2.2.2.1/\(y.2.2.2.2.2.2.2.1.length:Int)+x.2.2.2.2.1<=10/\x.2.1.size<=1000)&&dOk y.2.2.2.2.2.2.2.2.1)) (fun x y=>[(true,.exit 0,Ec (y.1) (y.2.1.1) (y.2.1.2.1) (y.2.1.2.2.1) (y.2.1.2.2.2.2.1) (y.2.1.2.2.2.2.2.2.2.2.1) (y.2.2.1) (y.2.2.2.2.2.2.2.1++(ZE x.2.2.2.2.1.toNat x.2.1 y.2.2.2.2.2.2.2.2.1).1) ((ZE x.2.2.2.2.1.toNat x.2.1 y.2.2.2.2.2.2.2.2.1).2))])
def Wt:G:=gG 100 [(35,Wj),(45,Ge),(46,Oz),(72,Qrh),(73,QmY),(74,Qfn),(75,Qmw)] (Ls [Qtb])
def QIz (x1:ByteArray)(x6:Int)(y4:Endpoint)(y5_0:ByteArray)(y5_1 y5_2:Int)(y5_4 y5_8:Bool)(y15:List Int)(QV:List QA)(Qa:Qd):OX:=
 let a1:=Qg (JF Qa) 3
 let a2:=(Z5 (Qt a1 ([5,7])) (dof a1 ([5,7])))
 let a3:=((dof a1 ([5,7])),((Y9 (Qt a1 ([5,7])) (dof a1 ([5,7]))),()))
 let a4:=Qk .i64 100 (Ql a2 20)
 let a5:=Qk .i64 100 (Ql a1 20)
 let a6:=((Yr Qa).1,(((Yr Qa).2).1,()))
 let a7:=Qg (Qg a2 20) 9
 let a8:=Qg (Qg a1 20) 9
 let a9:=QT .i64 x6 1
 let a10:=((Y7 a8 x1 (Yr Qa) a5),())
 let a11:=((Y7 a7 x1 a3 a4),())
 br (igt x6 0) (br (dOk Qa) (br (QL (JF Qa) 3) (br (igt (Ql (JF Qa) 3) 0) (br (Jc a1 ([5,7])) (br (GH (Qt a1 ([5,7])) (dof a1 ([5,7]))) (br (QL a2 20) (br (JS (Qg a2 20) 9) (br (!(done (Qg a2 20) 9)) (br (WB a7 x1 a3 a4) (br (Qr QV ([(a3,(a4,a11))]) 48) (some (.normal,Fa x1 a9 y4 y5_0 y5_1 y5_2 y5_4 y5_8 y15 (QV++([(a3,(a4,a11))])) (U2 a7 x1 a3 a4))) none) none) (br (Qr QV ([(a3,(a4,(([]:List Qf),())))]) 48) (some (.normal,Fa x1 a9 y4 y5_0 y5_1 y5_2 y5_4 y5_8 y15 (QV++([(a3,(a4,(([]:List Qf),())))])) a7)) none)) none) none) none) none) (br (QL a1 20) (br (JS (Qg a1 20) 9) (br (!(done (Qg a1 20) 9)) (br (WB a8 x1 (Yr Qa) a5) (br (Qr QV ([(a6,(a5,a10))]) 48) (some (.normal,Fa x1 a9 y4 y5_0 y5_1 y5_2 y5_4 y5_8 y15 (QV++([(a6,(a5,a10))])) (U2 a8 x1 (Yr Qa) a5))) none) none) (br (Qr QV ([(a6,(a5,(([]:List Qf),())))]) 48) (some (.normal,Fa x1 a9 y4 y5_0 y5_1 y5_2 y5_4 y5_8 y15 (QV++([(a6,(a5,(([]:List Qf),())))])) a8)) none)) none) none)) none) none) (some (.exit 0,Ec y4 y5_0 y5_1 y5_2 y5_4 y5_8 y15 QV Qa))
def Wu (x1:ByteArray)(x6:Int)(y4:Endpoint)(y5_0:ByteArray)(y5_1 y5_2:Int)(y5_4 y5_8:Bool)(y15:List Int)(QV:List QA)(Qa:Qd):OX:=QB (QD Wt Eb VP) (Fa x1 x6 y4 y5_0 y5_1 y5_2 y5_4 y5_8 y15 QV Qa)
def Gq (x1:ByteArray)(x6:Int)(y4:Endpoint)(y5_0:ByteArray)(y5_1 y5_2:Int)(y5_4 y5_8:Bool)(y15:List Int)(QV:List QA)(Qa:Qd):OX:=
 let a1:=Qg (JF Qa) 3
 let a2:=(Z5 (Qt a1 ([5,7])) (dof a1 ([5,7])))
 let a3:=((dof a1 ([5,7])),((Y9 (Qt a1 ([5,7])) (dof a1 ([5,7]))),()))
 let a4:=Qk .i64 100 (Ql a2 20)
 let a5:=Qk .i64 100 (Ql a1 20)
 let a6:=((Yr Qa).1,(((Yr Qa).2).1,()))
 let a7:=Qg (Qg a2 20) 9
 let a8:=Qg (Qg a1 20) 9
 let a9:=QT .i64 x6 1
 let a10:=((Y7 a8 x1 (Yr Qa) a5),())
 let a11:=((Y7 a7 x1 a3 a4),())
 br (igt x6 0) (br (dOk Qa) (br (QL (JF Qa) 3) (br (igt (Ql (JF Qa) 3) 0) (br (Jc a1 ([5,7])) (br (GH (Qt a1 ([5,7])) (dof a1 ([5,7]))) (br (QL a2 20) (br (JS (Qg a2 20) 9) (br (!(done (Qg a2 20) 9)) (br (WB a7 x1 a3 a4) (br (Qr QV ([(a3,(a4,a11))]) 48) (Wu x1 a9 y4 y5_0 y5_1 y5_2 y5_4 y5_8 y15 (QV++([(a3,(a4,a11))])) (U2 a7 x1 a3 a4)) none) none) (br (Qr QV ([(a3,(a4,(([]:List Qf),())))]) 48) (Wu x1 a9 y4 y5_0 y5_1 y5_2 y5_4 y5_8 y15 (QV++([(a3,(a4,(([]:List Qf),())))])) a7) none)) none) none) none) none) (br (QL a1 20) (br (JS (Qg a1 20) 9) (br (!(done (Qg a1 20) 9)) (br (WB a8 x1 (Yr Qa) a5) (br (Qr QV ([(a6,(a5,a10))]) 48) (Wu x1 a9 y4 y5_0 y5_1 y5_2 y5_4 y5_8 y15 (QV++([(a6,(a5,a10))])) (U2 a8 x1 (Yr Qa) a5)) none) none) (br (Qr QV ([(a6,(a5,(([]:List Qf),())))]) 48) (Wu x1 a9 y4 y5_0 y5_1 y5_2 y5_4 y5_8 y15 (QV++([(a6,(a5,(([]:List Qf),())))])) a8) none)) none) none)) none) none) (some (.exit 0,Ec y4 y5_0 y5_1 y5_2 y5_4 y5_8 y15 QV Qa))
def XT (x1:ByteArray)(x6:Int)(y4:Endpoint)(y5_0:ByteArray)(y5_1 y5_2:Int)(y5_4 y5_8:Bool)(y15:List Int)(QV:List QA)(Qa:Qd):OX:=
 let a1:=ZE x6.toNat x1 Qa
 some (.exit 0,Ec (y4) (y5_0) (y5_1) (y5_2) (y5_4) (y5_8) (y15) (QV++a1.1) (a1.2))
theorem QWU (x1:ByteArray)(x6:Int)(y4:Endpoint)(y5_0:ByteArray)(y5_1 y5_2:Int)(y5_4 y5_8:Bool)(y15:List Int)(QV:List QA)(Qa:Qd):QD Wt Eb VP (Fa x1 x6 y4 y5_0 y5_1 y5_2 y5_4 y5_8 y15 QV Qa)=QIz x1 x6 y4 y5_0 y5_1 y5_2 y5_4 y5_8 y15 QV Qa:=by kernel_rfl
theorem Qdz (x1:ByteArray)(x6:Int)(y4:Endpoint)(y5_0:ByteArray)(y5_1 y5_2:Int)(y5_4 y5_8:Bool)(y15:List Int)(QV:List QA)(Qa:Qd):Wu x1 x6 y4 y5_0 y5_1 y5_2 y5_4 y5_8 y15 QV Qa=Gq x1 x6 y4 y5_0 y5_1 y5_2 y5_4 y5_8 y15 QV Qa:=(QwX _ _).trans (by
 rw [QWU]
 simp only [QIz,Gq,Xy,X7,X8,X9,Wa]
 rfl)
def Ir (d0:Qd)(p1:ByteArray):OV:=
 let a4:=(Qt d0 ([1,1,2,3]))
 let a6:=Qg (Y0 a4) 2
 let a13:=(dof d0 ([1,1,2,3]))
 let a5:=QT .i64 5 a13
 let a12:=Qg (Qg a6 2) a5
 let a1:=Qg a12 3
 let a7:=(Qt a1 ([3,4,2]))
 let a10:=(dof a7 ([1,2,1,3,0]))
 let a2:=(ZE a10.toNat p1 (Qt a7 ([1,2,1,3,0])))
 let a11:=(dof a1 ([1,2,1,3,0]))
 let a3:=(ZE a11.toNat p1 (Qt a1 ([1,2,1,3,0])))
 let a8:=Qg (a2.2) 5
 let a9:=Qg (a3.2) 5
 br (Jc d0 ([1,1,2,3])) (br (dOk a4) (br (JS (Y0 a4) 2) (br (JS a6 2) (br (QL (Qg a6 2) a5) (br (QL a12 3) (br (igt (Ql a12 3) 0) (br (Jc a1 ([3,4,2])) (br (Jc a7 ([1,2,1,3,0])) (br (decide (0<=a10/\(([]:List QA).length:Int)+a10<=10/\p1.size<=1000)&&dOk (Qt a7 ([1,2,1,3,0]))) (br (QL (a2.2) 5) (br (cIx ([[1,2],[1,2],[1],[2,11],([]:List Int)]) (Ql (a2.2) 5)) (br (QL a8 3) (br (cIx ([[1,2,3,4],[2,3,4],[3,4]]) (Ql a8 3)) (some (.ag [(.t .str (p1)),(.t tI (1:Int)),(.t tI (dof a1 ([3,4,2]))),(.ms 50001),(.t .bool (done (Y0 a4) 2)),(.ms 50002),(.t (.sl tI) (lgt (.sl tI) ([[1,2],[1,2],[1],[2,11],([]:List Int)]) (Int.toNat (Ql (a2.2) 5)))),(.t (.sl tI) (lgt (.sl tI) ([[1,2,3,4],[2,3,4],[3,4]]) (Int.toNat (Ql a8 3)))),(.t .bool (done a6 2))],[.box (.t QM (Qg a8 3)),.arr 3 tI (WN a4),.arr 99 Q1 (([]:List QA)++a2.1)])) none) none) none) none) none) none) none) (br (Jc a1 ([1,2,1,3,0])) (br (decide (0<=a11/\(([]:List QA).length:Int)+a11<=10/\p1.size<=1000)&&dOk (Qt a1 ([1,2,1,3,0]))) (br (QL (a3.2) 5) (br (cIx ([[1,2],[1,2],[1],[2,11],([]:List Int)]) (Ql (a3.2) 5)) (br (QL a9 3) (br (cIx ([[1,2,3,4],[2,3,4],[3,4]]) (Ql a9 3)) (some (.ag [(.t .str (p1)),(.t tI a13),(.t tI (Qk .i64 a13 (Ql (Qg a6 2) a5))),(.ms 50001),(.t .bool (done (Y0 a4) 2)),(.ms 50002),(.t (.sl tI) (lgt (.sl tI) ([[1,2],[1,2],[1],[2,11],([]:List Int)]) (Int.toNat (Ql (a3.2) 5)))),(.t (.sl tI) (lgt (.sl tI) ([[1,2,3,4],[2,3,4],[3,4]]) (Int.toNat (Ql a9 3)))),(.t .bool (done a6 2))],[.box (.t QM (Qg a9 3)),.arr 3 tI (WN a4),.arr 99 Q1 (([]:List QA)++a3.1)])) none) none) none) none) none) none)) none) none) none) none) none) none
theorem Qtc (d0:Qd)(p1:ByteArray):JR Wt US Iq true [.ptr 50000 0,.t .str p1] [.box (.t QM d0)]=Ir d0 p1:=by kernel_rfl
theorem ok_f36:Option.map (trC Tryz.prog) Tryz.f36.body=some US.er:=by kernel_rfl
theorem QWV:GE Tryz.prog Tryz.f36.results.toList=some (Iq.map Prod.fst):=by kernel_rfl
theorem QIA:JX Tryz.prog 36:= .inr ⟨by decide,_,Tryz.func36,by kernel_rfl,by kernel_rfl⟩
theorem Qtd:GOk Tryz.prog Wt:=Zz _ (gA (gD WI (gD GM (gD Qbq (gD QFw (gD Qxs (gD Qm4 (gD QwK gN))))))))
theorem Qte (x1:ByteArray)(x6:Int)(y4:Endpoint)(y5_0:ByteArray)(y5_1 y5_2:Int)(y5_4 y5_8:Bool)(y15:List Int)(QV:List QA)(Qa:Qd)(h:(decide (0<=x6/\(QV.length:Int)+x6<=10/\x1.size<=1000)&&dOk Qa)=true):Wu x1 x6 y4 y5_0 y5_1 y5_2 y5_4 y5_8 y15 QV Qa=XT x1 x6 y4 y5_0 y5_1 y5_2 y5_4 y5_8 y15 QV Qa:=by
 obtain ⟨h,hd⟩:=Bf.1 h
 obtain ⟨h0,h1,h2⟩:=Bv h
 clear h
 obtain ⟨n,rfl⟩:=Bm h0
 have key: ∀ (n:Nat) (QV:List QA) (Qa:Qd),QV.length+n<=10->dOk Qa=true->Wu x1 (n:Int) y4 y5_0 y5_1 y5_2 y5_4 y5_8 y15 QV Qa=XT x1 (n:Int) y4 y5_0 y5_1 y5_2 y5_4 y5_8 y15 QV Qa:=by
  intro n
  induction n with
  |zero=>
   intro QV Qa _ _
   rw [Qdz]
   simp only [Gq,XT,show igt ((0:Nat):Int) 0=false from rfl,Qi,Bb,ZE,BG]
  |succ n ih=>
   intro QV Qa hl hd
   rw [Qdz]
   have e2:QT .i64 ((n+1:Nat):Int) 1=(n:Int):=(Zu (by omega)).trans (by omega)
   have k1:=Qfk hd
   have k2:=QG (n:=3) k1
   have k3:=JH (l:=[5,7]) k2
   have k4: ∀ a,dOk (Z5 (Qt (Qg (JF Qa) 3) [5,7]) a)=true:=fun a=>Qfo k3
   have c1:QL (JF Qa) 3=true:=ZA k1 (by omega)
   have c2:Jc (Qg (JF Qa) 3) [5,7]=true:=XA k2 (by decide) (by decide)
   have c3: ∀ a,GH (Qt (Qg (JF Qa) 3) [5,7]) a=true:=fun a=>k3
   have c4: ∀ a,QL (Z5 (Qt (Qg (JF Qa) 3) [5,7]) a) 20=true:=fun a=>ZA (k4 a) (by omega)
   have c5: ∀ a,JS (Qg (Z5 (Qt (Qg (JF Qa) 3) [5,7]) a) 20) 9=true:=fun a=>WE (QG (k4 a)) (by omega) (by omega)
   have c6:QL (Qg (JF Qa) 3) 20=true:=ZA k2 (by omega)
   have c7:JS (Qg (Qg (JF Qa) 3) 20) 9=true:=WE (QG k2) (by omega) (by omega)
   have c8: ∀ a k i,WB (Qg (Qg (Z5 (Qt (Qg (JF Qa) 3) [5,7]) a) 20) 9) x1 k i=true:=fun a k i=>Bf.2 ⟨QG (QG (k4 a)),Bd h2⟩
   have c9: ∀ k i,WB (Qg (Qg (Qg (JF Qa) 3) 20) 9) x1 k i=true:=fun k i=>Bf.2 ⟨QG (QG k2),Bd h2⟩
   have ca: ∀ v,Qr QV [v] 48=true:=fun v=>Q7 (by omega) (by simp only [Bh];omega)
   have cb: ∀ d:Qd,Qk .i64 100 (Ql d 20)=100+Ql d 20:=fun d=>by
    have b:=JA (d:=d) (n:=20) (by omega)
    exact JK (by omega)
   simp only [Gq,show igt ((n+1:Nat):Int) 0=true from Bd (by omega),Qe,hd,e2,c1,c2,c3,c4,c5,c6,c7,c8,c9,ca,cb]
   have hi: ∀ v d,dOk d=true->Wu x1 (n:Int) y4 y5_0 y5_1 y5_2 y5_4 y5_8 y15 (QV++[v]) d=XT x1 (n:Int) y4 y5_0 y5_1 y5_2 y5_4 y5_8 y15 (QV++[v]) d:=fun v d hd=>ih _ _ (by simp only [Bj,Bh];omega) hd
   have hz:=hi (idV Qa x1) (iD6 Qa x1) (Qdx hd)
   have goal2:XT x1 (n:Int) y4 y5_0 y5_1 y5_2 y5_4 y5_8 y15 (QV++[idV Qa x1]) (iD6 Qa x1)=XT x1 ((n+1:Nat):Int) y4 y5_0 y5_1 y5_2 y5_4 y5_8 y15 QV Qa:=by
    simp only [XT,Bb,ZE,BF,BD]
   refine Eq.trans ?_ (hz.trans goal2)
   simp only [idV,iD6,iCh,iId,G8,iD3,iB,iD2,iA,iD4,iD5]
   cases igt (Ql (JF Qa) 3) 0 with
   |true=>
    simp only [Qe,BZ]
    cases done (Qg (Z5 (Qt (Qg (JF Qa) 3) [5,7]) (dof (Qg (JF Qa) 3) [5,7])) 20) 9<;>rfl
   |false=>
    simp only [Qi,BM]
    cases done (Qg (Qg (JF Qa) 3) 20) 9<;>rfl
 exact key n _ _ (by omega) hd
theorem Qtf:LO Wt Eb VP 0:=QN (s:=G9) fun x y h _ q=>by simp only [QJ,QK] at q;exact (Qte x.2.1 x.2.2.2.2.1 y.1 y.2.1.1 y.2.1.2.1 y.2.1.2.2.1 y.2.1.2.2.2.2.1 y.2.1.2.2.2.2.2.2.2.2.1 y.2.2.1 y.2.2.2.2.2.2.2.1 y.2.2.2.2.2.2.2.2.1 h).trans q
theorem Qtg:US.lok Wt:=by
 repeat (first|exact trivial|exact Qtf|refine ⟨?_, ?_⟩)
theorem Qth (d:Qd)(nm:ByteArray)(h:Ea d nm=true):Ir d nm=some (.ag [.t .str nm,.t tI (WQ d),.t tI (WR d),.ms 50001,.t .bool (done (eD2 d) 2),.ms 50002,.t (.sl tI) (eAn d nm),.t (.sl tI) (eHs d nm),.t .bool (done (eD3 d) 2)],[.box (.t QM (epN d nm)),.arr 3 tI (WN (eD1 d)),.arr 99 Q1 (ZW d nm).1]):=by
 simp only [Ea,Bc,Ba] at h
 obtain ⟨h,hn⟩:=h
 have m0:=Z0 (d:=d) (l:=[1,1,2,3]) (by decide)
 simp only [BT,B0,Dn] at m0
 have k1:=JH (l:=[1,1,2,3]) h
 have k2:=QcH k1
 have k3:=QG (n:=2) k2
 have k4:=QG (n:=2) k3
 have e0:QT .i64 5 (dof d [1,1,2,3])=5-eL0 d:=Zu (by omega)
 have b4:=JA (d:=eD4 d) (n:=5-eL0 d) (by show 0<5-dof d [1,1,2,3];omega)
 have e1:Qk .i64 (dof d [1,1,2,3]) (Ql (eD4 d) (5-eL0 d))=eL0 d+Ql (eD4 d) (5-eL0 d):=JK (by show _/\_;have:eL0 d=dof d [1,1,2,3]:=rfl;omega)
 have k5:=QG (n:=5-eL0 d) k4
 have k6:=QG (n:=3) k5
 have k6':=JH (l:=[3,4,2]) k6
 have k7:dOk (eD7 d)=true:=by
  unfold eD7
  cases eB d
  ·exact k6
  ·exact k6'
 have k8:=JH (l:=[1,2,1,3,0]) k7
 have m7:=Z0 (d:=eD7 d) (l:=[1,2,1,3,0]) (by decide)
 simp only [BT,B0,Dn] at m7
 obtain ⟨k9,_⟩:=Qdy (dof (eD7 d) [1,2,1,3,0]).toNat nm (eD8 d) k8
 have k10:=QG (n:=5) k9
 have c1:Jc d [1,1,2,3]=true:=XA h (by decide) (by decide)
 have c3:JS (Y0 (Qt d [1,1,2,3])) 2=true:=WE k2 (by omega) (by omega)
 have c4:JS (Qg (Y0 (Qt d [1,1,2,3])) 2) 2=true:=WE k3 (by omega) (by omega)
 have c5:QL (eD4 d) (5-eL0 d)=true:=ZA k4 (by show 5-dof d [1,1,2,3]<=_;omega)
 have c6:QL (eD5 d) 3=true:=ZA k5 (by omega)
 have c7:Jc (eD6 d) [3,4,2]=true:=XA k6 (by decide) (by decide)
 have c8:Jc (eD7 d) [1,2,1,3,0]=true:=XA k7 (by decide) (by decide)
 have k8':dOk (Qt (eD7 d) [1,2,1,3,0])=true:=k8
 have e5:ZE (dof (eD7 d) [1,2,1,3,0]).toNat nm (Qt (eD7 d) [1,2,1,3,0])=ZW d nm:=rfl
 have c9:(decide ((0:Int)<=dof (eD7 d) [1,2,1,3,0]/\(([]:List QA).length:Int)+dof (eD7 d) [1,2,1,3,0]<=10/\nm.size<=1000)&&true)=true:=by
  rw [B8]
  exact Bd ⟨by omega,by simp only [Bw];omega,hn⟩
 have c10:QL (ZW d nm).2 5=true:=ZA k9 (by omega)
 have b10:=JA (d:=(ZW d nm).2) (n:=5) (by omega)
 have c11:cIx [[1,2],[1,2],[1],[2,11],([]:List Int)] (Ql (ZW d nm).2 5)=true:=Bd (by simp only [Bp,Bw];omega)
 have c12:QL (Qg (ZW d nm).2 5) 3=true:=ZA k10 (by omega)
 have b12:=JA (d:=Qg (ZW d nm).2 5) (n:=3) (by omega)
 have c13:cIx [[1,2,3,4],[2,3,4],([3,4]:List Int)] (Ql (Qg (ZW d nm).2 5) 3)=true:=Bd (by simp only [Bp,Bw];omega)
 simp only [Ir,c1,k1,c3,c4,e0,c5,c6,e1,c7,Qe]
 cases hb:eB d with
 |true=>
  have e7:Qt (eD6 d) [3,4,2]=eD7 d:=by unfold eD7;rw [hb];rfl
  have e8:WQ d=1:=by unfold WQ;rw [hb];rfl
  have e9:WR d=dof (eD6 d) [3,4,2]:=by unfold WR;rw [hb];rfl
  refine Eq.trans (congrArg (fun b=>br b _ _) hb) ?_
  simp only [Qe,e7,c8,k8',e5,Qe,c10,c11,c12,c13]
  refine Eq.trans (congrArg (fun b=>br b _ _) c9) ?_
  rw [Qe,e8,e9]
  refine Eq.trans (congrArg (fun b=>br b _ _) c13) ?_
  rfl
 |false=>
  have e7:eD6 d=eD7 d:=by unfold eD7;rw [hb];rfl
  have e8:WQ d=eL0 d:=by unfold WQ;rw [hb];rfl
  have e9:WR d=eL0 d+Ql (eD4 d) (5-eL0 d):=by unfold WR;rw [hb];rfl
  refine Eq.trans (congrArg (fun b=>br b _ _) hb) ?_
  simp only [Qi,e7,c8,k8',e5,Qe,c10,c11,c12,c13]
  refine Eq.trans (congrArg (fun b=>br b _ _) c9) ?_
  rw [Qe,e8,e9]
  refine Eq.trans (congrArg (fun b=>br b _ _) c13) ?_
  rfl
def Qkj:Ent:=UB [.ptr 50000 0,.ty .str] [.box QM] (fun x y=>(Ea y.1 x.2.1)) (fun x y=>(.ag [(.t .str ((epV y.1 x.2.1).1)),(.t tI (((epV y.1 x.2.1).2).1)),(.t tI ((((epV y.1 x.2.1).2).2).1)),(.ms 50001),(.t .bool ((((((epV y.1 x.2.1).2).2).2).2).1)),(.ms 50002),(.t (.sl tI) ((((((((epV y.1 x.2.1).2).2).2).2).2).2).1)),(.t (.sl tI) (((((((((epV y.1 x.2.1).2).2).2).2).2).2).2).1)),(.t .bool ((((((((((epV y.1 x.2.1).2).2).2).2).2).2).2).2).1))])) (fun x y=>[.box (.t QM (epN y.1 x.2.1)),.arr 3 tI (((((epV y.1 x.2.1).2).2).2).1),.arr 99 Q1 (((((((epV y.1 x.2.1).2).2).2).2).2).1)])
theorem QIB:QQ Tryz.prog 36 (QP Qkj):=YR (R:=JR Wt US Iq true) (mG Tryz.func36 (by kernel_rfl) Tryz.ntmps36 (by kernel_rfl) Qtd Qtg) fun x y hok=>(Qtc y.1 x.2.1).trans (Qth y.1 x.2.1 hok)
end
end Go.Proofs.YtckcgijklnloiaaGreat.K
noncomputable section
namespace Go.Proofs.YtckcgijklnloiaaGreat.K
open Go.RowKit
noncomputable section
theorem QY5 (l:List Int):(FG l).length=l.length:=by
 unfold FG
 have: ∀ (l a:List Int),(l.foldl Wk a).length=a.length+l.length:=by
  intro l
  induction l with
  |nil=>intro a;rfl
  |cons x r ih=>
   intro a
   rw [Dz,ih,QAv,Bp]
   omega
 rw [this]
 simp
theorem QY6 {d:Qd}(h:dOk d=true):(WN d).length<=10:=by
 have:=(Qrd h).2
 unfold WN
 cases done (suI d).2 4
 ·exact this
 ·rw [BZ,QY5]
  exact this
theorem QY7 {d:Qd}{nm:ByteArray}(h:dOk d=true):dOk (ZW d nm).2=true:=by
 have k4:=QG (n:=2) (QG (n:=2) (QcH (JH (l:=[1,1,2,3]) h)))
 have k6:=QG (n:=3) (QG (n:=5-eL0 d) k4)
 have k7:dOk (eD7 d)=true:=by
  unfold eD7
  cases eB d
  ·exact k6
  ·exact JH (l:=[3,4,2]) k6
 exact (Qdy (dof (eD7 d) [1,2,1,3,0]).toNat nm (eD8 d) (JH (l:=[1,2,1,3,0]) k7)).1
theorem Que {d:Qd}{nm:ByteArray}(h:dOk d=true):dOk (epN d nm)=true:=QG (n:=3) (QG (n:=5) (QY7 h))
def prZ:List Int->List Int->Qd->List Int×Qd
 | [],s,d=>(s,d)
 |x::r,s,d=>if ilt (Qc s) 16=true then (if QY s x=true then prZ r s d else if done d 2=true then prZ r (s++[x]) (Qg d 2) else prZ r s (Qg d 2)) else (s,d)
theorem QY8 {d:Qd}{nm:ByteArray}(h:dOk d=true):(QI (epV d nm)).length<=10:=QY6 (JH (l:=[1,1,2,3]) h)
end
end Go.Proofs.YtckcgijklnloiaaGreat.K
noncomputable section
namespace Go.Proofs.YtckcgijklnloiaaGreat.K
open Go.RowKit
noncomputable section
end
end Go.Proofs.YtckcgijklnloiaaGreat.K
noncomputable section
namespace Go.Proofs.YtckcgijklnloiaaGreat.K
open Go.RowKit
noncomputable section
end
end Go.Proofs.YtckcgijklnloiaaGreat.K
noncomputable section
namespace Go.Proofs.YtckcgijklnloiaaGreat.K
open Go.RowKit
noncomputable section
def Y6 (s:Endpoint)(o:List Int)(v:Int)(k:Nat):List Qb:=((List.range' k (17-k)).filter fun (j:Nat)=>J1 s o v (j:Int)).map fun (j:Nat)=>(v,((j:Int),()))
theorem QMJ {s:Endpoint}{o:List Int}{v:Int}{k:Nat}(hk:k<17):Y6 s o v k=if J1 s o v (k:Int)=true then (v,((k:Int),()))::Y6 s o v (k+1) else Y6 s o v (k+1):=by
 have:17-k=(17-(k+1))+1:=by omega
 unfold Y6
 rw [this,Dd,List.filter_cons]
 split<;>rfl
theorem QMK (s:Endpoint)(o:List Int)(v:Int)(k:Nat):(Y6 s o v k).length<=17-k:=by
 unfold Y6
 rw [BP]
 exact B4 (List.length_filter_le _ _) (Nat.le_of_eq List.length_range')
def W5 (s:Endpoint)(o:List Int)(v n:Nat):List Qb:=(List.range' v n).flatMap fun (j:Nat)=>Y6 s o (j:Int) 1
abbrev hiC (c s:Endpoint):Int:=imn c.2.2.1 s.2.2.1
abbrev loC (c s:Endpoint):Int:=imx c.2.1 s.2.1
def Zg (c s:Endpoint):List Qb:=bif !YX c s then [] else W5 s (QI c) (loC c s).toNat (hiC c s+1-loC c s).toNat
abbrev QeQ:Sh:=⟨[(2,.ptr 2 0),(3,.ptr 3 0),(5,.ms 5),(6,.ty tI),(7,.ty tI)],[(2,.box Qj),(3,.box Qj),(5,.arr 39 Qh),(45,.no)]⟩
abbrev QaE:Sh:=⟨[(2,.ptr 2 0),(3,.ptr 3 0),(5,.ms 5),(6,.ty tI)],[(2,.box Qj),(3,.box Qj),(5,.arr 39 Qh),(45,.no)]⟩
abbrev Qwx:Sh:=⟨[(5,.ms 5)],[(5,.arr 39 Qh),(45,.no)]⟩
def Qmn:Fg:=QeQ.f
def Qmo:Fg:=QaE.f
def Qmp:TC:=aF Tryz.f21 [(122,.nw 5 39),(122,pL 1 Qmo),(1955,.fg Qwx.f),(7826,.nw 5 39),(7826,pL 0 Qmn),(125219,.fg QaE.f)]
def Qwy:TC:=lb 0 Qmp
def Qwz:TC:=lb 1 Qmp
def QwA (x6 x7:Int)(y2 y3:Endpoint)(y5:List Qb):VS:=QeQ.st ((),(),(),x6,x7,()) (y2,y3,y5,(),())
def QaF (x6:Int)(y2 y3:Endpoint)(y5:List Qb):VS:=QaE.st ((),(),(),x6,()) (y2,y3,y5,(),())
def Qmq (y5:List Qb):VS:=Qwx.st ((),()) (y5,(),())
def QML:VS->Option (Bool×List (Bool×Exit×VS)):=mkL QeQ (fun x y=>(decide (1<=x.2.2.2.2.1/\x.2.2.2.2.1<=17/\(y.2.2.1.length:Int)<=200+x.2.2.2.2.1)&&YG y.2.1 (QI y.1))) (fun x y=>[(true,.exit 2,QaF (x.2.2.2.1) (y.1) (y.2.1) (y.2.2.1++Y6 y.2.1 (QI y.1) x.2.2.2.1 x.2.2.2.2.1.toNat))])
def QMM:VS->Option (Bool×List (Bool×Exit×VS)):=mkL QaE (fun x y=>(decide (1<=x.2.2.2.1/\x.2.2.2.1<=5/\hiC y.1 y.2.1<=4/\(y.2.2.1.length:Int)<=16*x.2.2.2.1)&&YG y.2.1 (QI y.1))) (fun x y=>[(true,.exit 0,Qmq (y.2.2.1++W5 y.2.1 (QI y.1) x.2.2.2.1.toNat (hiC y.1 y.2.1+1-x.2.2.2.1).toNat))])
def QaG:G:=gG 47 [(58,EP),(59,Qp7)] (Ls [QML,QMM])
def QeR (x6 x7:Int)(y2 y3:Endpoint)(y5:List Qb):OX:=QB (QD QaG Qmn Qwy) (QwA x6 x7 y2 y3 y5)
def QaH (kk:Int->Int->Endpoint->Endpoint->List Qb->OX)(x6 x7:Int)(y2 y3:Endpoint)(y5:List Qb):OX:=br (ile x7 16) (br (EX y3 y2.2.2.2.1 x6 x7) (br (J1 y3 y2.2.2.2.1 x6 x7) (br (Qr y5 ([(x6,(x7,()))]) 16) (kk x6 (Qk .i64 x7 1) y2 y3 (y5++([(x6,(x7,()))]))) none) (kk x6 (Qk .i64 x7 1) y2 y3 y5)) none) (some (.exit 2,QaF x6 y2 y3 y5))
def QeS (x6 x7:Int)(y2 y3:Endpoint)(y5:List Qb):OX:=some (.exit 2,QaF (x6) (y2) (y3) (y5++Y6 y3 (QI y2) x6 x7.toNat))
theorem QwB (x6 x7:Int)(y2 y3:Endpoint)(y5:List Qb):QeR x6 x7 y2 y3 y5=QaH QeR x6 x7 y2 y3 y5:=lnT (x:=QaH (fun x6 x7 y2 y3 y5=>some (.normal,QwA x6 x7 y2 y3 y5)) x6 x7 y2 y3 y5) (by simp only [QaH,nxA];rfl)
def QeT (x6:Int)(y2 y3:Endpoint)(y5:List Qb):OX:=QB (QD QaG Qmo Qwz) (QaF x6 y2 y3 y5)
def IV (kk:Int->Endpoint->Endpoint->List Qb->OX)(x6:Int)(y2 y3:Endpoint)(y5:List Qb):OX:=br (ile x6 (imn y2.2.2.1 y3.2.2.1)) (br (decide (1<=(1:Int)/\(1:Int)<=17/\(y5.length:Int)<=200+(1:Int))&&YG y3 (QI y2)) (kk (Qk .i64 (x6) 1) (y2) (y3) (y5++Y6 y3 (QI y2) x6 (1:Int).toNat)) none) (some (.exit 0,Qmq y5))
def QaI (x6:Int)(y2 y3:Endpoint)(y5:List Qb):OX:=some (.exit 0,Qmq (y5++W5 y3 (QI y2) x6.toNat (hiC y2 y3+1-x6).toNat))
theorem QwC (x6:Int)(y2 y3:Endpoint)(y5:List Qb):QeT x6 y2 y3 y5=IV QeT x6 y2 y3 y5:=lnT (x:=IV (fun x6 y2 y3 y5=>some (.normal,QaF x6 y2 y3 y5)) x6 y2 y3 y5) (by simp only [IV,nxA];rfl)
def r_f21 (p0 p1:Endpoint):OV:=
 let a1:=imx p0.2.1 p1.2.1
 br (Q2 p0) (br (ine (Zp p0) 0) (some (.t (.sl Qh) ([]:List Qb),[])) (br (Q2 p1) (br (ine (Zp p1) 0) (some (.t (.sl Qh) ([]:List Qb),[])) (br (decide (1<=a1/\a1<=5/\hiC p0 p1<=4/\(([]:List Qb).length:Int)<=16*a1)&&YG p1 (QI p0)) (some (.t (.sl Qh) (([]:List Qb)++W5 p1 (QI p0) a1.toNat (hiC p0 p1+1-a1).toNat),[])) none)) none)) none
theorem QMN (x6 x7:Int)(y2 y3:Endpoint)(y5:List Qb)(h:(decide (1<=x7/\x7<=17/\(y5.length:Int)<=200+x7)&&YG y3 (QI y2))=true):QeR x6 x7 y2 y3 y5=QeS x6 x7 y2 y3 y5:=by
 obtain ⟨h,hc⟩:=Bf.1 h
 obtain ⟨h0,h1,h2⟩:=Bv h
 clear h
 obtain ⟨k,rfl⟩:=Bm (show 0<=x7 by omega)
 obtain ⟨m,hm⟩: ∃ m,m=17-k:=⟨_,rfl⟩
 have key: ∀ (m k:Nat) (y5:List Qb),m=17-k->k<=17->y5.length<=200+k->QeR x6 (k:Int) y2 y3 y5=QeS x6 (k:Int) y2 y3 y5:=by
  intro m
  induction m with
  |zero=>
   intro k y5 hm h1 h2
   have:k=17:=by omega
   subst this
   rw [QwB]
   simp only [QaH,QeS,show ile ((17:Nat):Int) 16=false from rfl,Qi,Bb,Y6,DA,List.range'_zero,List.filter_nil,Dx,BG]
  |succ m ih=>
   intro k y5 hm h1 h2
   rw [QwB]
   have c1: ∀ v w,EX y3 (QI y2) v w=true:=fun _ _=>hc
   have c2: ∀ v:Qb,Qr y5 [v] 16=true:=fun v=>Q7 (by omega) (by simp only [Bh];omega)
   simp only [QaH,show ile (k:Int) 16=true from Bd (by omega),Qe,c1,c2,QU (show k<4611686018427387904 by omega)]
   rw [ih (k+1) y5 (by omega) (by omega) (by omega),ih (k+1) (y5++[(x6,((k:Int),()))]) (by omega) (by omega) (by simp only [Bj,Bh];omega)]
   simp only [QeS,Bb,QMJ (show k<17 by omega)]
   cases J1 y3 (QI y2) x6 (k:Int) with
   |true=>simp only [Qe,if_true,BF,BD]
   |false=>simp only [Qi,BW,Ds]
 exact key m k y5 hm (by omega) (by omega)
theorem QMO (x6:Int)(y2 y3:Endpoint)(y5:List Qb)(h:(decide (1<=x6/\x6<=5/\hiC y2 y3<=4/\(y5.length:Int)<=16*x6)&&YG y3 (QI y2))=true):QeT x6 y2 y3 y5=QaI x6 y2 y3 y5:=by
 obtain ⟨h,hc⟩:=Bf.1 h
 obtain ⟨h0,h1,h2,h3⟩:=Bv h
 clear h
 obtain ⟨k,rfl⟩:=Bm (show 0<=x6 by omega)
 have key: ∀ (m k:Nat) (y5:List Qb),m=5-k->1<=k->k<=5->y5.length<=16*k->QeT (k:Int) y2 y3 y5=QaI (k:Int) y2 y3 y5:=by
  intro m
  induction m with
  |zero=>
   intro k y5 hm h0 h1 h3
   have:k=5:=by omega
   subst this
   rw [QwC]
   have e:(hiC y2 y3+1-((5:Nat):Int)).toNat=0:=by omega
   simp only [IV,QaI,show ile ((5:Nat):Int) (imn y2.2.2.1 y3.2.2.1)=false from Bn (by show ¬ _<=hiC y2 y3;omega),Qi,e,W5,List.range'_zero,List.flatMap_nil,BG]
  |succ m ih=>
   intro k y5 hm h0 h1 h3
   rw [QwC]
   by_cases hk:(k:Int)<=hiC y2 y3
   ·have e1:(hiC y2 y3+1-(k:Int)).toNat=(hiC y2 y3+1-((k+1:Nat):Int)).toNat+1:=by omega
    have c0:(decide ((1:Int)<=1/\(1:Int)<=17/\(y5.length:Int)<=200+1)&&YG y3 (QI y2))=true:=Bf.2 ⟨Bd (by omega),hc⟩
    have hr:=QMK y3 (QI y2) (k:Int) 1
    have hi:=ih (k+1) (y5++Y6 y3 (QI y2) (k:Int) 1) (by omega) (by omega) (by omega) (by simp only [Bj];omega)
    simp only [IV,show ile (k:Int) (imn y2.2.2.1 y3.2.2.1)=true from Bd hk,Qe,QU (show k<4611686018427387904 by omega)]
    refine Eq.trans (congrArg (fun b=>br b _ _) c0) ?_
    rw [Qe]
    refine Eq.trans hi ?_
    simp only [QaI,Bb,e1,W5,Dd,BY,BF]
   ·have e1:(hiC y2 y3+1-(k:Int)).toNat=0:=by omega
    simp only [IV,show ile (k:Int) (imn y2.2.2.1 y3.2.2.1)=false from Bn hk,Qi,QaI,e1,W5,List.range'_zero,List.flatMap_nil,BG]
 exact key (5-k) k y5 rfl (by omega) (by omega) (by omega)
theorem QMP:LO QaG Qmn Qwy 0:=QN (s:=QeQ) fun x y h _ q=>by simp only [QJ,QK] at q;exact (QMN x.2.2.2.1 x.2.2.2.2.1 y.1 y.2.1 y.2.2.1 h).trans q
theorem QMQ:LO QaG Qmo Qwz 1:=QN (s:=QaE) fun x y h _ q=>by simp only [QJ,QK] at q;exact (QMO x.2.2.2.1 y.1 y.2.1 y.2.2.1 h).trans q
theorem s_f21 (c s:Endpoint)(h:ZH c s=true):r_f21 c s=some (.t (.sl Qh) (Zg c s),[]):=by
 obtain ⟨hc,hs⟩:=Bf.1 h
 have hs':=Z1 hs
 have hc':=Z1 hc
 simp only [r_f21,hc,hs,Qe,OP]
 unfold Zg YX
 cases hv:Q3 c with
 |false=>rfl
 |true=>
  cases hw:Q3 s with
  |false=>rfl
  |true=>
   have v1:=EF hv
   have v2:=EF hw
   have b1:1<=loC c s/\loC c s<=4:=by simp only [loC,imx];omega
   have b2:hiC c s<=4:=by simp only [hiC,imn];omega
   have c0:(decide (1<=loC c s/\loC c s<=5/\hiC c s<=4/\(([]:List Qb).length:Int)<=16*loC c s)&&YG s (QI c))=true:=Bf.2 ⟨Bd ⟨b1.1,by omega,b2,by simp only [Bw];omega⟩,Bd ⟨hs'.2.2.1,hs'.2.1,hc'.2.1⟩⟩
   rw [BC,Qi,Qi]
   refine Eq.trans (congrArg (fun b=>br b _ _) c0) ?_
   rfl
def Qmr:Ent:=Qq (.pr Qj (.pr Qj .nil)) (fun x=>(ZH x.1 x.2.1)) (fun x=>(.t (.sl Qh) (Zg x.1 x.2.1)))
theorem QwD:EM 21 Qmr:=mS (lk:=lkL (lkc QMQ (lkc QMP lkn))) QaG Qmp [((.t 4),some (.sl Qh))] false (gB (gD OR (gD QDq gN))) fun m=>Qu m fun x hok=>kT (s_f21 x.1 x.2.1 hok)
end
end Go.Proofs.YtckcgijklnloiaaGreat.K
noncomputable section
namespace Go.Proofs.YtckcgijklnloiaaGreat.K
open Go.RowKit
noncomputable section
theorem QPR (l:List Int):(YS l).Pairwise (· ≤ ·):=by
 have:=List.pairwise_mergeSort (le:=fun x y:Int=>decide (x<=y)) (fun a b c h1 h2=>by simp only [Ba] at *; omega) (fun a b=>by simp only [Dm,Ba];omega) l
 exact this.imp fun h=>Bv h
theorem QPS {l:List Int}{p:Int->Bool}(hn:l.Nodup)(hr: ∀ x∈l,1<=x/\x<=16)(hp: ∀ x,p x=true->x∈l):(YS l).filter p=(((List.range' 1 16).filter fun (j:Nat)=>p (j:Int)).map fun (j:Nat)=>(j:Int)):=by
 have hperm:(YS l).Perm l:=List.mergeSort_perm _ _
 refine List.Perm.eq_of_pairwise (le:=(· ≤ ·)) (fun a b _ _ h1 h2=>by omega) ((QPR l).filter _) ?_ ?_
 ·rw [List.pairwise_map]
  refine List.Pairwise.filter _ ?_
  refine (List.pairwise_lt_range' (s:=1) (n:=16)).imp fun h=>by omega
 ·refine (List.perm_ext_iff_of_nodup ((hperm.nodup_iff.2 hn).filter _) ?_).2 fun a=> ?_
  ·rw [List.nodup_iff_pairwise_ne,List.pairwise_map]
   refine List.Pairwise.filter _ ?_
   refine (List.pairwise_lt_range' (s:=1) (n:=16)).imp fun h=>by omega
  ·simp only [List.mem_filter,Dc,List.mem_range'_1,hperm.mem_iff]
   constructor
   ·rintro ⟨h1,h2⟩
    have:=hr a h1
    exact ⟨a.toNat,⟨by omega,by rw [Int.toNat_of_nonneg (by omega)];exact h2⟩,Int.toNat_of_nonneg (by omega)⟩
   ·rintro ⟨j,⟨_,h2⟩,rfl⟩
    exact ⟨hp _ h2,h2⟩
def rowS (s:Endpoint)(o:List Int)(v:Int)(l:List Int):List Qb:=(l.filter fun j=>J1 s o v j).map fun j=>(v,(j,()))
theorem QPT {l:List Int}(h:YA l=true): ∀ x∈l,1<=x/\x<=16:=by
 intro x hx
 obtain ⟨k,hk,rfl⟩:=List.mem_iff_getElem.1 hx
 exact (QoF h k hk).1
theorem QPU {s:Endpoint}{o:List Int}{v:Int}(h:YA o=true):rowS s o v (YS o)=Y6 s o v 1:=by
 unfold rowS Y6
 rw [QPS (p:=fun j=>J1 s o v j) (QAD h) (QPT h) (fun x hx=>by
  simp only [J1,Bc] at hx
  exact BN.1 hx.2.2.2.1),DJ]
 rfl
theorem QPV {c:Endpoint}(h:Q3 c=true):YA (QI c)=true:=by
 simp only [Q3,Bc] at h
 exact h.2.2.2.2.1
end
end Go.Proofs.YtckcgijklnloiaaGreat.K
noncomputable section
namespace Go.Proofs.YtckcgijklnloiaaGreat.K
open Go.RowKit Go.Shelf
attribute [local go_sem] Oper.semAt_some
set_option maxRecDepth 100000 in
set_option maxHeartbeats 1000000 in
theorem Qwu (Bs b0 off c n:Nat)(A:Option Addr)(vs:List Value)(Xf:Nat->Nat->Prop)(w:World)(hreach:n*8<=140737488351232)(hvl:vs.length=n)
  (hBs:w.cell? ⟨Bs,0,none⟩=some (.slice A n c)) (hBl:Bs<w.heap.size)
  (hA:0<n->A=some ⟨b0,off,none⟩/\b0<w.heap.size/\(∀ j,j<vs.length→ ¬ Xf b0 (off+j))∧ ∀ j v,vs[j]? = some v->w.cell? ⟨b0,off+j,none⟩=some v):
  Ih Tryz.prog 136 [.pointer (some ⟨Bs,0,none⟩)] (vs.map fun v=> #[v]) Xf w:=by
 intro l J Jx W hJ hJx hK hY h0 hst
 have HA:=Lib.hid hA
 clear hA
 refine callsIn_of_wp (F:=Fw none) Tryz.func136 rfl trivial ?_ rfl
 simp only [Tryz.ntmps136,List.size_toArray,Bp,Bw,Nat.reduceAdd,Nat.reduceSub,Array.replicate_succ,Array.replicate_zero,List.push_toArray,List.append_toArray,BO,Dq]
 have hb0:W.cell? ⟨Bs,0,none⟩=some (.slice A n c):=(hst Bs 0 hBl).trans hBs
 gi_wp2
 gi_loopw [7] (fun i wr=> ∃ k:Nat,k<=n/\i= .int .i64 (k:Int)/\J ((vs.drop k).map fun v=> #[v]) wr)
  (fun i _=>n-(intOf i).toNat)
 case atStart=>exact ⟨0,B2 _,rfl,h0⟩
 case round=>
  obtain ⟨k,hk,rfl,hJs⟩:=hrel
  by_cases hlt:k<n
  ·obtain ⟨rfl,hbl,hnx,hcl⟩:=HA.out (by omega)
   have hlt2:k<vs.length:=by omega
   rw [Bi hlt2,BJ] at hJs
   obtain ⟨fn,tmps,assign,body,hy,hR⟩:=hY _ _ wr hJs
   have hcx':wr.cell? ⟨b0,off+k,none⟩=some vs[k]:=((hK _ wr hJs).2 b0 _ hbl (hnx _ hlt2)).trans (hcl _ _ (Bl hlt2))
   clear hnx hcl hY
   gi_wp2
   refine hR.mono ?_
   rintro e W3 (⟨rfl,hJ3⟩|⟨rfl,hJx3⟩)
   ·gi_wp2
    go_roundw
    case rel=>exact ⟨k+1,by omega,by simp,hJ3⟩
    case measure=>simp [intOf];omega
   ·gi_wp2
    refine bodyPost_ret (results_none rfl _ _ _) rfl ?_
    exact ⟨⟨_,rfl⟩,.inr hJx3⟩
  ·obtain rfl:k=n:=by omega
   rw [List.drop_of_length_le (by omega)] at hJs
   gi_wp2
   go_end0
   exact ⟨⟨_,rfl⟩,.inl hJs⟩
def Es (l:List SV)(bs:List Ty)(yr:Ty)(ok:WC bs->Bool)(f:WC bs->List yr.T):Itr:=fun caps objs=>
 match Ew l caps,Yp bs objs with
 |some _,some d=>some (ok d,⟨yr,f d⟩)
 |_,_=>none
def W4 (l:List Int):Bool:=decide (l.length<=100000)
def U1 (l:List Int):List (Int×Unit):=l.map fun x=>(x,())
def QeP:Itr:=Es [.ptr 50000 0] [(.sl tI)] (.pr tI .nil) (fun d=>(W4 d.1)) (fun d=>(U1 d.1))
def tc_f89:TC:=aF Tryz.f89 []
def g_f89:G:=gG 4 [] (fun _ _=>none)
def r_f89 (p0:List Int):OV:=some (.fn 136 [(.ptr 50000 0)],[.box (.t (.sl tI) p0)])
def Qwv:Ent:=U3 (.pr (.sl tI) .nil) (fun _=>true) (fun x=> .fn 136 [.ptr 50000 0]) (fun x=>[.box (.t (.sl tI) x.1)])
theorem ms_f89:EM 89 Qwv:=mS g_f89 tc_f89 [((.t 2),none)] true (gB gN) fun m=>Qe4 m fun x _=>by kernel_rfl
theorem Qww (l:List Int):l.flatMap tI.cells=l.map fun x=>D.v (.int .i64 x):=by
 induction l with
 |nil=>rfl
 |cons x r ih=>rw [BY,ih,BJ];rfl
theorem QMI:Iters Tryz.prog (136+1000000) QeP:=by
 refine Iters.strong (enters_of Tryz.func136 (by kernel_rfl) rfl) fun caps objs yr rows h X w σ lb hfin hl hc=> ?_
 unfold QeP Es at h
 split at h
 ·rename_i x d hx hd
  simp only [Be,Br] at h
  obtain ⟨hok,h⟩:=h
  cases h
  have hcaps:=I3 hx
  subst hcaps
  cases objs with
  |nil=>simp [Yp] at hd
  |cons o os=>
   cases o with
   |box cv=>
    cases os with
    |cons o2 os=>simp [Yp] at hd
    |nil=>
     simp only [Yp] at hd
     split at hd
     ·rename_i l u hl1 _
      simp only [Be] at hd
      subst hd
      have hlen:l.length<=100000:=Bv hok
      have hcv:=SV.rd_mk (s:= .ty (.sl tI)) (v:=cv) (x:=l) (by simpa [Qe9,Ty.row] using hl1)
      subst hcv
      obtain ⟨⟨Bs,ty,us,h1,h2,h3,h4⟩,_⟩:=hl.at_ 0 _ rfl
      have h3':Cs X w σ [.sl (List.length l) (List.flatMap tI.cells l)] us:=h3
      obtain ⟨uv,rfl,h5⟩:=h3'.one
      simp only [C] at h5
      obtain ⟨A,c,rfl,g1,g2,g3,g4⟩:=h5
      simp only [Ft,SV.mk,V.ds,V.d,Cs,C] at hc
      obtain ⟨p,ps,rfl,⟨b',e1,rfl⟩,rfl⟩:=hc
      have h1:σ 50000= .box Bs:=h1
      rw [h1] at e1
      injection e1 with e1
      subst e1
      have hcell:w.cell? ⟨Bs,0,none⟩=some (.slice A (List.length l) c):=by simp [World.cell?, h2]
      have hBl:=(Da.1 h2).1
      rcases DM (List.length l) with h0|hp
      ·have hl0:l=[]:=BR h0
       subst hl0
       exact ⟨[],⟨rfl,fun i r v hr=>by simp [U1] at hr⟩,Qwu Bs 0 0 c 0 A [] _ w (by omega) rfl hcell hBl (fun h=>absurd h (by omega))⟩
      ·obtain ⟨b0,off,vs,rfl,g5,g6⟩:=g4 hp
       have hvl:=g5.len
       rw [Qww,BP] at hvl
       refine ⟨vs.map fun v=> #[v],⟨by simp [U1,hvl],fun i r v hr hv=> ?_⟩,Qwu Bs b0 off c (List.length l) _ vs _ w (by omega) hvl hcell hBl (fun _=>⟨rfl,g6.lt,fun j hj hx=>g6.nx j hj hx,fun j v hv=>g6.at_ j v hv⟩)⟩
       rw [Qww] at g5
       simp only [U1,De,Bk] at hr hv
       obtain ⟨x,hx,rfl⟩:=hr
       obtain ⟨u,hu,rfl⟩:=hv
       have hd:(l.map fun x=>D.v (.int .i64 x))[i]? = some (.v (.int .i64 x)):=by rw [De,hx];rfl
       obtain ⟨u2,hu2,hcu⟩:=g5.at_ hd
       rw [hu] at hu2
       injection hu2 with hu2
       subst hu2
       simp only [Ty.canon,V.ds,V.d,Cs]
       refine ⟨_,_,rfl, ?_,rfl⟩
       rw [(C.v hcu).1]
       simp only [Ty.d,C]
       exact ⟨trivial,rfl⟩
     ·cases hd
   |no=>simp [Yp] at hd
   |arr e t l=>simp [Yp] at hd
 ·cases h
end Go.Proofs.YtckcgijklnloiaaGreat.K
noncomputable section
namespace Go.Proofs.YtckcgijklnloiaaGreat.K
open Go.RowKit
noncomputable section
def idL (l:List Int):List Int:=l
def Og (l:List Int):List Int:=YS l
abbrev QfL:Sh:=⟨[(2,.ptr 60000 0)],[(60000,.bag [.ms 20200]),(11,.no),(20200,.arr 3 tI),(50000,.box (.sl tI))]⟩
def Fy:Fg:=QfL.f
def QfM:TC:=(.reg (rT Tryz.f160 2))
def QfN:TC:=(.bk 1 (.reg (rT Tryz.f160 3)))
def QOr:TC:=(.sq (.reg (rT Tryz.f160 0)) (.sq (.sq (.reg (rT Tryz.f160 1)) (.bk 0 (.nf 2 0 3 20200 (.rf 0 Fy (.t 6) (.pr tI .nil) [7] [2] QfM QfN)))) (.sq (.reg (rT Tryz.f160 4)) .rt)))
def Qa9 (ZO Qa:List Int):VS:=QfL.st ((),()) (((),()),(),ZO,Qa,())
def QfO:VS->List (Ty.T (.pr tI .nil))->Option (Bool×List (Bool×Exit×VS)):=mkR QfL (fun zs x y=>(decide (zs.length+y.2.2.1.length<=100000))) (fun zs x y=>[(true,.normal,Qa9 (y.2.2.1++zs.map (fun z=>z.1)) (y.2.2.2.1))])
def Oh:G:=⟨TYs,[],13,EL [],YD,(Ls [fun _=>none]),IL [(1000136,QeP)],(RL [⟨(.pr tI .nil),QfO⟩])⟩
def QyA (z:(Int×Unit))(ZO Qa:List Int):OX:=br (Qr ZO ([z.1]) 8) (some (.normal,Qa9 (ZO++([z.1])) Qa)) none
def Qnx (zs:List (Int×Unit))(ZO Qa:List Int):OX:=Xt (Ws Oh Fy (.pr tI .nil) [7] QfM QfN) zs (Qa9 ZO Qa)
def Qny (z:(Int×Unit))(zs:List (Int×Unit))(ZO Qa:List Int):OX:=br (Qr ZO ([z.1]) 8) (Qnx zs (ZO++([z.1])) Qa) none
def Qnz (zs:List (Int×Unit))(ZO Qa:List Int):OX:=some (.normal,Qa9 (ZO++zs.map (fun z=>z.1)) (Qa))
theorem QOs (z:(Int×Unit))(ZO Qa:List Int):Ws Oh Fy (.pr tI .nil) [7] QfM QfN z (Qa9 ZO Qa)=QyA z ZO Qa:=by kernel_rfl
theorem QOt (z:(Int×Unit))(zs:List (Int×Unit))(ZO Qa:List Int):Qnx (z::zs) ZO Qa=Qny z zs ZO Qa:=(QmL _ _ _ _).trans (by
 rw [QOs]
 simp only [QyA,Qny,Xy,X7,X8,X9,Wa]
 rfl)
def QyB (d0:List Int):OV:=br (W4 d0) (br (decide ((U1 d0).length+([]:List Int).length<=100000)) (some (.ms 50001,[.box (.t (.sl tI) (d0)),.arr 3 tI (([]:List Int)++(U1 d0).map (fun z=>z.1))])) none) none
theorem QOu (zs:List (Int×Unit))(ZO Qa:List Int)(h:(decide (zs.length+ZO.length<=100000))=true):Qnx zs ZO Qa=Qnz zs ZO Qa:=by
 induction zs generalizing ZO with
 |nil=>
  simp only [Qnz,Dx,BG]
  rfl
 |cons z zs ih=>
  rw [QOt]
  have h:=Bv h
  rw [Bp] at h
  have c1:Qr ZO [z.1] 8=true:=Q7 (by omega) (by simp only [Bh];omega)
  simp only [Qny,c1,Qe]
  rw [ih (ZO++[z.1]) (Bd (by simp only [Bj,Bh];omega))]
  simp only [Qnz,BJ,BF,BD]
theorem QOv: ∀ S (rows:List (Ty.T (.pr tI .nil))) l p,Oh.R 0 (fgt Fy S) (.pr tI .nil) rows=some (true,l)->Yz l=some p->Xt (Ws Oh Fy (.pr tI .nil) [7] QfM QfN) rows (fgt Fy S)=some p:=by
 intro S rows l p hR hp
 rw [show Oh.R 0 (fgt Fy S) (.pr tI .nil) rows=QfO (fgt Fy S) rows from QmK (l:=[⟨(.pr tI .nil),QfO⟩]) (j:=0) (F:=QfO) rfl _ _] at hR
 refine QmJ (s:=QfL) ⟨by decide,by decide⟩ (by kernel_rfl) (fun zs x y hok p hp=> ?_) S rows l p hR hp
 simp only [QJ,QK] at hp
 exact (QOu zs y.2.2.1 y.2.2.2.1 (by first|rfl|simpa using hok)).trans hp
theorem QOw (l:List Int):(U1 l).map (fun z=>z.1)=l:=by
 unfold U1
 rw [DJ]
 exact List.map_id _
theorem QOx (l:List Int)(h:W4 l=true):QyB l=some (.ms 50001,[.box (.t (.sl tI) l),.arr 3 tI (idL l)]):=by
 have hl:l.length<=100000:=Bv h
 have c1:decide ((U1 l).length+([]:List Int).length<=100000)=true:=Bd (by simp only [U1,BP,Bw];omega)
 simp only [QyB,h,Qe]
 refine Eq.trans (congrArg (fun b=>br b _ _) c1) ?_
 rw [Qe,BO,QOw]
 rfl
def QyC:Ent:=Wb [.nl,.fn 136 [(50000,0)]] [.box (.sl tI)] (fun x y=>(W4 y.1)) (fun x y=>(.ms 50001)) (fun x y=>[.box (.t (.sl tI) y.1),.arr 3 tI (idL y.1)])
theorem QOy:EM 160 QyC:=mS (lk:=(by repeat first|exact trivial|exact QOv|constructor)) Oh QOr [((.t 4),none)] true (Zz _ (fun p hp=>by cases hp) [(1000136,QeP)] (by
 intro p hp
 simp only [BT,B0,Dn] at hp
 rcases hp with rfl
 ·exact QMI)) fun m=>WD (YR m fun x y hok=>kT (QOx y.1 hok))
def QOz:TC:=aF Tryz.f134 []
def QOA:G:=gG 5 [(160,QyC)] (fun _ _=>none)
def QyD (d0:List Int):OV:=br (W4 d0) (some (.ms 50001,[.box (.t (.sl tI) d0),.arr 3 tI (idL d0)])) none
theorem QOB (l:List Int)(h:W4 l=true):QyD l=some (.ms 50001,[.box (.t (.sl tI) l),.arr 3 tI (idL l)]):=by
 simp only [QyD,h,Qe]
def QyE:Ent:=Wb [.fn 136 [(50000,0)]] [.box (.sl tI)] (fun x y=>(W4 y.1)) (fun x y=>(.ms 50001)) (fun x y=>[.box (.t (.sl tI) y.1),.arr 3 tI (idL y.1)])
theorem QOC:EM 134 QyE:=mS QOA QOz [((.t 2),none)] true (gB (gD QOy gN)) fun m=>WD (YR m fun x y hok=>kT (QOB y.1 hok))
def QOD:TC:=aF Tryz.f88 []
def QOE:G:=gG 9 [(134,QyE),(135,QzZ)] (fun _ _=>none)
def QyF (d0:List Int):OV:=br (W4 d0) (br (Qfb (idL d0)) (some (.ms 50001,[.box (.t (.sl tI) d0),.arr 3 tI (YS (idL d0))])) none) none
theorem QOF (l:List Int)(h:W4 l=true):QyF l=some (.ms 50001,[.box (.t (.sl tI) l),.arr 3 tI (Og l)]):=by
 have hl:l.length<=100000:=Bv h
 have c1:Qfb (idL l)=true:=Bd (by show l.length<_;omega)
 simp only [QyF,h,c1,Qe]
 rfl
def QyG:Ent:=Wb [.fn 136 [(50000,0)]] [.box (.sl tI)] (fun x y=>(W4 y.1)) (fun x y=>(.ms 50001)) (fun x y=>[.box (.t (.sl tI) y.1),.arr 3 tI (Og y.1)])
theorem QOG:EM 88 QyG:=mS QOE QOD [((.t 2),none)] true (gB (gD QOC (gC QPr QPs gN))) fun m=>WD (YR m fun x y hok=>kT (QOF y.1 hok))
end
end Go.Proofs.YtckcgijklnloiaaGreat.K
noncomputable section
namespace Go.Proofs.YtckcgijklnloiaaGreat.K
open Go.RowKit
noncomputable section
def W0 (t:JW)(v:Int)(l:List Int):List Qb:=(l.filter fun j=>Xm t j).map fun j=>(v,(j,()))
theorem QLu {t:JW}{v x:Int}{r:List Int}:W0 t v (x::r)=if Xm t x=true then (v,(x,()))::W0 t v r else W0 t v r:=by
 unfold W0
 rw [List.filter_cons]
 split<;>rfl
theorem QLv (t:JW)(v:Int)(l:List Int):(W0 t v l).length<=l.length:=by
 unfold W0
 rw [BP]
 exact List.length_filter_le _ _
def Fm (s:Endpoint)(o l:List Int)(v n:Nat):List Qb:=(List.range' v n).flatMap fun (j:Nat)=>W0 (s,((j:Int),(o,()))) (j:Int) l
theorem QLw {s:Endpoint}{o:List Int}{v n:Nat}(h:YA o=true):Fm s o (YS o) v n=W5 s o v n:=by
 unfold Fm W5
 congr 1
 funext j
 exact QPU h
abbrev Qep:Sh:=⟨[(2,.ptr 2 0),(3,.ptr 3 0),(5,.ms 5),(6,.ms 18),(7,.ty tI),(8,.ptr 8 0),(38,.ms 18),(39,.ty tI),(40,.ty tI)],[(2,.box Qj),(3,.box Qj),(5,.arr 39 Qh),(8,.box Fi),(18,.arr 3 tI),(52,.no),(5018,.no),(10018,.no),(15018,.no)]⟩
abbrev Qak:Sh:=⟨[(2,.ptr 2 0),(3,.ptr 3 0),(5,.ms 5),(6,.ms 18),(7,.ty tI)],[(2,.box Qj),(3,.box Qj),(5,.arr 39 Qh),(18,.arr 3 tI),(52,.no),(5018,.no),(10018,.no),(15018,.no)]⟩
abbrev Qvl:Sh:=⟨[(5,.ms 5)],[(5,.arr 39 Qh),(52,.no)]⟩
def QlH:Fg:=Qep.f
def QlI:Fg:=Qak.f
def QlJ:TC:=aF Tryz.f54 [(250,.nw 5 39),(250,pL 1 QlI),(4003,.fg Qvl.f),(32038,.nw 5 39),(32038,pL 0 QlH),(512613,.fg Qak.f)]
def Qvm:TC:=lb 0 QlJ
def Qvn:TC:=lb 1 QlJ
def Qvo (x7 x39 x40:Int)(y2 y3:Endpoint)(y5:List Qb)(y8:JW)(y18:List Int):VS:=Qep.st ((),(),(),(),x7,(),(),x39,x40,()) (y2,y3,y5,y8,y18,(),(),(),(),())
def Qal (x7:Int)(y2 y3:Endpoint)(y5:List Qb)(y18:List Int):VS:=Qak.st ((),(),(),(),x7,()) (y2,y3,y5,y18,(),(),(),(),())
def QlK (y5:List Qb):VS:=Qvl.st ((),()) (y5,(),())
def QLx:VS->Option (Bool×List (Bool×Exit×VS)):=mkL Qep (fun x y=>(decide (x.2.2.2.2.2.2.2.1=(y.2.2.2.2.1.length:Int)/\0<=x.2.2.2.2.2.2.2.2.1/\x.2.2.2.2.2.2.2.2.1<=x.2.2.2.2.2.2.2.1/\y.2.2.2.2.1.length<=16/\(y.2.2.1.length:Int)<=200+x.2.2.2.2.2.2.2.2.1)&&UH y.2.2.2.1 0)) (fun x y=>[(true,.exit 2,Qal (x.2.2.2.2.1) (y.1) (y.2.1) (y.2.2.1++W0 y.2.2.2.1 x.2.2.2.2.1 (y.2.2.2.2.1.drop x.2.2.2.2.2.2.2.2.1.toNat)) (y.2.2.2.2.1))])
def QLy:VS->Option (Bool×List (Bool×Exit×VS)):=mkL Qak (fun x y=>(decide (1<=x.2.2.2.2.1/\x.2.2.2.2.1<=5/\hiC y.1 y.2.1<=4/\(y.2.2.1.length:Int)<=16*x.2.2.2.2.1/\y.2.2.2.1.length<=16)&&YG y.2.1 (QI y.1))) (fun x y=>[(true,.exit 0,QlK (y.2.2.1++Fm y.2.1 (QI y.1) y.2.2.2.1 x.2.2.2.2.1.toNat (hiC y.1 y.2.1+1-x.2.2.2.2.1).toNat))])
def Qam:G:=gG 55 [(82,Qh1),(88,QyG),(89,Qwv),(90,Qp6)] (Ls [QLx,QLy])
def Qan (x7 x39 x40:Int)(y2 y3:Endpoint)(y5:List Qb)(y8:JW)(y18:List Int):OX:=QB (QD Qam QlH Qvm) (Qvo x7 x39 x40 y2 y3 y5 y8 y18)
def Qao (kk:Int->Int->Int->Endpoint->Endpoint->List Qb->JW->List Int->OX)(x7 x39 x40:Int)(y2 y3:Endpoint)(y5:List Qb)(y8:JW)(y18:List Int):OX:=
 let a1:=lgt tI y18 (Int.toNat x40)
 br (ilt x40 x39) (br (cIx y18 x40) (br (cLd y18 (Int.toNat x40)) (br (UH y8 a1) (br (Xm y8 a1) (br (Qr y5 ([(x7,(a1,()))]) 16) (kk x7 x39 (Qk .i64 x40 1) y2 y3 (y5++([(x7,(a1,()))])) y8 y18) none) (kk x7 x39 (Qk .i64 x40 1) y2 y3 y5 y8 y18)) none) none) none) (some (.exit 2,Qal x7 y2 y3 y5 y18))
def Qap (x7 x39 x40:Int)(y2 y3:Endpoint)(y5:List Qb)(y8:JW)(y18:List Int):OX:=some (.exit 2,Qal (x7) (y2) (y3) (y5++W0 y8 x7 (y18.drop x40.toNat)) (y18))
theorem Qvp (x7 x39 x40:Int)(y2 y3:Endpoint)(y5:List Qb)(y8:JW)(y18:List Int):Qan x7 x39 x40 y2 y3 y5 y8 y18=Qao Qan x7 x39 x40 y2 y3 y5 y8 y18:=lnT (x:=Qao (fun x7 x39 x40 y2 y3 y5 y8 y18=>some (.normal,Qvo x7 x39 x40 y2 y3 y5 y8 y18)) x7 x39 x40 y2 y3 y5 y8 y18) (by simp only [Qao,nxA];rfl)
def Qeq (x7:Int)(y2 y3:Endpoint)(y5:List Qb)(y18:List Int):OX:=QB (QD Qam QlI Qvn) (Qal x7 y2 y3 y5 y18)
def II (kk:Int->Endpoint->Endpoint->List Qb->List Int->OX)(x7:Int)(y2 y3:Endpoint)(y5:List Qb)(y18:List Int):OX:=
 let a1:=((y3.1,(y3.2.1,(y3.2.2.1,(y3.2.2.2.1,(y3.2.2.2.2.1,(y3.2.2.2.2.2.1,(y3.2.2.2.2.2.2.1,(y3.2.2.2.2.2.2.2.1,(y3.2.2.2.2.2.2.2.2.1,()))))))))),(x7,(y2.2.2.2.1,())))
 br (ile x7 (imn y2.2.2.1 y3.2.2.1)) (br (decide ((Qc y18)=(y18.length:Int)/\0<=(0:Int)/\(0:Int)<=(Qc y18)/\y18.length<=16/\(y5.length:Int)<=200+(0:Int))&&UH a1 0) (kk (Qk .i64 (x7) 1) (y2) (y3) (y5++W0 a1 x7 (y18.drop (0:Int).toNat)) (y18)) none) (some (.exit 0,QlK y5))
def Qaq (x7:Int)(y2 y3:Endpoint)(y5:List Qb)(y18:List Int):OX:=some (.exit 0,QlK (y5++Fm y3 (QI y2) y18 x7.toNat (hiC y2 y3+1-x7).toNat))
theorem Qvq (x7:Int)(y2 y3:Endpoint)(y5:List Qb)(y18:List Int):Qeq x7 y2 y3 y5 y18=II Qeq x7 y2 y3 y5 y18:=lnT (x:=II (fun x7 y2 y3 y5 y18=>some (.normal,Qal x7 y2 y3 y5 y18)) x7 y2 y3 y5 y18) (by simp only [II,nxA];rfl)
def r_f54 (p0 p1:Endpoint):OV:=
 let a1:=imx p0.2.1 p1.2.1
 br (ZH p0 p1) (br (!(YX p0 p1)) (some (.t (.sl Qh) ([]:List Qb),[])) (br (W4 p0.2.2.2.1) (br (decide (1<=a1/\a1<=5/\hiC p0 p1<=4/\(([]:List Qb).length:Int)<=16*a1/\(Og p0.2.2.2.1).length<=16)&&YG p1 (QI p0)) (some (.t (.sl Qh) (([]:List Qb)++Fm p1 (QI p0) (Og p0.2.2.2.1) a1.toNat (hiC p0 p1+1-a1).toNat),[])) none) none)) none
theorem QLz (x7 x39 x40:Int)(y2 y3:Endpoint)(y5:List Qb)(y8:JW)(y18:List Int)(h:(decide (x39=(y18.length:Int)/\0<=x40/\x40<=x39/\y18.length<=16/\(y5.length:Int)<=200+x40)&&UH y8 0)=true):Qan x7 x39 x40 y2 y3 y5 y8 y18=Qap x7 x39 x40 y2 y3 y5 y8 y18:=by
 obtain ⟨h,hc⟩:=Bf.1 h
 obtain ⟨rfl,h1,h2,h3,h4⟩:=Bv h
 clear h
 obtain ⟨k,rfl⟩:=Bm h1
 have key: ∀ k,k<=y18.length→ ∀ y5:List Qb,y5.length<=200+k->Qan x7 (y18.length:Int) (k:Int) y2 y3 y5 y8 y18=Qap x7 (y18.length:Int) (k:Int) y2 y3 y5 y8 y18:=by
  refine QW y18 (fun k=> ∀ y5:List Qb,y5.length<=200+k->Qan x7 (y18.length:Int) (k:Int) y2 y3 y5 y8 y18=Qap x7 (y18.length:Int) (k:Int) y2 y3 y5 y8 y18) ?_ ?_
  ·intro y5 _
   rw [Qvp]
   simp only [Qao,Qap,QC,BI,BQ,Qi,Bb,BE,W0,List.filter_nil,Dx,BG]
  ·intro k hk ih y5 hy
   rw [Qvp]
   have c1:cLd y18 k=true:=Bd (by omega)
   have c2: ∀ v,UH y8 v=true:=fun v=>hc
   have c3: ∀ v:Qb,Qr y5 [v] 16=true:=fun v=>Q7 (by omega) (by simp only [Bh];omega)
   simp only [Qao,QC,QS,hk,Bu,Qe,Bb,QU (show k<4611686018427387904 by omega),QX (y:=tI) hk,c1,c2,c3]
   rw [ih y5 (by omega),ih (y5++[(x7,(y18[k],()))]) (by simp only [Bj,Bh];omega)]
   simp only [Qap,Bb,Bi hk,QLu]
   cases Xm y8 y18[k] with
   |true=>simp only [Qe,if_true,BF,BD]
   |false=>simp only [Qi,BW,Ds]
 exact key k (by omega) y5 (by omega)
theorem QLA (x7:Int)(y2 y3:Endpoint)(y5:List Qb)(y18:List Int)(h:(decide (1<=x7/\x7<=5/\hiC y2 y3<=4/\(y5.length:Int)<=16*x7/\y18.length<=16)&&YG y3 (QI y2))=true):Qeq x7 y2 y3 y5 y18=Qaq x7 y2 y3 y5 y18:=by
 obtain ⟨h,hc⟩:=Bf.1 h
 obtain ⟨h0,h1,h2,h3,h4⟩:=Bv h
 clear h
 obtain ⟨k,rfl⟩:=Bm (show 0<=x7 by omega)
 have key: ∀ (m k:Nat) (y5:List Qb),m=5-k->1<=k->k<=5->y5.length<=16*k->Qeq (k:Int) y2 y3 y5 y18=Qaq (k:Int) y2 y3 y5 y18:=by
  intro m
  induction m with
  |zero=>
   intro k y5 hm h0 h1 h3
   have:k=5:=by omega
   subst this
   rw [Qvq]
   have e:(hiC y2 y3+1-((5:Nat):Int)).toNat=0:=by omega
   simp only [II,Qaq,show ile ((5:Nat):Int) (imn y2.2.2.1 y3.2.2.1)=false from Bn (by show ¬ _<=hiC y2 y3;omega),Qi,e,Fm,List.range'_zero,List.flatMap_nil,BG]
  |succ m ih=>
   intro k y5 hm h0 h1 h3
   rw [Qvq]
   by_cases hk:(k:Int)<=hiC y2 y3
   ·have e1:(hiC y2 y3+1-(k:Int)).toNat=(hiC y2 y3+1-((k+1:Nat):Int)).toNat+1:=by omega
    have c0:(decide (True/\(0:Int)<=0/\(0:Int)<=Qc y18/\y18.length<=16/\(y5.length:Int)<=200+0)&&UH (y3,((k:Int),(QI y2,()))) 0)=true:=Bf.2 ⟨Bd ⟨trivial,by simp only [Qc];omega⟩,hc⟩
    have hr:=QLv (y3,((k:Int),(QI y2,()))) (k:Int) y18
    have hi:=ih (k+1) (y5++W0 (y3,((k:Int),(QI y2,()))) (k:Int) y18) (by omega) (by omega) (by omega) (by simp only [Bj];omega)
    simp only [II,show ile (k:Int) (imn y2.2.2.1 y3.2.2.1)=true from Bd hk,Qe,QU (show k<4611686018427387904 by omega),eEta]
    refine Eq.trans (congrArg (fun b=>br b _ _) c0) ?_
    rw [Qe]
    refine Eq.trans hi ?_
    simp only [Qaq,Bb,e1,Fm,Dd,BY,BF]
   ·have e1:(hiC y2 y3+1-(k:Int)).toNat=0:=by omega
    simp only [II,show ile (k:Int) (imn y2.2.2.1 y3.2.2.1)=false from Bn hk,Qi,Qaq,e1,Fm,List.range'_zero,List.flatMap_nil,BG]
 exact key (5-k) k y5 rfl (by omega) (by omega) (by omega)
theorem QLB:LO Qam QlH Qvm 0:=QN (s:=Qep) fun x y h _ q=>by simp only [QJ,QK] at q;exact (QLz x.2.2.2.2.1 x.2.2.2.2.2.2.2.1 x.2.2.2.2.2.2.2.2.1 y.1 y.2.1 y.2.2.1 y.2.2.2.1 y.2.2.2.2.1 h).trans q
theorem QLC:LO Qam QlI Qvn 1:=QN (s:=Qak) fun x y h _ q=>by simp only [QJ,QK] at q;exact (QLA x.2.2.2.2.1 y.1 y.2.1 y.2.2.1 y.2.2.2.1 h).trans q
theorem s_f54 (c s:Endpoint)(h:ZH c s=true):r_f54 c s=some (.t (.sl Qh) (Zg c s),[]):=by
 obtain ⟨hc,hs⟩:=Bf.1 h
 have hs':=Z1 hs
 have hc':=Z1 hc
 have c1:W4 (QI c)=true:=Bd hc'.2.1
 simp only [r_f54,h,c1,Qe]
 unfold Zg
 cases hr:YX c s with
 |false=>rfl
 |true=>
  obtain ⟨hv,hw⟩:=Bf.1 hr
  have v1:=EF hv
  have v2:=EF hw
  have hsu:=QPV hv
  have b1:1<=loC c s/\loC c s<=4:=by simp only [loC,imx];omega
  have b2:hiC c s<=4:=by simp only [hiC,imn];omega
  have b3:(Og (QI c)).length<=16:=by
   show (YS (QI c)).length<=16
   rw [show (YS (QI c)).length=(QI c).length from List.length_mergeSort _]
   exact QAE hsu
  have c0:(decide (1<=loC c s/\loC c s<=5/\hiC c s<=4/\(([]:List Qb).length:Int)<=16*loC c s/\(Og (QI c)).length<=16)&&YG s (QI c))=true:=Bf.2 ⟨Bd ⟨b1.1,by omega,b2,by simp only [Bw];omega,b3⟩,Bd ⟨hs'.2.2.1,hs'.2.1,hc'.2.1⟩⟩
  rw [BC,Qi,BM]
  refine Eq.trans (congrArg (fun b=>br b _ _) c0) ?_
  rw [Qe, ← QLw hsu]
  rfl
def QlL:Ent:=Qq (.pr Qj (.pr Qj .nil)) (fun x=>(ZH x.1 x.2.1)) (fun x=>(.t (.sl Qh) (Zg x.1 x.2.1)))
theorem Qvr:EM 54 QlL:=mS (lk:=lkL (lkc QLC (lkc QLB lkn))) Qam QlJ [((.t 4),some (.sl Qh))] false (gB (gD Qp8 (gD QOG (gD ms_f89 (gD QDp gN))))) fun m=>Qu m fun x hok=>kT (s_f54 x.1 x.2.1 hok)
end
end Go.Proofs.YtckcgijklnloiaaGreat.K
noncomputable section
namespace Go.Proofs.YtckcgijklnloiaaGreat.K
open Go.RowKit
noncomputable section
end
end Go.Proofs.YtckcgijklnloiaaGreat.K
noncomputable section
namespace Go.Proofs.YtckcgijklnloiaaGreat.K
open Go.RowKit
noncomputable section
theorem Qy2 {d:Qd}{i s:ByteArray}{k:Qb}{id g:Int}{a:Bool}(hi:i.size<=1000)(hs:s.size<=1000):Jr (Wc d i s k id g a)=true:=by
 unfold Wc XN
 cases Qcs (U7 d i s k id a) g with
 |true=>rfl
 |false=>
  rw [BM]
  have:Jr (U7 d i s k id a)=true:=by
   refine Qfl hi hs ?_ ?_
   ·unfold cNm
    cases done (cD5 d a) 3<;>simp
   ·intro t ht
    unfold cNm at ht
    cases hd:done (cD5 d a) 3 with
    |true=>
     rw [hd] at ht
     simp only [BZ,BT,B0,Dn] at ht
     rcases ht with rfl|rfl
     ·omega
     ·rw [Qxv];show s.size+1<=_;omega
    |false=>
     rw [hd] at ht
     simp only [BM,BT,B0,Dn] at ht
     subst ht
     omega
  exact this
theorem Qy3: ∀ (m i:Nat) (u:Up),u.2.2.1.size<=1000->u.1.all Jr=true->(W7 m i u).1.all Jr=true/\(W7 m i u).2.2.1.size<=1000
 |0,_,u,h,h2=>⟨h2,h⟩
 |m+1,i,(ab,d,iss,g),h,h2=>by
  have hs:=Qms i
  refine Qy3 m (i+1) _ (show (XX.getD i ByteArray.empty).size<=1000 by omega) ?_
  rw [BV,Qy2 h (by omega)]
  exact h2
theorem QOS {d:Qd}{nm:ByteArray}{k:Qb}{id:Int}(hn:nm.size<=1000)(hd:dOk d=true):Jf (Y7 d nm k id)=true:=by
 have hu0:XY ([],Qg (Qt d [1,0,2]) 2,W6,1+Ql (Qt d [1,0,2]) 2)=true:=Bf.2 ⟨QG (n:=2) (JH (l:=[1,0,2]) hd),rfl⟩
 have hm:=Z0 (d:=d) (l:=[1,0,2]) (by decide)
 simp only [BT,B0,Dn] at hm
 obtain ⟨h1,h2⟩:=Qy3 (dof d [1,0,2]).toNat 0 ([],Qg (Qt d [1,0,2]) 2,W6,1+Ql (Qt d [1,0,2]) 2) (show W6.size<=1000 by decide) rfl
 have hl:=(QaJ (dof d [1,0,2]).toNat 0 _ hu0).2
 simp only [Bw] at hl
 have hl2:(chU d).1.length<=3:=by
  unfold chU
  omega
 unfold Y7
 simp only [Jf,Bc,BV,Bp,Ba]
 exact ⟨by omega,Qy2 h2 hn,h1⟩
theorem id_len {d:Qd}{nm:ByteArray}(hn:nm.size<=1000)(hd:dOk d=true):Jz (idV d nm)=true:=by
 show Jf (iCh d nm)=true
 unfold iCh
 cases !done (iD4 d) 9
 ·rfl
 ·exact QOS hn (QG (n:=9) (QG (n:=20) (Qs9 hd)))
theorem Qy4: ∀ (n:Nat) (nm:ByteArray) (d:Qd),nm.size<=1000->dOk d=true->(ZE n nm d).1.all Jz=true
 |0,_,_,_,_=>rfl
 |n+1,nm,d,hn,hd=>by
  simp only [ZE,BV,Bc]
  exact ⟨id_len hn hd,Qy4 n nm _ hn (Qdx hd)⟩
theorem QOT {d:Qd}{nm:ByteArray}(hn:nm.size<=1000)(hd:dOk d=true):(ZW d nm).1.all Jz=true/\(ZW d nm).1.length<=3:=by
 have k4:=QG (n:=2) (QG (n:=2) (QcH (JH (l:=[1,1,2,3]) hd)))
 have k6:=QG (n:=3) (QG (n:=5-eL0 d) k4)
 have k7:dOk (eD7 d)=true:=by
  unfold eD7
  cases eB d
  ·exact k6
  ·exact JH (l:=[3,4,2]) k6
 have k8:=JH (l:=[1,2,1,3,0]) k7
 have m7:=Z0 (d:=eD7 d) (l:=[1,2,1,3,0]) (by decide)
 simp only [BT,B0,Dn] at m7
 refine ⟨Qy4 _ _ _ hn k8, ?_⟩
 have:=(Qdy (dof (eD7 d) [1,2,1,3,0]).toNat nm (eD8 d) k8).2
 unfold ZW
 omega
theorem QnI {l:List (List Int)}(h: ∀ x∈l,x.length<=4)(k:Nat):(lgt (.sl tI) l k).length<=4:=by
 show (l.getD k []).length<=4
 rw [Bo]
 cases hk:l[k]? with
 |none=>exact B2 _
 |some x=>exact h x (Dp hk)
theorem an_len (d:Qd)(nm:ByteArray):(Jh (epV d nm)).length<=4:=QnI (by simp) _
theorem hs_len (d:Qd)(nm:ByteArray):(Jj (epV d nm)).length<=4:=QnI (by simp) _
theorem QOU {e:Endpoint}(h1:e.1.size<=1000)(h2:(QI e).length<=1000)(h3:(QH e).length<=1000)(h4:(Jh e).length<=1000)(h5:(Jj e).length<=1000)(h6:(QH e).all Jz=true):Q2 e=true:=by
 simp only [Q2,Bc,Ba]
 exact ⟨⟨Bd (by omega),by omega,by omega,by omega,by omega⟩,h6⟩
theorem Qy5 {d:Qd}{nm:ByteArray}(hn:nm.size<=1000)(hd:dOk d=true):(QH (epV d nm)).all Jz=true/\(QH (epV d nm)).length<=3:=QOT hn hd
theorem Qy6 (d:Qd)(nm:ByteArray):(epV d nm).1=nm:=rfl
attribute [local irreducible] epV epN prZ
end
end Go.Proofs.YtckcgijklnloiaaGreat.K
noncomputable section
namespace Go.Proofs.YtckcgijklnloiaaGreat.K
open Go.RowKit
noncomputable section
end
end Go.Proofs.YtckcgijklnloiaaGreat.K
noncomputable section
namespace Go.Proofs.YtckcgijklnloiaaGreat.K
open Go.RowKit
noncomputable section
def Wf:Option Int->List J4->Bool
 |_,[]=>true
 |pv,x::r=>Zr x.1&&decide (0<=x.2.1/\x.2.1<=40000)&&(match pv with|none=>true|some d=>decide (d<x.2.1))&&Wf (some x.2.1) r
theorem QnA (pv:Option Int)(x:J4)(r:List J4):Wf pv (x::r)=(Zr x.1&&decide (0<=x.2.1/\x.2.1<=40000)&&(match pv with|none=>true|some d=>decide (d<x.2.1))&&Wf (some x.2.1) r):=by cases pv<;>rfl
def Ye (l:List J4)(k:Nat):Option Int:=if k=0 then none else (l[k-1]?).map fun x:J4=>x.2.1
def ZB (i:Qs):Bool:=JJ i.1&&decide (1<=i.2.1/\i.2.1<=2)&&decide (1<=i.2.2.1/\i.2.2.1<=4)&&decide (1<=i.2.2.2.1.length/\i.2.2.2.1.length<=8)&&Wf none i.2.2.2.1&&decide ((i.2.2.2.1.headD ((0,(0,())),(0,()))).2.1<=i.2.2.2.2.1/\i.2.2.2.2.1<=40000)
def YT (i:Qs):Int:=if ZB i then 0 else 30
def YU (i:Qs):Bool:=JB i.1
abbrev QfP:Sh:=⟨[(1,.ptr 1 0),(45,.ty (.sl Zx)),(46,.ty tI),(47,.ty tI)],[(1,.box Jm)]⟩
abbrev QnB:Sh:=⟨[(2,.ty tI)],[]⟩
abbrev QyH:Sh:=⟨[(1,.ptr 1 0)],[(1,.box Jm)]⟩
def QnC:Fg:=QfP.f
def QyI:TC:=aF Tryz.f79 [(122,pL 0 QnC),(1957,.fg QyH.f),(15666,pD [(0,[5]),(1,[5]),(2,[]),(3,[]),(4,[]),(5,[5]),(6,[5]),(7,[]),(8,[]),(9,[]),(10,[5]),(11,[5]),(12,[]),(13,[]),(14,[]),(15,[]),(16,[]),(17,[]),(18,[1]),(19,[1]),(20,[]),(21,[]),(22,[]),(23,[]),(24,[]),(25,[5]),(26,[5]),(27,[]),(28,[]),(29,[])] (.of [0,1,2,3,4,5,6,7,8,9,10,11,12,13,14,15,16,17,18,19,20,21,22,23,24,25,26,27,28,29])),(62669,.fg QnB.f),(124,pD [(0,[1]),(1,[1]),(2,[1]),(3,[1]),(4,[]),(5,[]),(6,[]),(7,[]),(8,[]),(9,[1]),(10,[1]),(11,[]),(12,[])] (.of [0,1,2,3,4,5,6,7,8,9,10,11,12]))]
def QyJ:TC:=lb 0 QyI
def QyK (x45:List J4)(x46 x47:Int)(y1:Qs):VS:=QfP.st ((),x45,x46,x47,()) (y1,())
def Wg (x2:Int):VS:=QnB.st (x2,()) ()
def QnD (y1:Qs):VS:=QyH.st ((),()) (y1,())
def QOH:VS->Option (Bool×List (Bool×Exit×VS)):=mkL QfP (fun x y=>((x.2.1==y.1.2.2.2.1)&&Qz x.2.1 x.2.2.1 x.2.2.2.1)) (fun x y=>[((!(Wf (Ye x.2.1 x.2.2.2.1.toNat) (x.2.1.drop x.2.2.2.1.toNat))),.ret,Wg (30)),(true,.exit 0,QnD (y.1))])
def QnE:G:=gG 96 [(124,Qgq),(125,QiY)] (Ls [QOH])
def QfQ (x45:List J4)(x46 x47:Int)(y1:Qs):OX:=QB (QD QnE QnC QyJ) (QyK x45 x46 x47 y1)
def Qba (kk:List J4->Int->Int->Qs->OX)(x45:List J4)(x46 x47:Int)(y1:Qs):OX:=
 let a1:=lgt Zx x45 (Int.toNat x47)
 br (ilt x47 x46) (br (cIx x45 x47) (br (!(Zr (a1.1))) (some (.ret,Wg 30)) (br (ilt ((a1.2).1) 0) (some (.ret,Wg 30)) (br (igt ((a1.2).1) 40000) (some (.ret,Wg 30)) (br (igt x47 0) (br (cIx y1.2.2.2.1 (QT .i64 x47 1)) (br (ige (((lgt Zx y1.2.2.2.1 (Int.toNat (QT .i64 x47 1))).2).1) ((a1.2).1)) (some (.ret,Wg 30)) (kk x45 x46 (Qk .i64 x47 1) y1)) none) (kk x45 x46 (Qk .i64 x47 1) y1))))) none) (some (.exit 0,QnD y1))
def Oi (x45:List J4)(x46 x47:Int)(y1:Qs):OX:=br (!(Wf (Ye x45 x47.toNat) (x45.drop x47.toNat))) (some (.ret,Wg (30)))<|some (.exit 0,QnD (y1))
theorem QyL (x45:List J4)(x46 x47:Int)(y1:Qs):QfQ x45 x46 x47 y1=Qba QfQ x45 x46 x47 y1:=lnT (x:=Qba (fun x45 x46 x47 y1=>some (.normal,QyK x45 x46 x47 y1)) x45 x46 x47 y1) (by simp only [Qba,nxA];rfl)
def Qbb (p0:Qs):OV:=
 let a1:=((((p0).2).2).2)
 let a2:=Qc p0.2.2.2.1
 br (ilt p0.2.2.1 1) (some (.t tI 30,[])) (br (igt p0.2.2.1 4) (some (.t tI 30,[])) (br (ilt a2 1) (some (.t tI 30,[])) (br (igt a2 8) (some (.t tI 30,[])) (br ((p0.2.2.2.1==p0.2.2.2.1)&&Qz p0.2.2.2.1 a2 (0:Int)) (br (!(Wf (Ye p0.2.2.2.1 (0:Int).toNat) (p0.2.2.2.1.drop (0:Int).toNat))) (some (.t tI (30),[])) (br (cIx (a1.1) 0) (br (ilt ((a1.2).1) (((lgt Zx (a1.1) (Int.toNat 0)).2).1)) (some (.t tI 30,[])) (br (igt ((a1.2).1) 40000) (some (.t tI 30,[])) (some (.t tI 0,[])))) none)) none))))
def r_f79 (p0:Qs):OV:=br (ieq p0.2.1 1) (br (JB p0.1) (br (!(JJ p0.1)) (some (.t tI 30,[])) (br (!true) (some (.t tI 30,[])) (Qbb p0))) none) (br (JB p0.1) (br (!(JJ p0.1)) (some (.t tI 30,[])) (br (!(ieq p0.2.1 2)) (some (.t tI 30,[])) (Qbb p0))) none)
theorem QOI (x45:List J4)(x46 x47:Int)(y1:Qs)(h:((x45==y1.2.2.2.1)&&Qz x45 x46 x47)=true):QfQ x45 x46 x47 y1=Oi x45 x46 x47 y1:=by
 simp only [Bc,Db] at h
 obtain ⟨hx,h0⟩:=h
 obtain ⟨rfl,h3,k,rfl,hk⟩:=Js h0
 clear h0
 refine QW x45 (fun k=>QfQ x45 (x45.length:Int) (k:Int) y1=Oi x45 (x45.length:Int) (k:Int) y1) ?_ ?_ k hk
 ·rw [QyL]
  simp [Qba,Oi,QC,Qi,Wf]
 ·intro k hk ih
  rw [QyL]
  have el:Oi x45 (x45.length:Int) (k:Int) y1=br (!(Zr x45[k].1&&decide (0<=x45[k].2.1/\x45[k].2.1<=40000)&&(match Ye x45 k with|none=>true|some d=>decide (d<x45[k].2.1)))) (some (.ret,Wg 30)) (Oi x45 (x45.length:Int) ((k+1:Nat):Int) y1):=by
   have e1:Ye x45 (k+1)=some x45[k].2.1:=by
    unfold Ye
    rw [if_neg (by omega),Nat.add_sub_cancel,Bl hk]
    rfl
   simp only [Oi,Bb,e1]
   rw [Bi hk,QnA]
   generalize (Zr x45[k].1&&decide (0<=x45[k].2.1/\x45[k].2.1<=40000)&&(match Ye x45 k with|none=>true|some d=>decide (d<x45[k].2.1)))=c
   cases c<;>rfl
  rw [el]
  simp only [Qba,QC,QS,hk,Bu,Qe,Bb,QU (show k<4611686018427387904 by omega),QX (y:=Zx) hk,ih, ← hx]
  cases Zr x45[k].1 with
  |false=>rfl
  |true=>
   simp only [BC,Qi,BB]
   by_cases c1:x45[k].2.1<0
   ·rw [show ilt x45[k].2.1 0=true from Bd c1,Qe,Bn (show ¬ (0<=x45[k].2.1/\x45[k].2.1<=40000) by omega)]
    rfl
   ·rw [show ilt x45[k].2.1 0=false from Bn c1,Qi]
    by_cases c2:40000<x45[k].2.1
    ·rw [show igt x45[k].2.1 40000=true from Bd (by omega),Qe,Bn (show ¬ (0<=x45[k].2.1/\x45[k].2.1<=40000) by omega)]
     rfl
    ·rw [show igt x45[k].2.1 40000=false from Bn (by omega),Qi,Bd (show 0<=x45[k].2.1/\x45[k].2.1<=40000 by omega)]
     simp only [BB]
     by_cases hk0:k=0
     ·subst hk0
      rfl
     ·have hk1:k-1<x45.length:=by omega
      have e1:QT .i64 (k:Int) 1=((k-1:Nat):Int):=by rw [Zu (by omega)];omega
      have e2:igt (k:Int) 0=true:=by simp only [igt,Ba];omega
      have e3:Ye x45 k=some x45[k-1].2.1:=by
       unfold Ye
       rw [if_neg hk0,Bl hk1]
       rfl
      rw [e1,e2,e3,Qe]
      simp only [QS,hk1,Bu,Qe,Bb,QX (y:=Zx) hk1]
      by_cases c3:x45[k-1].2.1<x45[k].2.1
      ·rw [show ige x45[k-1].2.1 x45[k].2.1=false from Bn (by omega),Qi,Bd c3]
       rfl
      ·rw [show ige x45[k-1].2.1 x45[k].2.1=true from Bd (by omega),Qe,Bn c3]
       rfl
theorem QOJ:LO QnE QnC QyJ 0:=QN (s:=QfP) fun x y h _ q=>by simp only [QJ,QK] at q;exact (QOI x.2.1 x.2.2.1 x.2.2.2.1 y.1 h).trans q
theorem ZT {i:Qs}:ZB i=true↔JJ i.1=true/\(1<=i.2.1/\i.2.1<=2)/\(1<=i.2.2.1/\i.2.2.1<=4)/\(1<=i.2.2.2.1.length/\i.2.2.2.1.length<=8)/\Wf none i.2.2.2.1=true/\(i.2.2.2.1.headD ((0,(0,())),(0,()))).2.1<=i.2.2.2.2.1/\i.2.2.2.2.1<=40000:=by
 unfold ZB
 simp only [Bc,Ba,and_assoc]
theorem s_f79 (i:Qs)(h:YU i=true):r_f79 i=some (.t tI (YT i),[]):=by
 have h:JB i.1=true:=h
 have bad:(ZB i=true->False)->some (V.t tI 30,([]:List VO))=some (V.t tI (YT i),[]):=fun hq=>by
  cases hi:ZB i with
  |false=>simp [YT,hi]
  |true=>exact (hq hi).elim
 have tail:JJ i.1=true->(1<=i.2.1/\i.2.1<=2)->Qbb i=some (.t tI (YT i),[]):=fun k1 k2=>by
  simp only [Qbb]
  refine Jp (fun g=>bad fun hq=> ?_) (fun g1=>Jp (fun g=>bad fun hq=> ?_) (fun g2=>Jp (fun g=>bad fun hq=> ?_) (fun g3=>Jp (fun g=>bad fun hq=> ?_) (fun g4=> ?_))))
  ·have:=ZT.1 hq;simp only [ilt,Ba] at g;omega
  ·have:=ZT.1 hq;simp only [igt,Ba] at g;omega
  ·have:=ZT.1 hq;simp only [ilt,Qc,Ba] at g;omega
  ·have:=ZT.1 hq;simp only [igt,Qc,Ba] at g;omega
  ·simp only [ilt,igt,Qc,Bq] at g1 g2 g3 g4
   rw [beq_self_eq_true,BB,Jy (by omega),Qe]
   have e0:Ye i.2.2.2.1 (0:Int).toNat=none:=rfl
   rw [e0,Bt,Bx]
   refine Jp (fun g=>bad fun hq=> ?_) (fun g5=> ?_)
   ·have:=ZT.1 hq
    rw [this.2.2.2.2.1] at g
    cases g
   ·have hl:0<i.2.2.2.1.length:=by omega
    have e1:cIx i.2.2.2.1 0=true:=by simp only [cIx,Ba];omega
    have e2:lgt Zx i.2.2.2.1 0=i.2.2.2.1.headD ((0,(0,())),(0,())):=by
     cases hq:i.2.2.2.1 with
     |nil=>rw [hq] at hl;simp at hl
     |cons a l=>rfl
    rw [e1,Qe,e2]
    refine Jp (fun g=>bad fun hq=> ?_) (fun g6=>Jp (fun g=>bad fun hq=> ?_) (fun g7=> ?_))
    ·have:=ZT.1 hq;simp only [ilt,Ba] at g;omega
    ·have:=ZT.1 hq;simp only [igt,Ba] at g;omega
    ·simp only [ilt,igt,Bq] at g6 g7
     have:ZB i=true:=ZT.2 ⟨k1,k2,by omega,by omega,by simpa using g5,by omega,by omega⟩
     simp [YT,this]
 simp only [r_f79,Qbb] at tail ⊢
 rw [h]
 simp only [Qe]
 refine Jp (fun g1=>Jp (fun g=>bad fun hq=> ?_) (fun g2=> ?_)) (fun g1=>Jp (fun g=>bad fun hq=> ?_) (fun g2=>Jp (fun g=>bad fun hq=> ?_) (fun g3=> ?_)))
 ·rw [(ZT.1 hq).1] at g;cases g
 ·simp only [XF,Ba] at g1
  exact tail (by simpa using g2) (by omega)
 ·rw [(ZT.1 hq).1] at g;cases g
 ·have:=ZT.1 hq
  simp only [XF,Bq,By,Ba] at g1 g
  omega
 ·simp only [XF,Bq,Bool.not_eq_false',Ba] at g1 g3
  exact tail (by simpa using g2) (by omega)
def QyM:Ent:=Qq (.pr Jm .nil) (fun x=>(YU x.1)) (fun x=>(.t tI (YT x.1)))
theorem ms_f79:EM 79 QyM:=mS (lk:=lkL (lkc QOJ lkn)) QnE QyI [((.t 2),some tI)] false (gB (gD Qou (gD Qri gN))) fun m=>Qu m fun x hok=>kT (s_f79 x.1 hok)
abbrev QfR:Sh:=⟨[(1,.ptr 1 0),(3,.ty tI)],[(1,.box Jm)]⟩
abbrev QyN:Sh:=⟨[],[]⟩
def QnF:Fg:=QfR.f
def QyO:TC:=aF Tryz.f106 [(12,pD [(0,[1]),(1,[1]),(2,[]),(3,[]),(4,[]),(5,[1]),(6,[1]),(7,[]),(8,[]),(9,[1]),(10,[1]),(11,[]),(12,[]),(13,[]),(14,[]),(15,[1]),(16,[1]),(17,[]),(18,[]),(19,[]),(20,[1]),(21,[1]),(22,[]),(23,[]),(24,[]),(25,[1]),(26,[1]),(27,[]),(28,[]),(29,[]),(30,[]),(31,[1]),(32,[1]),(33,[]),(34,[]),(35,[]),(36,[]),(37,[1]),(38,[1]),(39,[]),(40,[]),(41,[]),(42,[1]),(43,[1]),(44,[1]),(45,[1]),(46,[]),(47,[]),(48,[]),(49,[]),(50,[])] (.of [0,1,2,3,4,5,6,7,8,9,10,11,12,13,14,15,16,17,18,19,20,21,22,23,24,25,26,27,28,29,30,31,32,33,34,35,36,37,38,39,40,41,42,43,44,45,46,47,48,49,50])),(58,pL 0 QnF),(931,.fg QyN.f),(1864,pD [(0,[1]),(1,[1]),(2,[]),(3,[]),(4,[]),(5,[]),(6,[]),(7,[]),(8,[]),(9,[1]),(10,[1]),(11,[]),(12,[]),(13,[]),(14,[]),(15,[]),(16,[]),(17,[]),(18,[1]),(19,[1]),(20,[]),(21,[]),(22,[]),(23,[]),(24,[]),(25,[]),(26,[]),(27,[]),(28,[]),(29,[]),(30,[1]),(31,[1]),(32,[]),(33,[]),(34,[]),(35,[]),(36,[]),(37,[1]),(38,[1]),(39,[]),(40,[]),(41,[]),(42,[]),(43,[]),(44,[]),(45,[])] (.of [0,1,2,3,4,5,6,7,8,9,10,11,12,13,14,15,16,17,18,19,20,21,22,23,24,25,26,27,28,29,30,31,32,33,34,35,36,37,38,39,40,41,42,43,44,45])),(7461,.fg QnB.f)]
def QyP:TC:=lb 0 QyO
def QyQ (x3:Int)(y1:Qs):VS:=QfR.st ((),x3,()) (y1,())
def QnG  : VS:=QyN.st () ()
def QOK:VS->Option (Bool×List (Bool×Exit×VS)):=mkL QfR (fun x y=>(decide (0<=x.2.1/\x.2.1<=y.1.2.2.2.1.length/\y.1.2.2.2.1.length<=8))) (fun x y=>[((!(Wf (Ye y.1.2.2.2.1 x.2.1.toNat) (y.1.2.2.2.1.drop x.2.1.toNat))),.ret,Wg (30)),(true,.exit 0,QnG)])
def QnH:G:=gG 108 [(146,Qoy),(147,Qi3)] (Ls [QOK])
def QfS (x3:Int)(y1:Qs):OX:=QB (QD QnH QnF QyP) (QyQ x3 y1)
def Qbc (kk:Int->Qs->OX)(x3:Int)(y1:Qs):OX:=
 let a1:=lgt Zx y1.2.2.2.1 (Int.toNat x3)
 let a2:=cIx y1.2.2.2.1 x3
 br (ilt x3 (Qc y1.2.2.2.1)) (br a2 (br (!(Zr (a1.1))) (some (.ret,Wg 30)) (br a2 (br (ilt ((a1.2).1) 0) (some (.ret,Wg 30)) (br a2 (br (igt ((a1.2).1) 40000) (some (.ret,Wg 30)) (br (igt x3 0) (br (cIx y1.2.2.2.1 (QT .i64 x3 1)) (br a2 (br (ige (((lgt Zx y1.2.2.2.1 (Int.toNat (QT .i64 x3 1))).2).1) ((a1.2).1)) (some (.ret,Wg 30)) (kk (Qk .i64 x3 1) y1)) none) none) (kk (Qk .i64 x3 1) y1))) none)) none)) none) (some (.exit 0,QnG))
def Oj (x3:Int)(y1:Qs):OX:=br (!(Wf (Ye y1.2.2.2.1 x3.toNat) (y1.2.2.2.1.drop x3.toNat))) (some (.ret,Wg (30)))<|some (.exit 0,QnG)
theorem QyR (x3:Int)(y1:Qs):QfS x3 y1=Qbc QfS x3 y1:=lnT (x:=Qbc (fun x3 y1=>some (.normal,QyQ x3 y1)) x3 y1) (by simp only [Qbc,nxA];rfl)
def QfT (p0:Qs):OV:=br (ilt p0.2.2.1 1) (some (.t tI 30,[])) (br (igt p0.2.2.1 4) (some (.t tI 30,[])) (br (ilt (Qc p0.2.2.2.1) 1) (some (.t tI 30,[])) (br (igt (Qc p0.2.2.2.1) 8) (some (.t tI 30,[])) (br (igt p0.2.2.2.2.1 40000) (some (.t tI 30,[])) (br (cIx p0.2.2.2.1 0) (br (ilt p0.2.2.2.2.1 (((lgt Zx p0.2.2.2.1 (Int.toNat 0)).2).1)) (some (.t tI 30,[])) (br (decide (0<=(0:Int)/\(0:Int)<=p0.2.2.2.1.length/\p0.2.2.2.1.length<=8)) (br (!(Wf (Ye p0.2.2.2.1 (0:Int).toNat) (p0.2.2.2.1.drop (0:Int).toNat))) (some (.t tI (30),[])) (some (.t tI 0,[]))) none)) none)))))
def QyS (p0:Qs):OV:=br (JB p0.1) (br (!(JJ p0.1)) (some (.t tI 30,[])) (br (ine p0.2.1 1) (br (ine p0.2.1 2) (some (.t tI 30,[])) (QfT p0)) (QfT p0))) none
theorem QOL (x3:Int)(y1:Qs)(h:(decide (0<=x3/\x3<=y1.2.2.2.1.length/\y1.2.2.2.1.length<=8))=true):QfS x3 y1=Oj x3 y1:=by
 simp only [Ba] at h
 obtain ⟨h1,h2,h3⟩:=h
 obtain ⟨k,rfl⟩:=Bm h1
 refine QW y1.2.2.2.1 (fun k=>QfS (k:Int) y1=Oj (k:Int) y1) ?_ ?_ k (by omega)
 ·rw [QyR]
  simp [Qbc,Oj,QC,Qc,Qi,Wf]
 ·intro k hk ih
  rw [QyR]
  have el:Oj (k:Int) y1=br (!(Zr y1.2.2.2.1[k].1&&decide (0<=y1.2.2.2.1[k].2.1/\y1.2.2.2.1[k].2.1<=40000)&&(match Ye y1.2.2.2.1 k with|none=>true|some d=>decide (d<y1.2.2.2.1[k].2.1)))) (some (.ret,Wg 30)) (Oj ((k+1:Nat):Int) y1):=by
   have e1:Ye y1.2.2.2.1 (k+1)=some y1.2.2.2.1[k].2.1:=by
    unfold Ye
    rw [if_neg (by omega),Nat.add_sub_cancel,Bl hk]
    rfl
   simp only [Oj,Bb,e1]
   rw [Bi hk,QnA]
   generalize (Zr y1.2.2.2.1[k].1&&decide (0<=y1.2.2.2.1[k].2.1/\y1.2.2.2.1[k].2.1<=40000)&&(match Ye y1.2.2.2.1 k with|none=>true|some d=>decide (d<y1.2.2.2.1[k].2.1)))=c
   cases c<;>rfl
  rw [el]
  simp only [Qbc,QC,Qc,QS,hk,Bu,Qe,Bb,QU (show k<4611686018427387904 by omega),QX (y:=Zx) hk,ih]
  cases Zr y1.2.2.2.1[k].1 with
  |false=>rfl
  |true=>
   simp only [BC,Qi,BB]
   by_cases c1:y1.2.2.2.1[k].2.1<0
   ·rw [show ilt y1.2.2.2.1[k].2.1 0=true from Bd c1,Qe,Bn (show ¬ (0<=y1.2.2.2.1[k].2.1/\y1.2.2.2.1[k].2.1<=40000) by omega)]
    rfl
   ·rw [show ilt y1.2.2.2.1[k].2.1 0=false from Bn c1,Qi]
    by_cases c2:40000<y1.2.2.2.1[k].2.1
    ·rw [show igt y1.2.2.2.1[k].2.1 40000=true from Bd (by omega),Qe,Bn (show ¬ (0<=y1.2.2.2.1[k].2.1/\y1.2.2.2.1[k].2.1<=40000) by omega)]
     rfl
    ·rw [show igt y1.2.2.2.1[k].2.1 40000=false from Bn (by omega),Qi,Bd (show 0<=y1.2.2.2.1[k].2.1/\y1.2.2.2.1[k].2.1<=40000 by omega)]
     simp only [BB]
     by_cases hk0:k=0
     ·subst hk0
      rfl
     ·have hk1:k-1<y1.2.2.2.1.length:=by omega
      have e1:QT .i64 (k:Int) 1=((k-1:Nat):Int):=by rw [Zu (by omega)];omega
      have e2:igt (k:Int) 0=true:=by simp only [igt,Ba];omega
      have e3:Ye y1.2.2.2.1 k=some y1.2.2.2.1[k-1].2.1:=by
       unfold Ye
       rw [if_neg hk0,Bl hk1]
       rfl
      rw [e1,e2,e3,Qe]
      simp only [QS,hk1,Bu,Qe,Bb,QX (y:=Zx) hk1]
      by_cases c3:y1.2.2.2.1[k-1].2.1<y1.2.2.2.1[k].2.1
      ·rw [show ige y1.2.2.2.1[k-1].2.1 y1.2.2.2.1[k].2.1=false from Bn (by omega),Qi,Bd c3]
       rfl
      ·rw [show ige y1.2.2.2.1[k-1].2.1 y1.2.2.2.1[k].2.1=true from Bd (by omega),Qe,Bn c3]
       rfl
theorem QOM:LO QnH QnF QyP 0:=QN (s:=QfR) fun x y h _ q=>by simp only [QJ,QK] at q;exact (QOL x.2.1 y.1 h).trans q
theorem s_f106 (i:Qs)(h:YU i=true):QyS i=some (.t tI (YT i),[]):=by
 have h:JB i.1=true:=h
 have bad:(ZB i=true->False)->some (V.t tI 30,([]:List VO))=some (V.t tI (YT i),[]):=fun hq=>by
  cases hi:ZB i with
  |false=>simp [YT,hi]
  |true=>exact (hq hi).elim
 have tail:JJ i.1=true->(1<=i.2.1/\i.2.1<=2)->QfT i=some (.t tI (YT i),[]):=fun k1 k2=>by
  simp only [QfT]
  refine Jp (fun g=>bad fun hq=> ?_) (fun g1=>Jp (fun g=>bad fun hq=> ?_) (fun g2=>Jp (fun g=>bad fun hq=> ?_) (fun g3=>Jp (fun g=>bad fun hq=> ?_) (fun g4=>Jp (fun g=>bad fun hq=> ?_) (fun g5=> ?_)))))
  ·have:=ZT.1 hq;simp only [ilt,Ba] at g;omega
  ·have:=ZT.1 hq;simp only [igt,Ba] at g;omega
  ·have:=ZT.1 hq;simp only [ilt,Qc,Ba] at g;omega
  ·have:=ZT.1 hq;simp only [igt,Qc,Ba] at g;omega
  ·have:=ZT.1 hq;simp only [igt,Ba] at g;omega
  ·simp only [ilt,igt,Qc,Bq] at g1 g2 g3 g4 g5
   have hl:0<i.2.2.2.1.length:=by omega
   have e1:cIx i.2.2.2.1 0=true:=by simp only [cIx,Ba];omega
   have e2:lgt Zx i.2.2.2.1 (Int.toNat 0)=i.2.2.2.1.headD ((0,(0,())),(0,())):=by
    cases hq:i.2.2.2.1 with
    |nil=>rw [hq] at hl;simp at hl
    |cons a l=>rfl
   rw [e1,Qe,e2]
   refine Jp (fun g=>bad fun hq=> ?_) (fun g6=> ?_)
   ·have:=ZT.1 hq;simp only [ilt,Ba] at g;omega
   ·simp only [ilt,Bq] at g6
    rw [Oy ⟨B3 0,by omega,by omega⟩,Qe]
    have e0:Ye i.2.2.2.1 (0:Int).toNat=none:=rfl
    rw [e0,Bt,Bx]
    refine Jp (fun g=>bad fun hq=> ?_) (fun g7=> ?_)
    ·have:=ZT.1 hq
     rw [this.2.2.2.2.1] at g
     cases g
    ·have:ZB i=true:=ZT.2 ⟨k1,k2,by omega,by omega,by simpa using g7,by omega,by omega⟩
     simp [YT,this]
 simp only [QyS]
 rw [h]
 simp only [Qe]
 refine Jp (fun g=>bad fun hq=> ?_) (fun g1=>Jp (fun g2=>Jp (fun g=>bad fun hq=> ?_) (fun g3=> ?_)) (fun g2=> ?_))
 ·rw [(ZT.1 hq).1] at g;cases g
 ·have:=ZT.1 hq
  simp only [ine,bne_iff_ne,ne_eq] at g g2
  omega
 ·simp only [ine,bne_eq_false_iff_eq] at g3
  exact tail (by simpa using g1) (by omega)
 ·simp only [ine,bne_eq_false_iff_eq] at g2
  exact tail (by simpa using g1) (by omega)
def QyT:Ent:=Qq (.pr Jm .nil) (fun x=>(YU x.1)) (fun x=>(.t tI (YT x.1)))
theorem QON:EM 106 QyT:=mS (lk:=lkL (lkc QOM lkn)) QnH QyO [((.t 2),some tI)] false (gB (gD QAr (gD Qrt gN))) fun m=>Qu m fun x hok=>kT (s_f106 x.1 hok)
end
end Go.Proofs.YtckcgijklnloiaaGreat.K
noncomputable section
namespace Go.Proofs.YtckcgijklnloiaaGreat.K
open Go.RowKit
noncomputable section
abbrev YL (l:List Qb)(k:Nat):Qb:=l.getD k zK
def egLt (a b:Qb):Bool:= !igt a.1 b.1&& !(ieq a.1 b.1&&ige a.2.1 b.2.1)
def F1 (n:Int)(x:Qb):Bool:= !ilt x.1 0&&(!ige x.1 n&&(!ilt x.2.1 0&&(!ige x.2.1 n&& !ieq x.1 x.2.1)))
def VD (n:Int)(l:List Qb)(k:Nat):Bool:=F1 n (YL l k)&&(decide (k=0)||egLt (YL l (k-1)) (YL l k))
def ZC (n:Int)(l:List Qb)(k:Nat):Bool:=(List.range' k (l.length-k)).all (VD n l)
theorem QHl (n:Int)(l:List Qb):ZC n l l.length=true:=by
 unfold ZC
 rw [DA]
 rfl
theorem QHm {n:Int}{l:List Qb}{k:Nat}(hk:k<l.length):ZC n l k=(VD n l k&&ZC n l (k+1)):=by
 have:l.length-k=(l.length-(k+1))+1:=by omega
 unfold ZC
 rw [this,Dd,BV]
theorem QHn {β:Type}(c1 c2 c3 c4 c5 u:Bool)(R E:Option β):br c1 R (br c2 R (br c3 R (br c4 R (br c5 R (br (!u) R E)))))=br (!(((!c1&&(!c2&&(!c3&&(!c4&& !c5))))&&true)&&u)) R E:=by
 cases c1<;>cases c2<;>cases c3<;>cases c4<;>cases c5<;>rfl
theorem QHo {β:Type}(c1 c2 c3 c4 c5 a b c u:Bool)(R E:Option β):br c1 R (br c2 R (br c3 R (br c4 R (br c5 R (br a R (br b (br c R (br (!u) R E)) (br (!u) R E)))))))=br (!(((!c1&&(!c2&&(!c3&&(!c4&& !c5))))&&(!a&& !(b&&c)))&&u)) R E:=by
 cases c1<;>cases c2<;>cases c3<;>cases c4<;>cases c5<;>cases a<;>cases b<;>cases c<;>rfl
theorem Qc9 {k:Nat}(hk:k<100000)(h0:k≠0):QT .i64 (k:Int) 1=((k-1:Nat):Int):=by
 rw [Zu (by omega)]
 omega
def Qda (l:List Qb)(n:Int):Bool:=ZC n l 0&&ile (Qc l) 40
def QjB (l:List Qb)(_n:Int):Bool:=decide (l.length<=99999)
abbrev QjC:Sh:=⟨[(0,.ty (.sl Qh)),(1,.ty tI),(7,.ty (.sl Qh)),(8,.ty tI),(9,.ty tI)],[]⟩
abbrev Qsp:Sh:=⟨[(4,.ty .bool)],[]⟩
abbrev QHp:Sh:=⟨[(0,.ty (.sl Qh))],[]⟩
def Qsq:Fg:=QjC.f
def QHq:TC:=aF Tryz.f80 [(26,pL 0 Qsq),(421,.fg QHp.f),(27029,.fg Qsp.f),(6758,pD [(0,[]),(1,[]),(2,[]),(3,[]),(4,[]),(5,[]),(6,[]),(7,[]),(8,[]),(9,[6]),(10,[6]),(11,[]),(12,[]),(13,[]),(14,[]),(15,[]),(16,[]),(17,[]),(18,[]),(19,[6]),(20,[6]),(21,[]),(22,[]),(23,[]),(24,[]),(25,[]),(26,[]),(27,[]),(28,[]),(29,[6]),(30,[6]),(31,[]),(32,[]),(33,[]),(34,[])] (.of [0,1,2,3,4,5,6,7,8,9,10,11,12,13,14,15,16,17,18,19,20,21,22,23,24,25,26,27,28,29,30,31,32,33,34])),(27037,.fg Qsp.f)]
def QHr:TC:=lb 0 QHq
def QHs (x0:List Qb)(x1:Int)(x7:List Qb)(x8 x9:Int):VS:=QjC.st (x0,x1,x7,x8,x9,()) ()
def G2 (x4:Bool):VS:=Qsp.st (x4,()) ()
def Qsr (x0:List Qb):VS:=QHp.st (x0,()) ()
def QVw:VS->Option (Bool×List (Bool×Exit×VS)):=mkL QjC (fun x y=>(x.2.2.1==x.1&&(Qz x.2.2.1 x.2.2.2.1 x.2.2.2.2.1&&decide (x.2.2.1.length<=99999)))) (fun x y=>[((!ZC x.2.1 x.2.2.1 x.2.2.2.2.1.toNat),.ret,G2 (false)),(true,.exit 0,Qsr (x.1))])
def Qss:G:=gG 80 [] (Ls [QVw])
def QjD (x0:List Qb)(x1:Int)(x7:List Qb)(x8 x9:Int):OX:=QB (QD Qss Qsq QHr) (QHs x0 x1 x7 x8 x9)
def Qdb (kk:List Qb->Int->List Qb->Int->Int->OX)(x0:List Qb)(x1:Int)(x7:List Qb)(x8 x9:Int):OX:=
 let a1:=lgt Qh x7 (Int.toNat x9)
 let a2:=lgt Qh x0 (Int.toNat (QT .i64 x9 1))
 let a3:=cIx x0 (QT .i64 x9 1)
 let a4:=Qk .i64 x9 1
 br (ilt x9 x8) (br (cIx x7 x9) (br (ilt (a1.1) 0) (some (.ret,G2 false)) (br (ige (a1.1) x1) (some (.ret,G2 false)) (br (ilt ((a1.2).1) 0) (some (.ret,G2 false)) (br (ige ((a1.2).1) x1) (some (.ret,G2 false)) (br (ieq (a1.1) ((a1.2).1)) (some (.ret,G2 false)) (br (igt x9 0) (br a3 (br (igt (a2.1) (a1.1)) (some (.ret,G2 false)) (br a3 (br (ieq (a2.1) (a1.1)) (br a3 (br (ige ((a2.2).1) ((a1.2).1)) (some (.ret,G2 false)) (kk x0 x1 x7 x8 a4)) none) (kk x0 x1 x7 x8 a4)) none)) none) (kk x0 x1 x7 x8 a4))))))) none) (some (.exit 0,Qsr x0))
def QjE (x0:List Qb)(x1:Int)(x7:List Qb)(x8 x9:Int):OX:=br (!ZC x1 x7 x9.toNat) (some (.ret,G2 (false)))<|some (.exit 0,Qsr (x0))
theorem QHt (x0:List Qb)(x1:Int)(x7:List Qb)(x8 x9:Int):QjD x0 x1 x7 x8 x9=Qdb QjD x0 x1 x7 x8 x9:=lnT (x:=Qdb (fun x0 x1 x7 x8 x9=>some (.normal,QHs x0 x1 x7 x8 x9)) x0 x1 x7 x8 x9) (by simp only [Qdb,nxA];rfl)
def r_f80 (p0:List Qb)(p1:Int):OV:=br (p0==p0&&(Qz p0 (Qc p0) (0:Int)&&decide (p0.length<=99999))) (br (!ZC p1 p0 (0:Int).toNat) (some (.t .bool (false),[])) (some (.t .bool (ile (Qc (p0)) 40),[]))) none
theorem QVx (x0:List Qb)(x1:Int)(x7:List Qb)(x8 x9:Int)(h:(x7==x0&&(Qz x7 x8 x9&&decide (x7.length<=99999)))=true):QjD x0 x1 x7 x8 x9=QjE x0 x1 x7 x8 x9:=by
 simp only [Bc,Db,Ba] at h
 obtain ⟨rfl,h0,hl⟩:=h
 obtain ⟨rfl,h3,k,rfl,hk⟩:=Js h0
 clear h0
 refine QW x7 (fun k=>QjD x7 x1 x7 (x7.length:Int) (k:Int)=QjE x7 x1 x7 (x7.length:Int) (k:Int)) ?_ ?_ k hk
 ·rw [QHt]
  simp only [Qdb,QjE,QC,BI,BQ,Qi,Bb,QHl,BC]
 ·intro k hk ih
  rw [QHt]
  simp only [Qdb,QC,QS,hk,Bu,Qe,Bb,QU (show k<4611686018427387904 by omega),ih]
  simp only [QjE,Bb,QHm hk]
  by_cases hk0:k=0
  ·subst hk0
   rw [show igt ((0:Nat):Int) 0=false from rfl]
   simp only [Qi]
   exact QHn ..
  ·rw [show igt (k:Int) 0=true from Bd (by omega),Qc9 (by omega) hk0]
   simp only [Qe,QS,show k-1<x7.length by omega,Bu,Bb]
   unfold VD
   rw [show decide (k=0)=false from Bn hk0,Di]
   exact QHo ..
theorem QVy:LO Qss Qsq QHr 0:=QN (s:=QjC) fun x y h _ q=>by simp only [QJ,QK] at q;exact (QVx x.1 x.2.1 x.2.2.1 x.2.2.2.1 x.2.2.2.2.1 h).trans q
theorem s_f80 (l:List Qb)(n:Int)(h:QjB l n=true):r_f80 l n=some (.t .bool (Qda l n),[]):=by
 have hl:l.length<=99999:=Bv h
 simp only [r_f80,beq_self_eq_true,BB,Jy (show l.length<=100000 by omega),Bd hl,Qe,Bt]
 unfold Qda
 cases ZC n l 0<;>rfl
def QHu:Ent:=Qq (.pr (.sl Qh) (.pr tI .nil)) (fun x=>(QjB x.1 x.2.1)) (fun x=>(.t .bool (Qda x.1 x.2.1)))
theorem ms_f80:EM 80 QHu:=mS (lk:=lkL (lkc QVy lkn)) Qss QHq [((.t 4),some .bool)] false (gB gN) fun m=>Qu m fun x hok=>kT (s_f80 x.1 x.2.1 hok)
def XQ (i:Qs):Bool:=ine (YT i) 0
theorem QHv (i:Qs):XQ i= !ZB i:=by
 unfold XQ YT
 cases ZB i<;>rfl
def tc_f78:TC:=aF Tryz.f78 []
def g_f78:G:=gG 6 [(79,QyM)] (fun _ _=>none)
def r_f78 (p0:Qs):OV:=br (YU p0) (some (.t .bool (ine (YT p0) 0),[])) none
theorem s_f78 (i:Qs)(h:YU i=true):r_f78 i=some (.t .bool (XQ i),[]):=by
 simp only [r_f78,h,Qe]
 rfl
def QHw:Ent:=Qq (.pr Jm .nil) (fun x=>(YU x.1)) (fun x=>(.t .bool (XQ x.1)))
theorem ms_f78:EM 78 QHw:=mS g_f78 tc_f78 [((.t 2),some .bool)] false (gB (gD ms_f79 gN)) fun m=>Qu m fun x hok=>kT (s_f78 x.1 hok)
def Yw (l:List Qs):Bool:=decide (l.length<=100000)&&l.all YU
theorem QVz {l:List Qs}(h:Yw l=true){k:Nat}(hk:k<l.length):YU l[k]=true:=by
 simp only [Yw,Bc,Bg] at h
 exact h.2 _ (BA hk)
theorem QHx {l:List Qs}(h:Yw l=true):l.length<=100000:=by
 simp only [Yw,Bc,Ba] at h
 exact h.1
def VE (l:List Qs):Int:=match Qx XQ l with|some k=>(k:Int)|none=> -1
abbrev QjF:Sh:=⟨[(0,.ty (.sl Jm)),(1,.cf 78),(7,.ty tI),(8,.ty tI)],[]⟩
abbrev QHy:Sh:=⟨[(4,.ty tI)],[]⟩
abbrev QjG:Sh:=⟨[],[]⟩
def Qst:Fg:=QjF.f
def QHz:TC:=aF Tryz.f123 [(26,pL 0 Qst),(421,.fg QjG.f),(13517,.fg QHy.f)]
def QHA:TC:=lb 0 QHz
def QHB (x0:List Qs)(x7 x8:Int):VS:=QjF.st (x0,(),x7,x8,()) ()
def Qsu (x4:Int):VS:=QHy.st (x4,()) ()
def Qsv  : VS:=QjG.st () ()
def QVA:VS->Option (Bool×List (Bool×Exit×VS)):=mkL QjF (fun x y=>(Qz x.1 x.2.2.1 x.2.2.2.1&&Yw x.1)) (fun x y=>[(((Qx XQ (x.1.drop x.2.2.2.1.toNat)).isSome),.ret,Qsu (x.2.2.2.1+((Qx XQ (x.1.drop x.2.2.2.1.toNat)).getD 0:Nat))),(true,.exit 0,Qsv)])
def Qsw:G:=gG 19 [(78,QHw)] (Ls [QVA])
def QjH (x0:List Qs)(x7 x8:Int):OX:=QB (QD Qsw Qst QHA) (QHB x0 x7 x8)
def Qdc (kk:List Qs->Int->Int->OX)(x0:List Qs)(x7 x8:Int):OX:=
 let a1:=lgt Jm x0 (Int.toNat x8)
 br (ilt x8 x7) (br (cIx x0 x8) (br (YU a1) (br (XQ a1) (some (.ret,Qsu x8)) (kk x0 x7 (Qk .i64 x8 1))) none) none) (some (.exit 0,Qsv))
def QjI (x0:List Qs)(x7 x8:Int):OX:=
 let a1:=Qx XQ (x0.drop x8.toNat)
 br (a1.isSome) (some (.ret,Qsu (x8+(a1.getD 0:Nat))))<|some (.exit 0,Qsv)
theorem QHC (x0:List Qs)(x7 x8:Int):QjH x0 x7 x8=Qdc QjH x0 x7 x8:=lnT (x:=Qdc (fun x0 x7 x8=>some (.normal,QHB x0 x7 x8)) x0 x7 x8) (by simp only [Qdc,nxA];rfl)
def QHD (p0:List Qs):OV:=
 let a1:=(Qx XQ (p0.drop (0:Int).toNat))
 br (Qz p0 (Qc p0) (0:Int)&&Yw p0) (br (a1.isSome) (some (.t tI ((0:Int)+(a1.getD 0:Nat)),[])) (some (.t tI (-1),[]))) none
theorem QVB (x0:List Qs)(x7 x8:Int)(h:(Qz x0 x7 x8&&Yw x0)=true):QjH x0 x7 x8=QjI x0 x7 x8:=by
 simp only [Bc] at h
 obtain ⟨h0,hc⟩:=h
 obtain ⟨rfl,h3,k,rfl,hk⟩:=Js h0
 clear h0
 refine QW x0 (fun k=>QjH x0 (x0.length:Int) (k:Int)=QjI x0 (x0.length:Int) (k:Int)) ?_ ?_ k hk
 ·rw [QHC]
  simp [Qdc,QjI,QC,Qi,Qx]
 ·intro k hk ih
  rw [QHC]
  have hx:=QVz hc hk
  simp only [Qdc,QC,QS,hk,Bu,Qe,Bb,QU (show k<4611686018427387904 by omega),ih,QX (y:=Jm) hk,hx]
  simp only [QjI,Bb,Bi hk,Qx]
  cases h:(XQ x0[k]) with
  |true=>simp [Qe]
  |false=>
   simp only [Qi,BW,Ds]
   cases hq:Qx XQ (x0.drop (k+1)) with
   |none=>rfl
   |some j=>
    simp only [B6,B1,BK,Qe]
    congr 3
    omega
theorem QVC:LO Qsw Qst QHA 0:=QN (s:=QjF) fun x y h _ q=>by simp only [QJ,QK] at q;exact (QVB x.1 x.2.2.1 x.2.2.2.1 h).trans q
theorem QVD (l:List Qs)(h:Yw l=true):QHD l=some (.t tI (VE l),[]):=by
 have hl:=QHx h
 simp only [QHD,Jy hl,h,BX,Qe,Bt,Bx,VE]
 cases Qx XQ l<;>simp [Qe,Qi]
def QHE:Ent:=U5 [.ty (.sl Jm),.cf 78] [] (fun x d=>(Yw x.1)) (fun x d=>(.t tI (VE x.1)))
theorem QVE:EM 123 QHE:=mS (lk:=lkL (lkc QVC lkn)) Qsw QHz [((.t 4),some tI)] false (gB (gD ms_f78 gN)) fun m=>YQ m fun x d hok=>kT (QVD x.1 hok)
def Ib (l:List Qs):Bool:=l.any XQ
def QVF:TC:=aF Tryz.f77 []
def QVG:G:=gG 9 [(123,QHE)] (fun _ _=>none)
def QHF (p0:List Qs):OV:=br (Yw p0) (some (.t .bool (ige (VE p0) 0),[])) none
theorem QVH (l:List Qs)(h:Yw l=true):QHF l=some (.t .bool (Ib l),[]):=by
 simp only [QHF,h,Qe]
 have e:ige (VE l) 0=Ib l:=by
  unfold VE Ib
  cases hq:Qx XQ l with
  |none=>rw [Gf.1 hq];rfl
  |some k=>
   rw [←FE,hq]
   simp only [ige,B1,Ba]
   omega
 rw [e]
def QHG:Ent:=U5 [.ty (.sl Jm),.cf 78] [] (fun x d=>(Yw x.1)) (fun x d=>(.t .bool (Ib x.1)))
theorem QVI:EM 77 QHG:=mS QVG QVF [((.t 4),some .bool)] false (gB (gD QVE gN)) fun m=>YQ m fun x d hok=>kT (QVH x.1 hok)
abbrev zEp:Endpoint:=Ty.zero Qj
abbrev ZD (l:List Endpoint)(k:Nat):Endpoint:=l.getD k zEp
def QjJ (l m:List Endpoint)(k:Nat):Bool:=Q3 (ZD l k)&&(decide (k=0)||slt (ZD m (k-1)).1 (ZD l k).1)
def Xp (l m:List Endpoint)(k:Nat):Bool:=(List.range' k (l.length-k)).all (QjJ l m)
abbrev G3 (l:List Endpoint)(k:Nat):Bool:=Xp l l k
theorem QHH (l m:List Endpoint):Xp l m l.length=true:=by
 unfold Xp
 rw [DA]
 rfl
theorem QHI {l m:List Endpoint}{k:Nat}(hk:k<l.length):Xp l m k=(QjJ l m k&&Xp l m (k+1)):=by
 have:l.length-k=(l.length-(k+1))+1:=by omega
 unfold Xp
 rw [this,Dd,BV]
abbrev QZ (e:Estate):List Endpoint:=e.1
abbrev Jg (e:Estate):List Qb:=e.2.1
abbrev Yj (e:Estate):List Qs:=e.2.2.1
def Zc (e:Estate):Bool:=G3 (QZ e) 0&&((Yj e).all ZB&&(ile (Qc (QZ e)) 16&&(ile (Qc (Yj e)) 30&&(ZC (Qc (QZ e)) (Jg e) 0&&ile (Qc (Jg e)) 40))))
def YM (e:Estate):Int:=bif Zc e then 0 else 31
theorem VF (e:Estate):ine (YM e) 0= !Zc e:=by
 unfold YM
 cases Zc e<;>rfl
def Ja (e:Estate):Bool:=decide ((QZ e).length<=99999/\(Jg e).length<=99999)&&((QZ e).all Q2&&Yw (Yj e))
theorem QVJ (l:List Qs):Ib l= !l.all ZB:=by
 unfold Ib
 rw [List.not_all_eq_any_not]
 congr 1
 funext x
 exact QHv x
theorem Ic (a b:Int):ile a b= !igt a b:=by
 simp only [ile,igt, ← decide_not,Int.not_lt]
theorem QHJ {β:Type}(v s u:Bool)(R E:Option β):br (!v) R (br (!s) R (br (!u) R E))=br (!((v&&s)&&u)) R E:=by
 cases v<;>cases s<;>rfl
theorem QHK {β:Type}(v u:Bool)(R E:Option β):br (!v) R (br (!u) R E)=br (!((v&&true)&&u)) R E:=by
 cases v<;>rfl
abbrev QjK:Sh:=⟨[(1,.ptr 1 0),(7,.ty (.sl Qj)),(8,.ty tI),(9,.ty tI)],[(1,.box QF)]⟩
abbrev VG:Sh:=⟨[(2,.ty tI)],[]⟩
abbrev QjL:Sh:=⟨[(1,.ptr 1 0)],[(1,.box QF)]⟩
def Qsx:Fg:=QjK.f
def QHL:TC:=aF Tryz.f39 [(26,pL 0 Qsx),(421,.fg QjL.f),(3378,pD [(0,[4]),(1,[]),(2,[]),(3,[]),(4,[]),(5,[]),(6,[]),(7,[1]),(8,[1]),(9,[]),(10,[]),(11,[]),(12,[]),(13,[]),(14,[4]),(15,[4]),(16,[]),(17,[]),(18,[])] (.of [0,1,2,3,4,5,6,7,8,9,10,11,12,13,14,15,16,17,18])),(13517,.fg VG.f)]
def QHM:TC:=lb 0 QHL
def QHN (x7:List Endpoint)(x8 x9:Int)(y1:Estate):VS:=QjK.st ((),x7,x8,x9,()) (y1,())
def Yk (x2:Int):VS:=VG.st (x2,()) ()
def G4 (y1:Estate):VS:=QjL.st ((),()) (y1,())
def QVK:VS->Option (Bool×List (Bool×Exit×VS)):=mkL QjK (fun x y=>(decide (x.2.1.length=y.1.1.length/\x.2.1.length<=99999)&&(Qz x.2.1 x.2.2.1 x.2.2.2.1&&x.2.1.all Q2))) (fun x y=>[((!Xp x.2.1 y.1.1 x.2.2.2.1.toNat),.ret,Yk (31)),(true,.exit 0,G4 (y.1))])
def Qsy:G:=gG 59 [(76,QgC),(77,QHG),(80,QHu)] (Ls [QVK])
def QjM (x7:List Endpoint)(x8 x9:Int)(y1:Estate):OX:=QB (QD Qsy Qsx QHM) (QHN x7 x8 x9 y1)
def Qdd (kk:List Endpoint->Int->Int->Estate->OX)(x7:List Endpoint)(x8 x9:Int)(y1:Estate):OX:=
 let a1:=lgt Qj x7 (Int.toNat x9)
 br (ilt x9 x8) (br (cIx x7 x9) (br (Q2 a1) (br (ine (Zp a1) 0) (some (.ret,Yk 31)) (br (igt x9 0) (br (cIx y1.1 (QT .i64 x9 1)) (br (!slt ((lgt Qj y1.1 (Int.toNat (QT .i64 x9 1))).1) (a1.1)) (some (.ret,Yk 31)) (kk x7 x8 (Qk .i64 x9 1) y1)) none) (kk x7 x8 (Qk .i64 x9 1) y1))) none) none) (some (.exit 0,G4 y1))
def QjN (x7:List Endpoint)(x8 x9:Int)(y1:Estate):OX:=br (!Xp x7 y1.1 x9.toNat) (some (.ret,Yk (31)))<|some (.exit 0,G4 (y1))
theorem QHO (x7:List Endpoint)(x8 x9:Int)(y1:Estate):QjM x7 x8 x9 y1=Qdd QjM x7 x8 x9 y1:=lnT (x:=Qdd (fun x7 x8 x9 y1=>some (.normal,QHN x7 x8 x9 y1)) x7 x8 x9 y1) (by simp only [Qdd,nxA];rfl)
def r_f39 (p0:Estate):OV:=
 let a1:=((((p0).2).2).1)
 let a2:=Qc ((p0).1)
 br (decide (p0.1.length=p0.1.length/\p0.1.length<=99999)&&(Qz p0.1 (Qc p0.1) (0:Int)&&p0.1.all Q2)) (br (!Xp p0.1 p0.1 (0:Int).toNat) (some (.t tI (31),[])) (br (Yw a1) (br (Ib a1) (some (.t tI 31,[])) (br (igt a2 16) (some (.t tI 31,[])) (br (igt (Qc a1) 30) (some (.t tI 31,[])) (br (QjB (((p0).2).1) a2) (br (!(Qda (((p0).2).1) a2)) (some (.t tI 31,[])) (some (.t tI 0,[]))) none)))) none)) none
theorem QVL (x7:List Endpoint)(x8 x9:Int)(y1:Estate)(h:(decide (x7.length=y1.1.length/\x7.length<=99999)&&(Qz x7 x8 x9&&x7.all Q2))=true):QjM x7 x8 x9 y1=QjN x7 x8 x9 y1:=by
 simp only [Bc,Ba,Bg] at h
 obtain ⟨⟨hx,hl⟩,h0,ha⟩:=h
 obtain ⟨rfl,h3,k,rfl,hk⟩:=Js h0
 clear h0
 refine QW x7 (fun k=>QjM x7 (x7.length:Int) (k:Int) y1=QjN x7 (x7.length:Int) (k:Int) y1) ?_ ?_ k hk
 ·rw [QHO]
  simp only [Qdd,QjN,QC,BI,BQ,Qi,Bb,QHH,BC]
 ·intro k hk ih
  rw [QHO]
  have he:Q2 (lgt Qj x7 k)=true:=by rw [QX (y:=Qj) hk];exact ha _ (BA hk)
  simp only [Qdd,QC,QS,hk,Bu,Qe,Bb,QU (show k<4611686018427387904 by omega),ih,he,OP]
  simp only [QjN,Bb,QHI hk]
  by_cases hk0:k=0
  ·subst hk0
   rw [show igt ((0:Nat):Int) 0=false from rfl]
   simp only [Qi]
   exact QHK ..
  ·rw [show igt (k:Int) 0=true from Bd (by omega),Qc9 (by omega) hk0]
   simp only [Qe,QS,show k-1<y1.1.length by omega,Bu,Bb]
   unfold QjJ
   rw [show decide (k=0)=false from Bn hk0,Di]
   exact QHJ ..
theorem QVM:LO Qsy Qsx QHM 0:=QN (s:=QjK) fun x y h _ q=>by simp only [QJ,QK] at q;exact (QVL x.2.1 x.2.2.1 x.2.2.2.1 y.1 h).trans q
theorem s_f39 (e:Estate)(h:Ja e=true):r_f39 e=some (.t tI (YM e),[]):=by
 simp only [Ja,Bc,Ba] at h
 obtain ⟨⟨h1,h2⟩,h3,h4⟩:=h
 have h5:QjB (Jg e) (Qc (QZ e))=true:=Bd h2
 simp only [QZ,Jg,Yj] at h1 h2 h3 h4 h5
 simp only [r_f39,Jy (show e.1.length<=100000 by omega),Bd h1,true_and,BB,h3,h4,h5,Qe,Bt,QVJ]
 unfold YM Zc Qda
 simp only [QZ,Jg,Yj,G3]
 rw [Ic (Qc e.1),Ic (Qc e.2.2.1)]
 cases Xp e.1 e.1 0<;>cases e.2.2.1.all ZB<;>cases igt (Qc e.1) 16<;>cases igt (Qc e.2.2.1) 30<;>cases (ZC (Qc e.1) e.2.1 0&&ile (Qc e.2.1) 40)<;>rfl
def QjO:Ent:=Qq (.pr QF .nil) (fun x=>(Ja x.1)) (fun x=>(.t tI (YM x.1)))
theorem Qsz:EM 39 QjO:=mS (lk:=lkL (lkc QVM lkn)) Qsy QHL [((.t 2),some tI)] false (gB (gD QoI (gD QVI (gD ms_f80 gN)))) fun m=>Qu m fun x hok=>kT (s_f39 x.1 hok)
abbrev QjP:Sh:=⟨[(1,.ptr 1 0),(3,.ty tI)],[(1,.box QF)]⟩
abbrev QjQ:Sh:=⟨[(1,.ptr 1 0),(4,.ty tI)],[(1,.box QF)]⟩
abbrev QjR:Sh:=⟨[(1,.ptr 1 0),(6,.ty tI)],[(1,.box QF)]⟩
def QsA:Fg:=QjP.f
def QsB:Fg:=QjQ.f
def QsC:Fg:=QjR.f
def QjS:TC:=aF Tryz.f61 [(58,pL 0 QsA),(931,.fg QjL.f),(1864,pD [(0,[1]),(1,[1]),(2,[]),(3,[]),(4,[]),(5,[]),(6,[]),(7,[]),(8,[]),(9,[]),(10,[]),(11,[1]),(12,[1]),(13,[]),(14,[]),(15,[]),(16,[]),(17,[]),(18,[1]),(19,[1]),(20,[]),(21,[]),(22,[]),(23,[]),(24,[]),(25,[]),(26,[])] (.of [0,1,2,3,4,5,6,7,8,9,10,11,12,13,14,15,16,17,18,19,20,21,22,23,24,25,26])),(7461,.fg VG.f),(122,pL 1 QsB),(1955,.fg QjL.f),(62613,.fg VG.f),(15654,pD [(0,[]),(1,[]),(2,[]),(3,[1]),(4,[1]),(5,[]),(6,[]),(7,[]),(8,[]),(9,[]),(10,[5]),(11,[5]),(12,[]),(13,[]),(14,[1]),(15,[1]),(16,[]),(17,[]),(18,[]),(19,[]),(20,[]),(21,[5]),(22,[5]),(23,[]),(24,[]),(25,[1]),(26,[1]),(27,[]),(28,[]),(29,[]),(30,[]),(31,[]),(32,[5]),(33,[5]),(34,[]),(35,[]),(36,[]),(37,[])] (.of [0,1,2,3,4,5,6,7,8,9,10,11,12,13,14,15,16,17,18,19,20,21,22,23,24,25,26,27,28,29,30,31,32,33,34,35,36,37])),(62621,.fg VG.f),(250,pL 2 QsC),(4003,.fg QjG.f),(32037,.fg VG.f)]
def QHP:TC:=lb 0 QjS
def QHQ:TC:=lb 1 QjS
def QHR:TC:=lb 2 QjS
def QHS (x3:Int)(y1:Estate):VS:=QjP.st ((),x3,()) (y1,())
def QHT (x4:Int)(y1:Estate):VS:=QjQ.st ((),x4,()) (y1,())
def QHU (x6:Int)(y1:Estate):VS:=QjR.st ((),x6,()) (y1,())
def QsD  : VS:=QjG.st () ()
def QVN:VS->Option (Bool×List (Bool×Exit×VS)):=mkL QjP (fun x y=>(decide (0<=x.2.1/\x.2.1<=y.1.1.length/\y.1.1.length<=16)&&y.1.1.all Q2)) (fun x y=>[((!G3 y.1.1 x.2.1.toNat),.ret,Yk (31)),(true,.exit 0,G4 (y.1))])
def QVO:VS->Option (Bool×List (Bool×Exit×VS)):=mkL QjQ (fun x y=>(decide (0<=x.2.1/\x.2.1<=y.1.2.1.length/\y.1.2.1.length<=40))) (fun x y=>[((!ZC (Qc y.1.1) y.1.2.1 x.2.1.toNat),.ret,Yk (31)),(true,.exit 2,G4 (y.1))])
def QVP:VS->Option (Bool×List (Bool×Exit×VS)):=mkL QjR (fun x y=>(decide (0<=x.2.1/\x.2.1<=y.1.2.2.1.length/\y.1.2.2.1.length<=30)&&y.1.2.2.1.all YU)) (fun x y=>[((!((y.1.2.2.1.drop x.2.1.toNat).all ZB)),.ret,Yk (31)),(true,.exit 4,QsD)])
def Id:G:=gG 152 [(58,EP),(106,QyT)] (Ls [QVN,QVO,QVP])
def QjT (x3:Int)(y1:Estate):OX:=QB (QD Id QsA QHP) (QHS x3 y1)
def Qde (kk:Int->Estate->OX)(x3:Int)(y1:Estate):OX:=
 let a1:=lgt Qj y1.1 (Int.toNat x3)
 br (ilt x3 (Qc y1.1)) (br (cIx y1.1 x3) (br (Q2 a1) (br (ine (Zp a1) 0) (some (.ret,Yk 31)) (br (igt x3 0) (br (cIx y1.1 (QT .i64 x3 1)) (br (cIx y1.1 x3) (br (!slt ((lgt Qj y1.1 (Int.toNat (QT .i64 x3 1))).1) (a1.1)) (some (.ret,Yk 31)) (kk (Qk .i64 x3 1) y1)) none) none) (kk (Qk .i64 x3 1) y1))) none) none) (some (.exit 0,G4 y1))
def QjU (x3:Int)(y1:Estate):OX:=br (!G3 y1.1 x3.toNat) (some (.ret,Yk (31)))<|some (.exit 0,G4 (y1))
theorem QHV (x3:Int)(y1:Estate):QjT x3 y1=Qde QjT x3 y1:=lnT (x:=Qde (fun x3 y1=>some (.normal,QHS x3 y1)) x3 y1) (by simp only [Qde,nxA];rfl)
def QjV (x4:Int)(y1:Estate):OX:=QB (QD Id QsB QHQ) (QHT x4 y1)
def Qdf (kk:Int->Estate->OX)(x4:Int)(y1:Estate):OX:=
 let a1:=lgt Qh y1.2.1 (Int.toNat x4)
 let a2:=lgt Qh y1.2.1 (Int.toNat (QT .i64 x4 1))
 let a3:=cIx y1.2.1 (QT .i64 x4 1)
 let a4:=Qk .i64 x4 1
 br (ilt x4 (Qc y1.2.1)) (br (cIx y1.2.1 x4) (br (ilt (a1.1) 0) (some (.ret,Yk 31)) (br (ige (a1.1) (Qc y1.1)) (some (.ret,Yk 31)) (br (ilt ((a1.2).1) 0) (some (.ret,Yk 31)) (br (ige ((a1.2).1) (Qc y1.1)) (some (.ret,Yk 31)) (br (ieq (a1.1) ((a1.2).1)) (some (.ret,Yk 31)) (br (igt x4 0) (br a3 (br (igt (a2.1) (a1.1)) (some (.ret,Yk 31)) (br a3 (br (ieq (a2.1) (a1.1)) (br a3 (br (ige ((a2.2).1) ((a1.2).1)) (some (.ret,Yk 31)) (kk a4 y1)) none) (kk a4 y1)) none)) none) (kk a4 y1))))))) none) (some (.exit 2,G4 y1))
def QjW (x4:Int)(y1:Estate):OX:=br (!ZC (Qc y1.1) y1.2.1 x4.toNat) (some (.ret,Yk (31)))<|some (.exit 2,G4 (y1))
theorem QHW (x4:Int)(y1:Estate):QjV x4 y1=Qdf QjV x4 y1:=lnT (x:=Qdf (fun x4 y1=>some (.normal,QHT x4 y1)) x4 y1) (by simp only [Qdf,nxA];rfl)
def QjX (x6:Int)(y1:Estate):OX:=QB (QD Id QsC QHR) (QHU x6 y1)
def Qdg (kk:Int->Estate->OX)(x6:Int)(y1:Estate):OX:=
 let a1:=lgt Jm y1.2.2.1 (Int.toNat x6)
 br (ilt x6 (Qc y1.2.2.1)) (br (cIx y1.2.2.1 x6) (br (YU a1) (br (ine (YT a1) 0) (some (.ret,Yk 31)) (kk (Qk .i64 x6 1) y1)) none) none) (some (.exit 4,QsD))
def QjY (x6:Int)(y1:Estate):OX:=br (!((y1.2.2.1.drop x6.toNat).all ZB)) (some (.ret,Yk (31)))<|some (.exit 4,QsD)
theorem QHX (x6:Int)(y1:Estate):QjX x6 y1=Qdg QjX x6 y1:=lnT (x:=Qdg (fun x6 y1=>some (.normal,QHU x6 y1)) x6 y1) (by simp only [Qdg,nxA];rfl)
def r_f61 (p0:Estate):OV:=br (igt (Qc p0.1) 16) (some (.t tI 31,[])) (br (igt (Qc p0.2.1) 40) (some (.t tI 31,[])) (br (igt (Qc p0.2.2.1) 30) (some (.t tI 31,[])) (br (decide (0<=(0:Int)/\(0:Int)<=p0.1.length/\p0.1.length<=16)&&p0.1.all Q2) (br (!G3 p0.1 (0:Int).toNat) (some (.t tI (31),[])) (br (decide (0<=(0:Int)/\(0:Int)<=(p0).2.1.length/\(p0).2.1.length<=40)) (br (!ZC (Qc (p0).1) (p0).2.1 (0:Int).toNat) (some (.t tI (31),[])) (br (decide (0<=(0:Int)/\(0:Int)<=(p0).2.2.1.length/\(p0).2.2.1.length<=30)&&(p0).2.2.1.all YU) (br (!(((p0).2.2.1.drop (0:Int).toNat).all ZB)) (some (.t tI (31),[])) (some (.t tI 0,[]))) none)) none)) none)))
theorem QVQ (x3:Int)(y1:Estate)(h:(decide (0<=x3/\x3<=y1.1.length/\y1.1.length<=16)&&y1.1.all Q2)=true):QjT x3 y1=QjU x3 y1:=by
 simp only [Bc,Ba,Bg] at h
 obtain ⟨⟨h0,h1,h2⟩,ha⟩:=h
 obtain ⟨k,rfl⟩:=Bm h0
 refine QW y1.1 (fun k=>QjT (k:Int) y1=QjU (k:Int) y1) ?_ ?_ k (by omega)
 ·rw [QHV]
  simp only [Qde,QjU,Qc,QC,BI,BQ,Qi,Bb,QHH,BC]
 ·intro k hk ih
  rw [QHV]
  have he:Q2 (lgt Qj y1.1 k)=true:=by rw [QX (y:=Qj) hk];exact ha _ (BA hk)
  simp only [Qde,Qc,QC,QS,hk,Bu,Qe,Bb,QU (show k<4611686018427387904 by omega),ih,he,OP]
  simp only [QjU,Bb,QHI hk]
  by_cases hk0:k=0
  ·subst hk0
   rw [show igt ((0:Nat):Int) 0=false from rfl]
   simp only [Qi]
   exact QHK ..
  ·rw [show igt (k:Int) 0=true from Bd (by omega),Qc9 (by omega) hk0]
   simp only [Qe,QS,show k-1<y1.1.length by omega,Bu,Bb]
   unfold QjJ
   rw [show decide (k=0)=false from Bn hk0,Di]
   exact QHJ ..
theorem QVR (x4:Int)(y1:Estate)(h:(decide (0<=x4/\x4<=y1.2.1.length/\y1.2.1.length<=40))=true):QjV x4 y1=QjW x4 y1:=by
 obtain ⟨h0,h1,h2⟩:=Bv h
 obtain ⟨k,rfl⟩:=Bm h0
 refine QW y1.2.1 (fun k=>QjV (k:Int) y1=QjW (k:Int) y1) ?_ ?_ k (by omega)
 ·rw [QHW]
  simp only [Qdf,QjW,show Qc y1.2.1=(y1.2.1.length:Int) from rfl,QC,BI,BQ,Qi,Bb,QHl,BC]
 ·intro k hk ih
  rw [QHW]
  simp only [Qdf,show Qc y1.2.1=(y1.2.1.length:Int) from rfl,QC,QS,hk,Bu,Qe,Bb,QU (show k<4611686018427387904 by omega),ih]
  simp only [QjW,Bb,QHm hk]
  by_cases hk0:k=0
  ·subst hk0
   rw [show igt ((0:Nat):Int) 0=false from rfl]
   simp only [Qi]
   exact QHn ..
  ·rw [show igt (k:Int) 0=true from Bd (by omega),Qc9 (by omega) hk0]
   simp only [Qe,QS,show k-1<y1.2.1.length by omega,Bu,Bb]
   unfold VD
   rw [show decide (k=0)=false from Bn hk0,Di]
   exact QHo ..
theorem QVS (x6:Int)(y1:Estate)(h:(decide (0<=x6/\x6<=y1.2.2.1.length/\y1.2.2.1.length<=30)&&y1.2.2.1.all YU)=true):QjX x6 y1=QjY x6 y1:=by
 simp only [Bc,Ba,Bg] at h
 obtain ⟨⟨h0,h1,h2⟩,ha⟩:=h
 obtain ⟨k,rfl⟩:=Bm h0
 refine QW y1.2.2.1 (fun k=>QjX (k:Int) y1=QjY (k:Int) y1) ?_ ?_ k (by omega)
 ·rw [QHX]
  simp only [Qdg,QjY,Qc,QC,BI,BQ,Qi,Bb,BE,Dw,BC]
 ·intro k hk ih
  rw [QHX]
  have he:YU y1.2.2.1[k]=true:=ha _ (BA hk)
  have hb:ine (YT y1.2.2.1[k]) 0= !ZB y1.2.2.1[k]:=QHv _
  simp only [Qdg,Qc,QC,QS,hk,Bu,Qe,Bb,QU (show k<4611686018427387904 by omega),ih,QX (y:=Jm) hk,he,hb]
  simp only [QjY,Bb,Bi hk,BV]
  cases ZB y1.2.2.1[k]<;>rfl
theorem QVT:LO Id QsA QHP 0:=QN (s:=QjP) fun x y h _ q=>by simp only [QJ,QK] at q;exact (QVQ x.2.1 y.1 h).trans q
theorem QVU:LO Id QsB QHQ 1:=QN (s:=QjQ) fun x y h _ q=>by simp only [QJ,QK] at q;exact (QVR x.2.1 y.1 h).trans q
theorem QVV:LO Id QsC QHR 2:=QN (s:=QjR) fun x y h _ q=>by simp only [QJ,QK] at q;exact (QVS x.2.1 y.1 h).trans q
theorem s_f61 (e:Estate)(h:Ja e=true):r_f61 e=some (.t tI (YM e),[]):=by
 simp only [Ja,Bc,Ba] at h
 obtain ⟨⟨h1,h2⟩,h3,h4⟩:=h
 have h6:(Yj e).all YU=true:=by
  simp only [Yw,Bc] at h4
  exact h4.2
 simp only [QZ,Jg,Yj] at h1 h2 h3 h6
 simp only [r_f61,h3,h6,B8,Bt,Bx]
 unfold YM Zc
 simp only [QZ,Jg,Yj,G3]
 rw [Ic (Qc e.1),Ic (Qc e.2.2.1),Ic (Qc e.2.1)]
 cases g1:igt (Qc e.1) 16 with
 |true=>cases Xp e.1 e.1 0<;>cases e.2.2.1.all ZB<;>rfl
 |false=>
  cases g2:igt (Qc e.2.1) 40 with
  |true=>cases Xp e.1 e.1 0<;>cases e.2.2.1.all ZB<;>cases igt (Qc e.2.2.1) 30<;>cases ZC (Qc e.1) e.2.1 0<;>rfl
  |false=>
   cases g3:igt (Qc e.2.2.1) 30 with
   |true=>cases Xp e.1 e.1 0<;>cases e.2.2.1.all ZB<;>rfl
   |false=>
    simp only [igt,Qc,Bq] at g1 g2 g3
    rw [Bd (show (0:Int)<=0/\(0:Int)<=e.1.length/\e.1.length<=16 by omega),Bd (show (0:Int)<=0/\(0:Int)<=e.2.1.length/\e.2.1.length<=40 by omega),Bd (show (0:Int)<=0/\(0:Int)<=e.2.2.1.length/\e.2.2.1.length<=30 by omega)]
    cases Xp e.1 e.1 0<;>cases e.2.2.1.all ZB<;>cases ZC (Qc e.1) e.2.1 0<;>rfl
def Qdh:Ent:=Qq (.pr QF .nil) (fun x=>(Ja x.1)) (fun x=>(.t tI (YM x.1)))
theorem QjZ:EM 61 Qdh:=mS (lk:=lkL (lkc QVT (lkc QVU (lkc QVV lkn)))) Id QjS [((.t 2),some tI)] false (gB (gD OR (gD QON gN))) fun m=>Qu m fun x hok=>kT (s_f61 x.1 hok)
end
end Go.Proofs.YtckcgijklnloiaaGreat.K
noncomputable section
namespace Go.Proofs.YtckcgijklnloiaaGreat.K
open Go.RowKit
noncomputable section
theorem brY {β:Type}{c:Bool}{a b r:Option β}(h:c=true)(k:a=r):br c a b=r:=by
 subst h
 exact k
def JQ (e:Estate)(i:Int):Endpoint×Endpoint:=(ZD (QZ e) (YL (Jg e) i.toNat).1.toNat,ZD (QZ e) (YL (Jg e) i.toNat).2.1.toNat)
def WZ (e:Estate)(i:Int):Bool:=cIx (Jg e) i&&(cIx (QZ e) (YL (Jg e) i.toNat).1&&cIx (QZ e) (YL (Jg e) i.toNat).2.1)
def tc_f44:TC:=aF Tryz.f44 [(14,pD [(0,[2]),(1,[2]),(2,[6]),(3,[6]),(4,[]),(5,[]),(6,[2]),(7,[2]),(8,[6]),(9,[6]),(10,[]),(11,[]),(12,[4]),(13,[5])] (.of [0,1,2,3,4,5,6,7,8,9,10,11,12,13]))]
def g_f44:G:=gG 24 [] (fun _ _=>none)
def r_f44 (p0:Estate)(p1:Int):OV:=
 let a1:=lgt Qh p0.2.1 (Int.toNat p1)
 br (cIx p0.2.1 p1) (br (cIx p0.1 (a1.1)) (br (cIx p0.1 ((a1.2).1)) (some (.tu [(.t Qj (lgt Qj p0.1 (Int.toNat (a1.1)))),(.t Qj (lgt Qj p0.1 (Int.toNat ((a1.2).1))))],[])) none) none) none
theorem s_f44 (e:Estate)(i:Int)(h:WZ e i=true):r_f44 e i=some (.tu [.t Qj (JQ e i).1,.t Qj (JQ e i).2],[]):=by
 simp only [WZ,Bc] at h
 obtain ⟨h1,h2,h3⟩:=h
 simp only [r_f44]
 exact brY h1 (brY h2 (brY h3 rfl))
def Qd0:Ent:=Qq (.pr QF (.pr tI .nil)) (fun x=>(WZ x.1 x.2.1)) (fun x=>(.tu [(.t Qj ((JQ x.1 x.2.1).1)),(.t Qj ((JQ x.1 x.2.1).2))]))
theorem Qlc:EM 44 Qd0:=mS g_f44 tc_f44 [((.c 4 true 9),some Qj),((.c 5 true 9),some Qj)] false (gB gN) fun m=>Qu m fun x hok=>kT (s_f44 x.1 x.2.1 hok)
theorem eg_all {n:Int}{l:List Qb}(h:ZC n l 0=true){k:Nat}(hk:k<l.length):F1 n (YL l k)=true:=by
 unfold ZC at h
 rw [Bg] at h
 have:=h k (by rw [List.mem_range'];exact ⟨k,by omega,by omega⟩)
 unfold VD at this
 exact (Bf.1 this).1
theorem eg_in {n:Int}{x:Qb}(h:F1 n x=true):(0<=x.1/\x.1<n)/\(0<=x.2.1/\x.2.1<n)/\x.1≠x.2.1:=by
 simp only [F1,ilt,ige,XF,Bc,By,Bq] at h
 refine ⟨⟨by omega,by omega⟩,⟨by omega,by omega⟩,h.2.2.2.2⟩
theorem IA {e:Estate}(h:Zc e=true):G3 (QZ e) 0=true/\(Yj e).all ZB=true/\(QZ e).length<=16/\(Yj e).length<=30/\ZC (Qc (QZ e)) (Jg e) 0=true/\(Jg e).length<=40:=by
 simp only [Zc,ile,Qc,Bc,Ba] at h
 exact ⟨h.1,h.2.1,by omega,by omega,h.2.2.2.2.1,by omega⟩
theorem QuA {e:Estate}(h:Zc e=true){k:Nat}(hk:k<(Jg e).length):(0<=(YL (Jg e) k).1/\(YL (Jg e) k).1<(QZ e).length)/\(0<=(YL (Jg e) k).2.1/\(YL (Jg e) k).2.1<(QZ e).length)/\(YL (Jg e) k).1≠(YL (Jg e) k).2.1:=
 eg_in (eg_all (IA h).2.2.2.2.1 hk)
theorem Eo {e:Estate}{i:Int}(h:Zc e=true)(h0:0<=i)(h1:i<(Jg e).length):WZ e i=true:=by
 obtain ⟨k,rfl⟩:=Bm h0
 have:=QuA h (k:=k) (by omega)
 simp only [WZ,cIx,Bb,Bc,Ba]
 exact ⟨⟨by omega,by omega⟩,⟨this.1.1,this.1.2⟩,this.2.1.1,this.2.1.2⟩
theorem Qd1 {e:Estate}(h:Ja e=true):(QZ e).all Q2=true:=by
 simp only [Ja,Bc] at h
 exact h.2.1
theorem Qd2 {l:List Endpoint}(h:l.all Q2=true){c:Int}(hc:cIx l c=true):Q2 (ZD l c.toNat)=true:=by
 simp only [cIx,Ba] at hc
 obtain ⟨k,rfl⟩:=Bm hc.1
 have hk:k<l.length:=by omega
 rw [Bb,show ZD l k=l[k] by simp only [ZD,Bo,Bl hk,BK]]
 exact Bg.1 h _ (BA hk)
theorem IB {e:Estate}{i:Int}(h:Ja e=true)(hi:WZ e i=true):ZH (JQ e i).1 (JQ e i).2=true:=by
 simp only [WZ,Bc] at hi
 exact Bf.2 ⟨Qd2 (Qd1 h) hi.2.1,Qd2 (Qd1 h) hi.2.2⟩
def Ya (e:Estate)(i:Int):Int:=bif !Zc e then 31 else bif ilt i 0||ige i (Qc (Jg e)) then 4 else 0
def Zy (e:Estate)(_i:Int):Bool:=Ja e
def ZQ (e:Estate)(_i _d:Int):Bool:=Ja e
def IC (e:Estate)(_i _d _f:Int):Bool:=Ja e
def tc_f43:TC:=aF Tryz.f43 []
def g_f43:G:=gG 19 [(39,QjO)] (fun _ _=>none)
def r_f43 (p0:Estate)(p1:Int):OV:=br (Ja p0) (br (ine (YM p0) 0) (some (.t tI 31,[])) (br (ilt p1 0) (some (.t tI 4,[])) (br (ige p1 (Qc p0.2.1)) (some (.t tI 4,[])) (some (.t tI 0,[]))))) none
theorem s_f43 (e:Estate)(i:Int)(h:Zy e i=true):r_f43 e i=some (.t tI (Ya e i),[]):=by
 have h:Ja e=true:=h
 simp only [r_f43,h,Qe,VF]
 unfold Ya
 cases Zc e<;>cases ilt i 0<;>cases ige i (Qc (Jg e))<;>rfl
def Qld:Ent:=Qq (.pr QF (.pr tI .nil)) (fun x=>(Zy x.1 x.2.1)) (fun x=>(.t tI (Ya x.1 x.2.1)))
theorem QuB:EM 43 Qld:=mS g_f43 tc_f43 [((.t 4),some tI)] false (gB (gD Qsz gN)) fun m=>Qu m fun x hok=>kT (s_f43 x.1 x.2.1 hok)
theorem Qad (e:Estate)(i:Int):(ine (Ya e i) 0=false/\Ya e i=0/\Zc e=true/\0<=i/\i<(Jg e).length)∨ine (Ya e i) 0=true:=by
 unfold Ya
 cases h1:Zc e with
 |false=>exact .inr rfl
 |true=>
  cases h2:ilt i 0 with
  |true=>exact .inr rfl
  |false=>
   cases h3:ige i (Qc (Jg e)) with
   |true=>exact .inr rfl
   |false=>
    simp only [ilt,ige,Qc,Bq] at h2 h3
    exact .inl ⟨rfl,rfl,rfl,by omega,by omega⟩
def Jq (e:Estate)(i d:Int):Qb×Int:=bif ine (Ya e i) 0 then (zK,Ya e i) else Zn (JQ e i).1 (JQ e i).2 d
def tc_f15:TC:=aF Tryz.f15 []
def g_f15:G:=gG 30 [(42,QnY),(43,Qld),(44,Qd0)] (fun _ _=>none)
def r_f15 (p0:Estate)(p1 p2:Int):OV:=
 let a1:=Zn ((JQ p0 p1).1) ((JQ p0 p1).2) p2
 br (Zy p0 p1) (br (ine (Ya p0 p1) 0) (some (.tu [(.t Qh (0,(0,()))),(.t tI (Ya p0 p1))],[])) (br (WZ p0 p1) (br (Uj ((JQ p0 p1).1) ((JQ p0 p1).2) p2) (some (.tu [(.t Qh (a1.1)),(.t tI (a1.2))],[])) none) none)) none
theorem s_f15 (e:Estate)(i d:Int)(h:ZQ e i d=true):r_f15 e i d=some (.tu [.t Qh (Jq e i d).1,.t tI (Jq e i d).2],[]):=by
 have h:Ja e=true:=h
 simp only [r_f15,show Zy e i=true from h,Qe]
 unfold Jq
 rcases Qad e i with ⟨h1,_,h2,h3,h4⟩|h1
 ·have h5:=Eo h2 h3 h4
  rw [h1,Qi,h5,Qe,show Uj (JQ e i).1 (JQ e i).2 d=true from IB h h5,Qe]
  rfl
 ·rw [h1]
  rfl
def Qae:Ent:=Qq (.pr QF (.pr tI (.pr tI .nil))) (fun x=>(ZQ x.1 x.2.1 x.2.2.1)) (fun x=>(.tu [(.t Qh ((Jq x.1 x.2.1 x.2.2.1).1)),(.t tI ((Jq x.1 x.2.1 x.2.2.1).2))]))
theorem Qd3:EM 15 Qae:=mS g_f15 tc_f15 [((.c 6 true 2),some Qh),((.t 7),some tI)] false (gB (gD Qzz (gD QuB (gD Qlc gN)))) fun m=>Qu m fun x hok=>kT (s_f15 x.1 x.2.1 x.2.2.1 hok)
def Ww (n:Int):Bool:=ige n 0&&ile n 40000
def tc_f40:TC:=aF Tryz.f40 []
def g_f40:G:=gG 9 [] (fun _ _=>none)
def r_f40 (p0:Int):OV:=br (ige p0 0) (some (.t .bool (ile p0 40000),[])) (some (.t .bool false,[]))
theorem s_f40 (n:Int):r_f40 n=some (.t .bool (Ww n),[]):=by
 simp only [r_f40]
 unfold Ww
 cases ige n 0<;>rfl
def Qle:Ent:=Qq (.pr tI .nil) (fun x=>true) (fun x=>(.t .bool (Ww x.1)))
theorem QuC:EM 40 Qle:=mS g_f40 tc_f40 [((.t 2),some .bool)] false (gB gN) fun m=>Qu m fun x _=>kT (s_f40 x.1)
def Ux (e:Estate)(i f t:Int):Qb×Int:=
 bif ine (Jq e i f).2 0 then (zK,(Jq e i f).2) else bif ine (Jq e i t).2 0 then (zK,(Jq e i t).2) else bif ilt t f then (zK,13) else ((Jq e i f).1,0)
def tc_f27:TC:=aF Tryz.f27 []
def g_f27:G:=gG 41 [(15,Qae)] (fun _ _=>none)
def r_f27 (p0:Estate)(p1 p2 p3:Int):OV:=
 let a1:=Jq p0 p1 p2
 br (ZQ p0 p1 p2) (br (ine (a1.2) 0) (some (.tu [(.t Qh (0,(0,()))),(.t tI (a1.2))],[])) (br (ZQ p0 p1 p3) (br (ine ((Jq p0 p1 p3).2) 0) (some (.tu [(.t Qh (0,(0,()))),(.t tI ((Jq p0 p1 p3).2))],[])) (br (ilt p3 p2) (some (.tu [(.t Qh (0,(0,()))),(.t tI 13)],[])) (some (.tu [(.t Qh (a1.1)),(.t tI 0)],[])))) none)) none
theorem s_f27 (e:Estate)(i f t:Int)(h:IC e i f t=true):r_f27 e i f t=some (.tu [.t Qh (Ux e i f t).1,.t tI (Ux e i f t).2],[]):=by
 have h:Ja e=true:=h
 simp only [r_f27,show ∀ t,ZQ e i t=true from fun _=>h,Qe]
 unfold Ux
 cases ine (Jq e i f).2 0<;>cases ine (Jq e i t).2 0<;>cases ilt t f<;>rfl
def QuD:Ent:=Qq (.pr QF (.pr tI (.pr tI (.pr tI .nil)))) (fun x=>(IC x.1 x.2.1 x.2.2.1 x.2.2.2.1)) (fun x=>(.tu [(.t Qh ((Ux x.1 x.2.1 x.2.2.1 x.2.2.2.1).1)),(.t tI ((Ux x.1 x.2.1 x.2.2.1 x.2.2.2.1).2))]))
theorem ms_f27:EM 27 QuD:=mS g_f27 tc_f27 [((.c 8 true 2),some Qh),((.t 9),some tI)] false (gB (gD Qd3 gN)) fun m=>Qu m fun x hok=>kT (s_f27 x.1 x.2.1 x.2.2.1 x.2.2.2.1 hok)
def Uy (e:Estate)(i:Int):Endpoint×Endpoint×Int:=bif ine (Ya e i) 0 then (zEp,zEp,Ya e i) else ((JQ e i).1,(JQ e i).2,0)
def tc_f64:TC:=aF Tryz.f64 [(30,pD [(0,[2]),(1,[2]),(2,[2]),(3,[2]),(4,[]),(5,[]),(6,[]),(7,[]),(8,[]),(9,[]),(10,[2]),(11,[2]),(12,[2]),(13,[2]),(14,[]),(15,[]),(16,[]),(17,[]),(18,[]),(19,[]),(20,[4]),(21,[5]),(22,[])] (.of [0,1,2,3,4,5,6,7,8,9,10,11,12,13,14,15,16,17,18,19,20,21,22]))]
def g_f64:G:=gG 43 [(61,Qdh)] (fun _ _=>none)
def r_f64 (p0:Estate)(p1:Int):OV:=
 let a1:=lgt Qh p0.2.1 (Int.toNat p1)
 let a2:=ByteArray.mk #[]
 br (Ja p0) (br (ine (YM p0) 0) (some (.tu [(.t Qj (a2,(0,(0,(([]:List Int),(false,(([]:List QA),(([]:List Int),(([]:List Int),(false,())))))))))),(.t Qj (a2,(0,(0,(([]:List Int),(false,(([]:List QA),(([]:List Int),(([]:List Int),(false,())))))))))),(.t tI 31)],[])) (br (ilt p1 0) (some (.tu [(.t Qj (a2,(0,(0,(([]:List Int),(false,(([]:List QA),(([]:List Int),(([]:List Int),(false,())))))))))),(.t Qj (a2,(0,(0,(([]:List Int),(false,(([]:List QA),(([]:List Int),(([]:List Int),(false,())))))))))),(.t tI 4)],[])) (br (ige p1 (Qc p0.2.1)) (some (.tu [(.t Qj (a2,(0,(0,(([]:List Int),(false,(([]:List QA),(([]:List Int),(([]:List Int),(false,())))))))))),(.t Qj (a2,(0,(0,(([]:List Int),(false,(([]:List QA),(([]:List Int),(([]:List Int),(false,())))))))))),(.t tI 4)],[])) (br (cIx p0.2.1 p1) (br (cIx p0.1 (a1.1)) (br (cIx p0.2.1 p1) (br (cIx p0.1 ((a1.2).1)) (some (.tu [(.t Qj (lgt Qj p0.1 (Int.toNat (a1.1)))),(.t Qj (lgt Qj p0.1 (Int.toNat ((a1.2).1)))),(.t tI 0)],[])) none) none) none) none)))) none
theorem s_f64 (e:Estate)(i:Int)(h:Zy e i=true):r_f64 e i=some (.tu [.t Qj (Uy e i).1,.t Qj (Uy e i).2.1,.t tI (Uy e i).2.2],[]):=by
 have h:Ja e=true:=h
 simp only [r_f64,h,Qe,VF]
 unfold Uy Ya
 cases h1:Zc e with
 |false=>rfl
 |true=>
  cases h2:ilt i 0 with
  |true=>rfl
  |false=>
   cases h3:ige i (Qc (Jg e)) with
   |true=>rfl
   |false=>
    have h4:0<=i:=by simp only [ilt,Bq] at h2;omega
    have h5:i<(Jg e).length:=by simp only [ige,Qc,Bq] at h3;omega
    have h6:=Eo h1 h4 h5
    simp only [WZ,Bc] at h6
    obtain ⟨k1,k2,k3⟩:=h6
    simp only [BC,Qi]
    exact brY k1 (brY k2 (brY k1 (brY k3 rfl)))
def Qlf:Ent:=Qq (.pr QF (.pr tI .nil)) (fun x=>(Zy x.1 x.2.1)) (fun x=>(.tu [(.t Qj ((Uy x.1 x.2.1).1)),(.t Qj (((Uy x.1 x.2.1).2).1)),(.t tI (((Uy x.1 x.2.1).2).2))]))
theorem QuE:EM 64 Qlf:=mS g_f64 tc_f64 [((.c 4 true 9),some Qj),((.c 5 true 9),some Qj),((.t 6),some tI)] false (gB (gD QjZ gN)) fun m=>Qu m fun x hok=>kT (s_f64 x.1 x.2.1 hok)
def tc_f26:TC:=aF Tryz.f26 []
def g_f26:G:=gG 28 [(64,Qlf),(65,QnZ)] (fun _ _=>none)
def r_f26 (p0:Estate)(p1 p2:Int):OV:=
 let a1:=Uy p0 p1
 let a2:=Zn (a1.1) ((a1.2).1) p2
 br (Zy p0 p1) (br (ine ((a1.2).2) 0) (some (.tu [(.t Qh (0,(0,()))),(.t tI ((a1.2).2))],[])) (br (Uj (a1.1) ((a1.2).1) p2) (some (.tu [(.t Qh (a2.1)),(.t tI (a2.2))],[])) none)) none
theorem s_f26 (e:Estate)(i d:Int)(h:ZQ e i d=true):r_f26 e i d=some (.tu [.t Qh (Jq e i d).1,.t tI (Jq e i d).2],[]):=by
 have h:Ja e=true:=h
 simp only [r_f26,show Zy e i=true from h,Qe]
 unfold Jq Uy
 rcases Qad e i with ⟨h1,h0,h2,h3,h4⟩|h1
 ·have h5:=Eo h2 h3 h4
  simp only [h1,BM]
  rw [show ine (0:Int) 0=false from rfl,Qi,show Uj (JQ e i).1 (JQ e i).2 d=true from IB h h5,Qe]
 ·simp only [h1,BZ,Qe]
def Qd4:Ent:=Qq (.pr QF (.pr tI (.pr tI .nil))) (fun x=>(ZQ x.1 x.2.1 x.2.2.1)) (fun x=>(.tu [(.t Qh ((Jq x.1 x.2.1 x.2.2.1).1)),(.t tI ((Jq x.1 x.2.1 x.2.2.1).2))]))
theorem Qlg:EM 26 Qd4:=mS g_f26 tc_f26 [((.c 6 true 2),some Qh),((.t 7),some tI)] false (gB (gD QuE (gD QzA gN))) fun m=>Qu m fun x hok=>kT (s_f26 x.1 x.2.1 x.2.2.1 hok)
def tc_f28:TC:=aF Tryz.f28 []
def g_f28:G:=gG 39 [(26,Qd4)] (fun _ _=>none)
def r_f28 (p0:Estate)(p1 p2 p3:Int):OV:=
 let a1:=Jq p0 p1 p2
 br (ZQ p0 p1 p2) (br (ine (a1.2) 0) (some (.tu [(.t Qh (0,(0,()))),(.t tI (a1.2))],[])) (br (ZQ p0 p1 p3) (br (ine ((Jq p0 p1 p3).2) 0) (some (.tu [(.t Qh (0,(0,()))),(.t tI ((Jq p0 p1 p3).2))],[])) (br (ilt p3 p2) (some (.tu [(.t Qh (0,(0,()))),(.t tI 13)],[])) (some (.tu [(.t Qh (a1.1)),(.t tI 0)],[])))) none)) none
theorem s_f28 (e:Estate)(i f t:Int)(h:IC e i f t=true):r_f28 e i f t=some (.tu [.t Qh (Ux e i f t).1,.t tI (Ux e i f t).2],[]):=by
 have h:Ja e=true:=h
 simp only [r_f28,show ∀ t,ZQ e i t=true from fun _=>h,Qe]
 unfold Ux
 cases ine (Jq e i f).2 0<;>cases ine (Jq e i t).2 0<;>cases ilt t f<;>rfl
def QuF:Ent:=Qq (.pr QF (.pr tI (.pr tI (.pr tI .nil)))) (fun x=>(IC x.1 x.2.1 x.2.2.1 x.2.2.2.1)) (fun x=>(.tu [(.t Qh ((Ux x.1 x.2.1 x.2.2.1 x.2.2.2.1).1)),(.t tI ((Ux x.1 x.2.1 x.2.2.1 x.2.2.2.1).2))]))
theorem ms_f28:EM 28 QuF:=mS g_f28 tc_f28 [((.c 8 true 2),some Qh),((.t 9),some tI)] false (gB (gD Qlg gN)) fun m=>Qu m fun x hok=>kT (s_f28 x.1 x.2.1 x.2.2.1 x.2.2.2.1 hok)
def XW (m:Int)(c:Qf):Int:=imn m c.2.2.2.2.2.2.2.1
def Wx (l:List Qf):Int:=match l with|[]=>0|c::r=>(c::r).foldl XW c.2.2.2.2.2.2.2.1
abbrev Qd5:Sh:=⟨[(3,.ty tI),(13,.ty (.sl QE)),(14,.ty tI),(15,.ty tI)],[]⟩
abbrev Qlh:Sh:=⟨[(3,.ty tI)],[]⟩
def Qli:Fg:=Qd5.f
def QuG:TC:=aF Tryz.f66 [(122,pL 0 Qli),(1957,.fg Qlh.f)]
def QuH:TC:=lb 0 QuG
def QuI (x3:Int)(x13:List Qf)(x14 x15:Int):VS:=Qd5.st (x3,x13,x14,x15,()) ()
def ID (x3:Int):VS:=Qlh.st (x3,()) ()
def QKY:VS->Option (Bool×List (Bool×Exit×VS)):=mkL Qd5 (fun x y=>(Qz x.2.1 x.2.2.1 x.2.2.2.1)) (fun x y=>[(true,.exit 0,ID ((x.2.1.drop x.2.2.2.1.toNat).foldl XW x.1))])
def Qlj:G:=gG 25 [] (Ls [QKY])
def Qd6 (x3:Int)(x13:List Qf)(x14 x15:Int):OX:=QB (QD Qlj Qli QuH) (QuI x3 x13 x14 x15)
def Qaf (kk:Int->List Qf->Int->Int->OX)(x3:Int)(x13:List Qf)(x14 x15:Int):OX:=br (ilt x15 x14) (br (cIx x13 x15) (kk (imn x3 (((((((((lgt QE x13 (Int.toNat x15)).2).2).2).2).2).2).2).1)) x13 x14 (Qk .i64 x15 1)) none) (some (.exit 0,ID x3))
def Qd7 (x3:Int)(x13:List Qf)(x14 x15:Int):OX:=some (.exit 0,ID ((x13.drop x15.toNat).foldl XW x3))
theorem QuJ (x3:Int)(x13:List Qf)(x14 x15:Int):Qd6 x3 x13 x14 x15=Qaf Qd6 x3 x13 x14 x15:=lnT (x:=Qaf (fun x3 x13 x14 x15=>some (.normal,QuI x3 x13 x14 x15)) x3 x13 x14 x15) (by simp only [Qaf,nxA];rfl)
def r_f66 (p0:List Qf):OV:=br (ieq (Qc p0) 0) (some (.t tI 0,[])) (br (cIx p0 0) (br (Qz p0 (Qc p0) (0:Int)) (some (.t tI ((p0.drop (0:Int).toNat).foldl XW (((((((((lgt QE p0 (Int.toNat 0)).2).2).2).2).2).2).2).1)),[])) none) none)
theorem QKZ (x3:Int)(x13:List Qf)(x14 x15:Int)(h:(Qz x13 x14 x15)=true):Qd6 x3 x13 x14 x15=Qd7 x3 x13 x14 x15:=by
 obtain ⟨rfl,h3,k,rfl,hk⟩:=Js h
 clear h
 revert x3
 refine QW x13 (fun k=> ∀ x3,Qd6 x3 x13 (x13.length:Int) (k:Int)=Qd7 x3 x13 (x13.length:Int) (k:Int)) ?_ ?_ k hk
 ·intro x3
  rw [QuJ]
  simp only [Qaf,Qd7,QC,BI,BQ,Qi,Bb,BE,List.foldl_nil]
 ·intro k hk ih x3
  rw [QuJ]
  simp only [Qaf,QC,QS,hk,Bu,Qe,Bb,QU (show k<4611686018427387904 by omega),ih,QX (y:=QE) hk]
  simp only [Qd7,Bb,Bi hk,Dz]
  rfl
theorem QK0:LO Qlj Qli QuH 0:=QN (s:=Qd5) fun x y h _ q=>by simp only [QJ,QK] at q;exact (QKZ x.1 x.2.1 x.2.2.1 x.2.2.2.1 h).trans q
theorem s_f66 (l:List Qf)(h:Jf l=true):r_f66 l=some (.t tI (Wx l),[]):=by
 have hl:=U8 h
 simp only [r_f66,Jy hl,Qe,Bt,Bx]
 cases l with
 |nil=>rfl
 |cons c r=>
  rw [show ieq (Qc (c::r)) 0=false by simp only [XF,Qc,Bp,Bq];omega,Qi,show cIx (c::r) 0=true by simp only [cIx,Bp,Ba];omega]
  rfl
def QuK:Ent:=Qq (.pr (.sl QE) .nil) (fun x=>(Jf x.1)) (fun x=>(.t tI (Wx x.1)))
theorem ms_f66:EM 66 QuK:=mS (lk:=lkL (lkc QK0 lkn)) Qlj QuG [((.t 2),some tI)] false (gB gN) fun m=>Qu m fun x hok=>kT (s_f66 x.1 hok)
abbrev Qd8:Sh:=⟨[(0,.ty (.sl QE)),(3,.ty tI),(4,.ty tI)],[]⟩
def Qlk:Fg:=Qd8.f
def QuL:TC:=aF Tryz.f68 [(122,pL 0 Qlk),(1955,.fg Qlh.f)]
def QuM:TC:=lb 0 QuL
def QuN (x0:List Qf)(x3 x4:Int):VS:=Qd8.st (x0,x3,x4,()) ()
def QK1:VS->Option (Bool×List (Bool×Exit×VS)):=mkL Qd8 (fun x y=>(decide (0<=x.2.2.1/\x.2.2.1<=x.1.length/\x.1.length<=100000))) (fun x y=>[(true,.exit 0,ID ((x.1.drop x.2.2.1.toNat).foldl XW x.2.1))])
def Qll:G:=gG 26 [] (Ls [QK1])
def Qd9 (x0:List Qf)(x3 x4:Int):OX:=QB (QD Qll Qlk QuM) (QuN x0 x3 x4)
def Qag (kk:List Qf->Int->Int->OX)(x0:List Qf)(x3 x4:Int):OX:=br (ilt x4 (Qc x0)) (br (cIx x0 x4) (kk x0 (imn x3 (((((((((lgt QE x0 (Int.toNat x4)).2).2).2).2).2).2).2).1)) (Qk .i64 x4 1)) none) (some (.exit 0,ID x3))
def Qea (x0:List Qf)(x3 x4:Int):OX:=some (.exit 0,ID ((x0.drop x4.toNat).foldl XW x3))
theorem QuO (x0:List Qf)(x3 x4:Int):Qd9 x0 x3 x4=Qag Qd9 x0 x3 x4:=lnT (x:=Qag (fun x0 x3 x4=>some (.normal,QuN x0 x3 x4)) x0 x3 x4) (by simp only [Qag,nxA];rfl)
def r_f68 (p0:List Qf):OV:=br (ieq (Qc p0) 0) (some (.t tI 0,[])) (br (cIx p0 0) (br (decide (0<=(1:Int)/\(1:Int)<=p0.length/\p0.length<=100000)) (some (.t tI ((p0.drop (1:Int).toNat).foldl XW (((((((((lgt QE p0 (Int.toNat 0)).2).2).2).2).2).2).2).1)),[])) none) none)
theorem QK2 (x0:List Qf)(x3 x4:Int)(h:(decide (0<=x4/\x4<=x0.length/\x0.length<=100000))=true):Qd9 x0 x3 x4=Qea x0 x3 x4:=by
 obtain ⟨h0,h1,h2⟩:=Bv h
 obtain ⟨k,rfl⟩:=Bm h0
 clear h
 revert x3
 refine QW x0 (fun k=> ∀ x3,Qd9 x0 x3 (k:Int)=Qea x0 x3 (k:Int)) ?_ ?_ k (by omega)
 ·intro x3
  rw [QuO]
  simp only [Qag,Qea,Qc,QC,BI,BQ,Qi,Bb,BE,List.foldl_nil]
 ·intro k hk ih x3
  rw [QuO]
  simp only [Qag,Qc,QC,QS,hk,Bu,Qe,Bb,QU (show k<4611686018427387904 by omega),ih,QX (y:=QE) hk]
  simp only [Qea,Bb,Bi hk,Dz]
  rfl
theorem QK3:LO Qll Qlk QuM 0:=QN (s:=Qd8) fun x y h _ q=>by simp only [QJ,QK] at q;exact (QK2 x.1 x.2.1 x.2.2.1 h).trans q
theorem s_f68 (l:List Qf)(h:Jf l=true):r_f68 l=some (.t tI (Wx l),[]):=by
 have hl:=U8 h
 simp only [r_f68]
 cases l with
 |nil=>rfl
 |cons c r=>
  rw [show ieq (Qc (c::r)) 0=false by simp only [XF,Qc,Bp,Bq];omega,Qi,show cIx (c::r) 0=true by simp only [cIx,Bp,Ba];omega,Qe,Bd (by simp only [Bp] at hl ⊢; omega),Qe]
  have:Wx (c::r)=r.foldl XW (XW c.2.2.2.2.2.2.2.1 c):=rfl
  rw [this]
  have h2:XW c.2.2.2.2.2.2.2.1 c=c.2.2.2.2.2.2.2.1:=by
   unfold XW imn
   split<;>rfl
  rw [h2]
  rfl
def QuP:Ent:=Qq (.pr (.sl QE) .nil) (fun x=>(Jf x.1)) (fun x=>(.t tI (Wx x.1)))
theorem ms_f68:EM 68 QuP:=mS (lk:=lkL (lkc QK3 lkn)) Qll QuL [((.t 2),some tI)] false (gB gN) fun m=>Qu m fun x hok=>kT (s_f68 x.1 hok)
end
end Go.Proofs.YtckcgijklnloiaaGreat.K
