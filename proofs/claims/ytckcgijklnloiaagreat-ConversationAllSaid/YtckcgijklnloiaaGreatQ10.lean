import Derived.Test.YtckcgijklnloiaaGreatQ9
set_option linter.unusedSimpArgs false
set_option linter.unusedVariables false
noncomputable section
namespace Go.Proofs.YtckcgijklnloiaaGreat.K.PE
open Go.RowKit
noncomputable section
def QWT:List DO:=dT Tryz.f36 2
abbrev G9:Sh:=⟨[(0,.ptr 50000 0),(1,.ty .str),(4,.ptr 4 0),(5,.ptr 5 0),(6,.ty tI)],[(4,.box Qj),(5,.bag [.ty .str,.ty tI,.ty tI,.ms 15,.ty .bool,.ms 20505,.nl,.nl,.ty .bool]),(15,.arr 3 tI),(78,.no),(5015,.no),(10015,.no),(15015,.no),(20505,.arr 99 Q1),(50000,.box QM)]⟩
abbrev Qta:Sh:=⟨[(0,.ptr 50000 0),(4,.ptr 4 0),(5,.ptr 5 0)],[(4,.box Qj),(5,.bag [.ty .str,.ty tI,.ty tI,.ms 15,.ty .bool,.ms 20505,.nl,.nl,.ty .bool]),(15,.arr 3 tI),(78,.no),(5015,.no),(10015,.no),(15015,.no),(20505,.arr 99 Q1),(50000,.box QM)]⟩
def Eb:Fg:=G9.f
def US:TC:=aF Tryz.f36 [(14,pD [(0,[5,15,78,5015,10015,15015,20505]),(1,[5,15,78,5015,10015,15015,20505]),(2,[50000]),(3,[5,15,78,5015,10015,15015,20505]),(4,[5,15,78,5015,10015,15015,20505]),(5,[15,78,5015,10015,15015,20505]),(6,[27,5027,10027,15027,50000]),(7,[15,78,5015,10015,15015,20505]),(8,[5,15,78,5015,10015,15015,20505]),(9,[4,5,15,78,5015,10015,15015,20505])] (.of [0,1,2,3,4,5,6,7,8,9])),(250,.nf 5 5 99 20505),(250,pL 0 Eb),(4003,.fg ⟨[(0,none),(4,none),(5,none)],[(4,some Qj),(5,some Qj),(15,none),(78,none),(5015,none),(10015,none),(15015,none),(20505,none),(50000,some QM)]⟩)]
def VP:TC:=lb 0 US
def Iq:List (RV×Option Ty):=[((.c 4 true 9),some Qj)]
def Fa (x1:ByteArray)(x6:Int)(y4:Endpoint)(y5_0:ByteArray)(y5_1 y5_2:Int)(y5_4 y5_8:Bool)(y15:List Int)(QV:List QA)(Qa:Qd):VS:=G9.st ((),x1,(),(),x6,()) (y4,(y5_0,y5_1,y5_2,(),y5_4,(),(),(),y5_8,()),y15,(),(),(),(),QV,Qa,())
def Ec (y4:Endpoint)(y5_0:ByteArray)(y5_1 y5_2:Int)(y5_4 y5_8:Bool)(y15:List Int)(QV:List QA)(Qa:Qd):VS:=Qta.st ((),(),(),()) (y4,(y5_0,y5_1,y5_2,(),y5_4,(),(),(),y5_8,()),y15,(),(),(),(),QV,Qa,())
def Qtb:VS->Option (Bool×List (Bool×Exit×VS)):=mkL G9 (fun x y=>(decide (0<=x.2.2.2.2.1/\(y.2.2.2.2.2.2.2.1.length:Int)+x.2.2.2.2.1<=10/\x.2.1.size<=1000)&&dOk y.2.2.2.2.2.2.2.2.1)) (fun x y=>[(true,.exit 0,Ec (y.1) (y.2.1.1) (y.2.1.2.1) (y.2.1.2.2.1) (y.2.1.2.2.2.2.1) (y.2.1.2.2.2.2.2.2.2.2.1) (y.2.2.1) (y.2.2.2.2.2.2.2.1++(ZE x.2.2.2.2.1.toNat x.2.1 y.2.2.2.2.2.2.2.2.1).1) ((ZE x.2.2.2.2.1.toNat x.2.1 y.2.2.2.2.2.2.2.2.1).2))])
def Wt:G:=gG 100 [(35,Wj),(45,Ge),(46,Oz),(72,Qrh),(73,QmY),(74,Qfn),(75,Qmw)] (Ls [Qtb])
def Wu (x1:ByteArray)(x6:Int)(y4:Endpoint)(y5_0:ByteArray)(y5_1 y5_2:Int)(y5_4 y5_8:Bool)(y15:List Int)(QV:List QA)(Qa:Qd):OX:=QB (QD Wt Eb VP) (Fa x1 x6 y4 y5_0 y5_1 y5_2 y5_4 y5_8 y15 QV Qa)
def Gq (kk:ByteArray->Int->Endpoint->ByteArray->Int->Int->Bool->Bool->List Int->List QA->Qd->OX)(x1:ByteArray)(x6:Int)(y4:Endpoint)(y5_0:ByteArray)(y5_1 y5_2:Int)(y5_4 y5_8:Bool)(y15:List Int)(QV:List QA)(Qa:Qd):OX:=
 let a1:=Qg (JF Qa) 3
 let a2:=(Z5 (Qt a1 ([5,7])) (dof a1 ([5,7])))
 let a3:=((dof a1 ([5,7])),((Y9 (Qt a1 ([5,7])) (dof a1 ([5,7]))),()))
 let a4:=Qk .i64 100 (Ql a2 20)
 let a5:=Qk .i64 100 (Ql a1 20)
 let a6:=((Yr Qa).1,(((Yr Qa).2).1,()))
 let a7:=Qg (Qg a2 20) 9
 let a8:=Qg (Qg a1 20) 9
 let a9:=QT .i64 x6 1
 let a10:=((Y7 a8 x1 (Yr Qa) a5),())
 let a11:=((Y7 a7 x1 a3 a4),())
 br (igt x6 0) (br (dOk Qa) (br (QL (JF Qa) 3) (br (igt (Ql (JF Qa) 3) 0) (br (Jc a1 ([5,7])) (br (GH (Qt a1 ([5,7])) (dof a1 ([5,7]))) (br (QL a2 20) (br (JS (Qg a2 20) 9) (br (!(done (Qg a2 20) 9)) (br (WB a7 x1 a3 a4) (br (Qr QV ([(a3,(a4,a11))]) 48) (kk x1 a9 y4 y5_0 y5_1 y5_2 y5_4 y5_8 y15 (QV++([(a3,(a4,a11))])) (U2 a7 x1 a3 a4)) none) none) (br (Qr QV ([(a3,(a4,(([]:List Qf),())))]) 48) (kk x1 a9 y4 y5_0 y5_1 y5_2 y5_4 y5_8 y15 (QV++([(a3,(a4,(([]:List Qf),())))])) a7) none)) none) none) none) none) (br (QL a1 20) (br (JS (Qg a1 20) 9) (br (!(done (Qg a1 20) 9)) (br (WB a8 x1 (Yr Qa) a5) (br (Qr QV ([(a6,(a5,a10))]) 48) (kk x1 a9 y4 y5_0 y5_1 y5_2 y5_4 y5_8 y15 (QV++([(a6,(a5,a10))])) (U2 a8 x1 (Yr Qa) a5)) none) none) (br (Qr QV ([(a6,(a5,(([]:List Qf),())))]) 48) (kk x1 a9 y4 y5_0 y5_1 y5_2 y5_4 y5_8 y15 (QV++([(a6,(a5,(([]:List Qf),())))])) a8) none)) none) none)) none) none) (some (.exit 0,Ec y4 y5_0 y5_1 y5_2 y5_4 y5_8 y15 QV Qa))
def XT (x1:ByteArray)(x6:Int)(y4:Endpoint)(y5_0:ByteArray)(y5_1 y5_2:Int)(y5_4 y5_8:Bool)(y15:List Int)(QV:List QA)(Qa:Qd):OX:=
 let a1:=ZE x6.toNat x1 Qa
 some (.exit 0,Ec (y4) (y5_0) (y5_1) (y5_2) (y5_4) (y5_8) (y15) (QV++a1.1) (a1.2))
theorem Qdz (x1:ByteArray)(x6:Int)(y4:Endpoint)(y5_0:ByteArray)(y5_1 y5_2:Int)(y5_4 y5_8:Bool)(y15:List Int)(QV:List QA)(Qa:Qd):Wu x1 x6 y4 y5_0 y5_1 y5_2 y5_4 y5_8 y15 QV Qa=Gq Wu x1 x6 y4 y5_0 y5_1 y5_2 y5_4 y5_8 y15 QV Qa:=lnT (x:=Gq (fun x1 x6 y4 y5_0 y5_1 y5_2 y5_4 y5_8 y15 QV Qa=>some (.normal,Fa x1 x6 y4 y5_0 y5_1 y5_2 y5_4 y5_8 y15 QV Qa)) x1 x6 y4 y5_0 y5_1 y5_2 y5_4 y5_8 y15 QV Qa) (by simp only [Gq,nxA];rfl)
def Ir (d0:Qd)(p1:ByteArray):OV:=
 let a4:=(Qt d0 ([1,1,2,3]))
 let a6:=Qg (Y0 a4) 2
 let a13:=(dof d0 ([1,1,2,3]))
 let a5:=QT .i64 5 a13
 let a12:=Qg (Qg a6 2) a5
 let a1:=Qg a12 3
 let a7:=(Qt a1 ([3,4,2]))
 let a10:=(dof a7 ([1,2,1,3,0]))
 let a2:=(ZE a10.toNat p1 (Qt a7 ([1,2,1,3,0])))
 let a11:=(dof a1 ([1,2,1,3,0]))
 let a3:=(ZE a11.toNat p1 (Qt a1 ([1,2,1,3,0])))
 let a8:=Qg (a2.2) 5
 let a9:=Qg (a3.2) 5
 br (Jc d0 ([1,1,2,3])) (br (dOk a4) (br (JS (Y0 a4) 2) (br (JS a6 2) (br (QL (Qg a6 2) a5) (br (QL a12 3) (br (igt (Ql a12 3) 0) (br (Jc a1 ([3,4,2])) (br (Jc a7 ([1,2,1,3,0])) (br (decide (0<=a10/\(([]:List QA).length:Int)+a10<=10/\p1.size<=1000)&&dOk (Qt a7 ([1,2,1,3,0]))) (br (QL (a2.2) 5) (br (cIx ([[1,2],[1,2],[1],[2,11],([]:List Int)]) (Ql (a2.2) 5)) (br (QL a8 3) (br (cIx ([[1,2,3,4],[2,3,4],[3,4]]) (Ql a8 3)) (some (.t Qj ((p1),((1:Int),((dof a1 ([3,4,2])),((WN a4),((done (Y0 a4) 2),((([]:List QA)++a2.1),((lgt (.sl tI) ([[1,2],[1,2],[1],[2,11],([]:List Int)]) (Int.toNat (Ql (a2.2) 5))),((lgt (.sl tI) ([[1,2,3,4],[2,3,4],[3,4]]) (Int.toNat (Ql a8 3))),((done a6 2),()))))))))),[.box (.t QM (Qg a8 3))])) none) none) none) none) none) none) none) (br (Jc a1 ([1,2,1,3,0])) (br (decide (0<=a11/\(([]:List QA).length:Int)+a11<=10/\p1.size<=1000)&&dOk (Qt a1 ([1,2,1,3,0]))) (br (QL (a3.2) 5) (br (cIx ([[1,2],[1,2],[1],[2,11],([]:List Int)]) (Ql (a3.2) 5)) (br (QL a9 3) (br (cIx ([[1,2,3,4],[2,3,4],[3,4]]) (Ql a9 3)) (some (.t Qj ((p1),(a13,((Qk .i64 a13 (Ql (Qg a6 2) a5)),((WN a4),((done (Y0 a4) 2),((([]:List QA)++a3.1),((lgt (.sl tI) ([[1,2],[1,2],[1],[2,11],([]:List Int)]) (Int.toNat (Ql (a3.2) 5))),((lgt (.sl tI) ([[1,2,3,4],[2,3,4],[3,4]]) (Int.toNat (Ql a9 3))),((done a6 2),()))))))))),[.box (.t QM (Qg a9 3))])) none) none) none) none) none) none)) none) none) none) none) none) none
theorem Qtc (d0:Qd)(p1:ByteArray):JR Wt US Iq false [.ptr 50000 0,.t .str p1] [.box (.t QM d0)]=Ir d0 p1:=by kernel_rfl
theorem ok_f36:Option.map (trC Tryz.prog) Tryz.f36.body=some US.er:=by kernel_rfl
theorem QWV:GE Tryz.prog Tryz.f36.results.toList=some (Iq.map Prod.fst):=by kernel_rfl
theorem QIA:JX Tryz.prog 36:= .inr ⟨by decide,_,Tryz.func36,by kernel_rfl,by kernel_rfl⟩
theorem Qtd:GOk Tryz.prog Wt:=Zz _ (gA (gD WI (gD GM (gD Qbq (gD QFw (gD Qxs (gD Qm4 (gD QwK gN))))))))
theorem Qte (x1:ByteArray)(x6:Int)(y4:Endpoint)(y5_0:ByteArray)(y5_1 y5_2:Int)(y5_4 y5_8:Bool)(y15:List Int)(QV:List QA)(Qa:Qd)(h:(decide (0<=x6/\(QV.length:Int)+x6<=10/\x1.size<=1000)&&dOk Qa)=true):Wu x1 x6 y4 y5_0 y5_1 y5_2 y5_4 y5_8 y15 QV Qa=XT x1 x6 y4 y5_0 y5_1 y5_2 y5_4 y5_8 y15 QV Qa:=by
 obtain ⟨h,hd⟩:=Bf.1 h
 obtain ⟨h0,h1,h2⟩:=Bv h
 clear h
 obtain ⟨n,rfl⟩:=Bm h0
 have key: ∀ (n:Nat) (QV:List QA) (Qa:Qd),QV.length+n<=10->dOk Qa=true->Wu x1 (n:Int) y4 y5_0 y5_1 y5_2 y5_4 y5_8 y15 QV Qa=XT x1 (n:Int) y4 y5_0 y5_1 y5_2 y5_4 y5_8 y15 QV Qa:=by
  intro n
  induction n with
  |zero=>
   intro QV Qa _ _
   rw [Qdz]
   simp only [Gq,XT,show igt ((0:Nat):Int) 0=false from rfl,Qi,Bb,ZE,BG]
  |succ n ih=>
   intro QV Qa hl hd
   rw [Qdz]
   have e2:QT .i64 ((n+1:Nat):Int) 1=(n:Int):=(Zu (by omega)).trans (by omega)
   have k1:=Qfk hd
   have k2:=QG (n:=3) k1
   have k3:=JH (l:=[5,7]) k2
   have k4: ∀ a,dOk (Z5 (Qt (Qg (JF Qa) 3) [5,7]) a)=true:=fun a=>Qfo k3
   have c1:QL (JF Qa) 3=true:=ZA k1 (by omega)
   have c2:Jc (Qg (JF Qa) 3) [5,7]=true:=XA k2 (by decide) (by decide)
   have c3: ∀ a,GH (Qt (Qg (JF Qa) 3) [5,7]) a=true:=fun a=>k3
   have c4: ∀ a,QL (Z5 (Qt (Qg (JF Qa) 3) [5,7]) a) 20=true:=fun a=>ZA (k4 a) (by omega)
   have c5: ∀ a,JS (Qg (Z5 (Qt (Qg (JF Qa) 3) [5,7]) a) 20) 9=true:=fun a=>WE (QG (k4 a)) (by omega) (by omega)
   have c6:QL (Qg (JF Qa) 3) 20=true:=ZA k2 (by omega)
   have c7:JS (Qg (Qg (JF Qa) 3) 20) 9=true:=WE (QG k2) (by omega) (by omega)
   have c8: ∀ a k i,WB (Qg (Qg (Z5 (Qt (Qg (JF Qa) 3) [5,7]) a) 20) 9) x1 k i=true:=fun a k i=>Bf.2 ⟨QG (QG (k4 a)),Bd h2⟩
   have c9: ∀ k i,WB (Qg (Qg (Qg (JF Qa) 3) 20) 9) x1 k i=true:=fun k i=>Bf.2 ⟨QG (QG k2),Bd h2⟩
   have ca: ∀ v,Qr QV [v] 48=true:=fun v=>Q7 (by omega) (by simp only [Bh];omega)
   have cb: ∀ d:Qd,Qk .i64 100 (Ql d 20)=100+Ql d 20:=fun d=>by
    have b:=JA (d:=d) (n:=20) (by omega)
    exact JK (by omega)
   simp only [Gq,show igt ((n+1:Nat):Int) 0=true from Bd (by omega),Qe,hd,e2,c1,c2,c3,c4,c5,c6,c7,c8,c9,ca,cb]
   have hi: ∀ v d,dOk d=true->Wu x1 (n:Int) y4 y5_0 y5_1 y5_2 y5_4 y5_8 y15 (QV++[v]) d=XT x1 (n:Int) y4 y5_0 y5_1 y5_2 y5_4 y5_8 y15 (QV++[v]) d:=fun v d hd=>ih _ _ (by simp only [Bj,Bh];omega) hd
   have hz:=hi (idV Qa x1) (iD6 Qa x1) (Qdx hd)
   have goal2:XT x1 (n:Int) y4 y5_0 y5_1 y5_2 y5_4 y5_8 y15 (QV++[idV Qa x1]) (iD6 Qa x1)=XT x1 ((n+1:Nat):Int) y4 y5_0 y5_1 y5_2 y5_4 y5_8 y15 QV Qa:=by
    simp only [XT,Bb,ZE,BF,BD]
   refine Eq.trans ?_ (hz.trans goal2)
   simp only [idV,iD6,iCh,iId,G8,iD3,iB,iD2,iA,iD4,iD5]
   cases igt (Ql (JF Qa) 3) 0 with
   |true=>
    simp only [Qe,BZ]
    cases done (Qg (Z5 (Qt (Qg (JF Qa) 3) [5,7]) (dof (Qg (JF Qa) 3) [5,7])) 20) 9<;>rfl
   |false=>
    simp only [Qi,BM]
    cases done (Qg (Qg (JF Qa) 3) 20) 9<;>rfl
 exact key n _ _ (by omega) hd
theorem Qtf:LO Wt Eb VP 0:=QN (s:=G9) fun x y h _ q=>by simp only [QJ,QK] at q;exact (Qte x.2.1 x.2.2.2.2.1 y.1 y.2.1.1 y.2.1.2.1 y.2.1.2.2.1 y.2.1.2.2.2.2.1 y.2.1.2.2.2.2.2.2.2.2.1 y.2.2.1 y.2.2.2.2.2.2.2.1 y.2.2.2.2.2.2.2.2.1 h).trans q
theorem Qtg:US.lok Wt:=by
 repeat (first|exact trivial|exact Qtf|refine ⟨?_, ?_⟩)
theorem Qth (d:Qd)(nm:ByteArray)(h:Ea d nm=true):Ir d nm=some (.t Qj (epV d nm),[.box (.t QM (epN d nm))]):=by
 unfold epV
 simp only [Ea,Bc,Ba] at h
 obtain ⟨h,hn⟩:=h
 have m0:=Z0 (d:=d) (l:=[1,1,2,3]) (by decide)
 simp only [BT,B0,Dn] at m0
 have k1:=JH (l:=[1,1,2,3]) h
 have k2:=QcH k1
 have k3:=QG (n:=2) k2
 have k4:=QG (n:=2) k3
 have e0:QT .i64 5 (dof d [1,1,2,3])=5-eL0 d:=Zu (by omega)
 have b4:=JA (d:=eD4 d) (n:=5-eL0 d) (by show 0<5-dof d [1,1,2,3];omega)
 have e1:Qk .i64 (dof d [1,1,2,3]) (Ql (eD4 d) (5-eL0 d))=eL0 d+Ql (eD4 d) (5-eL0 d):=JK (by show _/\_;have:eL0 d=dof d [1,1,2,3]:=rfl;omega)
 have k5:=QG (n:=5-eL0 d) k4
 have k6:=QG (n:=3) k5
 have k6':=JH (l:=[3,4,2]) k6
 have k7:dOk (eD7 d)=true:=by
  unfold eD7
  cases eB d
  ·exact k6
  ·exact k6'
 have k8:=JH (l:=[1,2,1,3,0]) k7
 have m7:=Z0 (d:=eD7 d) (l:=[1,2,1,3,0]) (by decide)
 simp only [BT,B0,Dn] at m7
 obtain ⟨k9,_⟩:=Qdy (dof (eD7 d) [1,2,1,3,0]).toNat nm (eD8 d) k8
 have k10:=QG (n:=5) k9
 have c1:Jc d [1,1,2,3]=true:=XA h (by decide) (by decide)
 have c3:JS (Y0 (Qt d [1,1,2,3])) 2=true:=WE k2 (by omega) (by omega)
 have c4:JS (Qg (Y0 (Qt d [1,1,2,3])) 2) 2=true:=WE k3 (by omega) (by omega)
 have c5:QL (eD4 d) (5-eL0 d)=true:=ZA k4 (by show 5-dof d [1,1,2,3]<=_;omega)
 have c6:QL (eD5 d) 3=true:=ZA k5 (by omega)
 have c7:Jc (eD6 d) [3,4,2]=true:=XA k6 (by decide) (by decide)
 have c8:Jc (eD7 d) [1,2,1,3,0]=true:=XA k7 (by decide) (by decide)
 have k8':dOk (Qt (eD7 d) [1,2,1,3,0])=true:=k8
 have e5:ZE (dof (eD7 d) [1,2,1,3,0]).toNat nm (Qt (eD7 d) [1,2,1,3,0])=ZW d nm:=rfl
 have c9:(decide ((0:Int)<=dof (eD7 d) [1,2,1,3,0]/\(([]:List QA).length:Int)+dof (eD7 d) [1,2,1,3,0]<=10/\nm.size<=1000)&&true)=true:=by
  rw [B8]
  exact Bd ⟨by omega,by simp only [Bw];omega,hn⟩
 have c10:QL (ZW d nm).2 5=true:=ZA k9 (by omega)
 have b10:=JA (d:=(ZW d nm).2) (n:=5) (by omega)
 have c11:cIx [[1,2],[1,2],[1],[2,11],([]:List Int)] (Ql (ZW d nm).2 5)=true:=Bd (by simp only [Bp,Bw];omega)
 have c12:QL (Qg (ZW d nm).2 5) 3=true:=ZA k10 (by omega)
 have b12:=JA (d:=Qg (ZW d nm).2 5) (n:=3) (by omega)
 have c13:cIx [[1,2,3,4],[2,3,4],([3,4]:List Int)] (Ql (Qg (ZW d nm).2 5) 3)=true:=Bd (by simp only [Bp,Bw];omega)
 simp only [Ir,c1,k1,c3,c4,e0,c5,c6,e1,c7,Qe]
 cases hb:eB d with
 |true=>
  have e7:Qt (eD6 d) [3,4,2]=eD7 d:=by unfold eD7;rw [hb];rfl
  have e8:WQ d=1:=by unfold WQ;rw [hb];rfl
  have e9:WR d=dof (eD6 d) [3,4,2]:=by unfold WR;rw [hb];rfl
  refine Eq.trans (congrArg (fun b=>br b _ _) hb) ?_
  simp only [Qe,e7,c8,k8',e5,Qe,c10,c11,c12,c13]
  refine Eq.trans (congrArg (fun b=>br b _ _) c9) ?_
  rw [Qe,e8,e9]
  refine Eq.trans (congrArg (fun b=>br b _ _) c13) ?_
  rfl
 |false=>
  have e7:eD6 d=eD7 d:=by unfold eD7;rw [hb];rfl
  have e8:WQ d=eL0 d:=by unfold WQ;rw [hb];rfl
  have e9:WR d=eL0 d+Ql (eD4 d) (5-eL0 d):=by unfold WR;rw [hb];rfl
  refine Eq.trans (congrArg (fun b=>br b _ _) hb) ?_
  simp only [Qi,e7,c8,k8',e5,Qe,c10,c11,c12,c13]
  refine Eq.trans (congrArg (fun b=>br b _ _) c9) ?_
  rw [Qe,e8,e9]
  refine Eq.trans (congrArg (fun b=>br b _ _) c13) ?_
  rfl
def Qkj:Ent:=Y8 QM (.pr .str .nil) (fun d x=>(Ea d x.1)) (fun d x=>(.t Qj (epV d x.1))) (fun d x=>(epN d x.1))
theorem QIB:QQ Tryz.prog 36 (QP Qkj):=X6 (R:=JR Wt US Iq false) (mG Tryz.func36 (by kernel_rfl) Tryz.ntmps36 (by kernel_rfl) Qtd Qtg) rfl fun d x hok=>(Qtc d x.1).trans (Qth d x.1 hok)
end
end Go.Proofs.YtckcgijklnloiaaGreat.K.PE
noncomputable section
namespace Go.Proofs.YtckcgijklnloiaaGreat.K
open Go.RowKit
noncomputable section
abbrev UJ:List ByteArray:=[(ByteArray.mk #[97,112,112]),(ByteArray.mk #[100,98]),(ByteArray.mk #[119,101,98])]
abbrev sSu:List (List Int):=[[10,8,2],[8,2],[2,10,8,3]]
abbrev sIt:List ByteArray:=[(ByteArray.mk #[98,97,99,107,117,112]),(ByteArray.mk #[100,101,101,100])]
def nm1 (s:ByteArray):Bool:=decide (s.size<=1000)
def FP (d:Qd):List Int:=bif ieq (dof d [3,3,4]) 4 then [14]++lgt (.sl tI) sSu (Ql (Qt d [3,3,4]) 3).toNat else lgt (.sl tI) sSu (Ql (Qt d [3,3,4]) 3).toNat
def UK (d:Qd)(k:Nat)(s:ByteArray):Endpoint:=(s,(1,(dof d [3,3,4],(FP d,(done (Qg (Qt d [3,3,4]) 3) 2,([JE s Yn (Qk .i64 100 (k:Int)) 1 901],([1],([2,3],(done (Qg (Qg (Qt d [3,3,4]) 3) 2) 3,())))))))))
def GV (d:Qd):Qd:=Qg (Qg (Qg (Qt d [3,3,4]) 3) 2) 3
def Yt:List ByteArray->Nat->Qd->List Endpoint×Qd
 | [],_,d=>([],d)
 |s::r,k,d=>(UK d k s::(Yt r (k+1) (GV d)).1,(Yt r (k+1) (GV d)).2)
def edZ:Nat->Int->Int->List Qb->Qd->List Qb×Qd
 |0,_,_,l,d=>(l,d)
 |m+1,i,k,l,d=>bif ine i k then (bif igt (Ql d 3) 0&&ilt (Qc l) 3 then edZ m i (k+1) (l++[(i,(k,()))]) (Qg d 3) else edZ m i (k+1) l (Qg d 3)) else edZ m i (k+1) l d
def edY:Nat->Nat->Int->List Qb->Qd->List Qb×Qd
 |0,_,_,l,d=>(l,d)
 |m+1,n,i,l,d=>edY m n (i+1) (edZ n i 0 l d).1 (edZ n i 0 l d).2
def itZ:Nat->Qd->List Qs×Qd
 |0,d=>([],d)
 |n+1,d=>(VQ (UE d sIt) (YV d sIt)::(itZ n (Ed (UE d sIt) (YV d sIt))).1,(itZ n (Ed (UE d sIt) (YV d sIt))).2)
def J2 (d:Qd):List ByteArray:=lsl UJ 0 (Qk .i64 2 (Ql d 2))
def ZI (d:Qd):List Qb×Qd:=edY (J2 d).length (J2 d).length 0 [] (Yt (J2 d) 0 (Qg d 2)).2
def EY (d:Qd):List Qb:=bif ieq (Qc (ZI d).1) 0 then [(0,(1,()))] else (ZI d).1
def sndIt (d:Qd):List Qs×Qd:=itZ (Ql (ZI d).2 3).toNat (Qg (ZI d).2 3)
def JD (d:Qd):Estate:=((Yt (J2 d) 0 (Qg d 2)).1,(EY d,((sndIt d).1,())))
def Yg (d:Qd):Qd:=(sndIt d).2
theorem QDP {d:Qd}(h:dOk d=true):dOk (GV d)=true:=QG (QG (QG (JH (l:=[3,3,4]) h)))
theorem Qqi: ∀ (l:List ByteArray) (k:Nat) (d:Qd),dOk d=true->dOk (Yt l k d).2=true
 | [],_,_,h=>h
 |_::r,k,d,h=>Qqi r (k+1) (GV d) (QDP h)
theorem Ve: ∀ (m:Nat) (i k:Int) (l:List Qb) (d:Qd),dOk d=true->l.length<=3->dOk (edZ m i k l d).2=true/\(edZ m i k l d).1.length<=3
 |0,_,_,_,_,h,hl=>⟨h,hl⟩
 |m+1,i,k,l,d,h,hl=>by
  unfold edZ
  cases ine i k with
  |false=>exact Ve m i (k+1) l d h hl
  |true=>
   cases h1:igt (Ql d 3) 0 with
   |false=>exact Ve m i (k+1) l (Qg d 3) (QG h) hl
   |true=>
    cases h2:ilt (Qc l) 3 with
    |false=>exact Ve m i (k+1) l (Qg d 3) (QG h) hl
    |true=>
     have:l.length<3:=by have:=Bv h2;simp only [Qc] at this;omega
     exact Ve m i (k+1) _ (Qg d 3) (QG h) (by simp only [Bj,Bh];omega)
theorem Qqj: ∀ (m n:Nat) (i:Int) (l:List Qb) (d:Qd),dOk d=true->l.length<=3->dOk (edY m n i l d).2=true/\(edY m n i l d).1.length<=3
 |0,_,_,_,_,h,hl=>⟨h,hl⟩
 |m+1,n,i,l,d,h,hl=>by
  have:=Ve n i 0 l d h hl
  exact Qqj m n (i+1) _ _ this.1 this.2
theorem Qci {d:Qd}(h:dOk d=true):dOk (UE d sIt)=true:=QG (n:=2) h
theorem Qqk (d:Qd):J2 d=UJ.take 2∨J2 d=UJ:=by
 have hv:=JA (d:=d) (n:=2) (by omega)
 have e:Qk .i64 2 (Ql d 2)=2+Ql d 2:=JK (by omega)
 unfold J2
 rw [e]
 rcases (show Ql d 2=0∨Ql d 2=1 by omega) with h|h<;>rw [h]
 ·exact .inl rfl
 ·exact .inr rfl
theorem Vf (d:Qd):2<=(J2 d).length/\(J2 d).length<=3/\(J2 d).all nm1=true:=by
 rcases Qqk d with h|h<;>rw [h]<;>exact ⟨by decide,by decide,by decide⟩
abbrev Qia:Sh:=⟨[(0,.ptr 50000 0),(2,.ptr 2 0),(3,.ptr 3 0),(4,.ty (.sl .str)),(16,.ty (.sl .str)),(17,.ty tI),(18,.ty tI)],[(2,.box QF),(3,.bag [.ms 20300,.ms 20301,.ms 20302]),(61,.no),(94,.no),(103,.no),(119,.no),(20300,.arr 49 Qj),(20301,.arr 46 Qh),(20302,.arr 79 Jm),(50000,.box QM)]⟩
abbrev QSm:Sh:=⟨[(0,.ptr 50000 0),(2,.ptr 2 0),(3,.ptr 3 0),(4,.ty (.sl .str))],[(2,.box QF),(3,.bag [.ms 20300,.ms 20301,.ms 20302]),(61,.no),(94,.no),(103,.no),(119,.no),(20300,.arr 49 Qj),(20301,.arr 46 Qh),(20302,.arr 79 Jm),(50000,.box QM)]⟩
abbrev Qib:Sh:=⟨[(0,.ptr 50000 0),(2,.ptr 2 0),(3,.ptr 3 0),(4,.ty (.sl .str)),(8,.ty tI),(65,.ty tI),(66,.ty tI),(70,.ty tI),(71,.ty tI)],[(2,.box QF),(3,.bag [.ms 20300,.ms 20301,.ms 20302]),(61,.no),(94,.no),(103,.no),(119,.no),(20300,.arr 49 Qj),(20301,.arr 46 Qh),(20302,.arr 79 Jm),(50000,.box QM)]⟩
abbrev Qic:Sh:=⟨[(0,.ptr 50000 0),(2,.ptr 2 0),(3,.ptr 3 0),(4,.ty (.sl .str)),(65,.ty tI),(66,.ty tI)],[(2,.box QF),(3,.bag [.ms 20300,.ms 20301,.ms 20302]),(61,.no),(94,.no),(103,.no),(119,.no),(20300,.arr 49 Qj),(20301,.arr 46 Qh),(20302,.arr 79 Jm),(50000,.box QM)]⟩
abbrev QSn:Sh:=⟨[(0,.ptr 50000 0),(2,.ptr 2 0),(3,.ptr 3 0)],[(2,.box QF),(3,.bag [.ms 20300,.ms 20301,.ms 20302]),(61,.no),(94,.no),(103,.no),(119,.no),(20300,.arr 49 Qj),(20301,.arr 46 Qh),(20302,.arr 79 Jm),(50000,.box QM)]⟩
abbrev Qid:Sh:=⟨[(0,.ptr 50000 0),(2,.ptr 2 0),(3,.ptr 3 0),(10,.ty tI)],[(2,.box QF),(3,.bag [.ms 20300,.ty (.sl Qh),.ms 20302]),(61,.no),(94,.no),(103,.no),(119,.no),(20300,.arr 49 Qj),(20301,.no),(20302,.arr 79 Jm),(50000,.box QM)]⟩
abbrev QSo:Sh:=⟨[(2,.ptr 2 0),(3,.ptr 3 0)],[(2,.box QF),(3,.bag [.ms 20300,.ty (.sl Qh),.ms 20302]),(61,.no),(94,.no),(103,.no),(119,.no),(20300,.arr 49 Qj),(20301,.no),(20302,.arr 79 Jm),(50000,.box QM)]⟩
def Qql:Fg:=Qia.f
def Qqm:Fg:=Qib.f
def Qqn:Fg:=Qic.f
def Qqo:Fg:=Qid.f
def Qcj:TC:=aF Tryz.f17 [(122,.nf 3 2 79 20302),(122,.nf 3 1 46 20301),(122,.nf 3 0 49 20300),(122,.nf 7 3 3 20703),(122,pL 0 Qql),(1957,.fg ⟨[(0,none),(2,none),(3,none),(4,some (.sl .str))],[(2,some QF),(3,some QF),(61,none),(94,none),(103,none),(119,none),(20300,none),(20301,none),(20302,none),(50000,some QM)]⟩),(15666,pD [(0,[]),(1,[50000]),(2,[]),(3,[26,5026,10026,15026,50000]),(4,[]),(5,[]),(6,[]),(7,[]),(8,[50000]),(9,[32,5032,10032,15032,50000]),(10,[]),(11,[]),(12,[50000]),(13,[36,5036,10036,15036,50000]),(14,[]),(15,[]),(16,[50000]),(17,[40,5040,10040,15040,50000]),(18,[]),(19,[7,5007,10007,15007]),(20,[7,45,48,20703])] (.one 0 (.one 1 (.one 2 (.one 4 (.one 5 (.one 6 (.one 7 (.one 8 (.one 12 (.one 14 (.one 15 (.one 16 (.alt 3 (.alt 9 (.one 10 (.one 11 (.alt 13 (.alt 17 (.of [18,19,20]) (.of [19,17,18,20])) (.of [19,13,17,18,20])))) (.of [19,9,10,11,13,17,18,20])) (.of [19,3,9,10,11,13,17,18,20]))))))))))))))),(250,.nf 3 2 79 20302),(250,.nf 3 0 49 20300),(250,.nf 3 1 46 20301),(250,pL 2 Qqn),(4005,.fg ⟨[(0,none),(2,none),(3,none)],[(2,some QF),(3,some QF),(61,none),(94,none),(103,none),(119,none),(20300,none),(20301,none),(20302,none),(50000,some QM)]⟩),(64102,.nf 3 2 79 20302),(64102,.nf 3 0 49 20300),(64102,.nf 3 1 46 20301),(64102,pL 1 Qqm),(1025637,.fg ⟨[(0,none),(2,none),(3,none),(4,some (.sl .str)),(65,some tI),(66,some tI)],[(2,some QF),(3,some QF),(61,none),(94,none),(103,none),(119,none),(20300,none),(20301,none),(20302,none),(50000,some QM)]⟩),(1018,.fz [20301,103]),(1018,.nf 3 1 46 20301),(1018,.nf 3 0 49 20300),(1018,.nf 3 2 79 20302),(1018,pL 3 Qqo),(16291,.fg ⟨[(2,none),(3,none)],[(2,some QF),(3,some QF),(61,none),(94,none),(103,none),(119,none),(20300,none),(20301,none),(20302,none),(50000,some QM)]⟩),(16292,pD [(0,[3,61,94,103,119,20300,20301,20302]),(1,[3,61,94,103,119,20300,20301,20302]),(2,[50000]),(3,[50000]),(4,[]),(5,[116,5116,10116,15116,50000]),(6,[117,5117,10117,15117,50000]),(7,[]),(8,[2,3,61,94,103,119,5119,10119,15119,20300,20301,20302]),(9,[3,61,94,103,119,20300,20301,20302]),(10,[2,3,61,94,103,119,20300,20301,20302])] (.of [0,1,2,3,4,5,6,7,8,9,10]))]
def QDQ:TC:=lb 0 Qcj
def QDR:TC:=lb 1 Qcj
def QDS:TC:=lb 2 Qcj
def QDT:TC:=lb 3 Qcj
def QDU (x4 x16:List ByteArray)(x17 x18:Int)(y2:Estate)(Qn:List Endpoint)(Qp:List Qb)(Qo:List Qs)(Qa:Qd):VS:=Qia.st ((),(),(),x4,x16,x17,x18,()) (y2,((),(),(),()),(),(),(),(),Qn,Qp,Qo,Qa,())
def Qqp (x4:List ByteArray)(y2:Estate)(Qn:List Endpoint)(Qp:List Qb)(Qo:List Qs)(Qa:Qd):VS:=QSm.st ((),(),(),x4,()) (y2,((),(),(),()),(),(),(),(),Qn,Qp,Qo,Qa,())
def QDV (x4:List ByteArray)(x8 x65 x66 x70 x71:Int)(y2:Estate)(Qn:List Endpoint)(Qp:List Qb)(Qo:List Qs)(Qa:Qd):VS:=Qib.st ((),(),(),x4,x8,x65,x66,x70,x71,()) (y2,((),(),(),()),(),(),(),(),Qn,Qp,Qo,Qa,())
def Qck (x4:List ByteArray)(x65 x66:Int)(y2:Estate)(Qn:List Endpoint)(Qp:List Qb)(Qo:List Qs)(Qa:Qd):VS:=Qic.st ((),(),(),x4,x65,x66,()) (y2,((),(),(),()),(),(),(),(),Qn,Qp,Qo,Qa,())
def Qqq (y2:Estate)(Qn:List Endpoint)(Qp:List Qb)(Qo:List Qs)(Qa:Qd):VS:=QSn.st ((),(),(),()) (y2,((),(),(),()),(),(),(),(),Qn,Qp,Qo,Qa,())
def QDW (x10:Int)(y2:Estate)(y3_1:List Qb)(Qn:List Endpoint)(Qo:List Qs)(Qa:Qd):VS:=Qid.st ((),(),(),x10,()) (y2,((),y3_1,(),()),(),(),(),(),Qn,(),Qo,Qa,())
def Qqr (y2:Estate)(y3_1:List Qb)(Qn:List Endpoint)(Qo:List Qs)(Qa:Qd):VS:=QSo.st ((),(),()) (y2,((),y3_1,(),()),(),(),(),(),Qn,(),Qo,Qa,())
def QSp:VS->Option (Bool×List (Bool×Exit×VS)):=mkL Qia (fun x y=>(Qz x.2.2.2.2.1 x.2.2.2.2.2.1 x.2.2.2.2.2.2.1&&(dOk y.2.2.2.2.2.2.2.2.2.1&&(decide (y.2.2.2.2.2.2.1.length<=x.2.2.2.2.2.2.1)&&x.2.2.2.2.1.all nm1)))) (fun x y=>[(true,.exit 0,Qqp (x.2.2.2.1) (y.1) (y.2.2.2.2.2.2.1++(Yt (x.2.2.2.2.1.drop x.2.2.2.2.2.2.1.toNat) x.2.2.2.2.2.2.1.toNat y.2.2.2.2.2.2.2.2.2.1).1) (y.2.2.2.2.2.2.2.1) (y.2.2.2.2.2.2.2.2.1) ((Yt (x.2.2.2.2.1.drop x.2.2.2.2.2.2.1.toNat) x.2.2.2.2.2.2.1.toNat y.2.2.2.2.2.2.2.2.2.1).2))])
def QSq:VS->Option (Bool×List (Bool×Exit×VS)):=mkL Qib (fun x y=>(dOk y.2.2.2.2.2.2.2.2.2.1&&decide (0<=x.2.2.2.2.2.2.2.2.1/\x.2.2.2.2.2.2.2.2.1<=x.2.2.2.2.2.2.2.1/\x.2.2.2.2.2.2.2.1<=3/\y.2.2.2.2.2.2.2.1.length<=3))) (fun x y=>[(true,.exit 4,Qck (x.2.2.2.1) (x.2.2.2.2.2.1) (x.2.2.2.2.2.2.1) (y.1) (y.2.2.2.2.2.2.1) ((edZ (x.2.2.2.2.2.2.2.1-x.2.2.2.2.2.2.2.2.1).toNat x.2.2.2.2.1 x.2.2.2.2.2.2.2.2.1 y.2.2.2.2.2.2.2.1 y.2.2.2.2.2.2.2.2.2.1).1) (y.2.2.2.2.2.2.2.2.1) ((edZ (x.2.2.2.2.2.2.2.1-x.2.2.2.2.2.2.2.2.1).toNat x.2.2.2.2.1 x.2.2.2.2.2.2.2.2.1 y.2.2.2.2.2.2.2.1 y.2.2.2.2.2.2.2.2.2.1).2))])
def QSr:VS->Option (Bool×List (Bool×Exit×VS)):=mkL Qic (fun x y=>(dOk y.2.2.2.2.2.2.2.2.2.1&&decide (0<=x.2.2.2.2.2.1/\x.2.2.2.2.2.1<=x.2.2.2.2.1/\x.2.2.2.2.1<=3/\x.2.2.2.1.length<=3/\y.2.2.2.2.2.2.2.1.length<=3))) (fun x y=>[(true,.exit 2,Qqq (y.1) (y.2.2.2.2.2.2.1) ((edY (x.2.2.2.2.1-x.2.2.2.2.2.1).toNat x.2.2.2.1.length x.2.2.2.2.2.1 y.2.2.2.2.2.2.2.1 y.2.2.2.2.2.2.2.2.2.1).1) (y.2.2.2.2.2.2.2.2.1) ((edY (x.2.2.2.2.1-x.2.2.2.2.2.1).toNat x.2.2.2.1.length x.2.2.2.2.2.1 y.2.2.2.2.2.2.2.1 y.2.2.2.2.2.2.2.2.2.1).2))])
def QSs:VS->Option (Bool×List (Bool×Exit×VS)):=mkL Qid (fun x y=>(dOk y.2.2.2.2.2.2.2.2.2.1&&decide (0<=x.2.2.2.1/\x.2.2.2.1<=3/\y.2.2.2.2.2.2.2.2.1.length+x.2.2.2.1.toNat<=100))) (fun x y=>[(true,.exit 6,Qqr (y.1) (y.2.1.2.1) (y.2.2.2.2.2.2.1) (y.2.2.2.2.2.2.2.2.1++(itZ x.2.2.2.1.toNat y.2.2.2.2.2.2.2.2.2.1).1) ((itZ x.2.2.2.1.toNat y.2.2.2.2.2.2.2.2.2.1).2))])
def GW:G:=⟨TYs,[45,103],122,EL [(35,Wj),(37,Qto),(38,Qoz),(45,Ge),(46,Oz),(47,QtA),(48,QI0)],YD,(Ls [QSp,QSq,QSr,QSs]),IL [],RL []⟩
def Qcl (x4 x16:List ByteArray)(x17 x18:Int)(y2:Estate)(Qn:List Endpoint)(Qp:List Qb)(Qo:List Qs)(Qa:Qd):OX:=QB (QD GW Qql QDQ) (QDU x4 x16 x17 x18 y2 Qn Qp Qo Qa)
def EZ (kk:List ByteArray->List ByteArray->Int->Int->Estate->List Endpoint->List Qb->List Qs->Qd->OX)(x4 x16:List ByteArray)(x17 x18:Int)(y2:Estate)(Qn:List Endpoint)(Qp:List Qb)(Qo:List Qs)(Qa:Qd):OX:=
 let a5:=lgt .str x16 (Int.toNat x18)
 let a1:=JE a5 Yn (Qk .i64 100 x18) 1 901
 let a2:=(lgt (.sl tI) ([[10,8,2],[8,2],[2,10,8,3]]) (Int.toNat (Ql (Qt Qa ([3,3,4])) 3)))
 let a3:=(Qg (Qt Qa ([3,3,4])) 3)
 let a4:=((done a3 2),([(((a1.1).1,(((a1.1).2).1,())),((a1.2).1,(((a1.2).2).1,())))],([1],([2,3],((done (Qg a3 2) 3),())))))
 let a6:=(dof Qa ([3,3,4]))
 let a7:=Gr a5 Yn (Qk .i64 100 x18) 1 901
 br (JS (Qg a3 2) 3) (br (ieq a6 4) (br (Qr ([14]) a2 8) (br a7 (br (Qr Qn ([(a5,(1,(a6,((([14])++a2),a4))))]) 144) (kk x4 x16 x17 (Qk .i64 x18 1) y2 (Qn++([(a5,(1,(a6,((([14])++a2),a4))))])) Qp Qo (Qg (Qg a3 2) 3)) none) none) none) (br a7 (br (Qr Qn ([(a5,(1,(a6,(a2,a4))))]) 144) (kk x4 x16 x17 (Qk .i64 x18 1) y2 (Qn++([(a5,(1,(a6,(a2,a4))))])) Qp Qo (Qg (Qg a3 2) 3)) none) none)) none
def Vg (kk:List ByteArray->List ByteArray->Int->Int->Estate->List Endpoint->List Qb->List Qs->Qd->OX)(x4 x16:List ByteArray)(x17 x18:Int)(y2:Estate)(Qn:List Endpoint)(Qp:List Qb)(Qo:List Qs)(Qa:Qd):OX:=br (JS (Qg (Qt Qa ([3,3,4])) 3) 2) (EZ kk x4 x16 x17 x18 y2 Qn Qp Qo Qa) none
def Vh (kk:List ByteArray->List ByteArray->Int->Int->Estate->List Endpoint->List Qb->List Qs->Qd->OX)(x4 x16:List ByteArray)(x17 x18:Int)(y2:Estate)(Qn:List Endpoint)(Qp:List Qb)(Qo:List Qs)(Qa:Qd):OX:=
 let a1:=(Qt Qa ([3,3,4]))
 br (QL a1 3) (br (cIx ([[10,8,2],[8,2],[2,10,8,3]]) (Ql a1 3)) (Vg kk x4 x16 x17 x18 y2 Qn Qp Qo Qa) none) none
def Vi (kk:List ByteArray->List ByteArray->Int->Int->Estate->List Endpoint->List Qb->List Qs->Qd->OX)(x4 x16:List ByteArray)(x17 x18:Int)(y2:Estate)(Qn:List Endpoint)(Qp:List Qb)(Qo:List Qs)(Qa:Qd):OX:=
 let a1:=(Qt Qa ([3,3,4]))
 let a2:=(Jc Qa ([3,3,4]))
 br (ilt x18 x17) (br (cIx x16 x18) (frk (br a2 (frk (br (QL a1 3) (br (cIx ([[10,8,2],[8,2],[2,10,8,3]]) (Ql a1 3)) (frk (br (JS (Qg a1 3) 2) (frk (EZ kk x4 x16 x17 x18 y2 Qn Qp Qo Qa) (EZ kk x4 x16 x17 x18 y2 Qn Qp Qo Qa)) none) (Vg kk x4 x16 x17 x18 y2 Qn Qp Qo Qa)) none) none) (Vh kk x4 x16 x17 x18 y2 Qn Qp Qo Qa)) none) (br a2 (Vh kk x4 x16 x17 x18 y2 Qn Qp Qo Qa) none)) none) (some (.exit 0,Qqp x4 y2 Qn Qp Qo Qa))
def E0 (x4 x16:List ByteArray)(x17 x18:Int)(y2:Estate)(Qn:List Endpoint)(Qp:List Qb)(Qo:List Qs)(Qa:Qd):OX:=
 let a1:=Yt (x16.drop x18.toNat) x18.toNat Qa
 some (.exit 0,Qqp (x4) (y2) (Qn++a1.1) (Qp) (Qo) (a1.2))
theorem QDX (x4 x16:List ByteArray)(x17 x18:Int)(y2:Estate)(Qn:List Endpoint)(Qp:List Qb)(Qo:List Qs)(Qa:Qd):Qcl x4 x16 x17 x18 y2 Qn Qp Qo Qa=Vi Qcl x4 x16 x17 x18 y2 Qn Qp Qo Qa:=lnT (x:=Vi (fun x4 x16 x17 x18 y2 Qn Qp Qo Qa=>some (.normal,QDU x4 x16 x17 x18 y2 Qn Qp Qo Qa)) x4 x16 x17 x18 y2 Qn Qp Qo Qa) (by
 first
 |(simp only [Jt,Vi,EZ,Vg,Vh,Jt,Xy,X7,X8,X9,Wa]
   rfl)
 |(simp only [Jt,Vi,EZ,Vg,Vh,Jt]
   try generalize (Qr Qn ([((lgt .str x16 (Int.toNat x18)),(1,((dof Qa ([3,3,4])),((([14])++(lgt (.sl tI) ([[10,8,2],[8,2],[2,10,8,3]]) (Int.toNat (Ql (Qt Qa ([3,3,4])) 3)))),((done (Qg (Qt Qa ([3,3,4])) 3) 2),([((((JE (lgt .str x16 (Int.toNat x18)) Yn (Qk .i64 100 x18) 1 901).1).1,((((JE (lgt .str x16 (Int.toNat x18)) Yn (Qk .i64 100 x18) 1 901).1).2).1,())),(((JE (lgt .str x16 (Int.toNat x18)) Yn (Qk .i64 100 x18) 1 901).2).1,((((JE (lgt .str x16 (Int.toNat x18)) Yn (Qk .i64 100 x18) 1 901).2).2).1,())))],([1],([2,3],((done (Qg (Qg (Qt Qa ([3,3,4])) 3) 2) 3),())))))))))]) 144)=cq0
   try generalize ((Gr (lgt .str x16 (Int.toNat x18)) Yn (Qk .i64 100 x18) 1 901))=cq1
   try generalize (Qr ([14]) (lgt (.sl tI) ([[10,8,2],[8,2],[2,10,8,3]]) (Int.toNat (Ql (Qt Qa ([3,3,4])) 3))) 8)=cq2
   try generalize (Qr Qn ([((lgt .str x16 (Int.toNat x18)),(1,((dof Qa ([3,3,4])),((lgt (.sl tI) ([[10,8,2],[8,2],[2,10,8,3]]) (Int.toNat (Ql (Qt Qa ([3,3,4])) 3))),((done (Qg (Qt Qa ([3,3,4])) 3) 2),([((((JE (lgt .str x16 (Int.toNat x18)) Yn (Qk .i64 100 x18) 1 901).1).1,((((JE (lgt .str x16 (Int.toNat x18)) Yn (Qk .i64 100 x18) 1 901).1).2).1,())),(((JE (lgt .str x16 (Int.toNat x18)) Yn (Qk .i64 100 x18) 1 901).2).1,((((JE (lgt .str x16 (Int.toNat x18)) Yn (Qk .i64 100 x18) 1 901).2).2).1,())))],([1],([2,3],((done (Qg (Qg (Qt Qa ([3,3,4])) 3) 2) 3),())))))))))]) 144)=cq3
   try generalize ((JS (Qg (Qg (Qt Qa ([3,3,4])) 3) 2) 3))=cq4
   try generalize ((JS (Qg (Qt Qa ([3,3,4])) 3) 2))=cq5
   try generalize (cIx ([[10,8,2],[8,2],[2,10,8,3]]) (Ql (Qt Qa ([3,3,4])) 3))=cq6
   try generalize ((QL (Qt Qa ([3,3,4])) 3))=cq7
   try generalize ((Jc Qa ([3,3,4])))=cq8
   try generalize (cIx x16 x18)=cq9
   simp only [brN,Jt,Bool.and_assoc,Bool.and_comm,Bool.and_left_comm,BX,Bool.and_self_left,Xy,X7,X8,X9,Wa]
   try rfl))
def Qie (x4:List ByteArray)(x8 x65 x66 x70 x71:Int)(y2:Estate)(Qn:List Endpoint)(Qp:List Qb)(Qo:List Qs)(Qa:Qd):OX:=QB (QD GW Qqm QDR) (QDV x4 x8 x65 x66 x70 x71 y2 Qn Qp Qo Qa)
def Qcm (kk:List ByteArray->Int->Int->Int->Int->Int->Estate->List Endpoint->List Qb->List Qs->Qd->OX)(x4:List ByteArray)(x8 x65 x66 x70 x71:Int)(y2:Estate)(Qn:List Endpoint)(Qp:List Qb)(Qo:List Qs)(Qa:Qd):OX:=
 let a1:=Qk .i64 x71 1
 let a2:=Qg Qa 3
 br (ilt x71 x70) (br (ine x8 x71) (br (QL Qa 3) (br (igt (Ql Qa 3) 0) (br (ilt (Qc Qp) 3) (br (Qr Qp ([(x8,(x71,()))]) 16) (kk x4 x8 x65 x66 x70 a1 y2 Qn (Qp++([(x8,(x71,()))])) Qo a2) none) (kk x4 x8 x65 x66 x70 a1 y2 Qn Qp Qo a2)) (kk x4 x8 x65 x66 x70 a1 y2 Qn Qp Qo a2)) none) (kk x4 x8 x65 x66 x70 a1 y2 Qn Qp Qo Qa)) (some (.exit 4,Qck x4 x65 x66 y2 Qn Qp Qo Qa))
def E1 (x4:List ByteArray)(x8 x65 x66 x70 x71:Int)(y2:Estate)(Qn:List Endpoint)(Qp:List Qb)(Qo:List Qs)(Qa:Qd):OX:=
 let a1:=edZ (x70-x71).toNat x8 x71 Qp Qa
 some (.exit 4,Qck (x4) (x65) (x66) (y2) (Qn) (a1.1) (Qo) (a1.2))
theorem QDY (x4:List ByteArray)(x8 x65 x66 x70 x71:Int)(y2:Estate)(Qn:List Endpoint)(Qp:List Qb)(Qo:List Qs)(Qa:Qd):Qie x4 x8 x65 x66 x70 x71 y2 Qn Qp Qo Qa=Qcm Qie x4 x8 x65 x66 x70 x71 y2 Qn Qp Qo Qa:=lnT (x:=Qcm (fun x4 x8 x65 x66 x70 x71 y2 Qn Qp Qo Qa=>some (.normal,QDV x4 x8 x65 x66 x70 x71 y2 Qn Qp Qo Qa)) x4 x8 x65 x66 x70 x71 y2 Qn Qp Qo Qa) (by simp only [Qcm,nxA];rfl)
def Qif (x4:List ByteArray)(x65 x66:Int)(y2:Estate)(Qn:List Endpoint)(Qp:List Qb)(Qo:List Qs)(Qa:Qd):OX:=QB (QD GW Qqn QDS) (Qck x4 x65 x66 y2 Qn Qp Qo Qa)
def Qcn (kk:List ByteArray->Int->Int->Estate->List Endpoint->List Qb->List Qs->Qd->OX)(x4:List ByteArray)(x65 x66:Int)(y2:Estate)(Qn:List Endpoint)(Qp:List Qb)(Qo:List Qs)(Qa:Qd):OX:=
 let a1:=(edZ ((Qc x4)-(0:Int)).toNat x66 (0:Int) Qp Qa)
 br (ilt x66 x65) (br (dOk Qa&&decide (0<=(0:Int)/\(0:Int)<=(Qc x4)/\(Qc x4)<=3/\Qp.length<=3)) (kk (x4) (x65) (Qk .i64 (x66) 1) (y2) (Qn) (a1.1) (Qo) (a1.2)) none) (some (.exit 2,Qqq y2 Qn Qp Qo Qa))
def Qig (x4:List ByteArray)(x65 x66:Int)(y2:Estate)(Qn:List Endpoint)(Qp:List Qb)(Qo:List Qs)(Qa:Qd):OX:=
 let a1:=edY (x65-x66).toNat x4.length x66 Qp Qa
 some (.exit 2,Qqq (y2) (Qn) (a1.1) (Qo) (a1.2))
theorem QDZ (x4:List ByteArray)(x65 x66:Int)(y2:Estate)(Qn:List Endpoint)(Qp:List Qb)(Qo:List Qs)(Qa:Qd):Qif x4 x65 x66 y2 Qn Qp Qo Qa=Qcn Qif x4 x65 x66 y2 Qn Qp Qo Qa:=lnT (x:=Qcn (fun x4 x65 x66 y2 Qn Qp Qo Qa=>some (.normal,Qck x4 x65 x66 y2 Qn Qp Qo Qa)) x4 x65 x66 y2 Qn Qp Qo Qa) (by simp only [Qcn,nxA];rfl)
def Qih (x10:Int)(y2:Estate)(y3_1:List Qb)(Qn:List Endpoint)(Qo:List Qs)(Qa:Qd):OX:=QB (QD GW Qqo QDT) (QDW x10 y2 y3_1 Qn Qo Qa)
def Qco (kk:Int->Estate->List Qb->List Endpoint->List Qs->Qd->OX)(x10:Int)(y2:Estate)(y3_1:List Qb)(Qn:List Endpoint)(Qo:List Qs)(Qa:Qd):OX:=
 let a2:=(ByteArray.mk #[98,97,99,107,117,112])
 let a3:=(ByteArray.mk #[100,101,101,100])
 let a5:=(UE Qa ([a2,a3]))
 let a6:=(YV Qa ([a2,a3]))
 let a1:=VQ a5 a6
 let a4:=((a1.2).1,(((a1.2).2).1,((((a1.2).2).2).1,(((((a1.2).2).2).2).1,()))))
 br (igt x10 0) (br (GO Qa ([a2,a3])) (br (VR a5 a6) (br (Qr Qo ([(a1.1,a4)]) 64) (kk (QT .i64 x10 1) y2 y3_1 Qn (Qo++([(a1.1,a4)])) (Ed a5 a6)) none) none) none) (some (.exit 6,Qqr y2 y3_1 Qn Qo Qa))
def Qii (x10:Int)(y2:Estate)(y3_1:List Qb)(Qn:List Endpoint)(Qo:List Qs)(Qa:Qd):OX:=some (.exit 6,Qqr (y2) (y3_1) (Qn) (Qo++(itZ x10.toNat Qa).1) ((itZ x10.toNat Qa).2))
theorem QD0 (x10:Int)(y2:Estate)(y3_1:List Qb)(Qn:List Endpoint)(Qo:List Qs)(Qa:Qd):Qih x10 y2 y3_1 Qn Qo Qa=Qco Qih x10 y2 y3_1 Qn Qo Qa:=lnT (x:=Qco (fun x10 y2 y3_1 Qn Qo Qa=>some (.normal,QDW x10 y2 y3_1 Qn Qo Qa)) x10 y2 y3_1 Qn Qo Qa) (by simp only [Qco,nxA];rfl)
def r_f17 (d0:Qd):OV:=
 let a6:=(ByteArray.mk #[97,112,112])
 let a8:=(ByteArray.mk #[100,98])
 let a7:=(ByteArray.mk #[119,101,98])
 let a2:=(lsl ([a6,a8,a7]) 0 (Qk .i64 2 (Ql d0 2)))
 let a5:=(Yt (a2.drop (0:Int).toNat) (0:Int).toNat (Qg d0 2))
 let a1:=(edY ((Qc a2)-(0:Int)).toNat a2.length (0:Int) ([]:List Qb) (a5.2))
 let a3:=(dOk (Qg (a1.2) 3)&&decide (0<=(Ql (a1.2) 3)/\(Ql (a1.2) 3)<=3/\([]:List Qs).length+(Ql (a1.2) 3).toNat<=100))
 let a4:=itZ (Ql (a1.2) 3).toNat (Qg (a1.2) 3)
 br (QL d0 2) (br (cSl ([a6,a8,a7]) 0 (Qk .i64 2 (Ql d0 2)) ((List.length ([a6,a8,a7]):Nat):Int)) (br (Qz a2 (Qc a2) (0:Int)&&(dOk (Qg d0 2)&&(decide (([]:List Endpoint).length<=(0:Int))&&a2.all nm1))) (br (dOk (a5.2)&&decide (0<=(0:Int)/\(0:Int)<=(Qc a2)/\(Qc a2)<=3/\a2.length<=3/\([]:List Qb).length<=3)) (br (ieq (Qc (a1.1)) 0) (br (QL (a1.2) 3) (br a3 (some (.t QF ((([]:List Endpoint)++a5.1),(([(0,(1,()))]),((([]:List Qs)++a4.1),()))),[.box (.t QM (a4.2))])) none) none) (br (QL (a1.2) 3) (br a3 (some (.t QF ((([]:List Endpoint)++a5.1),((a1.1),((([]:List Qs)++a4.1),()))),[.box (.t QM (a4.2))])) none) none)) none) none) none) none
theorem QSt (x4 x16:List ByteArray)(x17 x18:Int)(y2:Estate)(Qn:List Endpoint)(Qp:List Qb)(Qo:List Qs)(Qa:Qd)(h:(Qz x16 x17 x18&&(dOk Qa&&(decide (Qn.length<=x18)&&x16.all nm1)))=true):Qcl x4 x16 x17 x18 y2 Qn Qp Qo Qa=E0 x4 x16 x17 x18 y2 Qn Qp Qo Qa:=by
 simp only [Bc,Ba] at h
 obtain ⟨h0,hd,hl,ha⟩:=h
 obtain ⟨rfl,h3,k,rfl,hk⟩:=Js h0
 clear h0
 revert Qn Qa
 refine QW x16 (fun k=> ∀ (Qn:List Endpoint) (Qa:Qd),dOk Qa=true->(Qn.length:Int)<=(k:Int)->Qcl x4 x16 (x16.length:Int) (k:Int) y2 Qn Qp Qo Qa=E0 x4 x16 (x16.length:Int) (k:Int) y2 Qn Qp Qo Qa) ?_ ?_ k hk
 ·intro Qn Qa _ _
  rw [QDX]
  simp only [Vi,EZ,Vg,Vh,Jt,E0,QC,BI,BQ,Qi,Bb,BE,Yt,BG]
 ·intro k hk ih Qn Qa hd hl
  rw [QDX]
  have c1:Jc Qa [3,3,4]=true:=XA hd (by decide) (by decide)
  have d1:=JH (l:=[3,3,4]) hd
  have c2:QL (Qt Qa [3,3,4]) 3=true:=ZA d1 (by omega)
  have d2:=QG (n:=3) d1
  have c3:JS (Qg (Qt Qa [3,3,4]) 3) 2=true:=WE d2 (by omega) (by omega)
  have c4:JS (Qg (Qg (Qt Qa [3,3,4]) 3) 2) 3=true:=WE (QG d2) (by omega) (by omega)
  have b3:=JA (d:=Qt Qa [3,3,4]) (n:=3) (by omega)
  have c5:cIx ([[10,8,2],[8,2],[2,10,8,3]]:List (List Int)) (Ql (Qt Qa [3,3,4]) 3)=true:=Bd ⟨b3.1,b3.2⟩
  have c6:Gr x16[k] Yn (Qk .i64 100 (k:Int)) 1 901=true:=Bg.1 ha _ (BA hk)
  have c7: ∀ v,Qr Qn [v] 144=true:=fun v=>Q7 (by omega) (by simp only [Bh];omega)
  have b4: ∀ q,(lgt (.sl tI) [[10,8,2],[8,2],[2,10,8,3]] q).length<=4:=fun q=>QnI (by simp) q
  have c8:Qr ([14]:List Int) (lgt (.sl tI) [[10,8,2],[8,2],[2,10,8,3]] (Ql (Qt Qa [3,3,4]) 3).toNat) 8=true:=Q7 (by decide) (by have:=b4 (Ql (Qt Qa [3,3,4]) 3).toNat;simp only [Bh];omega)
  simp only [Vi,EZ,Vg,Vh,Jt,QC,QS,hk,Bu,Qe,Bb,QU (show k<4611686018427387904 by omega),QX (y:= .str) hk,c1,c2,c3,c4,c6,c7,Jt]
  have hi: ∀ v,Qcl x4 x16 (x16.length:Int) ((k+1:Nat):Int) y2 (Qn++[v]) Qp Qo (GV Qa)=E0 x4 x16 (x16.length:Int) ((k+1:Nat):Int) y2 (Qn++[v]) Qp Qo (GV Qa):=fun v=>ih _ _ (QDP hd) (by simp only [Bj,Bh];omega)
  have goal2:E0 x4 x16 (x16.length:Int) ((k+1:Nat):Int) y2 (Qn++[UK Qa k x16[k]]) Qp Qo (GV Qa)=E0 x4 x16 (x16.length:Int) (k:Int) y2 Qn Qp Qo Qa:=by
   simp only [E0,Bb,Bi hk,Yt,BF,BD]
  refine Eq.trans ?_ ((hi _).trans goal2)
  unfold UK FP
  refine brY c5 ?_
  cases ieq (dof Qa [3,3,4]) 4 with
  |false=>rfl
  |true=>exact brY rfl (brY c8 rfl)
theorem QSu (x4:List ByteArray)(x8 x65 x66 x70 x71:Int)(y2:Estate)(Qn:List Endpoint)(Qp:List Qb)(Qo:List Qs)(Qa:Qd)(h:(dOk Qa&&decide (0<=x71/\x71<=x70/\x70<=3/\Qp.length<=3))=true):Qie x4 x8 x65 x66 x70 x71 y2 Qn Qp Qo Qa=E1 x4 x8 x65 x66 x70 x71 y2 Qn Qp Qo Qa:=by
 simp only [Bc,Ba] at h
 obtain ⟨hd,h0,h1,h2,hl⟩:=h
 have key: ∀ (m:Nat) (x71:Int) (Qp:List Qb) (Qa:Qd),x71+m=x70->0<=x71->dOk Qa=true->Qp.length<=3->Qie x4 x8 x65 x66 x70 x71 y2 Qn Qp Qo Qa=E1 x4 x8 x65 x66 x70 x71 y2 Qn Qp Qo Qa:=by
  intro m
  induction m with
  |zero=>
   intro x71 Qp Qa e _ _ _
   rw [QDY]
   have:x70=x71:=by omega
   subst this
   simp only [Qcm,E1,show ilt x70 x70=false from Bn (by omega),Qi,Int.sub_self,Bt,edZ]
  |succ m ih=>
   intro x71 Qp Qa e h0 hd hl
   rw [QDY]
   have c1:QL Qa 3=true:=ZA hd (by omega)
   have c2:Qr Qp [(x8,(x71,()))] 16=true:=Q7 (by omega) (by simp only [Bh];omega)
   have e1:Qk .i64 x71 1=x71+1:=JK (by omega)
   have e2:(x70-x71).toNat=m+1:=by omega
   have e3:(x70-(x71+1)).toNat=m:=by omega
   simp only [Qcm,show ilt x71 x70=true from Bd (by omega),Qe,c1,c2,e1]
   have i0:=ih (x71+1) Qp Qa (by omega) (by omega) hd hl
   have i1:=ih (x71+1) Qp (Qg Qa 3) (by omega) (by omega) (QG hd) hl
   rw [i0,i1]
   cases hn:ine x8 x71 with
   |false=>simp only [Qi,E1,e2,e3,edZ,hn,BM]
   |true=>
    cases hg:igt (Ql Qa 3) 0 with
    |false=>simp only [Qe,Qi,E1,e2,e3,edZ,hn,hg,BZ,DU,BM]
    |true=>
     cases hq:ilt (Qc Qp) 3 with
     |false=>simp only [Qe,Qi,E1,e2,e3,edZ,hn,hg,hq,BZ,Bool.and_false,BM]
     |true=>
      have hl3:Qp.length<3:=by have:=Bv hq;simp only [Qc] at this;omega
      have i2:=ih (x71+1) (Qp++[(x8,(x71,()))]) (Qg Qa 3) (by omega) (by omega) (QG hd) (by simp only [Bj,Bh];omega)
      rw [i2]
      simp only [Qe,E1,e2,e3,edZ,hn,hg,hq,BZ,BX]
 exact key (x70-x71).toNat x71 Qp Qa (by omega) h0 hd hl
theorem QSv (x4:List ByteArray)(x65 x66:Int)(y2:Estate)(Qn:List Endpoint)(Qp:List Qb)(Qo:List Qs)(Qa:Qd)(h:(dOk Qa&&decide (0<=x66/\x66<=x65/\x65<=3/\x4.length<=3/\Qp.length<=3))=true):Qif x4 x65 x66 y2 Qn Qp Qo Qa=Qig x4 x65 x66 y2 Qn Qp Qo Qa:=by
 simp only [Bc,Ba] at h
 obtain ⟨hd,h0,h1,h2,h3,hl⟩:=h
 have key: ∀ (m:Nat) (x66:Int) (Qp:List Qb) (Qa:Qd),x66+m=x65->0<=x66->dOk Qa=true->Qp.length<=3->Qif x4 x65 x66 y2 Qn Qp Qo Qa=Qig x4 x65 x66 y2 Qn Qp Qo Qa:=by
  intro m
  induction m with
  |zero=>
   intro x66 Qp Qa e _ _ _
   rw [QDZ]
   have:x65=x66:=by omega
   subst this
   simp only [Qcn,Qig,show ilt x65 x65=false from Bn (by omega),Qi,Int.sub_self,Bt,edY]
  |succ m ih=>
   intro x66 Qp Qa e h0 hd hl
   rw [QDZ]
   have e1:Qk .i64 x66 1=x66+1:=JK (by omega)
   have e2:(x65-x66).toNat=m+1:=by omega
   have e3:(x65-(x66+1)).toNat=m:=by omega
   have e4:(Qc x4-0).toNat=x4.length:=by simp only [Qc];omega
   have hz:=Ve x4.length x66 0 Qp Qa hd hl
   simp only [Qcn,show ilt x66 x65=true from Bd (by omega),Qe,e1,e4,hd,BB]
   refine brY (Bd (by simp only [Qc];omega)) ?_
   rw [ih (x66+1) _ _ (by omega) (by omega) hz.1 hz.2]
   simp only [Qig,e2,e3,edY]
 exact key (x65-x66).toNat x66 Qp Qa (by omega) h0 hd hl
theorem QSw (x10:Int)(y2:Estate)(y3_1:List Qb)(Qn:List Endpoint)(Qo:List Qs)(Qa:Qd)(h:(dOk Qa&&decide (0<=x10/\x10<=3/\Qo.length+x10.toNat<=100))=true):Qih x10 y2 y3_1 Qn Qo Qa=Qii x10 y2 y3_1 Qn Qo Qa:=by
 simp only [Bc,Ba] at h
 obtain ⟨hd,h0,h1,hl⟩:=h
 obtain ⟨n,rfl⟩:=Bm h0
 rw [Bb] at hl
 have key: ∀ (n:Nat) (Qo:List Qs) (Qa:Qd),dOk Qa=true->Qo.length+n<=100->Qih (n:Int) y2 y3_1 Qn Qo Qa=Qii (n:Int) y2 y3_1 Qn Qo Qa:=by
  intro n
  induction n with
  |zero=>
   intro Qo Qa _ _
   rw [QD0]
   simp only [Qco,Qii,show igt ((0:Nat):Int) 0=false from rfl,Qi,Bb,itZ,BG]
  |succ n ih=>
   intro Qo Qa hd hl
   rw [QD0]
   have e2:QT .i64 ((n+1:Nat):Int) 1=(n:Int):=(Zu (by omega)).trans (by omega)
   have c1:GO Qa sIt=true:=by simp [GO,hd]
   have c2:VR (UE Qa sIt) (YV Qa sIt)=true:=Qci hd
   have c3: ∀ v,Qr Qo [v] 64=true:=fun v=>Q7 (by omega) (by simp only [Bh];omega)
   simp only [Qco,show igt ((n+1:Nat):Int) 0=true from Bd (by omega),Qe,e2,c1,c2,c3]
   refine Eq.trans (ih _ _ (Qti (s:=YV Qa sIt) (Qci hd)) (by simp only [Bj,Bh];omega)) ?_
   simp only [Qii,Bb,itZ,BF,BD]
 exact key n Qo Qa hd (by omega)
theorem QSx:LO GW Qql QDQ 0:=QN (s:=Qia) fun x y h _ q=>by simp only [QJ,QK] at q;exact (QSt x.2.2.2.1 x.2.2.2.2.1 x.2.2.2.2.2.1 x.2.2.2.2.2.2.1 y.1 y.2.2.2.2.2.2.1 y.2.2.2.2.2.2.2.1 y.2.2.2.2.2.2.2.2.1 y.2.2.2.2.2.2.2.2.2.1 h).trans q
theorem QSy:LO GW Qqm QDR 1:=QN (s:=Qib) fun x y h _ q=>by simp only [QJ,QK] at q;exact (QSu x.2.2.2.1 x.2.2.2.2.1 x.2.2.2.2.2.1 x.2.2.2.2.2.2.1 x.2.2.2.2.2.2.2.1 x.2.2.2.2.2.2.2.2.1 y.1 y.2.2.2.2.2.2.1 y.2.2.2.2.2.2.2.1 y.2.2.2.2.2.2.2.2.1 y.2.2.2.2.2.2.2.2.2.1 h).trans q
theorem QSz:LO GW Qqn QDS 2:=QN (s:=Qic) fun x y h _ q=>by simp only [QJ,QK] at q;exact (QSv x.2.2.2.1 x.2.2.2.2.1 x.2.2.2.2.2.1 y.1 y.2.2.2.2.2.2.1 y.2.2.2.2.2.2.2.1 y.2.2.2.2.2.2.2.2.1 y.2.2.2.2.2.2.2.2.2.1 h).trans q
theorem QSA:LO GW Qqo QDT 3:=QN (s:=Qid) fun x y h _ q=>by simp only [QJ,QK] at q;exact (QSw x.2.2.2.1 y.1 y.2.1.2.1 y.2.2.2.2.2.2.1 y.2.2.2.2.2.2.2.2.1 y.2.2.2.2.2.2.2.2.2.1 h).trans q
set_option maxRecDepth 100000 in
theorem s_f17 (d:Qd)(h:dOk d=true):r_f17 d=some (.t QF (JD d),[.box (.t QM (Yg d))]):=by
 have hv:=JA (d:=d) (n:=2) (by omega)
 have e:Qk .i64 2 (Ql d 2)=2+Ql d 2:=JK (by omega)
 have c1:QL d 2=true:=ZA h (by omega)
 have hn:=Vf d
 have hd:=QG (n:=2) h
 have hz:=Qqi (J2 d) 0 (Qg d 2) hd
 have hy:=Qqj (J2 d).length (J2 d).length 0 [] _ hz (B2 _)
 have hy1:dOk (ZI d).2=true:=hy.1
 have hv3:=JA (d:=(ZI d).2) (n:=3) (by omega)
 simp only [r_f17,show lsl UJ 0 (Qk .i64 2 (Ql d 2))=J2 d from rfl,BO,Bt,Bx,Int.sub_zero,show (Qc (J2 d)).toNat=(J2 d).length by simp only [Qc];omega]
 simp only [show edY (J2 d).length (J2 d).length 0 [] (Yt (J2 d) 0 (Qg d 2)).2=ZI d from rfl]
 refine brY c1 (brY (Bd (by rw [e];refine ⟨by omega,by omega, ?_, ?_⟩<;>simp<;>omega)) (brY ?_ (brY ?_ ?_)))
 ·rw [Jy (by omega),hd,hn.2.2]
  rfl
 ·rw [hz]
  exact Bd (by simp only [Qc,Bw];omega)
 ·have c2:QL (ZI d).2 3=true:=ZA hy1 (by omega)
  have c3:(dOk (Qg (ZI d).2 3)&&decide (0<=Ql (ZI d).2 3/\Ql (ZI d).2 3<=3/\([]:List Qs).length+(Ql (ZI d).2 3).toNat<=100))=true:=by
   rw [QG hy1,Bd (by simp only [Bw];omega)]
   rfl
  cases hq:ieq (Qc (ZI d).1) 0 with
  |true=>
   rw [Qe]
   refine brY c2 (brY c3 ?_)
   unfold JD EY
   rw [hq]
   rfl
  |false=>
   rw [Qi]
   refine brY c2 (brY c3 ?_)
   unfold JD EY
   rw [hq]
   rfl
def QD1:Ent:=Y8 QM .nil (fun d x=>(dOk d)) (fun d x=>(.t QF (JD d))) (fun d x=>(Yg d))
theorem ms_f17:EM 17 QD1:=mS (lk:=lkL (lkc QSx (lkc QSz (lkc QSy (lkc QSA lkn))))) GW Qcj [((.c 2 true 3),some QF)] false (Zz _ (gA (gD WI (gD QII (gD QAs (gD GM (gD Qbq (gD QI1 (gD ms_f48 gN))))))))) fun m=>X6 m rfl fun d x hok=>kT (s_f17 d hok)
end
end Go.Proofs.YtckcgijklnloiaaGreat.K
noncomputable section
namespace Go.Proofs.YtckcgijklnloiaaGreat.K.PE
open Go.RowKit
noncomputable section
abbrev Gh:List ByteArray:=[(ByteArray.mk #[97,112,112]),(ByteArray.mk #[100,98]),(ByteArray.mk #[109,97,105,108]),(ByteArray.mk #[119,101,98])]
def mkZ:List ByteArray->Qd->List Endpoint×Qd
 | [],d=>([],d)
 |s::r,d=>(epV d s::(mkZ r (epN d s)).1,(mkZ r (epN d s)).2)
def edM:Nat->Int->Int->List Qb->Qd->List Qb×Qd
 |0,_,_,l,d=>(l,d)
 |m+1,i,k,l,d=>bif ine i k then (bif ieq (Ql d 3) 0 then edM m i (k+1) (l++[(i,(k,()))]) (Qg d 3) else edM m i (k+1) l (Qg d 3)) else edM m i (k+1) l d
def edN:Nat->Nat->Int->List Qb->Qd->List Qb×Qd
 |0,_,_,l,d=>(l,d)
 |m+1,n,i,l,d=>edN m n (i+1) (edM n i 0 l d).1 (edM n i 0 l d).2
def JN (d:Qd):List ByteArray:=lsl Gh 0 (Qk .i64 2 (Ql d 3))
def YW (d:Qd):List Qb×Qd:=edN (JN d).length (JN d).length 0 [] (mkZ (JN d) (Qg d 3)).2
def Es (d:Qd):List Qs×Qd:=itZ (Ql (YW d).2 3).toNat (Qg (YW d).2 3)
def mkX (d:Qd):Estate:=((mkZ (JN d) (Qg d 3)).1,((YW d).1,((Es d).1,())))
def mkXN (d:Qd):Qd:=(Es d).2
theorem QoU: ∀ (l:List ByteArray) (d:Qd),dOk d=true->dOk (mkZ l d).2=true
 | [],_,h=>h
 |s::r,d,h=>QoU r (epN d s) (Que h)
theorem OT: ∀ (m:Nat) (i k:Int) (l:List Qb) (d:Qd),dOk d=true->dOk (edM m i k l d).2=true/\(edM m i k l d).1.length<=l.length+m
 |0,_,_,_,_,h=>⟨h,BS _⟩
 |m+1,i,k,l,d,h=>by
  unfold edM
  cases ine i k with
  |false=>
   have:=OT m i (k+1) l d h
   exact ⟨this.1,by have:=this.2;simp only [BM];omega⟩
  |true=>
   cases ieq (Ql d 3) 0 with
   |false=>
    have:=OT m i (k+1) l (Qg d 3) (QG h)
    exact ⟨this.1,by have:=this.2;simp only [BZ,BM];omega⟩
   |true=>
    have:=OT m i (k+1) (l++[(i,(k,()))]) (Qg d 3) (QG h)
    simp only [Bj,Bh] at this
    exact ⟨this.1,by have:=this.2;simp only [BZ];omega⟩
theorem QA5: ∀ (m n:Nat) (i:Int) (l:List Qb) (d:Qd),dOk d=true->dOk (edN m n i l d).2=true
 |0,_,_,_,_,h=>h
 |m+1,n,i,l,d,h=>QA5 m n (i+1) _ _ (OT n i 0 l d h).1
theorem QoV (d:Qd):JN d=Gh.take 2∨JN d=Gh.take 3∨JN d=Gh:=by
 have hv:=JA (d:=d) (n:=3) (by omega)
 have e:Qk .i64 2 (Ql d 3)=2+Ql d 3:=JK (by omega)
 unfold JN
 rw [e]
 rcases (show Ql d 3=0∨Ql d 3=1∨Ql d 3=2 by omega) with h|h|h<;>rw [h]
 ·exact .inl rfl
 ·exact .inr (.inl rfl)
 ·exact .inr (.inr rfl)
theorem QoW (d:Qd):2<=(JN d).length/\(JN d).length<=4/\(JN d).all nm1=true:=by
 rcases QoV d with h|h|h<;>rw [h]<;>exact ⟨by decide,by decide,by decide⟩
abbrev QgX:Sh:=⟨[(0,.ptr 50000 0),(2,.ptr 2 0),(3,.ptr 3 0),(4,.ty (.sl .str)),(5,.ty tI)],[(2,.box QF),(3,.bag [.ms 20300,.ms 20301,.ms 20302]),(29,.no),(57,.no),(73,.no),(20300,.arr 49 Qj),(20301,.arr 46 Qh),(20302,.arr 79 Jm),(50000,.box QM)]⟩
abbrev QQm:Sh:=⟨[(0,.ptr 50000 0),(2,.ptr 2 0),(3,.ptr 3 0),(4,.ty (.sl .str))],[(2,.box QF),(3,.bag [.ms 20300,.ms 20301,.ms 20302]),(29,.no),(57,.no),(73,.no),(20300,.arr 49 Qj),(20301,.arr 46 Qh),(20302,.arr 79 Jm),(50000,.box QM)]⟩
abbrev QgY:Sh:=⟨[(0,.ptr 50000 0),(2,.ptr 2 0),(3,.ptr 3 0),(4,.ty (.sl .str)),(6,.ty tI),(7,.ty tI)],[(2,.box QF),(3,.bag [.ms 20300,.ms 20301,.ms 20302]),(29,.no),(57,.no),(73,.no),(20300,.arr 49 Qj),(20301,.arr 46 Qh),(20302,.arr 79 Jm),(50000,.box QM)]⟩
abbrev QgZ:Sh:=⟨[(0,.ptr 50000 0),(2,.ptr 2 0),(3,.ptr 3 0),(4,.ty (.sl .str)),(6,.ty tI)],[(2,.box QF),(3,.bag [.ms 20300,.ms 20301,.ms 20302]),(29,.no),(57,.no),(73,.no),(20300,.arr 49 Qj),(20301,.arr 46 Qh),(20302,.arr 79 Jm),(50000,.box QM)]⟩
abbrev QQn:Sh:=⟨[(0,.ptr 50000 0),(2,.ptr 2 0),(3,.ptr 3 0)],[(2,.box QF),(3,.bag [.ms 20300,.ms 20301,.ms 20302]),(29,.no),(57,.no),(73,.no),(20300,.arr 49 Qj),(20301,.arr 46 Qh),(20302,.arr 79 Jm),(50000,.box QM)]⟩
abbrev Qg0:Sh:=⟨[(0,.ptr 50000 0),(2,.ptr 2 0),(3,.ptr 3 0),(8,.ty tI)],[(2,.box QF),(3,.bag [.ms 20300,.ms 20301,.ms 20302]),(29,.no),(57,.no),(73,.no),(20300,.arr 49 Qj),(20301,.arr 46 Qh),(20302,.arr 79 Jm),(50000,.box QM)]⟩
abbrev QQo:Sh:=⟨[(2,.ptr 2 0),(3,.ptr 3 0)],[(2,.box QF),(3,.bag [.ms 20300,.ms 20301,.ms 20302]),(29,.no),(57,.no),(73,.no),(20300,.arr 49 Qj),(20301,.arr 46 Qh),(20302,.arr 79 Jm),(50000,.box QM)]⟩
def QoX:Fg:=QgX.f
def QoY:Fg:=QgY.f
def QoZ:Fg:=QgZ.f
def Qo0:Fg:=Qg0.f
def QbL:TC:=aF Tryz.f11 [(122,.nf 3 2 79 20302),(122,.nf 3 1 46 20301),(122,.nf 3 0 49 20300),(122,pL 0 QoX),(1955,.fg ⟨[(0,none),(2,none),(3,none),(4,some (.sl .str))],[(2,some QF),(3,some QF),(29,none),(57,none),(73,none),(20300,none),(20301,none),(20302,none),(50000,some QM)]⟩),(1956,pD [(0,[3,29,57,73,20300,20301,20302]),(1,[3,29,57,73,20300,20301,20302]),(2,[50000]),(3,[]),(4,[]),(5,[]),(6,[]),(7,[27,5027,10027,15027,50000]),(8,[]),(9,[2,3,29,57,73,5029,10029,15029,20300,20301,20302]),(10,[3,29,57,73,20300,20301,20302]),(11,[2,3,29,57,73,20300,20301,20302])] (.of [0,1,2,3,4,5,6,7,8,9,10,11])),(250,.nf 3 2 79 20302),(250,.nf 3 0 49 20300),(250,.nf 3 1 46 20301),(250,pL 2 QoZ),(4003,.fg ⟨[(0,none),(2,none),(3,none)],[(2,some QF),(3,some QF),(29,none),(57,none),(73,none),(20300,none),(20301,none),(20302,none),(50000,some QM)]⟩),(16018,.nf 3 2 79 20302),(16018,.nf 3 0 49 20300),(16018,.nf 3 1 46 20301),(16018,pL 1 QoY),(256291,.fg ⟨[(0,none),(2,none),(3,none),(4,some (.sl .str)),(6,some tI)],[(2,some QF),(3,some QF),(29,none),(57,none),(73,none),(20300,none),(20301,none),(20302,none),(50000,some QM)]⟩),(506,.nf 3 1 46 20301),(506,.nf 3 0 49 20300),(506,.nf 3 2 79 20302),(506,pL 3 Qo0),(8099,.fg ⟨[(2,none),(3,none)],[(2,some QF),(3,some QF),(29,none),(57,none),(73,none),(20300,none),(20301,none),(20302,none),(50000,some QM)]⟩),(8100,pD [(0,[3,29,57,73,20300,20301,20302]),(1,[3,29,57,73,20300,20301,20302]),(2,[50000]),(3,[50000]),(4,[]),(5,[70,5070,10070,15070,50000]),(6,[71,5071,10071,15071,50000]),(7,[]),(8,[2,3,29,57,73,5073,10073,15073,20300,20301,20302]),(9,[3,29,57,73,20300,20301,20302]),(10,[2,3,29,57,73,20300,20301,20302])] (.of [0,1,2,3,4,5,6,7,8,9,10]))]
def QA6:TC:=lb 0 QbL
def QA7:TC:=lb 1 QbL
def QA8:TC:=lb 2 QbL
def QA9:TC:=lb 3 QbL
def QBa (x4:List ByteArray)(x5:Int)(y2:Estate)(Qn:List Endpoint)(Qp:List Qb)(Qo:List Qs)(Qa:Qd):VS:=QgX.st ((),(),(),x4,x5,()) (y2,((),(),(),()),(),(),(),Qn,Qp,Qo,Qa,())
def Qo1 (x4:List ByteArray)(y2:Estate)(Qn:List Endpoint)(Qp:List Qb)(Qo:List Qs)(Qa:Qd):VS:=QQm.st ((),(),(),x4,()) (y2,((),(),(),()),(),(),(),Qn,Qp,Qo,Qa,())
def QBb (x4:List ByteArray)(x6 x7:Int)(y2:Estate)(Qn:List Endpoint)(Qp:List Qb)(Qo:List Qs)(Qa:Qd):VS:=QgY.st ((),(),(),x4,x6,x7,()) (y2,((),(),(),()),(),(),(),Qn,Qp,Qo,Qa,())
def QbM (x4:List ByteArray)(x6:Int)(y2:Estate)(Qn:List Endpoint)(Qp:List Qb)(Qo:List Qs)(Qa:Qd):VS:=QgZ.st ((),(),(),x4,x6,()) (y2,((),(),(),()),(),(),(),Qn,Qp,Qo,Qa,())
def Qo2 (y2:Estate)(Qn:List Endpoint)(Qp:List Qb)(Qo:List Qs)(Qa:Qd):VS:=QQn.st ((),(),(),()) (y2,((),(),(),()),(),(),(),Qn,Qp,Qo,Qa,())
def QBc (x8:Int)(y2:Estate)(Qn:List Endpoint)(Qp:List Qb)(Qo:List Qs)(Qa:Qd):VS:=Qg0.st ((),(),(),x8,()) (y2,((),(),(),()),(),(),(),Qn,Qp,Qo,Qa,())
def Qo3 (y2:Estate)(Qn:List Endpoint)(Qp:List Qb)(Qo:List Qs)(Qa:Qd):VS:=QQo.st ((),(),()) (y2,((),(),(),()),(),(),(),Qn,Qp,Qo,Qa,())
def QQp:VS->Option (Bool×List (Bool×Exit×VS)):=mkL QgX (fun x y=>(dOk y.2.2.2.2.2.2.2.2.1&&(decide (0<=x.2.2.2.2.1/\x.2.2.2.2.1<=x.2.2.2.1.length/\x.2.2.2.1.length<=4/\y.2.2.2.2.2.1.length<=x.2.2.2.2.1)&&x.2.2.2.1.all nm1))) (fun x y=>[(true,.exit 0,Qo1 (x.2.2.2.1) (y.1) (y.2.2.2.2.2.1++(mkZ (x.2.2.2.1.drop x.2.2.2.2.1.toNat) y.2.2.2.2.2.2.2.2.1).1) (y.2.2.2.2.2.2.1) (y.2.2.2.2.2.2.2.1) ((mkZ (x.2.2.2.1.drop x.2.2.2.2.1.toNat) y.2.2.2.2.2.2.2.2.1).2))])
def QQq:VS->Option (Bool×List (Bool×Exit×VS)):=mkL QgY (fun x y=>(dOk y.2.2.2.2.2.2.2.2.1&&decide (0<=x.2.2.2.2.2.1/\x.2.2.2.2.2.1<=x.2.2.2.1.length/\x.2.2.2.1.length<=4/\0<=x.2.2.2.2.1/\x.2.2.2.2.1<=4/\y.2.2.2.2.2.2.1.length<=4*x.2.2.2.2.1+x.2.2.2.2.2.1))) (fun x y=>[(true,.exit 4,QbM (x.2.2.2.1) (x.2.2.2.2.1) (y.1) (y.2.2.2.2.2.1) ((edM (x.2.2.2.1.length-x.2.2.2.2.2.1).toNat x.2.2.2.2.1 x.2.2.2.2.2.1 y.2.2.2.2.2.2.1 y.2.2.2.2.2.2.2.2.1).1) (y.2.2.2.2.2.2.2.1) ((edM (x.2.2.2.1.length-x.2.2.2.2.2.1).toNat x.2.2.2.2.1 x.2.2.2.2.2.1 y.2.2.2.2.2.2.1 y.2.2.2.2.2.2.2.2.1).2))])
def QQr:VS->Option (Bool×List (Bool×Exit×VS)):=mkL QgZ (fun x y=>(dOk y.2.2.2.2.2.2.2.2.1&&decide (0<=x.2.2.2.2.1/\x.2.2.2.2.1<=x.2.2.2.1.length/\x.2.2.2.1.length<=4/\y.2.2.2.2.2.2.1.length<=4*x.2.2.2.2.1))) (fun x y=>[(true,.exit 2,Qo2 (y.1) (y.2.2.2.2.2.1) ((edN (x.2.2.2.1.length-x.2.2.2.2.1).toNat x.2.2.2.1.length x.2.2.2.2.1 y.2.2.2.2.2.2.1 y.2.2.2.2.2.2.2.2.1).1) (y.2.2.2.2.2.2.2.1) ((edN (x.2.2.2.1.length-x.2.2.2.2.1).toNat x.2.2.2.1.length x.2.2.2.2.1 y.2.2.2.2.2.2.1 y.2.2.2.2.2.2.2.2.1).2))])
def QQs:VS->Option (Bool×List (Bool×Exit×VS)):=mkL Qg0 (fun x y=>(dOk y.2.2.2.2.2.2.2.2.1&&decide (0<=x.2.2.2.1/\x.2.2.2.1<=3/\y.2.2.2.2.2.2.2.1.length+x.2.2.2.1.toNat<=100))) (fun x y=>[(true,.exit 6,Qo3 (y.1) (y.2.2.2.2.2.1) (y.2.2.2.2.2.2.1) (y.2.2.2.2.2.2.2.1++(itZ x.2.2.2.1.toNat y.2.2.2.2.2.2.2.2.1).1) ((itZ x.2.2.2.1.toNat y.2.2.2.2.2.2.2.2.1).2))])
def GR:G:=gG 76 [(35,Wj),(36,Qkj),(37,Qto),(38,Qoz)] (Ls [QQp,QQq,QQr,QQs])
def Qg1 (x4:List ByteArray)(x5:Int)(y2:Estate)(Qn:List Endpoint)(Qp:List Qb)(Qo:List Qs)(Qa:Qd):OX:=QB (QD GR QoX QA6) (QBa x4 x5 y2 Qn Qp Qo Qa)
def QbN (kk:List ByteArray->Int->Estate->List Endpoint->List Qb->List Qs->Qd->OX)(x4:List ByteArray)(x5:Int)(y2:Estate)(Qn:List Endpoint)(Qp:List Qb)(Qo:List Qs)(Qa:Qd):OX:=
 let a3:=lgt .str x4 (Int.toNat x5)
 let a1:=epV Qa a3
 let a2:=((a1.2).1,(((a1.2).2).1,((((a1.2).2).2).1,(((((a1.2).2).2).2).1,((((((a1.2).2).2).2).2).1,(((((((a1.2).2).2).2).2).2).1,((((((((a1.2).2).2).2).2).2).2).1,(((((((((a1.2).2).2).2).2).2).2).2).1,()))))))))
 br (ilt x5 (Qc x4)) (br (cIx x4 x5) (br (Ea Qa a3) (br (Qr Qn ([(a1.1,a2)]) 144) (kk x4 (Qk .i64 x5 1) y2 (Qn++([(a1.1,a2)])) Qp Qo (epN Qa a3)) none) none) none) (some (.exit 0,Qo1 x4 y2 Qn Qp Qo Qa))
def Qg2 (x4:List ByteArray)(x5:Int)(y2:Estate)(Qn:List Endpoint)(Qp:List Qb)(Qo:List Qs)(Qa:Qd):OX:=
 let a1:=mkZ (x4.drop x5.toNat) Qa
 some (.exit 0,Qo1 (x4) (y2) (Qn++a1.1) (Qp) (Qo) (a1.2))
theorem QBd (x4:List ByteArray)(x5:Int)(y2:Estate)(Qn:List Endpoint)(Qp:List Qb)(Qo:List Qs)(Qa:Qd):Qg1 x4 x5 y2 Qn Qp Qo Qa=QbN Qg1 x4 x5 y2 Qn Qp Qo Qa:=lnT (x:=QbN (fun x4 x5 y2 Qn Qp Qo Qa=>some (.normal,QBa x4 x5 y2 Qn Qp Qo Qa)) x4 x5 y2 Qn Qp Qo Qa) (by simp only [QbN,nxA];rfl)
def Qg3 (x4:List ByteArray)(x6 x7:Int)(y2:Estate)(Qn:List Endpoint)(Qp:List Qb)(Qo:List Qs)(Qa:Qd):OX:=QB (QD GR QoY QA7) (QBb x4 x6 x7 y2 Qn Qp Qo Qa)
def QbO (kk:List ByteArray->Int->Int->Estate->List Endpoint->List Qb->List Qs->Qd->OX)(x4:List ByteArray)(x6 x7:Int)(y2:Estate)(Qn:List Endpoint)(Qp:List Qb)(Qo:List Qs)(Qa:Qd):OX:=
 let a1:=Qk .i64 x7 1
 br (ilt x7 (Qc x4)) (br (ine x6 x7) (br (QL Qa 3) (br (ieq (Ql Qa 3) 0) (br (Qr Qp ([(x6,(x7,()))]) 16) (kk x4 x6 a1 y2 Qn (Qp++([(x6,(x7,()))])) Qo (Qg Qa 3)) none) (kk x4 x6 a1 y2 Qn Qp Qo (Qg Qa 3))) none) (kk x4 x6 a1 y2 Qn Qp Qo Qa)) (some (.exit 4,QbM x4 x6 y2 Qn Qp Qo Qa))
def Qg4 (x4:List ByteArray)(x6 x7:Int)(y2:Estate)(Qn:List Endpoint)(Qp:List Qb)(Qo:List Qs)(Qa:Qd):OX:=
 let a1:=edM (x4.length-x7).toNat x6 x7 Qp Qa
 some (.exit 4,QbM (x4) (x6) (y2) (Qn) (a1.1) (Qo) (a1.2))
theorem QBe (x4:List ByteArray)(x6 x7:Int)(y2:Estate)(Qn:List Endpoint)(Qp:List Qb)(Qo:List Qs)(Qa:Qd):Qg3 x4 x6 x7 y2 Qn Qp Qo Qa=QbO Qg3 x4 x6 x7 y2 Qn Qp Qo Qa:=lnT (x:=QbO (fun x4 x6 x7 y2 Qn Qp Qo Qa=>some (.normal,QBb x4 x6 x7 y2 Qn Qp Qo Qa)) x4 x6 x7 y2 Qn Qp Qo Qa) (by simp only [QbO,nxA];rfl)
def Qg5 (x4:List ByteArray)(x6:Int)(y2:Estate)(Qn:List Endpoint)(Qp:List Qb)(Qo:List Qs)(Qa:Qd):OX:=QB (QD GR QoZ QA8) (QbM x4 x6 y2 Qn Qp Qo Qa)
def QbP (kk:List ByteArray->Int->Estate->List Endpoint->List Qb->List Qs->Qd->OX)(x4:List ByteArray)(x6:Int)(y2:Estate)(Qn:List Endpoint)(Qp:List Qb)(Qo:List Qs)(Qa:Qd):OX:=
 let a1:=(edM (x4.length-(0:Int)).toNat x6 (0:Int) Qp Qa)
 br (ilt x6 (Qc x4)) (br (dOk Qa&&decide (0<=(0:Int)/\(0:Int)<=x4.length/\x4.length<=4/\0<=x6/\x6<=4/\Qp.length<=4*x6+(0:Int))) (kk (x4) (Qk .i64 (x6) 1) (y2) (Qn) (a1.1) (Qo) (a1.2)) none) (some (.exit 2,Qo2 y2 Qn Qp Qo Qa))
def Qg6 (x4:List ByteArray)(x6:Int)(y2:Estate)(Qn:List Endpoint)(Qp:List Qb)(Qo:List Qs)(Qa:Qd):OX:=
 let a1:=edN (x4.length-x6).toNat x4.length x6 Qp Qa
 some (.exit 2,Qo2 (y2) (Qn) (a1.1) (Qo) (a1.2))
theorem QBf (x4:List ByteArray)(x6:Int)(y2:Estate)(Qn:List Endpoint)(Qp:List Qb)(Qo:List Qs)(Qa:Qd):Qg5 x4 x6 y2 Qn Qp Qo Qa=QbP Qg5 x4 x6 y2 Qn Qp Qo Qa:=lnT (x:=QbP (fun x4 x6 y2 Qn Qp Qo Qa=>some (.normal,QbM x4 x6 y2 Qn Qp Qo Qa)) x4 x6 y2 Qn Qp Qo Qa) (by simp only [QbP,nxA];rfl)
def Qg7 (x8:Int)(y2:Estate)(Qn:List Endpoint)(Qp:List Qb)(Qo:List Qs)(Qa:Qd):OX:=QB (QD GR Qo0 QA9) (QBc x8 y2 Qn Qp Qo Qa)
def QbQ (kk:Int->Estate->List Endpoint->List Qb->List Qs->Qd->OX)(x8:Int)(y2:Estate)(Qn:List Endpoint)(Qp:List Qb)(Qo:List Qs)(Qa:Qd):OX:=
 let a2:=(ByteArray.mk #[98,97,99,107,117,112])
 let a3:=(ByteArray.mk #[100,101,101,100])
 let a5:=(UE Qa ([a2,a3]))
 let a6:=(YV Qa ([a2,a3]))
 let a1:=VQ a5 a6
 let a4:=((a1.2).1,(((a1.2).2).1,((((a1.2).2).2).1,(((((a1.2).2).2).2).1,()))))
 br (igt x8 0) (br (GO Qa ([a2,a3])) (br (VR a5 a6) (br (Qr Qo ([(a1.1,a4)]) 64) (kk (QT .i64 x8 1) y2 Qn Qp (Qo++([(a1.1,a4)])) (Ed a5 a6)) none) none) none) (some (.exit 6,Qo3 y2 Qn Qp Qo Qa))
def Qg8 (x8:Int)(y2:Estate)(Qn:List Endpoint)(Qp:List Qb)(Qo:List Qs)(Qa:Qd):OX:=some (.exit 6,Qo3 (y2) (Qn) (Qp) (Qo++(itZ x8.toNat Qa).1) ((itZ x8.toNat Qa).2))
theorem QBg (x8:Int)(y2:Estate)(Qn:List Endpoint)(Qp:List Qb)(Qo:List Qs)(Qa:Qd):Qg7 x8 y2 Qn Qp Qo Qa=QbQ Qg7 x8 y2 Qn Qp Qo Qa:=lnT (x:=QbQ (fun x8 y2 Qn Qp Qo Qa=>some (.normal,QBc x8 y2 Qn Qp Qo Qa)) x8 y2 Qn Qp Qo Qa) (by simp only [QbQ,nxA];rfl)
def r_f11 (d0:Qd):OV:=
 let a7:=(ByteArray.mk #[97,112,112])
 let a9:=(ByteArray.mk #[100,98])
 let a5:=(ByteArray.mk #[109,97,105,108])
 let a8:=(ByteArray.mk #[119,101,98])
 let a1:=(lsl ([a7,a9,a5,a8]) 0 (Qk .i64 2 (Ql d0 3)))
 let a4:=(mkZ (a1.drop (0:Int).toNat) (Qg d0 3))
 let a2:=(edN (a1.length-(0:Int)).toNat a1.length (0:Int) ([]:List Qb) (a4.2))
 let a3:=Ql (a2.2) 3
 let a6:=itZ a3.toNat (Qg (a2.2) 3)
 br (QL d0 3) (br (cSl ([a7,a9,a5,a8]) 0 (Qk .i64 2 (Ql d0 3)) ((List.length ([a7,a9,a5,a8]):Nat):Int)) (br (dOk (Qg d0 3)&&(decide (0<=(0:Int)/\(0:Int)<=a1.length/\a1.length<=4/\([]:List Endpoint).length<=(0:Int))&&a1.all nm1)) (br (dOk (a4.2)&&decide (0<=(0:Int)/\(0:Int)<=a1.length/\a1.length<=4/\([]:List Qb).length<=4*(0:Int))) (br (QL (a2.2) 3) (br (dOk (Qg (a2.2) 3)&&decide (0<=a3/\a3<=3/\([]:List Qs).length+a3.toNat<=100)) (some (.t QF ((([]:List Endpoint)++a4.1),((a2.1),((([]:List Qs)++a6.1),()))),[.box (.t QM (a6.2))])) none) none) none) none) none) none
theorem QQt (x4:List ByteArray)(x5:Int)(y2:Estate)(Qn:List Endpoint)(Qp:List Qb)(Qo:List Qs)(Qa:Qd)(h:(dOk Qa&&(decide (0<=x5/\x5<=x4.length/\x4.length<=4/\Qn.length<=x5)&&x4.all nm1))=true):Qg1 x4 x5 y2 Qn Qp Qo Qa=Qg2 x4 x5 y2 Qn Qp Qo Qa:=by
 simp only [Bc,Ba] at h
 obtain ⟨hd,⟨h0,h1,h2,hl⟩,ha⟩:=h
 obtain ⟨k,rfl⟩:=Bm h0
 clear h0
 revert Qn Qa
 refine QW x4 (fun k=> ∀ (Qn:List Endpoint) (Qa:Qd),dOk Qa=true->(Qn.length:Int)<=(k:Int)->Qg1 x4 (k:Int) y2 Qn Qp Qo Qa=Qg2 x4 (k:Int) y2 Qn Qp Qo Qa) ?_ ?_ k (by omega)
 ·intro Qn Qa _ _
  rw [QBd]
  simp only [QbN,Qg2,Qc,QC,BI,BQ,Qi,Bb,BE,mkZ,BG]
 ·intro k hk ih Qn Qa hd hl
  rw [QBd]
  have c1:Ea Qa x4[k]=true:=Bf.2 ⟨hd,Bg.1 ha _ (BA hk)⟩
  simp only [QbN,Qc,QC,QS,hk,Bu,Qe,Bb,QU (show k<4611686018427387904 by omega),QX (y:= .str) hk,c1]
  refine brY (Q7 (by omega) (by simp only [Bh];omega)) ?_
  refine Eq.trans (ih (Qn++[epV Qa x4[k]]) (epN Qa x4[k]) (Que hd) (by simp only [Bj,Bh];omega)) ?_
  simp only [Qg2,Bb,Bi hk,mkZ,BF,BD]
theorem QQu (x4:List ByteArray)(x6 x7:Int)(y2:Estate)(Qn:List Endpoint)(Qp:List Qb)(Qo:List Qs)(Qa:Qd)(h:(dOk Qa&&decide (0<=x7/\x7<=x4.length/\x4.length<=4/\0<=x6/\x6<=4/\Qp.length<=4*x6+x7))=true):Qg3 x4 x6 x7 y2 Qn Qp Qo Qa=Qg4 x4 x6 x7 y2 Qn Qp Qo Qa:=by
 simp only [Bc,Ba] at h
 obtain ⟨hd,h0,h1,h2,h3,h4,hl⟩:=h
 have key: ∀ (m:Nat) (x7:Int) (Qp:List Qb) (Qa:Qd),x7+m=x4.length->0<=x7->dOk Qa=true->(Qp.length:Int)<=4*x6+x7->Qg3 x4 x6 x7 y2 Qn Qp Qo Qa=Qg4 x4 x6 x7 y2 Qn Qp Qo Qa:=by
  intro m
  induction m with
  |zero=>
   intro x7 Qp Qa e _ _ _
   rw [QBe]
   have e1:x7=(x4.length:Int):=by omega
   subst e1
   simp only [QbO,Qg4,Qc,QC,BI,BQ,Qi,Int.sub_self,Bt,edM]
  |succ m ih=>
   intro x7 Qp Qa e h0 hd hl
   rw [QBe]
   have c1:QL Qa 3=true:=ZA hd (by omega)
   have c2:Qr Qp [(x6,(x7,()))] 16=true:=Q7 (by omega) (by simp only [Bh];omega)
   have e1:Qk .i64 x7 1=x7+1:=JK (by omega)
   have e2:((x4.length:Int)-x7).toNat=m+1:=by omega
   have e3:((x4.length:Int)-(x7+1)).toNat=m:=by omega
   simp only [QbO,show ilt x7 (Qc x4)=true from Bd (by simp only [Qc];omega),Qe,c1,c2,e1]
   rw [ih (x7+1) Qp Qa (by omega) (by omega) hd (by omega),ih (x7+1) Qp (Qg Qa 3) (by omega) (by omega) (QG hd) (by omega),ih (x7+1) (Qp++[(x6,(x7,()))]) (Qg Qa 3) (by omega) (by omega) (QG hd) (by simp only [Bj,Bh];omega)]
   simp only [Qg4,e2,e3,edM]
   cases ine x6 x7<;>cases ieq (Ql Qa 3) 0<;>rfl
 exact key ((x4.length:Int)-x7).toNat x7 Qp Qa (by omega) h0 hd hl
theorem QQv (x4:List ByteArray)(x6:Int)(y2:Estate)(Qn:List Endpoint)(Qp:List Qb)(Qo:List Qs)(Qa:Qd)(h:(dOk Qa&&decide (0<=x6/\x6<=x4.length/\x4.length<=4/\Qp.length<=4*x6))=true):Qg5 x4 x6 y2 Qn Qp Qo Qa=Qg6 x4 x6 y2 Qn Qp Qo Qa:=by
 simp only [Bc,Ba] at h
 obtain ⟨hd,h0,h1,h2,hl⟩:=h
 have key: ∀ (m:Nat) (x6:Int) (Qp:List Qb) (Qa:Qd),x6+m=x4.length->0<=x6->dOk Qa=true->(Qp.length:Int)<=4*x6->Qg5 x4 x6 y2 Qn Qp Qo Qa=Qg6 x4 x6 y2 Qn Qp Qo Qa:=by
  intro m
  induction m with
  |zero=>
   intro x6 Qp Qa e _ _ _
   rw [QBf]
   have e1:x6=(x4.length:Int):=by omega
   subst e1
   simp only [QbP,Qg6,Qc,QC,BI,BQ,Qi,Int.sub_self,Bt,edN]
  |succ m ih=>
   intro x6 Qp Qa e h0 hd hl
   rw [QBf]
   have e1:Qk .i64 x6 1=x6+1:=JK (by omega)
   have e2:((x4.length:Int)-x6).toNat=m+1:=by omega
   have e3:((x4.length:Int)-(x6+1)).toNat=m:=by omega
   have e4:((x4.length:Int)-0).toNat=x4.length:=by omega
   have hz:=OT x4.length x6 0 Qp Qa hd
   simp only [QbP,show ilt x6 (Qc x4)=true from Bd (by simp only [Qc];omega),Qe,e1,e4,hd,BB]
   refine brY (Bd (by omega)) ?_
   rw [ih (x6+1) _ _ (by omega) (by omega) hz.1 (by omega)]
   simp only [Qg6,e2,e3,edN]
 exact key ((x4.length:Int)-x6).toNat x6 Qp Qa (by omega) h0 hd hl
theorem QQw (x8:Int)(y2:Estate)(Qn:List Endpoint)(Qp:List Qb)(Qo:List Qs)(Qa:Qd)(h:(dOk Qa&&decide (0<=x8/\x8<=3/\Qo.length+x8.toNat<=100))=true):Qg7 x8 y2 Qn Qp Qo Qa=Qg8 x8 y2 Qn Qp Qo Qa:=by
 simp only [Bc,Ba] at h
 obtain ⟨hd,h0,h1,hl⟩:=h
 obtain ⟨n,rfl⟩:=Bm h0
 rw [Bb] at hl
 have key: ∀ (n:Nat) (Qo:List Qs) (Qa:Qd),dOk Qa=true->Qo.length+n<=100->Qg7 (n:Int) y2 Qn Qp Qo Qa=Qg8 (n:Int) y2 Qn Qp Qo Qa:=by
  intro n
  induction n with
  |zero=>
   intro Qo Qa _ _
   rw [QBg]
   simp only [QbQ,Qg8,show igt ((0:Nat):Int) 0=false from rfl,Qi,Bb,itZ,BG]
  |succ n ih=>
   intro Qo Qa hd hl
   rw [QBg]
   have e2:QT .i64 ((n+1:Nat):Int) 1=(n:Int):=(Zu (by omega)).trans (by omega)
   have c1:GO Qa sIt=true:=by simp [GO,hd]
   have c2:VR (UE Qa sIt) (YV Qa sIt)=true:=Qci hd
   have c3: ∀ v,Qr Qo [v] 64=true:=fun v=>Q7 (by omega) (by simp only [Bh];omega)
   simp only [QbQ,show igt ((n+1:Nat):Int) 0=true from Bd (by omega),Qe,e2,c1,c2,c3]
   refine Eq.trans (ih _ _ (Qti (s:=YV Qa sIt) (Qci hd)) (by simp only [Bj,Bh];omega)) ?_
   simp only [Qg8,Bb,itZ,BF,BD]
 exact key n Qo Qa hd (by omega)
theorem QQx:LO GR QoX QA6 0:=QN (s:=QgX) fun x y h _ q=>by simp only [QJ,QK] at q;exact (QQt x.2.2.2.1 x.2.2.2.2.1 y.1 y.2.2.2.2.2.1 y.2.2.2.2.2.2.1 y.2.2.2.2.2.2.2.1 y.2.2.2.2.2.2.2.2.1 h).trans q
theorem QQy:LO GR QoY QA7 1:=QN (s:=QgY) fun x y h _ q=>by simp only [QJ,QK] at q;exact (QQu x.2.2.2.1 x.2.2.2.2.1 x.2.2.2.2.2.1 y.1 y.2.2.2.2.2.1 y.2.2.2.2.2.2.1 y.2.2.2.2.2.2.2.1 y.2.2.2.2.2.2.2.2.1 h).trans q
theorem QQz:LO GR QoZ QA8 2:=QN (s:=QgZ) fun x y h _ q=>by simp only [QJ,QK] at q;exact (QQv x.2.2.2.1 x.2.2.2.2.1 y.1 y.2.2.2.2.2.1 y.2.2.2.2.2.2.1 y.2.2.2.2.2.2.2.1 y.2.2.2.2.2.2.2.2.1 h).trans q
theorem QQA:LO GR Qo0 QA9 3:=QN (s:=Qg0) fun x y h _ q=>by simp only [QJ,QK] at q;exact (QQw x.2.2.2.1 y.1 y.2.2.2.2.2.1 y.2.2.2.2.2.2.1 y.2.2.2.2.2.2.2.1 y.2.2.2.2.2.2.2.2.1 h).trans q
set_option maxRecDepth 100000 in
theorem s_f11 (d:Qd)(h:dOk d=true):r_f11 d=some (.t QF (mkX d),[.box (.t QM (mkXN d))]):=by
 have hv:=JA (d:=d) (n:=3) (by omega)
 have e:Qk .i64 2 (Ql d 3)=2+Ql d 3:=JK (by omega)
 have c1:QL d 3=true:=ZA h (by omega)
 have hn:=QoW d
 have hd:=QG (n:=3) h
 have hz:=QoU (JN d) (Qg d 3) hd
 have hy1:dOk (YW d).2=true:=QA5 (JN d).length (JN d).length 0 [] _ hz
 have hv3:=JA (d:=(YW d).2) (n:=3) (by omega)
 have e4:(((JN d).length:Int)-0).toNat=(JN d).length:=by omega
 simp only [r_f11,show lsl Gh 0 (Qk .i64 2 (Ql d 3))=JN d from rfl,BO,Bt,Bx,e4]
 simp only [show edN (JN d).length (JN d).length 0 [] (mkZ (JN d) (Qg d 3)).2=YW d from rfl]
 refine brY c1 (brY (Bd (by rw [e];refine ⟨by omega,by omega, ?_, ?_⟩<;>simp<;>omega)) (brY ?_ (brY ?_ (brY (ZA hy1 (by omega)) (brY ?_ rfl)))))
 ·rw [hd,hn.2.2,B8,BB]
  exact Bd (by simp only [Bw];omega)
 ·rw [hz,BB]
  exact Bd (by simp only [Bw];omega)
 ·rw [QG hy1,BB]
  exact Bd (by simp only [Bw];omega)
def QBh:Ent:=Y8 QM .nil (fun d x=>(dOk d)) (fun d x=>(.t QF (mkX d))) (fun d x=>(mkXN d))
theorem ms_f11:EM 11 QBh:=mS (lk:=lkL (lkc QQx (lkc QQz (lkc QQy (lkc QQA lkn))))) GR QbL [((.c 2 true 3),some QF)] false (gB (gD WI (gC QIA QIB (gD QII (gD QAs gN))))) fun m=>X6 m rfl fun d x hok=>kT (s_f11 d hok)
end
end Go.Proofs.YtckcgijklnloiaaGreat.K.PE
noncomputable section
namespace Go.Proofs.YtckcgijklnloiaaGreat.K
open Go.RowKit
abbrev Wy (s:ByteArray)(k:Nat):Qf:=(XN (leafC s Yn (Qk .i64 100 (k:Int)) 901) 1).1
def Qeb (s:ByteArray)(k:Nat):Bool:=
 Jr (Wy s k)&&(Q5 (Wy s k)&&(E2 Yn (Qk .i64 100 (k:Int)) [Wy s k]&&(JI (Qk .i64 100 (k:Int))&&(XG (QO (Wy s k)) s&&(!ZR [Wy s k] 11&&(!ZR [Wy s k] 15&&(!ZR [Wy s k] 10&&(ieq (Xb (Wy s k)).1 1&&(ieq (Wy s k).2.2.2.2.2.2.1 0&&(ieq (Wy s k).2.2.2.2.2.2.2.1 901&&(ieq (Wy s k).2.2.2.2.2.1.1 3&&(XU s&&JB s))))))))))))
set_option maxRecDepth 100000 in
theorem QK4:(UJ.all fun s=>(List.range 3).all fun k=>Qeb s k)=true:=by kernel_rfl
theorem QuQ {s:ByteArray}{k:Nat}(hs:s∈UJ)(hk:k<3):Qeb s k=true:=
 Bg.1 (Bg.1 QK4 s hs) k (Dg.2 hk)
def IE (e:Endpoint):Prop:= ∃ d k s,e=UK d k s/\s∈UJ/\k<3
theorem QK5:J0 Yn 2=true:=by kernel_rfl
theorem QK6 (d:Qd):dof d [3,3,4]=3∨dof d [3,3,4]=4:=by
 have h:=Z0 (d:=d) (l:=[3,3,4]) (by decide)
 simp only [BT,B0,Dn] at h
 omega
def Qlm (l:List Int):Bool:=decide l.Nodup&&l.all fun x=>decide (1<=x/\x<=16)
theorem QK7 {l:List Int}(h:Qlm l=true):Gl l:=by
 simp only [Qlm,Bc,Ba,Bg] at h
 exact h
theorem QK8 (d:Qd):FP d∈[[10,8,2],[8,2],[2,10,8,3],[14,10,8,2],[14,8,2],([14,2,10,8,3]:List Int)]:=by
 have b3:=JA (d:=Qt d [3,3,4]) (n:=3) (by omega)
 unfold FP
 rcases (show Ql (Qt d [3,3,4]) 3=0∨Ql (Qt d [3,3,4]) 3=1∨Ql (Qt d [3,3,4]) 3=2 by omega) with h|h|h<;>rw [h]<;>cases ieq (dof d [3,3,4]) 4<;>decide
theorem Qln {p:List Int->Bool}(h:[[10,8,2],[8,2],[2,10,8,3],[14,10,8,2],[14,8,2],([14,2,10,8,3]:List Int)].all p=true)(d:Qd):p (FP d)=true:=Bg.1 h _ (QK8 d)
theorem Qlo {e:Endpoint}(h:IE e):Q2 e=true:=by
 obtain ⟨d,k,s,rfl,hs,hk⟩:=h
 have hg:=QuQ hs hk
 simp only [Qeb,Bc] at hg
 have hsu:(FP d).length<=5:=Bv (Qln (p:=fun l=>decide (l.length<=5)) (by decide) d)
 have hc:Jf [Wy s k]=true:=by
  simp only [Jf,BV,Dw,hg.1,B8]
  rfl
 unfold Q2
 simp only [Bc,Ba]
 refine ⟨⟨hg.2.2.2.2.2.2.2.2.2.2.2.2.2,⟨?_, ?_, ?_, ?_⟩⟩, ?_⟩
 ·show (FP d).length<=100000
  omega
 ·exact (show 1<=100000 by decide)
 ·exact (show 1<=100000 by decide)
 ·exact (show 2<=100000 by decide)
 ·show (Jz (JE s Yn (Qk .i64 100 (k:Int)) 1 901)&&true)=true
  rw [B8]
  exact hc
theorem QK9 {e:Endpoint}(h:IE e):Q3 e=true:=by
 obtain ⟨d,k,s,rfl,hs,hk⟩:=h
 have hg:=QuQ hs hk
 simp only [Qeb,Bc] at hg
 have hm:=QK6 d
 refine QG3 (e:=UK d k s) hg.2.2.2.2.2.2.2.2.2.2.2.2.1 (B3 _) ?_ ?_ (QK7 (Qln (p:=Qlm) (by decide) d)) (show 1<=4 by decide) ?_ (show Qc4 [1]=true by decide) (show Qc5 [2,3]=true by kernel_rfl)
 ·show (1:Int)<=dof d [3,3,4]
  omega
 ·show dof d [3,3,4]<=4
  omega
 ·show (XH (JE s Yn (Qk .i64 100 (k:Int)) 1 901)&&true)=true
  rw [B8]
  refine Qsj QK5 hg.2.2.2.1 (show 1<=8 by decide) ?_ hg.2.2.1
  show (Q5 (Wy s k)&&true)=true
  rw [hg.2.1]
  rfl
theorem QuR: ∀ (l:List ByteArray) (k:Nat) (d:Qd),(Yt l k d).1.length=l.length
 | [],_,_=>rfl
 |_::r,k,d=>by simp only [Yt,Bp,QuR r (k+1) (GV d)]
theorem QuS: ∀ (l:List ByteArray) (k:Nat) (d:Qd),(∀ s∈l,s∈UJ)->k+l.length<=3→ ∀ e∈(Yt l k d).1,IE e
 | [],_,_,_,_,e,he=>by cases he
 |s::r,k,d,h,hk,e,he=>by
  simp only [Yt,BT] at he
  simp only [Bp] at hk
  rcases he with rfl|he
  ·exact ⟨d,k,s,rfl,h s B7,by omega⟩
  ·exact QuS r (k+1) (GV d) (fun s hs=>h s (BU _ hs)) (by omega) e he
theorem QLa (d:Qd): ∀ s∈J2 d,s∈UJ:=by
 rcases Qqk d with h|h<;>rw [h]
 ·exact fun s hs=>Du hs
 ·exact fun s hs=>hs
theorem Qlp (d:Qd): ∀ e∈QZ (JD d),IE e:=QuS (J2 d) 0 (Qg d 2) (QLa d) (by have:=Vf d;omega)
theorem Qec (d:Qd):(QZ (JD d)).length=(J2 d).length:=QuR _ _ _
theorem snd_up (d:Qd):G3 (QZ (JD d)) 0=true:=by
 have hv: ∀ d k s,s∈UJ->k<3->Q3 (UK d k s)=true:=fun d k s hs hk=>QK9 ⟨d,k,s,rfl,hs,hk⟩
 have q1:slt (ByteArray.mk #[97,112,112]) (ByteArray.mk #[100,98])=true:=by kernel_rfl
 have q2:slt (ByteArray.mk #[100,98]) (ByteArray.mk #[119,101,98])=true:=by kernel_rfl
 show Xp (Yt (J2 d) 0 (Qg d 2)).1 (Yt (J2 d) 0 (Qg d 2)).1 0=true
 rcases Qqk d with h|h<;>rw [h]
 ·show (Q3 (UK _ 0 _)&&true&&(Q3 (UK _ 1 _)&&(false||slt (ByteArray.mk #[97,112,112]) (ByteArray.mk #[100,98]))&&true))=true
  rw [hv _ _ _ (by simp) (by decide),hv _ _ _ (by simp) (by decide),q1]
  rfl
 ·show (Q3 (UK _ 0 _)&&true&&(Q3 (UK _ 1 _)&&(false||slt (ByteArray.mk #[97,112,112]) (ByteArray.mk #[100,98]))&&(Q3 (UK _ 2 _)&&(false||slt (ByteArray.mk #[100,98]) (ByteArray.mk #[119,101,98]))&&true)))=true
  rw [hv _ _ _ (by simp) (by decide),hv _ _ _ (by simp) (by decide),hv _ _ _ (by simp) (by decide),q1,q2]
  rfl
def Qed (a b:Qb):Prop:=a.1<b.1∨(a.1=b.1/\a.2.1<b.2.1)
def edG (n:Int)(l:List Qb)(i k:Int):Prop:=(∀ x∈l,F1 n x=true)/\l.Pairwise Qed∧ ∀ x∈l,Qed x (i,(k,()))
theorem Fk {n:Int}{l:List Qb}{i k i' k':Int}(h:edG n l i k)(hl:i<i'∨(i=i'/\k<=k')):edG n l i' k':=by
 refine ⟨h.1,h.2.1,fun x hx=> ?_⟩
 have:=h.2.2 x hx
 simp only [Qed] at this ⊢
 omega
theorem Qee {n:Int}: ∀ (m:Nat) (i k:Int) (l:List Qb) (d:Qd),0<=i->i<n->0<=k->k+m<=n->edG n l i k->edG n (edZ m i k l d).1 i (k+m)
 |0,i,k,l,d,_,_,_,_,h=>Fk h (.inr ⟨rfl,by omega⟩)
 |m+1,i,k,l,d,h0,h1,h2,h3,h=>by
  have hs:edG n l i (k+1):=Fk h (.inr ⟨rfl,by omega⟩)
  have e:k+((m+1:Nat):Int)=k+1+m:=by omega
  unfold edZ
  rw [e]
  cases hn:ine i k with
  |false=>exact Qee m i (k+1) l d h0 h1 (by omega) (by omega) hs
  |true=>
   cases h4:(igt (Ql d 3) 0&&ilt (Qc l) 3) with
   |false=>exact Qee m i (k+1) l (Qg d 3) h0 h1 (by omega) (by omega) hs
   |true=>
    have hne:i≠k:=by simpa [ine] using hn
    refine Qee m i (k+1) (l++[(i,(k,()))]) (Qg d 3) h0 h1 (by omega) (by omega) ⟨fun x hx=> ?_, ?_,fun x hx=> ?_⟩
    ·rcases BH.1 hx with hx|hx
     ·exact h.1 x hx
     ·rw [Dh.1 hx]
      simp only [F1,ilt,ige,XF,Bc,By,Bq]
      exact ⟨by omega,by omega,by omega,by omega,hne⟩
    ·rw [List.pairwise_append]
     refine ⟨h.2.1,List.pairwise_singleton _ _,fun x hx y hy=> ?_⟩
     rw [Dh.1 hy]
     exact h.2.2 x hx
    ·rcases BH.1 hx with hx|hx
     ·exact hs.2.2 x hx
     ·rw [Dh.1 hx]
      exact .inr ⟨rfl,by show k<k+1;omega⟩
theorem QuT {n:Int}: ∀ (m nn:Nat) (i:Int) (l:List Qb) (d:Qd),(nn:Int)<=n->0<=i->i+m<=n->edG n l i 0->edG n (edY m nn i l d).1 (i+m) 0
 |0,nn,i,l,d,_,_,_,h=>Fk h (by omega)
 |m+1,nn,i,l,d,hnn,h0,h1,h=>by
  have:=Qee nn i 0 l d h0 (by omega) (by omega) (by omega) h
  have e:i+((m+1:Nat):Int)=i+1+m:=by omega
  unfold edY
  rw [e]
  exact QuT m nn (i+1) _ _ hnn (by omega) (by omega) (Fk this (.inl (by omega)))
theorem Qlq {n i k:Int}{l:List Qb}(h:edG n l i k):ZC n l 0=true:=by
 unfold ZC
 rw [Bg]
 intro j hj
 have hj:j<l.length:=by
  rw [List.mem_range'] at hj
  obtain ⟨a,ha,rfl⟩:=hj
  omega
 have at_: ∀ q (hq:q<l.length),YL l q=l[q]:=fun q hq=>by simp only [YL,Bo,Bl hq,BK]
 unfold VD
 rw [at_ j hj,h.1 _ (BA hj),BB]
 by_cases h0:j=0
 ·rw [Bd h0,Bool.true_or]
 ·rw [Bn h0,Di,at_ (j-1) (by omega)]
  have hp:=List.pairwise_iff_getElem.1 h.2.1 (j-1) j (by omega) hj (by omega)
  simp only [Qed] at hp
  simp only [egLt,igt,ige,XF,Bc,By,Bq,Bool.and_eq_false_imp,Ba]
  refine ⟨by omega,fun he=>by omega⟩
theorem QuU (d:Qd):ZC (Qc (QZ (JD d))) (Jg (JD d)) 0=true/\(Jg (JD d)).length<=3/\0<(Jg (JD d)).length:=by
 have hn:=Vf d
 have hl:Qc (QZ (JD d))=((J2 d).length:Int):=by rw [Qc,Qec]
 rw [hl]
 show ZC _ (EY d) 0=true/\(EY d).length<=3/\0<(EY d).length
 unfold EY
 cases hq:ieq (Qc (ZI d).1) 0 with
 |true=>
  refine ⟨?_,(show 1<=3 by decide),(show 0<1 by decide)⟩
  show ZC _ [(0,(1,()))] 0=true
  refine Qlq (i:=5) (k:=5) ⟨fun x hx=> ?_,List.pairwise_singleton _ _,fun x hx=> ?_⟩<;>rw [Dh.1 hx]
  ·simp only [F1,ilt,ige,XF,Bc,By,Bq]
   exact ⟨by omega,by omega,by omega,by omega,by omega⟩
  ·exact .inl (by decide)
 |false=>
  have hy:=QuT (n:=((J2 d).length:Int)) (J2 d).length (J2 d).length 0 [] (Yt (J2 d) 0 (Qg d 2)).2 (B3 _) (B3 _) (by omega) (⟨fun x hx=>(nomatch hx),List.Pairwise.nil,fun x hx=>(nomatch hx)⟩:edG _ [] 0 0)
  refine ⟨Qlq hy, ?_, ?_⟩
  ·have hp: ∀ (m:Nat) (i k:Int) (l:List Qb) (d:Qd),l.length<=3->(edZ m i k l d).1.length<=3:=by
    intro m
    induction m with
    |zero=>exact fun _ _ _ _ h=>h
    |succ m ih=>
     intro i k l d h
     unfold edZ
     cases ine i k with
     |false=>exact ih _ _ _ _ h
     |true=>
      cases h1:igt (Ql d 3) 0 with
      |false=>exact ih _ _ _ _ h
      |true=>
       cases h2:ilt (Qc l) 3 with
       |false=>exact ih _ _ _ _ h
       |true=>
        have:=Bv h2
        simp only [Qc] at this
        exact ih _ _ _ _ (by simp only [Bj,Bh];omega)
   have hr: ∀ (m n:Nat) (i:Int) (l:List Qb) (d:Qd),l.length<=3->(edY m n i l d).1.length<=3:=by
    intro m
    induction m with
    |zero=>exact fun _ _ _ _ h=>h
    |succ m ih=>exact fun n i l d h=>ih n (i+1) _ _ (hp n i 0 l d h)
   exact hr _ _ _ [] _ (by decide)
  ·simp only [XF,Qc,Bq] at hq
   show 0<(ZI d).1.length
   omega
theorem QLb {d:Qd}:JJ (YV d sIt)=true:=by
 have hv:=JA (d:=d) (n:=2) (by omega)
 unfold YV
 show JJ (sIt.getD (Ql d 2).toNat ByteArray.empty)=true
 rcases (show Ql d 2=0∨Ql d 2=1 by omega) with h|h<;>rw [h]<;>kernel_rfl
theorem QLc {d:Qd}:JB (YV d sIt)=true:=by
 have hv:=JA (d:=d) (n:=2) (by omega)
 unfold YV
 show JB (sIt.getD (Ql d 2).toNat ByteArray.empty)=true
 rcases (show Ql d 2=0∨Ql d 2=1 by omega) with h|h<;>rw [h]<;>kernel_rfl
theorem Qlr: ∀ (n:Nat) (d:Qd),(itZ n d).1.all ZB=true/\(itZ n d).1.all YU=true/\(itZ n d).1.length=n
 |0,_=>⟨rfl,rfl,rfl⟩
 |n+1,d=>by
  have:=Qlr n (Ed (UE d sIt) (YV d sIt))
  simp only [itZ,BV,Bp,this,B8,and_true]
  exact ⟨QW2 _ QLb,QLc⟩
theorem QuV (d:Qd):Zc (JD d)=true/\Ja (JD d)=true:=by
 have hn:=Vf d
 have h1:=snd_up d
 obtain ⟨h2,h3,h4⟩:=QuU d
 have hv3:=JA (d:=(ZI d).2) (n:=3) (by omega)
 have hi:=Qlr (Ql (ZI d).2 3).toNat (Qg (ZI d).2 3)
 have hl:(QZ (JD d)).length<=3:=by rw [Qec];omega
 have hx:Yj (JD d)=(itZ (Ql (ZI d).2 3).toNat (Qg (ZI d).2 3)).1:=rfl
 constructor
 ·unfold Zc
  rw [h1,h2,hx,hi.1,show ile (Qc (QZ (JD d))) 16=true from Bd (by simp only [Qc];omega),show ile (Qc (Jg (JD d))) 40=true from Bd (by simp only [Qc];omega),show ile (Qc (itZ (Ql (ZI d).2 3).toNat (Qg (ZI d).2 3)).1) 30=true from Bd (by simp only [Qc];omega)]
  rfl
 ·unfold Ja Yw
  rw [hx,hi.2.1,Bd (show (QZ (JD d)).length<=99999/\(Jg (JD d)).length<=99999 by omega),Bd (show (itZ (Ql (ZI d).2 3).toNat (Qg (ZI d).2 3)).1.length<=100000 by omega),BB,BB,B8]
  exact Bg.2 fun e he=>Qlo (Qlp d e he)
end Go.Proofs.YtckcgijklnloiaaGreat.K
noncomputable section
namespace Go.Proofs.YtckcgijklnloiaaGreat.K
open Go.RowKit
noncomputable section
open Classical in
theorem Qy1 (a:Int): ∀ (l:List FH) (k:Int),(XJ a l k).length<=l.length
 | [],_=>BS _
 |z::l,k=>by
  have:=Qy1 a l (k+1)
  unfold XJ
  cases Xj (Zg z.1 z.2.1) z.2.1 a<;>simp only [BZ,BM,Bp]<;>omega
end
end Go.Proofs.YtckcgijklnloiaaGreat.K
noncomputable section
namespace Go.Proofs.YtckcgijklnloiaaGreat.K
open Go.RowKit
noncomputable section
def E3 (x:QA):QA:=x
abbrev QiB:Sh:=⟨[(2,.ptr 2 0),(3,.ptr 3 0),(12,.ty (.sl QE)),(13,.ty tI),(14,.ty tI)],[(2,.box Q1),(3,.bag [.ty tI,.ty tI,.ty tI,.ms 20303]),(26,.no),(20303,.arr 138 QE)]⟩
abbrev QTa:Sh:=⟨[(2,.ptr 2 0),(3,.ptr 3 0)],[(2,.box Q1),(3,.bag [.ty tI,.ty tI,.ty tI,.ms 20303]),(26,.no),(20303,.arr 138 QE)]⟩
def QqN:Fg:=QiB.f
def QEG:TC:=aF Tryz.f91 [(58,.nf 3 3 138 20303),(58,.nf 5 12 9 20512),(58,pL 0 QqN),(933,.fg ⟨[(2,none),(3,none)],[(2,some Q1),(3,some Q1),(26,none),(20303,none)]⟩)]
def QEH:TC:=lb 0 QEG
def QEI (x12:List Qf)(x13 x14:Int)(y2:QA)(y3_0 y3_1 y3_2:Int)(Zf:List Qf):VS:=QiB.st ((),(),x12,x13,x14,()) (y2,(y3_0,y3_1,y3_2,(),()),(),Zf,())
def QqO (y2:QA)(y3_0 y3_1 y3_2:Int)(Zf:List Qf):VS:=QTa.st ((),(),()) (y2,(y3_0,y3_1,y3_2,(),()),(),Zf,())
def QTb:VS->Option (Bool×List (Bool×Exit×VS)):=mkL QiB (fun x y=>(Qz x.2.2.1 x.2.2.2.1 x.2.2.2.2.1&&(Jf x.2.2.1&&decide (y.2.2.2.1.length<=x.2.2.2.2.1)))) (fun x y=>[(true,.exit 0,QqO (y.1) (y.2.1.1) (y.2.1.2.1) (y.2.1.2.2.1) (y.2.2.2.1++x.2.2.1.drop x.2.2.2.2.1.toNat))])
def QqP:G:=gG 30 [] (Ls [QTb])
def QiC (x12:List Qf)(x13 x14:Int)(y2:QA)(y3_0 y3_1 y3_2:Int)(Zf:List Qf):OX:=QB (QD QqP QqN QEH) (QEI x12 x13 x14 y2 y3_0 y3_1 y3_2 Zf)
def Qcy (kk:List Qf->Int->Int->QA->Int->Int->Int->List Qf->OX)(x12:List Qf)(x13 x14:Int)(y2:QA)(y3_0 y3_1 y3_2:Int)(Zf:List Qf):OX:=
 let a1:=((((lgt QE x12 (Int.toNat x14)).2).2).2)
 let a2:=((lgt QE x12 (Int.toNat x14)).1,(((lgt QE x12 (Int.toNat x14)).2).1,((((lgt QE x12 (Int.toNat x14)).2).2).1,(((a1.1).1,(((a1.1).2).1,())),((a1.2).1,(((((a1.2).2).1).1,(((((a1.2).2).1).2).1,())),((((a1.2).2).2).1,(((((a1.2).2).2).2).1,((((((a1.2).2).2).2).2).1,(((((((a1.2).2).2).2).2).2).1,((([]:List ByteArray)++((((((((a1.2).2).2).2).2).2).2).1)),(((((((((((a1.2).2).2).2).2).2).2).2).1).1,(((((((((((a1.2).2).2).2).2).2).2).2).1).2).1,())),()))))))))))))
 br (ilt x14 x13) (br (cIx x12 x14) (br (Qr ([]:List ByteArray) ((((((((a1.2).2).2).2).2).2).2).1) 16) (br (Qr Zf ([a2]) 152) (kk x12 x13 (Qk .i64 x14 1) y2 y3_0 y3_1 y3_2 (Zf++([a2]))) none) none) none) (some (.exit 0,QqO y2 y3_0 y3_1 y3_2 Zf))
def QiD (x12:List Qf)(x13 x14:Int)(y2:QA)(y3_0 y3_1 y3_2:Int)(Zf:List Qf):OX:=some (.exit 0,QqO (y2) (y3_0) (y3_1) (y3_2) (Zf++x12.drop x14.toNat))
theorem QEJ (x12:List Qf)(x13 x14:Int)(y2:QA)(y3_0 y3_1 y3_2:Int)(Zf:List Qf):QiC x12 x13 x14 y2 y3_0 y3_1 y3_2 Zf=Qcy QiC x12 x13 x14 y2 y3_0 y3_1 y3_2 Zf:=lnT (x:=Qcy (fun x12 x13 x14 y2 y3_0 y3_1 y3_2 Zf=>some (.normal,QEI x12 x13 x14 y2 y3_0 y3_1 y3_2 Zf)) x12 x13 x14 y2 y3_0 y3_1 y3_2 Zf) (by simp only [Qcy,nxA];rfl)
def r_f91 (p0:QA):OV:=br (Qz p0.2.2.1 (Qc p0.2.2.1) (0:Int)&&(Jf p0.2.2.1&&decide (([]:List Qf).length<=(0:Int)))) (some (.t Q1 (((p0.1.1),((p0.1.2.1),())),((p0.2.1),((([]:List Qf)++p0.2.2.1.drop (0:Int).toNat),()))),[])) none
theorem QTc (x12:List Qf)(x13 x14:Int)(y2:QA)(y3_0 y3_1 y3_2:Int)(Zf:List Qf)(h:(Qz x12 x13 x14&&(Jf x12&&decide (Zf.length<=x14)))=true):QiC x12 x13 x14 y2 y3_0 y3_1 y3_2 Zf=QiD x12 x13 x14 y2 y3_0 y3_1 y3_2 Zf:=by
 simp only [Bc,Ba] at h
 obtain ⟨h0,hc,hl⟩:=h
 obtain ⟨rfl,h3,k,rfl,hk⟩:=Js h0
 clear h0
 revert Zf
 refine QW x12 (fun k=> ∀ (Zf:List Qf),(Zf.length:Int)<=(k:Int)->QiC x12 (x12.length:Int) (k:Int) y2 y3_0 y3_1 y3_2 Zf=QiD x12 (x12.length:Int) (k:Int) y2 y3_0 y3_1 y3_2 Zf) ?_ ?_ k hk
 ·intro Zf _
  rw [QEJ]
  simp only [Qcy,QiD,QC,BI,BQ,Qi,Bb,BE,BG]
 ·intro k hk ih Zf hl
  rw [QEJ]
  have c1:Qr ([]:List ByteArray) (QO x12[k]) 16=true:=Q7 (by decide) (by have:=Qip (Qa3 hc hk);simp only [Bw];omega)
  have c2: ∀ v,Qr Zf [v] 152=true:=fun v=>Q7 (by omega) (by simp only [Bh];omega)
  simp only [Qcy,QC,QS,hk,Bu,Qe,Bb,QU (show k<4611686018427387904 by omega),QX (y:=QE) hk]
  refine brY c1 (brY (Q7 (by omega) (by simp only [Bh];omega)) ?_)
  refine Eq.trans (ih (Zf++[x12[k]]) (by simp only [Bj,Bh];omega)) ?_
  simp only [QiD,Bb,Bi hk,BF,BD]
theorem QTd:LO QqP QqN QEH 0:=QN (s:=QiB) fun x y h _ q=>by simp only [QJ,QK] at q;exact (QTc x.2.2.1 x.2.2.2.1 x.2.2.2.2.1 y.1 y.2.1.1 y.2.1.2.1 y.2.1.2.2.1 y.2.2.2.1 h).trans q
theorem s_f91 (x:QA)(h:Jz x=true):r_f91 x=some (.t Q1 (E3 x),[]):=by
 have h:Jf x.2.2.1=true:=h
 unfold r_f91
 refine brY ?_ rfl
 rw [Jy (U8 h),h,BB,BB]
 exact Bd (B3 _)
def QqQ:Ent:=Qq (.pr Q1 .nil) (fun x=>(Jz x.1)) (fun x=>(.t Q1 (E3 x.1)))
theorem QEK:EM 91 QqQ:=mS (lk:=lkL (lkc QTd lkn)) QqP QEG [((.c 2 true 4),some Q1)] false (gB gN) fun m=>Qu m fun x hok=>kT (s_f91 x.1 hok)
def Zi (x:Endpoint):Endpoint:=x
abbrev QiE:Sh:=⟨[(2,.ptr 2 0),(3,.ptr 3 0),(21,.ty (.sl Q1)),(22,.ty tI),(23,.ty tI)],[(2,.box Qj),(3,.bag [.ty .str,.ty tI,.ty tI,.ms 9,.ty .bool,.ms 20305,.ms 12,.ms 15,.ty .bool]),(9,.arr 3 tI),(12,.arr 3 tI),(15,.arr 3 tI),(32,.no),(20303,.no),(20305,.arr 99 Q1),(20306,.no),(20307,.no)]⟩
abbrev QTe:Sh:=⟨[(2,.ptr 2 0),(3,.ptr 3 0)],[(2,.box Qj),(3,.bag [.ty .str,.ty tI,.ty tI,.ms 9,.ty .bool,.ms 20305,.ms 12,.ms 15,.ty .bool]),(9,.arr 3 tI),(12,.arr 3 tI),(15,.arr 3 tI),(32,.no),(20303,.no),(20305,.arr 99 Q1),(20306,.no),(20307,.no)]⟩
def QqR:Fg:=QiE.f
def QEL:TC:=aF Tryz.f55 [(14,pD [(0,[1]),(1,[1]),(2,[9,5009,10009,15009]),(3,[1]),(4,[1]),(5,[12,5012,10012,15012]),(6,[1]),(7,[1]),(8,[15,5015,10015,15015]),(9,[3,9,12,15,32,20303,20305,20306,20307]),(10,[2,3,9,12,15,32,20303,20305,20306,20307]),(11,[3,9,12,15,32,20303,20305,20306,20307]),(12,[2,3,9,12,15,32,20303,20305,20306,20307]),(13,[3,9,12,15,32,20303,20305,20306,20307]),(14,[2,3,9,12,15,32,20303,20305,20306,20307])] (.one 0 (.one 1 (.one 3 (.one 4 (.one 6 (.one 7 (.one 2 (.alt 5 (.alt 8 (.of [9,10,11,12,13,14]) (.of [9,8,10,11,12,13,14])) (.of [9,5,8,10,11,12,13,14])))))))))),(250,.nf 3 7 3 20307),(250,.nf 3 6 3 20306),(250,.nf 3 3 3 20303),(250,.nf 3 5 99 20305),(250,pL 0 QqR),(4005,.fg ⟨[(2,none),(3,none)],[(2,some Qj),(3,some Qj),(9,none),(12,none),(15,none),(32,none),(20303,none),(20305,none),(20306,none),(20307,none)]⟩),(16025,pD [(0,[3,9,12,15,32,20303,20305,20306,20307]),(1,[3,9,12,15,32,20303,20305,20306,20307]),(2,[5]),(3,[]),(4,[]),(5,[2,3,9,12,15,32,5032,10032,15032,20303,20305,20306,20307]),(6,[3,9,12,15,32,20303,20305,20306,20307]),(7,[2,3,9,12,15,32,20303,20305,20306,20307])] (.of [0,1,2,3,4,5,6,7]))]
def QEM:TC:=lb 0 QEL
def QEN (x21:List QA)(x22 x23:Int)(y2:Endpoint)(y3_0:ByteArray)(y3_1 y3_2:Int)(y3_4 y3_8:Bool)(y9 y12 y15:List Int)(Zl:List QA):VS:=QiE.st ((),(),x21,x22,x23,()) (y2,(y3_0,y3_1,y3_2,(),y3_4,(),(),(),y3_8,()),y9,y12,y15,(),(),Zl,(),(),())
def QqS (y2:Endpoint)(y3_0:ByteArray)(y3_1 y3_2:Int)(y3_4 y3_8:Bool)(y9 y12 y15:List Int)(Zl:List QA):VS:=QTe.st ((),(),()) (y2,(y3_0,y3_1,y3_2,(),y3_4,(),(),(),y3_8,()),y9,y12,y15,(),(),Zl,(),(),())
def QTf:VS->Option (Bool×List (Bool×Exit×VS)):=mkL QiE (fun x y=>(Qz x.2.2.1 x.2.2.2.1 x.2.2.2.2.1&&(x.2.2.1.all Jz&&decide (y.2.2.2.2.2.2.2.1.length<=x.2.2.2.2.1)))) (fun x y=>[(true,.exit 0,QqS (y.1) (y.2.1.1) (y.2.1.2.1) (y.2.1.2.2.1) (y.2.1.2.2.2.2.1) (y.2.1.2.2.2.2.2.2.2.2.1) (y.2.2.1) (y.2.2.2.1) (y.2.2.2.2.1) (y.2.2.2.2.2.2.2.1++x.2.2.1.drop x.2.2.2.2.1.toNat))])
def QqT:G:=gG 36 [(91,QqQ)] (Ls [QTf])
def QiF (x21:List QA)(x22 x23:Int)(y2:Endpoint)(y3_0:ByteArray)(y3_1 y3_2:Int)(y3_4 y3_8:Bool)(y9 y12 y15:List Int)(Zl:List QA):OX:=QB (QD QqT QqR QEM) (QEN x21 x22 x23 y2 y3_0 y3_1 y3_2 y3_4 y3_8 y9 y12 y15 Zl)
def Qcz (kk:List QA->Int->Int->Endpoint->ByteArray->Int->Int->Bool->Bool->List Int->List Int->List Int->List QA->OX)(x21:List QA)(x22 x23:Int)(y2:Endpoint)(y3_0:ByteArray)(y3_1 y3_2:Int)(y3_4 y3_8:Bool)(y9 y12 y15:List Int)(Zl:List QA):OX:=
 let a1:=E3 (lgt Q1 x21 (Int.toNat x23))
 let a2:=(((a1.1).1,(((a1.1).2).1,())),((a1.2).1,(((a1.2).2).1,())))
 br (ilt x23 x22) (br (cIx x21 x23) (br (Jz (lgt Q1 x21 (Int.toNat x23))) (br (Qr Zl ([a2]) 48) (kk x21 x22 (Qk .i64 x23 1) y2 y3_0 y3_1 y3_2 y3_4 y3_8 y9 y12 y15 (Zl++([a2]))) none) none) none) (some (.exit 0,QqS y2 y3_0 y3_1 y3_2 y3_4 y3_8 y9 y12 y15 Zl))
def QiG (x21:List QA)(x22 x23:Int)(y2:Endpoint)(y3_0:ByteArray)(y3_1 y3_2:Int)(y3_4 y3_8:Bool)(y9 y12 y15:List Int)(Zl:List QA):OX:=some (.exit 0,QqS (y2) (y3_0) (y3_1) (y3_2) (y3_4) (y3_8) (y9) (y12) (y15) (Zl++x21.drop x23.toNat))
theorem QEO (x21:List QA)(x22 x23:Int)(y2:Endpoint)(y3_0:ByteArray)(y3_1 y3_2:Int)(y3_4 y3_8:Bool)(y9 y12 y15:List Int)(Zl:List QA):QiF x21 x22 x23 y2 y3_0 y3_1 y3_2 y3_4 y3_8 y9 y12 y15 Zl=Qcz QiF x21 x22 x23 y2 y3_0 y3_1 y3_2 y3_4 y3_8 y9 y12 y15 Zl:=lnT (x:=Qcz (fun x21 x22 x23 y2 y3_0 y3_1 y3_2 y3_4 y3_8 y9 y12 y15 Zl=>some (.normal,QEN x21 x22 x23 y2 y3_0 y3_1 y3_2 y3_4 y3_8 y9 y12 y15 Zl)) x21 x22 x23 y2 y3_0 y3_1 y3_2 y3_4 y3_8 y9 y12 y15 Zl) (by simp only [Qcz,nxA];rfl)
def QiH (p0:Endpoint):OV:=br (Qr ([]:List Int) p0.2.2.2.2.2.2.2.1 8) (br (Qz p0.2.2.2.2.2.1 (Qc p0.2.2.2.2.2.1) (0:Int)&&(p0.2.2.2.2.2.1.all Jz&&decide (([]:List QA).length<=(0:Int)))) (some (.t Qj ((p0.1),((p0.2.1),((p0.2.2.1),((([]:List Int)++p0.2.2.2.1),((p0.2.2.2.2.1),((([]:List QA)++p0.2.2.2.2.2.1.drop (0:Int).toNat),((([]:List Int)++p0.2.2.2.2.2.2.1),((([]:List Int)++p0.2.2.2.2.2.2.2.1),((p0.2.2.2.2.2.2.2.2.1),()))))))))),[])) none) none
def r_f55 (p0:Endpoint):OV:=
 let a1:=(Qr ([]:List Int) p0.2.2.2.2.2.2.1 8)
 br (Qr ([]:List Int) p0.2.2.2.1 8) (frk (br a1 (frk (QiH p0) (QiH p0)) none) (br a1 (QiH p0) none)) none
theorem QTg (x21:List QA)(x22 x23:Int)(y2:Endpoint)(y3_0:ByteArray)(y3_1 y3_2:Int)(y3_4 y3_8:Bool)(y9 y12 y15:List Int)(Zl:List QA)(h:(Qz x21 x22 x23&&(x21.all Jz&&decide (Zl.length<=x23)))=true):QiF x21 x22 x23 y2 y3_0 y3_1 y3_2 y3_4 y3_8 y9 y12 y15 Zl=QiG x21 x22 x23 y2 y3_0 y3_1 y3_2 y3_4 y3_8 y9 y12 y15 Zl:=by
 simp only [Bc,Ba] at h
 obtain ⟨h0,hc,hl⟩:=h
 obtain ⟨rfl,h3,k,rfl,hk⟩:=Js h0
 clear h0
 revert Zl
 refine QW x21 (fun k=> ∀ (Zl:List QA),(Zl.length:Int)<=(k:Int)->QiF x21 (x21.length:Int) (k:Int) y2 y3_0 y3_1 y3_2 y3_4 y3_8 y9 y12 y15 Zl=QiG x21 (x21.length:Int) (k:Int) y2 y3_0 y3_1 y3_2 y3_4 y3_8 y9 y12 y15 Zl) ?_ ?_ k hk
 ·intro Zl _
  rw [QEO]
  simp only [Qcz,QiG,QC,BI,BQ,Qi,Bb,BE,BG]
 ·intro k hk ih Zl hl
  rw [QEO]
  have c1:Jz x21[k]=true:=Bg.1 hc _ (BA hk)
  simp only [Qcz,QC,QS,hk,Bu,Qe,Bb,QU (show k<4611686018427387904 by omega),QX (y:=Q1) hk,c1]
  refine brY (Q7 (by omega) (by simp only [Bh];omega)) ?_
  refine Eq.trans (ih (Zl++[x21[k]]) (by simp only [Bj,Bh];omega)) ?_
  simp only [QiG,Bb,Bi hk,BF,BD]
theorem QTh:LO QqT QqR QEM 0:=QN (s:=QiE) fun x y h _ q=>by simp only [QJ,QK] at q;exact (QTg x.2.2.1 x.2.2.2.1 x.2.2.2.2.1 y.1 y.2.1.1 y.2.1.2.1 y.2.1.2.2.1 y.2.1.2.2.2.2.1 y.2.1.2.2.2.2.2.2.2.2.1 y.2.2.1 y.2.2.2.1 y.2.2.2.2.1 y.2.2.2.2.2.2.2.1 h).trans q
theorem s_f55 (x:Endpoint)(h:Q2 x=true):r_f55 x=some (.t Qj (Zi x),[]):=by
 obtain ⟨_,h1,h2,h3,h4,h5⟩:=Z1 h
 have c1:Qr ([]:List Int) (QI x) 8=true:=Q7 (by decide) (by simp only [Bw];omega)
 have c2:Qr ([]:List Int) (Jh x) 8=true:=Q7 (by decide) (by simp only [Bw];omega)
 have c3:Qr ([]:List Int) (Jj x) 8=true:=Q7 (by decide) (by simp only [Bw];omega)
 simp only [r_f55,QiH,Jt,Jt]
 refine brY c1 (brY c2 (brY c3 (brY ?_ rfl)))
 rw [Jy h2,h5,BB,BB]
 exact Bd (B3 _)
def QqU:Ent:=Qq (.pr Qj .nil) (fun x=>(Q2 x.1)) (fun x=>(.t Qj (Zi x.1)))
theorem QEP:EM 55 QqU:=mS (lk:=lkL (lkc QTh lkn)) QqT QEL [((.c 2 true 9),some Qj)] false (gB (gD QEK gN)) fun m=>Qu m fun x hok=>kT (s_f55 x.1 hok)
def YZ (x:Estate):Estate:=x
def E4 (i:Qs):Bool:=decide (i.2.2.2.1.length<=1000)
def QcA (x:Estate):Bool:=Ja x&&(Yj x).all E4
abbrev QiI:Sh:=⟨[(1,.ptr 1 0),(2,.ptr 2 0),(3,.ptr 3 0),(13,.ty (.sl Qj)),(14,.ty tI),(15,.ty tI)],[(1,.box QF),(2,.box QF),(3,.bag [.ms 20300,.ms 10,.ms 20302]),(10,.arr 46 Qh),(24,.no),(42,.no),(20300,.arr 49 Qj),(20302,.arr 79 Jm)]⟩
abbrev QTi:Sh:=⟨[(1,.ptr 1 0),(2,.ptr 2 0),(3,.ptr 3 0)],[(1,.box QF),(2,.box QF),(3,.bag [.ms 20300,.ms 10,.ms 20302]),(10,.arr 46 Qh),(24,.no),(42,.no),(20300,.arr 49 Qj),(20302,.arr 79 Jm)]⟩
abbrev QiJ:Sh:=⟨[(2,.ptr 2 0),(3,.ptr 3 0),(28,.ty (.sl Jm)),(29,.ty tI),(30,.ty tI)],[(2,.box QF),(3,.bag [.ms 20300,.ms 10,.ms 20302]),(10,.arr 46 Qh),(24,.no),(42,.no),(20300,.arr 49 Qj),(20302,.arr 79 Jm)]⟩
abbrev QTj:Sh:=⟨[(2,.ptr 2 0),(3,.ptr 3 0)],[(2,.box QF),(3,.bag [.ms 20300,.ms 10,.ms 20302]),(10,.arr 46 Qh),(24,.no),(42,.no),(20300,.arr 49 Qj),(20302,.arr 79 Jm)]⟩
def QqV:Fg:=QiI.f
def QqW:Fg:=QiJ.f
def QqX:TC:=aF Tryz.f19 [(58,.nf 3 2 79 20302),(58,.nf 3 0 49 20300),(58,pL 0 QqV),(933,.fg ⟨[(1,none),(2,none),(3,none)],[(1,some QF),(2,some QF),(3,some QF),(10,none),(24,none),(42,none),(20300,none),(20302,none)]⟩),(3737,pD [(0,[3,10,24,42,20300,20302]),(1,[3,10,24,42,20300,20302]),(2,[5]),(3,[]),(4,[]),(5,[2,3,10,24,42,5024,10024,15024,20300,20302]),(6,[3,10,24,42,20300,20302]),(7,[2,3,10,24,42,20300,20302])] (.of [0,1,2,3,4,5,6,7])),(122,.nf 3 0 49 20300),(122,.nf 3 2 79 20302),(122,.nf 7 3 128 20703),(122,pL 1 QqW),(1957,.fg ⟨[(2,none),(3,none)],[(2,some QF),(3,some QF),(10,none),(24,none),(42,none),(20300,none),(20302,none)]⟩)]
def QEQ:TC:=lb 0 QqX
def QER:TC:=lb 1 QqX
def QES (x13:List Endpoint)(x14 x15:Int)(y1 y2:Estate)(y10:List Qb)(Qn:List Endpoint)(Qo:List Qs):VS:=QiI.st ((),(),(),x13,x14,x15,()) (y1,y2,((),(),(),()),y10,(),(),Qn,Qo,())
def QqY (y1 y2:Estate)(y10:List Qb)(Qn:List Endpoint)(Qo:List Qs):VS:=QTi.st ((),(),(),()) (y1,y2,((),(),(),()),y10,(),(),Qn,Qo,())
def QET (x28:List Qs)(x29 x30:Int)(y2:Estate)(y10:List Qb)(Qn:List Endpoint)(Qo:List Qs):VS:=QiJ.st ((),(),x28,x29,x30,()) (y2,((),(),(),()),y10,(),(),Qn,Qo,())
def QqZ (y2:Estate)(y10:List Qb)(Qn:List Endpoint)(Qo:List Qs):VS:=QTj.st ((),(),()) (y2,((),(),(),()),y10,(),(),Qn,Qo,())
def QTk:VS->Option (Bool×List (Bool×Exit×VS)):=mkL QiI (fun x y=>(Qz x.2.2.2.1 x.2.2.2.2.1 x.2.2.2.2.2.1&&(x.2.2.2.1.all Q2&&decide (y.2.2.2.2.2.2.1.length<=x.2.2.2.2.2.1)))) (fun x y=>[(true,.exit 0,QqY (y.1) (y.2.1) (y.2.2.2.1) (y.2.2.2.2.2.2.1++x.2.2.2.1.drop x.2.2.2.2.2.1.toNat) (y.2.2.2.2.2.2.2.1))])
def QTl:VS->Option (Bool×List (Bool×Exit×VS)):=mkL QiJ (fun x y=>(Qz x.2.2.1 x.2.2.2.1 x.2.2.2.2.1&&(x.2.2.1.all E4&&decide (y.2.2.2.2.2.2.1.length<=x.2.2.2.2.1)))) (fun x y=>[(true,.exit 2,QqZ (y.1) (y.2.2.1) (y.2.2.2.2.2.1) (y.2.2.2.2.2.2.1++x.2.2.1.drop x.2.2.2.2.1.toNat))])
def QcB:G:=gG 46 [(55,QqU)] (Ls [QTk,QTl])
def QiK (x13:List Endpoint)(x14 x15:Int)(y1 y2:Estate)(y10:List Qb)(Qn:List Endpoint)(Qo:List Qs):OX:=QB (QD QcB QqV QEQ) (QES x13 x14 x15 y1 y2 y10 Qn Qo)
def QcC (kk:List Endpoint->Int->Int->Estate->Estate->List Qb->List Endpoint->List Qs->OX)(x13:List Endpoint)(x14 x15:Int)(y1 y2:Estate)(y10:List Qb)(Qn:List Endpoint)(Qo:List Qs):OX:=
 let a1:=Zi (lgt Qj x13 (Int.toNat x15))
 let a2:=((a1.2).1,(((a1.2).2).1,((((a1.2).2).2).1,(((((a1.2).2).2).2).1,((((((a1.2).2).2).2).2).1,(((((((a1.2).2).2).2).2).2).1,((((((((a1.2).2).2).2).2).2).2).1,(((((((((a1.2).2).2).2).2).2).2).2).1,()))))))))
 br (ilt x15 x14) (br (cIx x13 x15) (br (Q2 (lgt Qj x13 (Int.toNat x15))) (br (Qr Qn ([(a1.1,a2)]) 144) (kk x13 x14 (Qk .i64 x15 1) y1 y2 y10 (Qn++([(a1.1,a2)])) Qo) none) none) none) (some (.exit 0,QqY y1 y2 y10 Qn Qo))
def QiL (x13:List Endpoint)(x14 x15:Int)(y1 y2:Estate)(y10:List Qb)(Qn:List Endpoint)(Qo:List Qs):OX:=some (.exit 0,QqY (y1) (y2) (y10) (Qn++x13.drop x15.toNat) (Qo))
theorem QEU (x13:List Endpoint)(x14 x15:Int)(y1 y2:Estate)(y10:List Qb)(Qn:List Endpoint)(Qo:List Qs):QiK x13 x14 x15 y1 y2 y10 Qn Qo=QcC QiK x13 x14 x15 y1 y2 y10 Qn Qo:=lnT (x:=QcC (fun x13 x14 x15 y1 y2 y10 Qn Qo=>some (.normal,QES x13 x14 x15 y1 y2 y10 Qn Qo)) x13 x14 x15 y1 y2 y10 Qn Qo) (by simp only [QcC,nxA];rfl)
def QiM (x28:List Qs)(x29 x30:Int)(y2:Estate)(y10:List Qb)(Qn:List Endpoint)(Qo:List Qs):OX:=QB (QD QcB QqW QER) (QET x28 x29 x30 y2 y10 Qn Qo)
def QcD (kk:List Qs->Int->Int->Estate->List Qb->List Endpoint->List Qs->OX)(x28:List Qs)(x29 x30:Int)(y2:Estate)(y10:List Qb)(Qn:List Endpoint)(Qo:List Qs):OX:=
 let a1:=lgt Jm x28 (Int.toNat x30)
 let a2:=(((a1.2).2).2)
 br (ilt x30 x29) (br (cIx x28 x30) (br (Qr ([]:List J4) (a2.1) 24) (br (Qr Qo ([(a1.1,((a1.2).1,(((a1.2).2).1,((([]:List J4)++(a2.1)),((a2.2).1,())))))]) 64) (kk x28 x29 (Qk .i64 x30 1) y2 y10 Qn (Qo++([(a1.1,((a1.2).1,(((a1.2).2).1,((([]:List J4)++(a2.1)),((a2.2).1,())))))]))) none) none) none) (some (.exit 2,QqZ y2 y10 Qn Qo))
def QiN (x28:List Qs)(x29 x30:Int)(y2:Estate)(y10:List Qb)(Qn:List Endpoint)(Qo:List Qs):OX:=some (.exit 2,QqZ (y2) (y10) (Qn) (Qo++x28.drop x30.toNat))
theorem QEV (x28:List Qs)(x29 x30:Int)(y2:Estate)(y10:List Qb)(Qn:List Endpoint)(Qo:List Qs):QiM x28 x29 x30 y2 y10 Qn Qo=QcD QiM x28 x29 x30 y2 y10 Qn Qo:=lnT (x:=QcD (fun x28 x29 x30 y2 y10 Qn Qo=>some (.normal,QET x28 x29 x30 y2 y10 Qn Qo)) x28 x29 x30 y2 y10 Qn Qo) (by simp only [QcD,nxA];rfl)
def r_f19 (p0:Estate):OV:=
 let a1:=((((p0).2).2).1)
 br (Qr ([]:List Qb) p0.2.1 16) (br (Qz p0.1 (Qc p0.1) (0:Int)&&(p0.1.all Q2&&decide (([]:List Endpoint).length<=(0:Int)))) (br (Qz a1 (Qc a1) (0:Int)&&(a1.all E4&&decide (([]:List Qs).length<=(0:Int)))) (some (.ag [(.ms 50000),(.ms 50001),(.ms 50002)],[.arr 49 Qj (([]:List Endpoint)++p0.1.drop (0:Int).toNat),.arr 46 Qh (([]:List Qb)++p0.2.1),.arr 79 Jm (([]:List Qs)++a1.drop (0:Int).toNat)])) none) none) none
theorem QTm (x13:List Endpoint)(x14 x15:Int)(y1 y2:Estate)(y10:List Qb)(Qn:List Endpoint)(Qo:List Qs)(h:(Qz x13 x14 x15&&(x13.all Q2&&decide (Qn.length<=x15)))=true):QiK x13 x14 x15 y1 y2 y10 Qn Qo=QiL x13 x14 x15 y1 y2 y10 Qn Qo:=by
 simp only [Bc,Ba] at h
 obtain ⟨h0,hc,hl⟩:=h
 obtain ⟨rfl,h3,k,rfl,hk⟩:=Js h0
 clear h0
 revert Qn
 refine QW x13 (fun k=> ∀ (Qn:List Endpoint),(Qn.length:Int)<=(k:Int)->QiK x13 (x13.length:Int) (k:Int) y1 y2 y10 Qn Qo=QiL x13 (x13.length:Int) (k:Int) y1 y2 y10 Qn Qo) ?_ ?_ k hk
 ·intro Qn _
  rw [QEU]
  simp only [QcC,QiL,QC,BI,BQ,Qi,Bb,BE,BG]
 ·intro k hk ih Qn hl
  rw [QEU]
  have c1:Q2 x13[k]=true:=Bg.1 hc _ (BA hk)
  simp only [QcC,QC,QS,hk,Bu,Qe,Bb,QU (show k<4611686018427387904 by omega),QX (y:=Qj) hk,c1]
  refine brY (Q7 (by omega) (by simp only [Bh];omega)) ?_
  refine Eq.trans (ih (Qn++[x13[k]]) (by simp only [Bj,Bh];omega)) ?_
  simp only [QiL,Bb,Bi hk,BF,BD]
theorem QTn (x28:List Qs)(x29 x30:Int)(y2:Estate)(y10:List Qb)(Qn:List Endpoint)(Qo:List Qs)(h:(Qz x28 x29 x30&&(x28.all E4&&decide (Qo.length<=x30)))=true):QiM x28 x29 x30 y2 y10 Qn Qo=QiN x28 x29 x30 y2 y10 Qn Qo:=by
 simp only [Bc,Ba] at h
 obtain ⟨h0,hc,hl⟩:=h
 obtain ⟨rfl,h3,k,rfl,hk⟩:=Js h0
 clear h0
 revert Qo
 refine QW x28 (fun k=> ∀ (Qo:List Qs),(Qo.length:Int)<=(k:Int)->QiM x28 (x28.length:Int) (k:Int) y2 y10 Qn Qo=QiN x28 (x28.length:Int) (k:Int) y2 y10 Qn Qo) ?_ ?_ k hk
 ·intro Qo _
  rw [QEV]
  simp only [QcD,QiN,QC,BI,BQ,Qi,Bb,BE,BG]
 ·intro k hk ih Qo hl
  rw [QEV]
  have c1:x28[k].2.2.2.1.length<=1000:=Bv (Bg.1 hc _ (BA hk))
  simp only [QcD,QC,QS,hk,Bu,Qe,Bb,QU (show k<4611686018427387904 by omega),QX (y:=Jm) hk]
  refine brY (Q7 (by decide) (by simp only [Bw];omega)) (brY (Q7 (by omega) (by simp only [Bh];omega)) ?_)
  refine Eq.trans (ih (Qo++[x28[k]]) (by simp only [Bj,Bh];omega)) ?_
  simp only [QiN,Bb,Bi hk,BF,BD]
theorem QTo:LO QcB QqV QEQ 0:=QN (s:=QiI) fun x y h _ q=>by simp only [QJ,QK] at q;exact (QTm x.2.2.2.1 x.2.2.2.2.1 x.2.2.2.2.2.1 y.1 y.2.1 y.2.2.2.1 y.2.2.2.2.2.2.1 y.2.2.2.2.2.2.2.1 h).trans q
theorem QTp:LO QcB QqW QER 1:=QN (s:=QiJ) fun x y h _ q=>by simp only [QJ,QK] at q;exact (QTn x.2.2.1 x.2.2.2.1 x.2.2.2.2.1 y.1 y.2.2.1 y.2.2.2.2.2.1 y.2.2.2.2.2.2.1 h).trans q
theorem s_f19 (x:Estate)(h:QcA x=true):r_f19 x=some (.ag [.ms 50000,.ms 50001,.ms 50002],[.arr 49 Qj (YZ x).1,.arr 46 Qh (YZ x).2.1,.arr 79 Jm (YZ x).2.2.1]):=by
 obtain ⟨h,h6⟩:=Bf.1 h
 simp only [Ja,Bc,Ba] at h
 obtain ⟨⟨h1,h2⟩,h3,h4⟩:=h
 have h5:=QHx h4
 unfold r_f19
 have hx:x.2.1.length<=99999:=h2
 refine brY (Q7 (by decide) (by simp only [Bw];omega)) (brY ?_ (brY ?_ rfl))
 ·rw [Jy (show (QZ x).length<=100000 by omega),h3,BB,BB]
  exact Bd (B3 _)
 ·rw [Jy h5,h6,BB,BB]
  exact Bd (B3 _)
def Qq0:Ent:=U3 (.pr QF .nil) (fun x=>(QcA x.1)) (fun x=>(.ag [(.ms 50000),(.ms 50001),(.ms 50002)])) (fun x=>[.arr 49 Qj ((YZ x.1).1),.arr 46 Qh (((YZ x.1).2).1),.arr 79 Jm ((((YZ x.1).2).2).1)])
theorem QEW:EM 19 Qq0:=mS (lk:=lkL (lkc QTo (lkc QTp lkn))) QcB QqX [((.c 2 true 3),none)] true (gB (gD QEP gN)) fun m=>Qe4 m fun x hok=>kT (s_f19 x.1 hok)
end
end Go.Proofs.YtckcgijklnloiaaGreat.K
noncomputable section
namespace Go.Proofs.YtckcgijklnloiaaGreat.K
open Go.RowKit
noncomputable section
def noAn (e:Endpoint):Endpoint:=(e.1,(e.2.1,(e.2.2.1,(e.2.2.2.1,(e.2.2.2.2.1,(e.2.2.2.2.2.1,(([]:List Int),e.2.2.2.2.2.2.2)))))))
def an (b:Bool)(e:Endpoint):Endpoint:=bif b then noAn e else e
end
end Go.Proofs.YtckcgijklnloiaaGreat.K
noncomputable section
namespace Go.Proofs.YtckcgijklnloiaaGreat.K.PE
open Go.RowKit
noncomputable section
theorem QOO:(Gh.all fun s=>Xo s&&(XU s&&nm1 s))=true:=by kernel_rfl
theorem QyU {s:ByteArray}(h:s∈Gh):Xo s=true/\XU s=true/\s.size<=1000:=by
 have:=Bg.1 QOO s h
 simp only [Bc] at this
 exact ⟨this.1,this.2.1,Bv this.2.2⟩
def mkP (e:Endpoint):Prop:= ∃ d s,e=epV d s/\s∈Gh/\dOk d=true
attribute [local irreducible] epV epN
theorem QOP {e:Endpoint}(h:mkP e):Q3 e=true:=by
 obtain ⟨d,s,rfl,hs,hd⟩:=h
 obtain ⟨h1,h2,h3⟩:=QyU hs
 exact QVj h1 h2 h3 hd
theorem mk_len {e:Endpoint}(h:mkP e):Q2 e=true:=by
 obtain ⟨d,s,rfl,hs,hd⟩:=h
 obtain ⟨_,_,h3⟩:=QyU hs
 have hi:=Qy5 (d:=d) (nm:=s) h3 hd
 exact QOU (by rw [Qy6];exact h3) (B4 (QY8 (nm:=s) hd) (show 10<=1000 by decide)) (B4 hi.2 (show 3<=1000 by decide)) (B4 (an_len d s) (show 4<=1000 by decide)) (B4 (hs_len d s) (show 4<=1000 by decide)) hi.1
theorem QyV: ∀ (l:List ByteArray) (d:Qd),(mkZ l d).1.length=l.length
 | [],_=>rfl
 |_::r,d=>by simp only [mkZ,Bp,QyV r (epN d _)]
theorem QyW: ∀ (l:List ByteArray) (d:Qd),(∀ s∈l,s∈Gh)->dOk d=true→ ∀ e∈(mkZ l d).1,mkP e
 | [],_,_,_,e,he=>by cases he
 |s::r,d,h,hd,e,he=>by
  simp only [mkZ,BT] at he
  rcases he with rfl|he
  ·exact ⟨d,s,rfl,h s B7,hd⟩
  ·exact QyW r (epN d s) (fun s hs=>h s (BU _ hs)) (Que hd) e he
theorem QOQ (d:Qd): ∀ s∈JN d,s∈Gh:=by
 rcases QoV d with h|h|h<;>rw [h]
 ·exact fun s hs=>Du hs
 ·exact fun s hs=>Du hs
 ·exact fun s hs=>hs
theorem QyX {d:Qd}(h:dOk d=true): ∀ e∈QZ (mkX d),mkP e:=QyW (JN d) (Qg d 3) (QOQ d) (QG h)
theorem QyY (d:Qd):(QZ (mkX d)).length=(JN d).length:=QyV _ _
theorem mk_up {d:Qd}(h:dOk d=true):G3 (QZ (mkX d)) 0=true:=by
 have q1:slt (ByteArray.mk #[97,112,112]) (ByteArray.mk #[100,98])=true:=by kernel_rfl
 have q2:slt (ByteArray.mk #[100,98]) (ByteArray.mk #[109,97,105,108])=true:=by kernel_rfl
 have q3:slt (ByteArray.mk #[109,97,105,108]) (ByteArray.mk #[119,101,98])=true:=by kernel_rfl
 have hall:=QyX h
 have hd:=QG (n:=3) h
 have hv: ∀ e∈(mkZ (JN d) (Qg d 3)).1,Q3 e=true:=fun e he=>QOP (hall e he)
 have hn: ∀ d s,(epV d s).1=s:=fun d s=>Qy6 d s
 show Xp (mkZ (JN d) (Qg d 3)).1 (mkZ (JN d) (Qg d 3)).1 0=true
 rcases QoV d with hc|hc|hc<;>rw [hc] at hv ⊢
 ·show (Q3 (epV _ _)&&true&&(Q3 (epV _ _)&&(false||slt (epV _ (ByteArray.mk #[97,112,112])).1 (epV _ (ByteArray.mk #[100,98])).1)&&true))=true
  rw [hn,hn,q1,hv _ B7,hv _ (BU _ B7)]
  rfl
 ·show (Q3 (epV _ _)&&true&&(Q3 (epV _ _)&&(false||slt (epV _ (ByteArray.mk #[97,112,112])).1 (epV _ (ByteArray.mk #[100,98])).1)&&(Q3 (epV _ _)&&(false||slt (epV _ (ByteArray.mk #[100,98])).1 (epV _ (ByteArray.mk #[109,97,105,108])).1)&&true)))=true
  rw [hn,hn,hn,q1,q2,hv _ B7,hv _ (BU _ B7),hv _ (BU _ (BU _ B7))]
  rfl
 ·show (Q3 (epV _ _)&&true&&(Q3 (epV _ _)&&(false||slt (epV _ (ByteArray.mk #[97,112,112])).1 (epV _ (ByteArray.mk #[100,98])).1)&&(Q3 (epV _ _)&&(false||slt (epV _ (ByteArray.mk #[100,98])).1 (epV _ (ByteArray.mk #[109,97,105,108])).1)&&(Q3 (epV _ _)&&(false||slt (epV _ (ByteArray.mk #[109,97,105,108])).1 (epV _ (ByteArray.mk #[119,101,98])).1)&&true))))=true
  rw [hn,hn,hn,hn,q1,q2,q3,hv _ B7,hv _ (BU _ B7),hv _ (BU _ (BU _ B7)),hv _ (BU _ (BU _ (BU _ B7)))]
  rfl
theorem QfU {n:Int}: ∀ (m:Nat) (i k:Int) (l:List Qb) (d:Qd),0<=i->i<n->0<=k->k+m<=n->edG n l i k->edG n (edM m i k l d).1 i (k+m)
 |0,i,k,l,d,_,_,_,_,h=>Fk h (.inr ⟨rfl,by omega⟩)
 |m+1,i,k,l,d,h0,h1,h2,h3,h=>by
  have hs:edG n l i (k+1):=Fk h (.inr ⟨rfl,by omega⟩)
  have e:k+((m+1:Nat):Int)=k+1+m:=by omega
  unfold edM
  rw [e]
  cases hn:ine i k with
  |false=>exact QfU m i (k+1) l d h0 h1 (by omega) (by omega) hs
  |true=>
   cases h4:ieq (Ql d 3) 0 with
   |false=>exact QfU m i (k+1) l (Qg d 3) h0 h1 (by omega) (by omega) hs
   |true=>
    have hne:i≠k:=by simpa [ine] using hn
    refine QfU m i (k+1) (l++[(i,(k,()))]) (Qg d 3) h0 h1 (by omega) (by omega) ⟨fun x hx=> ?_, ?_,fun x hx=> ?_⟩
    ·rcases BH.1 hx with hx|hx
     ·exact h.1 x hx
     ·rw [Dh.1 hx]
      simp only [F1,ilt,ige,XF,Bc,By,Bq]
      exact ⟨by omega,by omega,by omega,by omega,hne⟩
    ·rw [List.pairwise_append]
     refine ⟨h.2.1,List.pairwise_singleton _ _,fun x hx y hy=> ?_⟩
     rw [Dh.1 hy]
     exact h.2.2 x hx
    ·rcases BH.1 hx with hx|hx
     ·exact hs.2.2 x hx
     ·rw [Dh.1 hx]
      exact .inr ⟨rfl,by show k<k+1;omega⟩
theorem QyZ {n:Int}: ∀ (m nn:Nat) (i:Int) (l:List Qb) (d:Qd),(nn:Int)<=n->0<=i->i+m<=n->edG n l i 0->edG n (edN m nn i l d).1 (i+m) 0
 |0,nn,i,l,d,_,_,_,h=>Fk h (by omega)
 |m+1,nn,i,l,d,hnn,h0,h1,h=>by
  have:=QfU nn i 0 l d h0 (by omega) (by omega) (by omega) h
  have e:i+((m+1:Nat):Int)=i+1+m:=by omega
  unfold edN
  rw [e]
  exact QyZ m nn (i+1) _ _ hnn (by omega) (by omega) (Fk this (.inl (by omega)))
theorem Qy0: ∀ (m n:Nat) (i:Int) (l:List Qb) (d:Qd),dOk d=true->(edN m n i l d).1.length<=l.length+n*m
 |0,_,_,_,_,_=>by simp [edN]
 |m+1,n,i,l,d,h=>by
  have h1:=OT n i 0 l d h
  have h2:=Qy0 m n (i+1) (edM n i 0 l d).1 (edM n i 0 l d).2 h1.1
  have h3:=h1.2
  rw [Nat.mul_add,Nat.mul_one]
  unfold edN
  omega
theorem QOR {d:Qd}(h:dOk d=true):ZC (Qc (QZ (mkX d))) (Jg (mkX d)) 0=true/\(Jg (mkX d)).length<=16:=by
 have hn:=QoW d
 have hl:Qc (QZ (mkX d))=((JN d).length:Int):=by rw [Qc,QyY]
 rw [hl]
 have hy:=QyZ (n:=((JN d).length:Int)) (JN d).length (JN d).length 0 [] (mkZ (JN d) (Qg d 3)).2 (B3 _) (B3 _) (by omega) (⟨fun x hx=>(nomatch hx),List.Pairwise.nil,fun x hx=>(nomatch hx)⟩:edG _ [] 0 0)
 refine ⟨Qlq hy, ?_⟩
 have h2:=Qy0 (JN d).length (JN d).length 0 [] (mkZ (JN d) (Qg d 3)).2 (QoU (JN d) _ (QG h))
 have h3:(JN d).length*(JN d).length<=4*4:=Nat.mul_le_mul hn.2.1 hn.2.1
 show (YW d).1.length<=16
 unfold YW
 simp only [Bw] at h2
 omega
theorem mk_ok {d:Qd}(h:dOk d=true):Zc (mkX d)=true/\Ja (mkX d)=true:=by
 have hn:=QoW d
 have h1:=mk_up h
 obtain ⟨h2,h3⟩:=QOR h
 have hv3:=JA (d:=(YW d).2) (n:=3) (by omega)
 have hi:=Qlr (Ql (YW d).2 3).toNat (Qg (YW d).2 3)
 have hl:(QZ (mkX d)).length<=4:=by rw [QyY];omega
 have hx:Yj (mkX d)=(itZ (Ql (YW d).2 3).toNat (Qg (YW d).2 3)).1:=rfl
 constructor
 ·unfold Zc
  rw [h1,h2,hx,hi.1,show ile (Qc (QZ (mkX d))) 16=true from Bd (by simp only [Qc];omega),show ile (Qc (Jg (mkX d))) 40=true from Bd (by simp only [Qc];omega),show ile (Qc (itZ (Ql (YW d).2 3).toNat (Qg (YW d).2 3)).1) 30=true from Bd (by simp only [Qc];omega)]
  rfl
 ·unfold Ja Yw
  rw [hx,hi.2.1,Bd (show (QZ (mkX d)).length<=99999/\(Jg (mkX d)).length<=99999 by omega),Bd (show (itZ (Ql (YW d).2 3).toNat (Qg (YW d).2 3)).1.length<=100000 by omega),BB,BB,B8]
  exact Bg.2 fun e he=>mk_len (QyX h e he)
open Classical in
-- loop 0: (x6 : Int) (x7 : (List Qb)) (x8 : (List Int)) (x10 : Int) (x42 : Int) (x43 : Int) (y5 : Estate); out: ('ret',) (x4 : Bool); ('exit', 0) (x8 : (List Int)) (x10 : Int)
end
end Go.Proofs.YtckcgijklnloiaaGreat.K.PE
namespace Go.Proofs.YtckcgijklnloiaaGreat.K
open Go.RowKit PE
end Go.Proofs.YtckcgijklnloiaaGreat.K
noncomputable section
namespace Go.Proofs.YtckcgijklnloiaaGreat.K
open Go.RowKit
noncomputable section
theorem QVk {b:Bool}{x y:Int}(hx:x≠0)(h:(bif b then x else y)=0):b=false/\y=0:=by
 cases b with
 |true=>exact absurd h hx
 |false=>exact ⟨rfl,h⟩
theorem QVl {l:List Qf}{a h:List Int}{d:Int}{n:ByteArray}(hc:Wi l a h d n=0):Ug l=false:=by
 unfold Wi at hc
 split at hc
 ·exact absurd hc (by decide)
 ·split at hc
  ·exact absurd hc (by decide)
  ·exact (QVk (by decide) hc).1
theorem QVm {c:Qf}(h:Q5 c=true):c.2.2.2.2.2.2.2.1<=40000:=by
 unfold Q5 at h
 simp only [Bc] at h
 obtain ⟨_,_,_,_,_,_,_,_,_,_,_,_,h13,_⟩:=h
 have:igt c.2.2.2.2.2.2.2.1 40000=false:=by simpa using h13
 have:=DN this
 omega
theorem QG5: ∀ (l:List Qf) (m:Int),l.foldl XW m<=m
 | [],m=>B3 _
 |c::r,m=>Int.le_trans (QG5 r (XW m c)) (by unfold XW imn;split<;>omega)
theorem unt_le {l:List Qf}(h:Ug l=false):Wx l<=40000:=by
 cases l with
 |nil=>exact (by decide:(0:Int)<=40000)
 |cons c r=>
  have hv:Q5 c=true:=by
   unfold Ug at h
   rw [List.any_cons,Bool.or_eq_false_iff] at h
   have:=h.1
   unfold Xc at this
   simpa using this
  exact Int.le_trans (QG5 (c::r) _) (QVm hv)
theorem unt_eq (e:Estate)(i d:Int):GU e i d=GT e i d:=by
 unfold GU GT
 cases hz:ine (Jq e i d).2 0 with
 |true=>rfl
 |false=>
  obtain ⟨_,_,_,h4⟩:=Qqa (GS hz)
  have hc:(Zn (JQ e i).1 (JQ e i).2 d).2=0:=h4▸GS hz
  obtain ⟨_,_,_,hp⟩:=Qp9 hc
  rw [←h4] at hp
  have hl:=unt_le (QVl hp)
  show (imn (Wx (Uh (JQ e i).2 (Jq e i d).1.2.1)) 40001,(0:Int))=(Wx (Uh (JQ e i).2 (Jq e i d).1.2.1),0)
  generalize Wx (Uh (JQ e i).2 (Jq e i d).1.2.1)=u at hl ⊢
  rw [show imn u 40001=u by unfold imn;split<;>omega]
theorem QVn (e:Estate)(i d:Int):(XL e i d).1.length<=64:=by
 unfold XL
 cases ine (Ya e i) 0 with
 |true=>exact B2 _
 |false=>
  cases !Ww d with
  |true=>exact B2 _
  |false=>exact B4 (List.length_filter_le _ _) Qh5
theorem QG6 (D:Int): ∀ (l:List FH) (j:Nat),(XI D l j).length<=l.length
 | [],_=>BS _
 |z::l,j=>by
  have:=QG6 D l (j+1)
  unfold XI
  cases QbH D z<;>simp only [BZ,BM,Bp]<;>omega
theorem Qsk {e:Estate}(h:Zc e=true):(YC e).length<=40:=by
 rw [QgP,BP]
 exact (IA h).2.2.2.2.2
theorem QG7 (e:Estate)(d:Int):(ZU e d).1.length<=40/\(ZU e d).2.1.length<=40:=by
 unfold ZU
 cases h:Zc e with
 |false=>exact ⟨B2 _,B2 _⟩
 |true=>
  cases !Ww d with
  |true=>exact ⟨B2 _,B2 _⟩
  |false=>exact ⟨by show ((YC e).map (Gg d)).length<=40;rw [BP];exact Qsk h,B4 (QG6 d _ 0) (Qsk h)⟩
theorem QVo (e:Estate)(a:Int):(Xk e a).1.length<=40:=by
 unfold Xk
 cases h:Zc e with
 |false=>exact B2 _
 |true=>
  cases ilt a 1||igt a 22 with
  |true=>exact B2 _
  |false=>exact B4 (Qy1 a _ 0) (Qsk h)
theorem QG8 (l:List Qb):EK l l=true:=by simp [EK]
theorem QG9 (l:List Int):Is l l=true:=by simp [Is]
theorem QHa (l:List Qb)(h:l.length<=64):GP l l=true:=by
 unfold GP
 exact Bd (by omega)
theorem QHb (l:List Int)(h:l.length<=64):Ee l l=true:=Bd ⟨by omega,by omega⟩
end
end Go.Proofs.YtckcgijklnloiaaGreat.K
