import Derived.Test.YtmjnnemhoeolgaaGreatQ8
import Derived.Test.YtmjnnemhoeolgaaGreatQ7
set_option linter.unusedSimpArgs false
set_option linter.unusedVariables false
noncomputable section
namespace Go.Proofs.YtmjnnemhoeolgaaGreat.K
open Go.RowKit
noncomputable section
def FZ (l:List Keep)(_:Keep):Bool:=decide (l.length<=100000)
def IM (l:List Keep)(v:Keep):Int:=match QA (fun c=>v==c) l with|some k=>(k:Int)|none=> -1
abbrev Qbh:Sh:=⟨[(0,.ty (.sl Qe)),(3,.ptr 3 0),(7,.ty tI),(8,.ty tI)],[(3,.box Qe)]⟩
abbrev Qo3:Sh:=⟨[(4,.ty tI)],[]⟩
abbrev Qo4:Sh:=⟨[],[]⟩
def Qgj:Fg:=Qbh.f
def Qo5:TC:=aF Tryz.f60 [(26,pL 0 Qgj),(421,.fg Qo4.f),(3378,pD [(0,[3]),(1,[]),(2,[]),(3,[]),(4,[]),(5,[])] (.of [0,1,2,3,4,5])),(13517,.fg Qo3.f)]
def Qo6:TC:=lb 0 Qo5
def Qo7 (x0:List Keep)(x7 x8:Int)(y3:Keep):VS:=Qbh.st (x0,(),x7,x8,()) (y3,())
def Qgk (x4:Int):VS:=Qo3.st (x4,()) ()
def Qgl  : VS:=Qo4.st () ()
def QAr:VS->Option (Bool×List (Bool×Exit×VS)):=mkL Qbh (fun x y=>(QB x.1 x.2.2.1 x.2.2.2.1)) (fun x y=>[(((QA (fun c=>y.1==c) (x.1.drop x.2.2.2.1.toNat)).isSome),.ret,Qgk (x.2.2.2.1+((QA (fun c=>y.1==c) (x.1.drop x.2.2.2.1.toNat)).getD 0:Nat))),(true,.exit 0,Qgl)])
def Qgm:G:=gG 19 [] (Ls [QAr])
def Qbi (x0:List Keep)(x7 x8:Int)(y3:Keep):OX:=Qx (Qz Qgm Qgj Qo6) (Qo7 x0 x7 x8 y3)
def IN (kk:List Keep->Int->Int->Keep->OX)(x0:List Keep)(x7 x8:Int)(y3:Keep):OX:=
 let a1:=lgt Qe x0 (Int.toNat x8)
 br (ilt x8 x7) (br (cIx x0 x8) (br (and (ieq y3.1 (a1.1)) (and (ieq y3.2.1 ((a1.2).1)) true)) (some (.ret,Qgk x8)) (kk x0 x7 (Qj .i64 x8 1) y3)) none) (some (.exit 0,Qgl))
def Qbj (x0:List Keep)(x7 x8:Int)(y3:Keep):OX:=br ((QA (fun c=>y3==c) (x0.drop x8.toNat)).isSome) (some (.ret,Qgk (x8+((QA (fun c=>y3==c) (x0.drop x8.toNat)).getD 0:Nat))))<|some (.exit 0,Qgl)
theorem Qo8 (x0:List Keep)(x7 x8:Int)(y3:Keep):Qbi x0 x7 x8 y3=IN Qbi x0 x7 x8 y3:=lnT (x:=IN (fun x0 x7 x8 y3=>some (.normal,Qo7 x0 x7 x8 y3)) x0 x7 x8 y3) (by simp only [IN,nxA];rfl)
def r_f60 (p0:List Keep)(p1:Keep):OV:=
 let a1:=(p0.drop (0:Int).toNat)
 br (QB p0 (Qc p0) (0:Int)) (br ((QA (fun c=>p1==c) a1).isSome) (some (.t tI ((0:Int)+((QA (fun c=>p1==c) a1).getD 0:Nat)),[])) (some (.t tI (-1),[]))) none
theorem QAs (x0:List Keep)(x7 x8:Int)(y3:Keep)(h:(QB x0 x7 x8)=true):Qbi x0 x7 x8 y3=Qbj x0 x7 x8 y3:=by
 obtain ⟨rfl,h3,k,rfl,hk⟩:=J5 h
 clear h
 refine Q7 x0 (fun k=>Qbi x0 (x0.length:Int) (k:Int) y3=Qbj x0 (x0.length:Int) (k:Int) y3) ?_ ?_ k hk
 ·rw [Qo8]
  simp [IN,Qbj,QH,Qh,QA]
 ·intro k hk ih
  rw [Qo8]
  have hq:(and (ieq y3.1 x0[k].1) (and (ieq y3.2.1 x0[k].2.1) true))=(y3==x0[k]):=rfl
  simp only [IN,QH,QS,hk,BK,Qd,Bd,Q3 (show k<4611686018427387904 by omega),ih,Q2 (y:=Qe) hk]
  rw [hq]
  simp only [Qbj,Bd,Bl hk,QA]
  cases h:(y3==x0[k]) with
  |true=>simp [Qd]
  |false=>
   simp only [Qh,BJ,Dr]
   cases hq:QA (fun c=>y3==c) (x0.drop (k+1)) with
   |none=>rfl
   |some j=>
    simp only [B1,B4,BS,Qd]
    congr 3
    omega
theorem QAt:LO Qgm Qgj Qo6 0:=QI (s:=Qbh) fun x y h _ q=>by simp only [QF,QG] at q;exact (QAs x.1 x.2.2.1 x.2.2.2.1 y.1 h).trans q
theorem s_f60 (l:List Keep)(v:Keep)(h:FZ l v=true):r_f60 l v=some (.t tI (IM l v),[]):=by
 have hl:l.length<=100000:=BI h
 simp only [r_f60,J6 hl,Qd,BA,BG,IM]
 cases QA (fun c=>v==c) l<;>simp [Qd,Qh]
def Qo9:Ent:=Ql (.pr (.sl Qe) (.pr Qe .nil)) (fun x=>(FZ x.1 x.2.1)) (fun x=>(.t tI (IM x.1 x.2.1)))
theorem ms_f60:EM 60 Qo9:=mS (lk:=lkL (lkc QAt lkn)) Qgm Qo5 [((.t 4),some tI)] false (gB gN) fun m=>Qr m fun x hok=>kT (s_f60 x.1 x.2.1 hok)
def IO (l:List Keep)(v:Keep):Bool:=l.any fun c=>v==c
def tc_f34:TC:=aF Tryz.f34 []
def g_f34:G:=gG 9 [(60,Qo9)] (fun _ _=>none)
def r_f34 (p0:List Keep)(p1:Keep):OV:=br (FZ p0 p1) (some (.t .bool (ige (IM p0 p1) 0),[])) none
theorem Qpa (p:Keep->Bool)(l:List Keep):ige (match QA p l with|some k=>(k:Int)|none=> -1) 0=l.any p:=by
 rw [←Qa4]
 cases QA p l with
 |none=>rfl
 |some k=>
  simp only [ige,B4,Ba]
  omega
theorem s_f34 (l:List Keep)(v:Keep)(h:FZ l v=true):r_f34 l v=some (.t .bool (IO l v),[]):=by
 unfold r_f34
 refine brY h ?_
 rw [show ige (IM l v) 0=IO l v from Qpa _ l]
def Qpb:Ent:=Ql (.pr (.sl Qe) (.pr Qe .nil)) (fun x=>(FZ x.1 x.2.1)) (fun x=>(.t .bool (IO x.1 x.2.1)))
theorem ms_f34:EM 34 Qpb:=mS g_f34 tc_f34 [((.t 4),some .bool)] false (gB (gD ms_f60 gN)) fun m=>Qr m fun x hok=>kT (s_f34 x.1 x.2.1 hok)
def inO (o:Keep)(d:List Keep):Bool:=IO d o
def Qbk (_:Keep)(d:List Keep):Bool:=decide (d.length<=100000)
def tc_f33:TC:=aF Tryz.f33 []
def g_f33:G:=gG 7 [(34,Qpb)] (fun _ _=>none)
def r_f33 (p0:Keep)(d0:List Keep):OV:=br (FZ d0 p0) (some (.t .bool (IO d0 p0),[.box (.t (.sl Qe) d0)])) none
theorem s_f33 (o:Keep)(d:List Keep)(h:Qbk o d=true):r_f33 o d=some (.t .bool (inO o d),[.box (.t (.sl Qe) d)]):=brY h rfl
def Qpc:Ent:=G3 [.ty Qe,.ptr 50000 0] [(.sl Qe)] (fun x d=>(Qbk x.1 d.1)) (fun x d=>(.t .bool (inO x.1 d.1)))
theorem ms_f33:EM 33 Qpc:=mS g_f33 tc_f33 [((.t 3),some .bool)] false (gB (gD ms_f34 gN)) fun m=>E0 (Zo m fun x d hok=>kT (s_f33 x.1 d.1 hok))
def okS (l d:List Keep):Bool:=decide (l.length<=100000/\d.length<=100000)
def ixS (l d:List Keep):Int:=match QA (fun c=>inO c d) l with|some k=>(k:Int)|none=> -1
abbrev Qbl:Sh:=⟨[(0,.ty (.sl Qe)),(1,.fn 33 [(50000,0)]),(7,.ty tI),(8,.ty tI)],[(50000,.box (.sl Qe))]⟩
abbrev Qpd:Sh:=⟨[(4,.ty tI)],[(50000,.box (.sl Qe))]⟩
abbrev Qpe:Sh:=⟨[],[(50000,.box (.sl Qe))]⟩
def Qgn:Fg:=Qbl.f
def Qpf:TC:=aF Tryz.f58 [(26,pL 0 Qgn),(421,.fg Qpe.f),(13517,.fg Qpd.f)]
def Qpg:TC:=lb 0 Qpf
def Qph (x0:List Keep)(x7 x8:Int)(Qa:List Keep):VS:=Qbl.st (x0,(),x7,x8,()) (Qa,())
def Qgo (x4:Int)(Qa:List Keep):VS:=Qpd.st (x4,()) (Qa,())
def Qgp (Qa:List Keep):VS:=Qpe.st () (Qa,())
def QAu:VS->Option (Bool×List (Bool×Exit×VS)):=mkL Qbl (fun x y=>(QB x.1 x.2.2.1 x.2.2.2.1&&okS x.1 y.1)) (fun x y=>[(((QA (fun c=>inO c y.1) (x.1.drop x.2.2.2.1.toNat)).isSome),.ret,Qgo (x.2.2.2.1+((QA (fun c=>inO c y.1) (x.1.drop x.2.2.2.1.toNat)).getD 0:Nat)) (y.1)),(true,.exit 0,Qgp (y.1))])
def Qgq:G:=gG 19 [(33,Qpc)] (Ls [QAu])
def Qbm (x0:List Keep)(x7 x8:Int)(Qa:List Keep):OX:=Qx (Qz Qgq Qgn Qpg) (Qph x0 x7 x8 Qa)
def IP (kk:List Keep->Int->Int->List Keep->OX)(x0:List Keep)(x7 x8:Int)(Qa:List Keep):OX:=
 let a1:=lgt Qe x0 (Int.toNat x8)
 br (ilt x8 x7) (br (cIx x0 x8) (br (Qbk a1 Qa) (br (inO a1 Qa) (some (.ret,Qgo x8 Qa)) (kk x0 x7 (Qj .i64 x8 1) Qa)) none) none) (some (.exit 0,Qgp Qa))
def Qbn (x0:List Keep)(x7 x8:Int)(Qa:List Keep):OX:=br ((QA (fun c=>inO c Qa) (x0.drop x8.toNat)).isSome) (some (.ret,Qgo (x8+((QA (fun c=>inO c Qa) (x0.drop x8.toNat)).getD 0:Nat)) (Qa)))<|some (.exit 0,Qgp (Qa))
theorem Qpi (x0:List Keep)(x7 x8:Int)(Qa:List Keep):Qbm x0 x7 x8 Qa=IP Qbm x0 x7 x8 Qa:=lnT (x:=IP (fun x0 x7 x8 Qa=>some (.normal,Qph x0 x7 x8 Qa)) x0 x7 x8 Qa) (by simp only [IP,nxA];rfl)
def Qpj (p0 d0:List Keep):OV:=
 let a1:=(p0.drop (0:Int).toNat)
 br (QB p0 (Qc p0) (0:Int)&&okS p0 d0) (br ((QA (fun c=>inO c d0) a1).isSome) (some (.t tI ((0:Int)+((QA (fun c=>inO c d0) a1).getD 0:Nat)),[.box (.t (.sl Qe) (d0))])) (some (.t tI (-1),[.box (.t (.sl Qe) (d0))]))) none
theorem QAv (x0:List Keep)(x7 x8:Int)(Qa:List Keep)(h:(QB x0 x7 x8&&okS x0 Qa)=true):Qbm x0 x7 x8 Qa=Qbn x0 x7 x8 Qa:=by
 simp only [Bc] at h
 obtain ⟨h0,hc⟩:=h
 have hd:Qa.length<=100000:=(BI hc).2
 obtain ⟨rfl,h3,k,rfl,hk⟩:=J5 h0
 clear h0
 refine Q7 x0 (fun k=>Qbm x0 (x0.length:Int) (k:Int) Qa=Qbn x0 (x0.length:Int) (k:Int) Qa) ?_ ?_ k hk
 ·rw [Qpi]
  simp [IP,Qbn,QH,Qh,QA]
 ·intro k hk ih
  rw [Qpi]
  have e1: ∀ o,Qbk o Qa=true:=fun _=>Be hd
  simp only [IP,QH,QS,hk,BK,Qd,Bd,Q3 (show k<4611686018427387904 by omega),ih,Q2 (y:=Qe) hk,e1]
  simp only [Qbn,Bd,Bl hk,QA]
  cases h:(inO x0[k] Qa) with
  |true=>simp [Qd]
  |false=>
   simp only [Qh,BJ,Dr]
   cases hq:QA (fun c=>inO c Qa) (x0.drop (k+1)) with
   |none=>rfl
   |some j=>
    simp only [B1,B4,BS,Qd]
    congr 3
    omega
theorem QAw:LO Qgq Qgn Qpg 0:=QI (s:=Qbl) fun x y h _ q=>by simp only [QF,QG] at q;exact (QAv x.1 x.2.2.1 x.2.2.2.1 y.1 h).trans q
theorem QAx (l d:List Keep)(h:okS l d=true):Qpj l d=some (.t tI (ixS l d),[.box (.t (.sl Qe) d)]):=by
 have hl:l.length<=100000:=(BI h).1
 simp only [Qpj,J6 hl,h,Dh,Qd,BA,BG,ixS]
 cases QA (fun c=>inO c d) l<;>simp [Qd,Qh]
def Qpk:Ent:=G3 [.ty (.sl Qe),.fn 33 [(50000,0)]] [(.sl Qe)] (fun x d=>(okS x.1 d.1)) (fun x d=>(.t tI (ixS x.1 d.1)))
theorem QAy:EM 58 Qpk:=mS (lk:=lkL (lkc QAw lkn)) Qgq Qpf [((.t 4),some tI)] false (gB (gD ms_f33 gN)) fun m=>E0 (Zo m fun x d hok=>kT (QAx x.1 d.1 hok))
def IQ (l d:List Keep):Bool:=l.any fun c=>inO c d
def QAz:TC:=aF Tryz.f31 []
def QAA:G:=gG 9 [(58,Qpk)] (fun _ _=>none)
def Qpl (p0 d0:List Keep):OV:=br (okS p0 d0) (some (.t .bool (ige (ixS p0 d0) 0),[.box (.t (.sl Qe) d0)])) none
theorem QAB (l d:List Keep)(h:okS l d=true):Qpl l d=some (.t .bool (IQ l d),[.box (.t (.sl Qe) d)]):=by
 unfold Qpl
 refine brY h ?_
 rw [show ige (ixS l d) 0=IQ l d from Qpa _ l]
def Qpm:Ent:=G3 [.ty (.sl Qe),.fn 33 [(50000,0)]] [(.sl Qe)] (fun x d=>(okS x.1 d.1)) (fun x d=>(.t .bool (IQ x.1 d.1)))
theorem QAC:EM 31 Qpm:=mS QAA QAz [((.t 4),some .bool)] false (gB (gD QAy gN)) fun m=>E0 (Zo m fun x d hok=>kT (QAB x.1 d.1 hok))
def WQ (b a:Estate)(i:Int):List Keep×Int:=bif ine (Zb b a) 0 then ([],Zb b a) else bif ilt i 0||ige i (Qc b.2.1) then ([],4) else (Yj b a i,0)
def Qbo (b a:Estate)(_i:Int):Bool:=Gx b a
def tc_f16:TC:=aF Tryz.f16 []
def g_f16:G:=gG 28 [(30,Qcw),(32,Qaj)] (fun _ _=>none)
def r_f16 (p0 p1:Estate)(p2:Int):OV:=br (Gx p0 p1) (br (ine (Zb p0 p1) 0) (some (.tu [(.t (.sl Qe) ([]:List Keep)),(.t tI (Zb p0 p1))],[])) (br (ilt p2 0) (some (.tu [(.t (.sl Qe) ([]:List Keep)),(.t tI 4)],[])) (br (ige p2 (Qc p0.2.1)) (some (.tu [(.t (.sl Qe) ([]:List Keep)),(.t tI 4)],[])) (br (Qag p0 p1 p2) (some (.tu [(.t (.sl Qe) (Yj p0 p1 p2)),(.t tI 0)],[])) none)))) none
theorem s_f16 (b a:Estate)(i:Int)(h:Qbo b a i=true):r_f16 b a i=some (.tu [.t (.sl Qe) (WQ b a i).1,.t tI (WQ b a i).2],[]):=by
 obtain ⟨l1,l2⟩:=Bg.1 h
 unfold r_f16 WQ
 refine brY h ?_
 cases hb:ine (Zb b a) 0 with
 |true=>rfl
 |false=>
  obtain ⟨o1,o2,he⟩:=Qib hb
  rw [Qh]
  cases h3:ilt i 0 with
  |true=>rfl
  |false=>
   rw [Qh]
   cases h4:ige i (Qc b.2.1) with
   |true=>rfl
   |false=>
    rw [Qh]
    have h3:=Dx h3
    have h4:=Dx h4
    simp only [Qc] at h4
    exact brY (Bg.2 ⟨UF o1 l1 (by omega) (by omega),UF o2 l2 (by omega) (by rw [←he];omega)⟩) rfl
def Qpn:Ent:=Ql (.pr QJ (.pr QJ (.pr tI .nil))) (fun x=>(Qbo x.1 x.2.1 x.2.2.1)) (fun x=>(.tu [(.t (.sl Qe) ((WQ x.1 x.2.1 x.2.2.1).1)),(.t tI ((WQ x.1 x.2.1 x.2.2.1).2))]))
theorem ms_f16:EM 16 Qpn:=mS g_f16 tc_f16 [((.t 6),some (.sl Qe)),((.t 7),some tI)] false (gB (gD Qic (gC Qm1 Qm3 gN))) fun m=>Qr m fun x hok=>kT (s_f16 x.1 x.2.1 x.2.2.1 hok)
def Zh (f:Int->Bool):Nat->Int->List Int
 |0,_=>[]
 |k+1,i=>bif f i then i::Zh f k (i+1) else Zh f k (i+1)
def stB (r:Rules)(b a:Estate)(i:Int):Bool:=IQ (Yj b a i) (Zq r a i)
def F0 (n i:Int)(b a:Estate)(r:Rules)(out:List Int):Bool:=
 Jw b&&(J3 b&&(Jw a&&(J3 a&&(ZB r&&decide (0<=i/\i<=n/\n=b.2.1.length/\n=a.2.1.length/\(out.length:Int)<=i)))))
def WR (b a:Estate)(y:Policy)(l:List Exception)(o:Dice)(d:Int):List Int×Int:=
 bif ine (Zb b a) 0 then ([],Zb b a) else bif ine (Jg (rl y l o d)) 0 then ([],Jg (rl y l o d)) else (Zh (stB (rl y l o d) b a) b.2.1.length 0,0)
def Gn (b a:Estate)(y:Policy)(l:List Exception)(o:Dice)(d:Int):Bool:=Gx b a&&ZB (rl y l o d)
abbrev Qbp:Sh:=⟨[(6,.ptr 6 0),(7,.ptr 7 0),(14,.ptr 14 0),(17,.ms 17),(38,.ty tI),(39,.ty tI)],[(6,.box QJ),(7,.box QJ),(14,.box UH),(17,.arr 3 tI),(55,.no)]⟩
abbrev Qpo:Sh:=⟨[(17,.ms 17)],[(17,.arr 3 tI),(55,.no)]⟩
def Qgr:Fg:=Qbp.f
def Qpp:TC:=aF Tryz.f14 [(506,.nw 17 3),(506,pL 0 Qgr),(8101,.fg Qpo.f)]
def Qpq:TC:=lb 0 Qpp
def Qpr (x38 x39:Int)(y6 y7:Estate)(y14:Rules)(y17:List Int):VS:=Qbp.st ((),(),(),(),x38,x39,()) (y6,y7,y14,y17,(),())
def Qgs (y17:List Int):VS:=Qpo.st ((),()) (y17,(),())
def QAD:VS->Option (Bool×List (Bool×Exit×VS)):=mkL Qbp (fun x y=>(F0 x.2.2.2.2.1 x.2.2.2.2.2.1 y.1 y.2.1 y.2.2.1 y.2.2.2.1)) (fun x y=>[(true,.exit 0,Qgs (y.2.2.2.1++Zh (stB y.2.2.1 y.1 y.2.1) (x.2.2.2.2.1-x.2.2.2.2.2.1).toNat x.2.2.2.2.2.1))])
def Qgt:G:=gG 58 [(28,Oj),(29,Om),(30,Qcw),(31,Qpm),(32,Qaj)] (Ls [QAD])
def Qgu (x38 x39:Int)(y6 y7:Estate)(y14:Rules)(y17:List Int):OX:=Qx (Qz Qgt Qgr Qpq) (Qpr x38 x39 y6 y7 y14 y17)
def IR (kk:Int->Int->Estate->Estate->Rules->List Int->OX)(x38 x39:Int)(y6 y7:Estate)(y14:Rules)(y17:List Int):OX:=br (ilt x39 x38) (br (Xb y14 y7 x39) (br (Qag y6 y7 x39) (br (okS (Yj y6 y7 x39) (Zq y14 y7 x39)) (br (IQ (Yj y6 y7 x39) (Zq y14 y7 x39)) (br (QC y17 ([x39]) 8) (kk x38 (Qj .i64 x39 1) y6 y7 y14 (y17++([x39]))) none) (kk x38 (Qj .i64 x39 1) y6 y7 y14 y17)) none) none) none) (some (.exit 0,Qgs y17))
def Qgv (x38 x39:Int)(y6 y7:Estate)(y14:Rules)(y17:List Int):OX:=some (.exit 0,Qgs (y17++Zh (stB y14 y6 y7) (x38-x39).toNat x39))
theorem Qps (x38 x39:Int)(y6 y7:Estate)(y14:Rules)(y17:List Int):Qgu x38 x39 y6 y7 y14 y17=IR Qgu x38 x39 y6 y7 y14 y17:=lnT (x:=IR (fun x38 x39 y6 y7 y14 y17=>some (.normal,Qpr x38 x39 y6 y7 y14 y17)) x38 x39 y6 y7 y14 y17) (by simp only [IR,nxA];rfl)
def r_f14 (p0 p1:Estate)(p2:Policy)(p3:List Exception)(p4:Dice)(p5:Int):OV:=
 let a1:=((p2.1,(p2.2.1,())),(p3,((p4.1,(p4.2.1,())),(p5,()))))
 br (Gx p0 p1) (br (ine (Zb p0 p1) 0) (some (.tu [(.t (.sl tI) ([]:List Int)),(.t tI (Zb p0 p1))],[])) (br (ZB a1) (br (ine (Jg a1) 0) (some (.tu [(.t (.sl tI) ([]:List Int)),(.t tI (Jg a1))],[])) (br (F0 (Qc p0.2.1) (0:Int) p0 p1 a1 ([]:List Int)) (some (.tu [(.t (.sl tI) (([]:List Int)++Zh (stB a1 p0 p1) ((Qc p0.2.1)-(0:Int)).toNat (0:Int))),(.t tI 0)],[])) none)) none)) none
theorem QAE (x38 x39:Int)(y6 y7:Estate)(y14:Rules)(y17:List Int)(h:(F0 x38 x39 y6 y7 y14 y17)=true):Qgu x38 x39 y6 y7 y14 y17=Qgv x38 x39 y6 y7 y14 y17:=by
 simp only [F0,Bc,Ba] at h
 obtain ⟨a1,a2,b1,b2,hr,h0,h1,h2,h3,h4⟩:=h
 have hle:y6.2.1.length<=40:=(UV a1).2.2.2.2.2
 obtain ⟨m,hm⟩: ∃ m:Nat,(x38-x39).toNat=m:=⟨_,rfl⟩
 induction m generalizing x39 y17 with
 |zero=>
  have:ilt x39 x38=false:=Bn (by omega)
  rw [Qps]
  simp only [IR,Qgv,this,Qh,hm,Zh,BR]
 |succ m ih=>
  have e0:ilt x39 x38=true:=Be (by omega)
  have e1:Qj .i64 x39 1=x39+1:=Jn (by omega)
  have p1:Ys y6 x39=true:=UF a1 a2 h0 (by omega)
  have p2:Ys y7 x39=true:=UF b1 b2 h0 (by omega)
  have e2:Xb y14 y7 x39=true:=Bg.2 ⟨hr,p2⟩
  have e3:Qag y6 y7 x39=true:=Bg.2 ⟨p1,p2⟩
  have l1:=QxM y6 y7 x39
  have l2:=Qh6 y14 y7 x39
  have e4:okS (Yj y6 y7 x39) (Zq y14 y7 x39)=true:=Be ⟨by omega,by omega⟩
  have e5:QC y17 [x39] 8=true:=JF (by decide) (by simp only [Bp];omega)
  have e6:(x38-(x39+1)).toNat=m:=by omega
  rw [Qps]
  simp only [IR,e0,e1,e2,e3,e4,e5,Qd]
  rw [ih (x39+1) (y17++[x39]) (by omega) (by omega) (by simp only [Bm,Bp];omega) (by omega),ih (x39+1) y17 (by omega) (by omega) (by omega) (by omega)]
  simp only [Qgv,hm,e6,Zh]
  show br (stB y14 y6 y7 x39) _ _=_
  cases stB y14 y6 y7 x39 with
  |true=>simp only [Qd,Dn,BV,BO]
  |false=>simp only [Qh,Dj]
theorem QAF:LO Qgt Qgr Qpq 0:=QI (s:=Qbp) fun x y h _ q=>by simp only [QF,QG] at q;exact (QAE x.2.2.2.2.1 x.2.2.2.2.2.1 y.1 y.2.1 y.2.2.1 y.2.2.2.1 h).trans q
theorem s_f14 (b a:Estate)(y:Policy)(l:List Exception)(o:Dice)(d:Int)(h:Gn b a y l o d=true):r_f14 b a y l o d=some (.tu [.t (.sl tI) (WR b a y l o d).1,.t tI (WR b a y l o d).2],[]):=by
 obtain ⟨h1,h2⟩:=Bg.1 h
 obtain ⟨l1,l2⟩:=Bg.1 h1
 unfold r_f14 WR
 refine brY h1 ?_
 cases hb:ine (Zb b a) 0 with
 |true=>rfl
 |false=>
  obtain ⟨o1,o2,he⟩:=Qib hb
  rw [Qh]
  refine brY (show ZB (rl y l o d)=true from h2) ?_
  show br (ine (Jg (rl y l o d)) 0) (some (V.tu [V.t (.sl tI) ([]:List Int),V.t tI (Jg (rl y l o d))],[])) (br (F0 (Qc b.2.1) 0 b a (rl y l o d) []) (some (V.tu [V.t (.sl tI) ([]++Zh (stB (rl y l o d) b a) ((Qc b.2.1)-0).toNat 0),V.t tI 0],[])) none)=_
  cases ine (Jg (rl y l o d)) 0 with
  |true=>rfl
  |false=>
   rw [Qh]
   have e:((Qc b.2.1)-0).toNat=b.2.1.length:=by simp only [Qc];omega
   refine brY ?_ ?_
   ·unfold F0
    rw [o1,o2,l1,l2,h2]
    exact Be ⟨Dq 0,by simp only [Qc];omega,rfl,by rw [←he],by simp⟩
   ·rw [e,BY]
    rfl
def Qgw:Ent:=Ql (.pr QJ (.pr QJ (.pr Zr (.pr (.sl JP) (.pr Qs (.pr tI .nil)))))) (fun x=>(Gn x.1 x.2.1 x.2.2.1 x.2.2.2.1 x.2.2.2.2.1 x.2.2.2.2.2.1)) (fun x=>(.tu [(.t (.sl tI) ((WR x.1 x.2.1 x.2.2.1 x.2.2.2.1 x.2.2.2.2.1 x.2.2.2.2.2.1).1)),(.t tI ((WR x.1 x.2.1 x.2.2.1 x.2.2.2.1 x.2.2.2.2.1 x.2.2.2.2.2.1).2))]))
theorem Qpt:EM 14 Qgw:=mS (lk:=lkL (lkc QAF lkn)) Qgt Qpp [((.t 12),some (.sl tI)),((.t 13),some tI)] false (gB (gD Qcr (gD Qcv (gD Qic (gD QAC (gC Qm1 Qm3 gN)))))) fun m=>Qr m fun x hok=>kT (s_f14 x.1 x.2.1 x.2.2.1 x.2.2.2.1 x.2.2.2.2.1 x.2.2.2.2.2.1 hok)
def clB (r:Rules)(e:Estate)(i:Int):Bool:=ieq (Qc (Zq r e i)) 0
def F1 (n i:Int)(e:Estate)(r:Rules)(out:List Int):Bool:=Jw e&&(J3 e&&(ZB r&&decide (0<=i/\i<=n/\n=e.2.1.length/\(out.length:Int)<=i)))
def XY (e:Estate)(y:Policy)(l:List Exception)(o:Dice)(d:Int):List Int×Int:=
 bif !Jw e then ([],31) else bif ine (Jg (rl y l o d)) 0 then ([],Jg (rl y l o d)) else (Zh (clB (rl y l o d) e) e.2.1.length 0,0)
def IS (e:Estate)(y:Policy)(l:List Exception)(o:Dice)(d:Int):Bool:=J3 e&&ZB (rl y l o d)
abbrev Qbq:Sh:=⟨[(5,.ptr 5 0),(12,.ptr 12 0),(14,.ms 14),(31,.ty tI),(32,.ty tI)],[(5,.box QJ),(12,.box UH),(14,.arr 3 tI),(44,.no)]⟩
abbrev Qpu:Sh:=⟨[(14,.ms 14)],[(14,.arr 3 tI),(44,.no)]⟩
def Qgx:Fg:=Qbq.f
def Qpv:TC:=aF Tryz.f13 [(506,.nw 14 3),(506,pL 0 Qgx),(8101,.fg Qpu.f)]
def Qpw:TC:=lb 0 Qpv
def Qpx (x31 x32:Int)(y5:Estate)(y12:Rules)(y14:List Int):VS:=Qbq.st ((),(),(),x31,x32,()) (y5,y12,y14,(),())
def Qgy (y14:List Int):VS:=Qpu.st ((),()) (y14,(),())
def QAG:VS->Option (Bool×List (Bool×Exit×VS)):=mkL Qbq (fun x y=>(F1 x.2.2.2.1 x.2.2.2.2.1 y.1 y.2.1 y.2.2.1)) (fun x y=>[(true,.exit 0,Qgy (y.2.2.1++Zh (clB y.2.1 y.1) (x.2.2.2.1-x.2.2.2.2.1).toNat x.2.2.2.2.1))])
def Qgz:G:=gG 47 [(27,QdJ),(28,Oj),(29,Om)] (Ls [QAG])
def QgA (x31 x32:Int)(y5:Estate)(y12:Rules)(y14:List Int):OX:=Qx (Qz Qgz Qgx Qpw) (Qpx x31 x32 y5 y12 y14)
def IT (kk:Int->Int->Estate->Rules->List Int->OX)(x31 x32:Int)(y5:Estate)(y12:Rules)(y14:List Int):OX:=br (ilt x32 x31) (br (Xb y12 y5 x32) (br (ieq (Qc (Zq y12 y5 x32)) 0) (br (QC y14 ([x32]) 8) (kk x31 (Qj .i64 x32 1) y5 y12 (y14++([x32]))) none) (kk x31 (Qj .i64 x32 1) y5 y12 y14)) none) (some (.exit 0,Qgy y14))
def QgB (x31 x32:Int)(y5:Estate)(y12:Rules)(y14:List Int):OX:=some (.exit 0,Qgy (y14++Zh (clB y12 y5) (x31-x32).toNat x32))
theorem Qpy (x31 x32:Int)(y5:Estate)(y12:Rules)(y14:List Int):QgA x31 x32 y5 y12 y14=IT QgA x31 x32 y5 y12 y14:=lnT (x:=IT (fun x31 x32 y5 y12 y14=>some (.normal,Qpx x31 x32 y5 y12 y14)) x31 x32 y5 y12 y14) (by simp only [IT,nxA];rfl)
def r_f13 (p0:Estate)(p1:Policy)(p2:List Exception)(p3:Dice)(p4:Int):OV:=
 let a1:=((p1.1,(p1.2.1,())),(p2,((p3.1,(p3.2.1,())),(p4,()))))
 br (J3 p0) (br (ine (Ue p0) 0) (some (.tu [(.t (.sl tI) ([]:List Int)),(.t tI 31)],[])) (br (ZB a1) (br (ine (Jg a1) 0) (some (.tu [(.t (.sl tI) ([]:List Int)),(.t tI (Jg a1))],[])) (br (F1 (Qc p0.2.1) (0:Int) p0 a1 ([]:List Int)) (some (.tu [(.t (.sl tI) (([]:List Int)++Zh (clB a1 p0) ((Qc p0.2.1)-(0:Int)).toNat (0:Int))),(.t tI 0)],[])) none)) none)) none
theorem QAH (x31 x32:Int)(y5:Estate)(y12:Rules)(y14:List Int)(h:(F1 x31 x32 y5 y12 y14)=true):QgA x31 x32 y5 y12 y14=QgB x31 x32 y5 y12 y14:=by
 simp only [F1,Bc,Ba] at h
 obtain ⟨a1,a2,hr,h0,h1,h2,h4⟩:=h
 have hle:y5.2.1.length<=40:=(UV a1).2.2.2.2.2
 obtain ⟨m,hm⟩: ∃ m:Nat,(x31-x32).toNat=m:=⟨_,rfl⟩
 induction m generalizing x32 y14 with
 |zero=>
  have:ilt x32 x31=false:=Bn (by omega)
  rw [Qpy]
  simp only [IT,QgB,this,Qh,hm,Zh,BR]
 |succ m ih=>
  have e0:ilt x32 x31=true:=Be (by omega)
  have e1:Qj .i64 x32 1=x32+1:=Jn (by omega)
  have e2:Xb y12 y5 x32=true:=Bg.2 ⟨hr,UF a1 a2 h0 (by omega)⟩
  have e5:QC y14 [x32] 8=true:=JF (by decide) (by simp only [Bp];omega)
  have e6:(x31-(x32+1)).toNat=m:=by omega
  rw [Qpy]
  simp only [IT,e0,e1,e2,e5,Qd]
  rw [ih (x32+1) (y14++[x32]) (by omega) (by omega) (by simp only [Bm,Bp];omega) (by omega),ih (x32+1) y14 (by omega) (by omega) (by omega) (by omega)]
  simp only [QgB,hm,e6,Zh]
  show br (clB y12 y5 x32) _ _=_
  cases clB y12 y5 x32 with
  |true=>simp only [Qd,Dn,BV,BO]
  |false=>simp only [Qh,Dj]
theorem QAI:LO Qgz Qgx Qpw 0:=QI (s:=Qbq) fun x y h _ q=>by simp only [QF,QG] at q;exact (QAH x.2.2.2.1 x.2.2.2.2.1 y.1 y.2.1 y.2.2.1 h).trans q
theorem s_f13 (e:Estate)(y:Policy)(l:List Exception)(o:Dice)(d:Int)(h:IS e y l o d=true):r_f13 e y l o d=some (.tu [.t (.sl tI) (XY e y l o d).1,.t tI (XY e y l o d).2],[]):=by
 obtain ⟨h1,h2⟩:=Bg.1 h
 unfold r_f13 XY
 refine brY h1 ?_
 rw [QdE]
 cases ho:Jw e with
 |false=>rfl
 |true=>
  rw [BM,Qh]
  refine brY (show ZB (rl y l o d)=true from h2) ?_
  show br (ine (Jg (rl y l o d)) 0) (some (V.tu [V.t (.sl tI) ([]:List Int),V.t tI (Jg (rl y l o d))],[])) (br (F1 (Qc e.2.1) 0 e (rl y l o d) []) (some (V.tu [V.t (.sl tI) ([]++Zh (clB (rl y l o d) e) ((Qc e.2.1)-0).toNat 0),V.t tI 0],[])) none)=_
  cases ine (Jg (rl y l o d)) 0 with
  |true=>rfl
  |false=>
   rw [Qh]
   have e:((Qc e.2.1)-0).toNat=e.2.1.length:=by simp only [Qc];omega
   refine brY ?_ ?_
   ·unfold F1
    rw [ho,h1,h2]
    exact Be ⟨Dq 0,by simp only [Qc];omega,rfl,by simp⟩
   ·rw [e,BY]
    rfl
def QgC:Ent:=Ql (.pr QJ (.pr Zr (.pr (.sl JP) (.pr Qs (.pr tI .nil))))) (fun x=>(IS x.1 x.2.1 x.2.2.1 x.2.2.2.1 x.2.2.2.2.1)) (fun x=>(.tu [(.t (.sl tI) ((XY x.1 x.2.1 x.2.2.1 x.2.2.2.1 x.2.2.2.2.1).1)),(.t tI ((XY x.1 x.2.1 x.2.2.1 x.2.2.2.1 x.2.2.2.2.1).2))]))
theorem Qpz:EM 13 QgC:=mS (lk:=lkL (lkc QAI lkn)) Qgz Qpv [((.t 10),some (.sl tI)),((.t 11),some tI)] false (gB (gD QjT (gD Qcr (gD Qcv gN)))) fun m=>Qr m fun x hok=>kT (s_f13 x.1 x.2.1 x.2.2.1 x.2.2.2.1 x.2.2.2.2.1 hok)
def JS (r:Rules)(e:Estate)(i:Int):Int:=Qc (Zq r e i)
def YP (f:Int->Int):Nat->Int->Int->Int
 |0,_,s=>s
 |k+1,i,s=>YP f k (i+1) (s+f i)
def F3 (n i:Int)(b a:Estate)(r:Rules)(s t:Int):Bool:=
 Jw b&&(J3 b&&(Jw a&&(J3 a&&(ZB r&&decide (0<=i/\i<=n/\n=b.2.1.length/\n=a.2.1.length/\0<=s/\s<=64*i/\0<=t/\t<=64*i)))))
def Y8 (b a:Estate)(y:Policy)(l:List Exception)(o:Dice)(d:Int):Int×Int×Int:=
 bif ine (Zb b a) 0 then (0,0,Zb b a) else bif ine (Jg (rl y l o d)) 0 then (0,0,Jg (rl y l o d)) else (YP (JS (rl y l o d) b) b.2.1.length 0 0,YP (JS (rl y l o d) a) b.2.1.length 0 0,0)
abbrev Qbr:Sh:=⟨[(6,.ptr 6 0),(7,.ptr 7 0),(15,.ptr 15 0),(18,.ty tI),(19,.ty tI),(39,.ty tI),(40,.ty tI)],[(6,.box QJ),(7,.box QJ),(15,.box UH)]⟩
abbrev QpA:Sh:=⟨[(18,.ty tI),(19,.ty tI)],[]⟩
def QgD:Fg:=Qbr.f
def QpB:TC:=aF Tryz.f24 [(506,pL 0 QgD),(8101,.fg QpA.f),(32409,pD [(0,[]),(1,[15]),(2,[6]),(3,[]),(4,[]),(5,[]),(6,[]),(7,[]),(8,[15]),(9,[7]),(10,[]),(11,[]),(12,[]),(13,[]),(14,[]),(15,[])] (.of [0,1,2,3,4,5,6,7,8,9,10,11,12,13,14,15]))]
def QpC:TC:=lb 0 QpB
def QpD (x18 x19 x39 x40:Int)(y6 y7:Estate)(y15:Rules):VS:=Qbr.st ((),(),(),x18,x19,x39,x40,()) (y6,y7,y15,())
def QgE (x18 x19:Int):VS:=QpA.st (x18,x19,()) ()
def QAJ:VS->Option (Bool×List (Bool×Exit×VS)):=mkL Qbr (fun x y=>(F3 x.2.2.2.2.2.1 x.2.2.2.2.2.2.1 y.1 y.2.1 y.2.2.1 x.2.2.2.1 x.2.2.2.2.1)) (fun x y=>[(true,.exit 0,QgE (YP (JS y.2.2.1 y.1) (x.2.2.2.2.2.1-x.2.2.2.2.2.2.1).toNat x.2.2.2.2.2.2.1 x.2.2.2.1) (YP (JS y.2.2.1 y.2.1) (x.2.2.2.2.2.1-x.2.2.2.2.2.2.1).toNat x.2.2.2.2.2.2.1 x.2.2.2.2.1))])
def QgF:G:=gG 60 [(28,Oj),(29,Om),(30,Qcw)] (Ls [QAJ])
def QgG (x18 x19 x39 x40:Int)(y6 y7:Estate)(y15:Rules):OX:=Qx (Qz QgF QgD QpC) (QpD x18 x19 x39 x40 y6 y7 y15)
def IU (kk:Int->Int->Int->Int->Estate->Estate->Rules->OX)(x18 x19 x39 x40:Int)(y6 y7:Estate)(y15:Rules):OX:=br (ilt x40 x39) (br (Xb y15 y6 x40) (br (Xb y15 y7 x40) (kk (Qj .i64 x18 (Qc (Zq y15 y6 x40))) (Qj .i64 x19 (Qc (Zq y15 y7 x40))) x39 (Qj .i64 x40 1) y6 y7 y15) none) none) (some (.exit 0,QgE x18 x19))
def QgH (x18 x19 x39 x40:Int)(y6 y7:Estate)(y15:Rules):OX:=some (.exit 0,QgE (YP (JS y15 y6) (x39-x40).toNat x40 x18) (YP (JS y15 y7) (x39-x40).toNat x40 x19))
theorem QpE (x18 x19 x39 x40:Int)(y6 y7:Estate)(y15:Rules):QgG x18 x19 x39 x40 y6 y7 y15=IU QgG x18 x19 x39 x40 y6 y7 y15:=lnT (x:=IU (fun x18 x19 x39 x40 y6 y7 y15=>some (.normal,QpD x18 x19 x39 x40 y6 y7 y15)) x18 x19 x39 x40 y6 y7 y15) (by simp only [IU,nxA];rfl)
def r_f24 (p0 p1:Estate)(p2:Policy)(p3:List Exception)(p4:Dice)(p5:Int):OV:=
 let a1:=((p2.1,(p2.2.1,())),(p3,((p4.1,(p4.2.1,())),(p5,()))))
 br (Gx p0 p1) (br (ine (Zb p0 p1) 0) (some (.tu [(.t tI 0),(.t tI 0),(.t tI (Zb p0 p1))],[])) (br (ZB a1) (br (ine (Jg a1) 0) (some (.tu [(.t tI 0),(.t tI 0),(.t tI (Jg a1))],[])) (br (F3 (Qc p0.2.1) (0:Int) p0 p1 a1 (0:Int) (0:Int)) (some (.tu [(.t tI (YP (JS a1 p0) ((Qc p0.2.1)-(0:Int)).toNat (0:Int) (0:Int))),(.t tI (YP (JS a1 p1) ((Qc p0.2.1)-(0:Int)).toNat (0:Int) (0:Int))),(.t tI 0)],[])) none)) none)) none
theorem QAK (x18 x19 x39 x40:Int)(y6 y7:Estate)(y15:Rules)(h:(F3 x39 x40 y6 y7 y15 x18 x19)=true):QgG x18 x19 x39 x40 y6 y7 y15=QgH x18 x19 x39 x40 y6 y7 y15:=by
 simp only [F3,Bc,Ba] at h
 obtain ⟨a1,a2,b1,b2,hr,h0,h1,h2,h3,h4,h5,h6,h7⟩:=h
 have hle:y6.2.1.length<=40:=(UV a1).2.2.2.2.2
 obtain ⟨m,hm⟩: ∃ m:Nat,(x39-x40).toNat=m:=⟨_,rfl⟩
 induction m generalizing x40 x18 x19 with
 |zero=>
  have:ilt x40 x39=false:=Bn (by omega)
  rw [QpE]
  simp only [IU,QgH,this,Qh,hm,YP]
 |succ m ih=>
  have e0:ilt x40 x39=true:=Be (by omega)
  have e1:Qj .i64 x40 1=x40+1:=Jn (by omega)
  have e2:Xb y15 y6 x40=true:=Bg.2 ⟨hr,UF a1 a2 h0 (by omega)⟩
  have e3:Xb y15 y7 x40=true:=Bg.2 ⟨hr,UF b1 b2 h0 (by omega)⟩
  have l1:0<=JS y15 y6 x40/\JS y15 y6 x40<=64:=by have:=Qh6 y15 y6 x40;simp only [JS,Qc];omega
  have l2:0<=JS y15 y7 x40/\JS y15 y7 x40<=64:=by have:=Qh6 y15 y7 x40;simp only [JS,Qc];omega
  have e4:Qj .i64 x18 (Qc (Zq y15 y6 x40))=x18+JS y15 y6 x40:=Jn (by show _<=x18+JS y15 y6 x40/\x18+JS y15 y6 x40<=_;omega)
  have e5:Qj .i64 x19 (Qc (Zq y15 y7 x40))=x19+JS y15 y7 x40:=Jn (by show _<=x19+JS y15 y7 x40/\x19+JS y15 y7 x40<=_;omega)
  have e6:(x39-(x40+1)).toNat=m:=by omega
  rw [QpE]
  simp only [IU,e0,e1,e2,e3,e4,e5,Qd]
  rw [ih (x18+JS y15 y6 x40) (x19+JS y15 y7 x40) (x40+1) (by omega) (by omega) (by omega) (by omega) (by omega) (by omega) (by omega)]
  simp only [QgH,hm,e6,YP]
theorem QAL:LO QgF QgD QpC 0:=QI (s:=Qbr) fun x y h _ q=>by simp only [QF,QG] at q;exact (QAK x.2.2.2.1 x.2.2.2.2.1 x.2.2.2.2.2.1 x.2.2.2.2.2.2.1 y.1 y.2.1 y.2.2.1 h).trans q
theorem s_f24 (b a:Estate)(y:Policy)(l:List Exception)(o:Dice)(d:Int)(h:Gn b a y l o d=true):r_f24 b a y l o d=some (.tu [.t tI (Y8 b a y l o d).1,.t tI (Y8 b a y l o d).2.1,.t tI (Y8 b a y l o d).2.2],[]):=by
 obtain ⟨h1,h2⟩:=Bg.1 h
 obtain ⟨l1,l2⟩:=Bg.1 h1
 unfold r_f24 Y8
 refine brY h1 ?_
 cases hb:ine (Zb b a) 0 with
 |true=>rfl
 |false=>
  obtain ⟨o1,o2,he⟩:=Qib hb
  rw [Qh]
  refine brY (show ZB (rl y l o d)=true from h2) ?_
  show br (ine (Jg (rl y l o d)) 0) (some (V.tu [V.t tI 0,V.t tI 0,V.t tI (Jg (rl y l o d))],[])) (br (F3 (Qc b.2.1) 0 b a (rl y l o d) 0 0) (some (V.tu [V.t tI (YP (JS (rl y l o d) b) ((Qc b.2.1)-0).toNat 0 0),V.t tI (YP (JS (rl y l o d) a) ((Qc b.2.1)-0).toNat 0 0),V.t tI 0],[])) none)=_
  cases ine (Jg (rl y l o d)) 0 with
  |true=>rfl
  |false=>
   rw [Qh]
   have e:((Qc b.2.1)-0).toNat=b.2.1.length:=by simp only [Qc];omega
   refine brY ?_ ?_
   ·unfold F3
    rw [o1,o2,l1,l2,h2]
    exact Be ⟨Dq 0,by simp only [Qc];omega,rfl,by rw [←he],by omega,by omega,by omega,by omega⟩
   ·rw [e]
    rfl
def QpF:Ent:=Ql (.pr QJ (.pr QJ (.pr Zr (.pr (.sl JP) (.pr Qs (.pr tI .nil)))))) (fun x=>(Gn x.1 x.2.1 x.2.2.1 x.2.2.2.1 x.2.2.2.2.1 x.2.2.2.2.2.1)) (fun x=>(.tu [(.t tI ((Y8 x.1 x.2.1 x.2.2.1 x.2.2.2.1 x.2.2.2.2.1 x.2.2.2.2.2.1).1)),(.t tI (((Y8 x.1 x.2.1 x.2.2.1 x.2.2.2.1 x.2.2.2.2.1 x.2.2.2.2.2.1).2).1)),(.t tI (((Y8 x.1 x.2.1 x.2.2.1 x.2.2.2.1 x.2.2.2.2.1 x.2.2.2.2.2.1).2).2))]))
theorem ms_f24:EM 24 QpF:=mS (lk:=lkL (lkc QAL lkn)) QgF QpB [((.t 12),some tI),((.t 13),some tI),((.t 14),some tI)] false (gB (gD Qcr (gD Qcv (gD Qic gN)))) fun m=>Qr m fun x hok=>kT (s_f24 x.1 x.2.1 x.2.2.1 x.2.2.2.1 x.2.2.2.2.1 x.2.2.2.2.2.1 hok)
end
end Go.Proofs.YtmjnnemhoeolgaaGreat.K
noncomputable section
namespace Go.Proofs.YtmjnnemhoeolgaaGreat.K.PE
open Go.RowKit
noncomputable section
abbrev zP:Policy:=(([]:List Rule),(([]:List Keep),()))
abbrev zO:Dice:=(([]:List Int),(0,()))
abbrev zL:List Exception:=[]
theorem zP_all (u:Keep)(p d:Int):GC zP u p d=true:=by
 rw [QqV]
 rfl
theorem zP_bad {u:Keep}{d:Int}(h:ine (JH zP u 1 d).2.2 0=false):(JH zP u 1 d).1=true:=by
 unfold JH at h ⊢
 split at h
 ·rename_i hn
  rw [if_pos hn]
  exact zP_all u 1 d
 ·rename_i hn
  exact absurd (ine_z h) hn
theorem QnZ (d:Int): ∀ l:List Keep,(ZU zP d l false).1=false
 | []=>rfl
 |u::r=>by
  unfold ZU
  cases hq:ine (JH zP u 1 d).2.2 0 with
  |true=>rfl
  |false=>
   have hb:IX zP d u=false:=by
    unfold IX
    rw [zP_bad hq]
    rfl
   rw [hb]
   exact QnZ d r
theorem Qn0 (d:Int)(e:Estate)(i:Int):Zq (rl zP zL zO d) e i=[]:=by
 unfold Zq
 rw [List.filter_eq_nil_iff]
 intro o _
 have:Gw (rl zP zL zO d) (QX e i).2 o=false:=by
  show (WT zP zL zO (QX e i).2 o d).1=false
  unfold WT
  cases ine (Jb (QX e i).2 o).2 0 with
  |true=>rfl
  |false=>exact QnZ d _
 rw [this]
 exact Bool.false_ne_true
theorem QaU {y:Policy}{d:Int}(h:YJ y=0)(h0:0<=d)(h1:d<=40000):Jg (rl y zL zO d)=0:=by
 unfold Jg
 show (bif ine (YJ y) 0 then (25:Int) else bif ilt d 0||igt d 40000 then 2 else 0)=0
 rw [h,show ilt d 0=false from Bn (by omega),show igt d 40000=false from Bn (by omega)]
 rfl
theorem QfU {e:Estate}(h:Jw e=true):Zb e e=0:=by
 unfold Zb
 rw [h,QrT.2 rfl]
 rfl
theorem Qn1 {f:Int->Bool}(hf: ∀ i,f i=false): ∀ (k:Nat) (i:Int),Zh f k i=[]
 |0,_=>rfl
 |k+1,i=>by
  unfold Zh
  rw [hf i]
  exact Qn1 hf k (i+1)
theorem Qn2 {f:Int->Bool}(hf: ∀ i,f i=true): ∀ (k:Nat) (i:Int),(Zh f k i).length=k
 |0,_=>rfl
 |k+1,i=>by
  unfold Zh
  rw [hf i,Dn,Bo,Qn2 hf k (i+1)]
def wkV (d:Dice):Policy:=([(false,(dof d [14,16,2,12],(0,(0,(dof (Qk d [14,16,2,12]) [0,5,100],(40001,()))))))],([],()))
def wkN (d:Dice):Dice:=Qk (Qk d [14,16,2,12]) [0,5,100]
theorem Qn3 (d:Dice):YJ (wkV d)=0:=by
 have h1:=J7 (d:=d) (l:=[14,16,2,12]) (by decide)
 have h2:=J7 (d:=Qk d [14,16,2,12]) (l:=[0,5,100]) (by decide)
 unfold wkV
 generalize dof d [14,16,2,12]=a at h1
 generalize dof (Qk d [14,16,2,12]) [0,5,100]=b at h2
 have g1:0<=a/\a<=22:=by
  simp only [BD,BQ,De] at h1
  omega
 have g2:0<=b/\b<=100:=by
  simp only [BD,BQ,De] at h2
  omega
 have hr:Wz (false,(a,(0,(0,(b,(40001,()))))))=true:=Be ⟨g1.1,g1.2,Dq 0,(by decide:(0:Int)<=16384),Dq 0,(by decide:(0:Int)<=4),g2.1,(show b<40001 by omega),Dq 40001⟩
 have hp:Fn ([(false,(a,(0,(0,(b,(40001,()))))))],([],()))=true:=by
  unfold Fn
  rw [BZ,hr]
  rfl
 unfold YJ
 rw [if_pos hp]
def tc_f11:TC:=aF Tryz.f11 []
def g_f11:G:=gG 12 [(26,Wl)] (fun _ _=>none)
def r_f11 (d0:Dice):OV:=
 let a1:=(Qk d0 ([14,16,2,12]))
 br (QM d0 ([14,16,2,12])) (br (QM a1 ([0,5,100])) (some (.t Zr ([(false,((dof d0 ([14,16,2,12])),(0,(0,((dof a1 ([0,5,100])),(40001,()))))))],(([]:List Keep),())),[.box (.t Qs (Qk a1 ([0,5,100])))])) none) none
theorem s_f11 (d:Dice)(h:dOk d=true):r_f11 d=some (.t Zr (wkV d),[.box (.t Qs (wkN d))]):=
 brY (ZS h (by decide) (by decide)) (brY (ZS (Q8 (l:=[14,16,2,12]) h) (by decide) (by decide)) rfl)
def Qn4:Ent:=Yg Qs .nil (fun d x=>(dOk d)) (fun d x=>(.t Zr (wkV d))) (fun d x=>(wkN d))
theorem ms_f11:EM 11 Qn4:=mS g_f11 tc_f11 [((.c 2 true 2),some Zr)] false (gB (gD Uj gN)) fun m=>YZ m rfl fun d x hok=>kT (s_f11 d hok)
def QaV:Bool:=true
def tc_f8:TC:=aF Tryz.f8 []
def rv_f8:List (RV×Option Ty):=[((.t 0),some .bool)]
def g_f8:G:=gG 44 [(13,QgC),(14,Qgw),(15,Qia)] (fun _ _=>none)
def r_f8  : OV:=
 let a1:=(XY (([]:List Endpoint),(([]:List Keep),(([]:List Item),()))) (([]:List Rule),(([]:List Keep),())) ([]:List Exception) (([]:List Int),(0,())) 0)
 br (On (([]:List Endpoint),(([]:List Keep),(([]:List Item),()))) (([]:List Rule),(([]:List Keep),())) ([]:List Exception) (([]:List Int),(0,())) 0 0) (br (IS (([]:List Endpoint),(([]:List Keep),(([]:List Item),()))) (([]:List Rule),(([]:List Keep),())) ([]:List Exception) (([]:List Int),(0,())) 0) (br (Gn (([]:List Endpoint),(([]:List Keep),(([]:List Item),()))) (([]:List Endpoint),(([]:List Keep),(([]:List Item),()))) (([]:List Rule),(([]:List Keep),())) ([]:List Exception) (([]:List Int),(0,())) (-1)) (br (ieq ((W0 (([]:List Endpoint),(([]:List Keep),(([]:List Item),()))) (([]:List Rule),(([]:List Keep),())) ([]:List Exception) (([]:List Int),(0,())) 0 0).2) 4) (br (ieq (a1.2) 0) (br (ieq (Qc (a1.1)) 0) (some (.t .bool (ieq ((WR (([]:List Endpoint),(([]:List Keep),(([]:List Item),()))) (([]:List Endpoint),(([]:List Keep),(([]:List Item),()))) (([]:List Rule),(([]:List Keep),())) ([]:List Exception) (([]:List Int),(0,())) (-1)).2) 2),[])) (some (.t .bool false,[]))) (some (.t .bool false,[]))) (some (.t .bool false,[]))) none) none) none
theorem e_f8  : Jq g_f8 tc_f8 rv_f8 false [] []=r_f8  :=by kernel_rfl
set_option maxRecDepth 100000 in
theorem s_f8:r_f8=some (.t .bool QaV,[]):=by kernel_rfl
def sp_f8:Ent:=Ql .nil (fun x=>true) (fun x=>(.t .bool QaV))
theorem ms_f8:EM 8 sp_f8:=mS g_f8 tc_f8 rv_f8 false (gB (gD Qpz (gD Qpt (gD Qr6 gN)))) fun m=>Qr m fun x _=>(e_f8 ).trans (s_f8)
theorem Qn5: ∀ (n:Nat) (d:Dice),dOk d=true->dOk (itZ n d).2=true
 |0,_,h=>h
 |n+1,d,h=>Qn5 n _ (Qq6 (s:=Yn d sIt) (Qjm h))
theorem mk_dOk {d:Dice}(h:dOk d=true):dOk (Ux d)=true:=by
 have h1:=QaC (Q5 d) (Qb d 3) (Qv h)
 have h2:dOk (ZA d).2=true:=QfF (Q5 d).length (Q5 d).length 0 [] _ h1
 exact Qn5 _ _ (Qv h2)
theorem brX {β:Type}{c:Bool}{a b r:Option β}(h:c=false)(k:b=r):br c a b=r:=by rw [h];exact k
def smL (_:List Int)(_:Int):Bool:=true
def QfV (_:List Int)(a:Int):Bool:=decide (0<=a/\a<=65535)
def IB (n i d:Int)(e:Estate):Bool:=Jw e&&(J3 e&&decide (0<=i/\i<=n/\n=e.2.1.length/\0<=d/\d<=40000))
theorem ine_00:ine (0:Int) 0=false:=rfl
theorem Qzy:Qc ([]:List Keep)=0:=rfl
abbrev QaW:Sh:=⟨[(6,.ptr 6 0),(8,.ty tI),(87,.ty tI),(88,.ty tI)],[(6,.box QJ)]⟩
abbrev Qn6:Sh:=⟨[(4,.ty .bool)],[]⟩
abbrev Qn7:Sh:=⟨[],[]⟩
def QfW:Fg:=QaW.f
def QaX:TC:=aF Tryz.f6 [(16378,pL 0 QfW),(262053,.fg Qn7.f),(33542973,.fg Qn6.f)]
def Qn8:TC:=lb 0 QaX
def rv_f6:List (RV×Option Ty):=[((.t 4),some .bool)]
def Qn9 (x8 x87 x88:Int)(y6:Estate):VS:=QaW.st ((),x8,x87,x88,()) (y6,())
def FT (x4:Bool):VS:=Qn6.st (x4,()) ()
def QfX  : VS:=Qn7.st () ()
def L_f6_0:VS->Option (Bool×List (Bool×Exit×VS)):=mkL QaW (fun x y=>(IB x.2.2.1 x.2.2.2.1 x.2.1 y.1)) (fun x y=>[((false),.ret,FT (false)),(true,.exit 0,QfX)])
def FU:G:=gG 125 [(7,sp_f7),(8,sp_f8),(9,sp_f9),(11,Qn4),(13,QgC),(14,Qgw),(15,Qia),(16,Qpn),(24,QpF),(25,QnN)] (Ls [L_f6_0])
def QfY (x8 x87 x88:Int)(y6:Estate):OX:=Qx (Qz FU QfW Qn8) (Qn9 x8 x87 x88 y6)
def IC (kk:Int->Int->Int->Estate->OX)(x8 x87 x88:Int)(y6:Estate):OX:=
 let a1:=(W0 y6 (([]:List Rule),(([]:List Keep),())) ([]:List Exception) (([]:List Int),(0,())) x88 x8)
 br (ilt x88 x87) (br (Qbo y6 y6 x88) (br (On y6 (([]:List Rule),(([]:List Keep),())) ([]:List Exception) (([]:List Int),(0,())) x88 x8) (br (ine ((WQ y6 y6 x88).2) 0) (some (.ret,FT false)) (br (ine (a1.2) 0) (some (.ret,FT false)) (br (ine (Qc ((WQ y6 y6 x88).1)) 0) (some (.ret,FT false)) (br (ine (Qc (a1.1)) 0) (some (.ret,FT false)) (kk x8 x87 (Qj .i64 x88 1) y6))))) none) none) (some (.exit 0,QfX))
def Qoa (x8 x87 x88:Int)(y6:Estate):OX:=br (false) (some (.ret,FT (false)))<|some (.exit 0,QfX)
theorem Qob (x8 x87 x88:Int)(y6:Estate):QfY x8 x87 x88 y6=IC QfY x8 x87 x88 y6:=lnT (x:=IC (fun x8 x87 x88 y6=>some (.normal,Qn9 x8 x87 x88 y6)) x8 x87 x88 y6) (by simp only [IC,nxA];rfl)
def QfZ (p0:List Int)(p1:Int):OV:=
 let a3:=mkX (Xk p0)
 let a2:=ZP (icv .i64 p1) 40000
 let a1:=(Y8 a3 a3 (wkV (Ux (Xk p0))) ([]:List Exception) (([]:List Int),(0,())) a2)
 let a4:=(XY a3 (([]:List Rule),(([]:List Keep),())) ([]:List Exception) (([]:List Int),(0,())) a2)
 let a5:=(Gn a3 a3 (wkV (Ux (Xk p0))) ([]:List Exception) (([]:List Int),(0,())) a2)
 let a6:=(WR a3 a3 (wkV (Ux (Xk p0))) ([]:List Exception) (([]:List Int),(0,())) a2)
 br (!(U0 p0)) (some (.t .bool QaV,[])) (br (dOk (Xk p0)) (br (dOk (Ux (Xk p0))) (br (cNz 40000) (br a5 (br a5 (br (IS a3 (([]:List Rule),(([]:List Keep),())) ([]:List Exception) (([]:List Int),(0,())) a2) (br (ine (Qj .i64 (Qj .i64 (a6.2) ((a1.2).2)) (a4.2)) 0) (some (.t .bool false,[])) (br (ine (Qc (a6.1)) 0) (some (.t .bool false,[])) (br (ine (a1.1) ((a1.2).1)) (some (.t .bool false,[])) (br (ine (Qc (a4.1)) (Qc ((a3.2).1))) (some (.t .bool false,[])) (br (IB (Qc ((a3.2).1)) (0:Int) a2 a3) (br (false) (some (.t .bool (false),[])) (some (.t .bool QaV,[]))) none))))) none) none) none) none) none) none)
theorem e_f6 (p0:List Int)(p1:Int):Jq FU QaX rv_f6 false [.t (.sl tI) p0,.t (.int .u16) p1] []=QfZ p0 p1:=by kernel_rfl
theorem gk_f6:GOk Tryz.prog FU:=J8 _ (gA (gD ms_f7 (gD ms_f8 (gD ms_f9 (gD ms_f11 (gD Qpz (gD Qpt (gD Qr6 (gD ms_f16 (gD ms_f24 (gD ms_f25 gN)))))))))))
theorem l_f6_0 (x8 x87 x88:Int)(y6:Estate)(h:(IB x87 x88 x8 y6)=true):QfY x8 x87 x88 y6=Qoa x8 x87 x88 y6:=by
 simp only [IB,Bc,Ba] at h
 obtain ⟨o1,l1,h0,h1,h2,h3,h4⟩:=h
 have hle:y6.2.1.length<=40:=(UV o1).2.2.2.2.2
 obtain ⟨m,hm⟩: ∃ m:Nat,(x87-x88).toNat=m:=⟨_,rfl⟩
 induction m generalizing x88 with
 |zero=>
  have:ilt x88 x87=false:=Bn (by omega)
  rw [Qob]
  simp only [IC,Qoa,this,Qh]
 |succ m ih=>
  have e0:ilt x88 x87=true:=Be (by omega)
  have e1:Qj .i64 x88 1=x88+1:=Jn (by omega)
  have e2:Qbo y6 y6 x88=true:=Bg.2 ⟨l1,l1⟩
  have e3:On y6 zP zL zO x88 x8=true:=Bg.2 ⟨l1,rfl⟩
  have i0:ilt x88 0=false:=Bn (by omega)
  have i1:ige x88 (Qc y6.2.1)=false:=Bn (by simp only [Qc];omega)
  have e4:WQ y6 y6 x88=([],0):=by
   unfold WQ
   rw [QfU o1,i0,i1,QmS]
   rfl
  have e5:W0 y6 zP zL zO x88 x8=([],0):=by
   unfold W0
   rw [o1,QaU (y:=zP) rfl h3 h4,i0,i1,Qn0]
   rfl
  rw [Qob]
  simp only [IC,e0,e1,e2,e3,e4,e5,Qd,Qzy,ine_00,Qh]
  exact ih (x88+1) (by omega) (by omega) (by omega)
theorem Qzz:LO FU QfW Qn8 0:=QI (s:=QaW) fun x y h _ q=>by simp only [QF,QG] at q;exact (l_f6_0 x.2.1 x.2.2.1 x.2.2.2.1 y.1 h).trans q
theorem lk_f6:QaX.lok FU:=by
 repeat (first|exact trivial|exact Qzz|refine ⟨?_, ?_⟩)
theorem s_f6 (p0:List Int)(a:Int)(h:QfV p0 a=true):QfZ p0 a=some (.t .bool (smL p0 a),[]):=by
 have ha:0<=a/\a<=65535:=BI h
 unfold QfZ
 rw [icv_in (show-9223372036854775808<=a/\a<=9223372036854775807 by omega)]
 have r1:=Qw2 (a:=a) (b:=40000) ha.1 (by decide)
 generalize ZP a 40000=n at r1 ⊢
 refine Q4 (fun _=>rfl) (fun k1=> ?_)
 have k1:U0 p0=true:=by simpa using k1
 have hd:=QvM k1
 generalize Xk p0=d at hd ⊢
 obtain ⟨o1,l1⟩:=mk_ok hd
 have hw:=mk_dOk hd
 generalize mkX d=e at o1 l1 ⊢
 generalize Ux d=w at hw ⊢
 have hS:WR e e (wkV w) zL zO n=([],0):=by
  unfold WR
  rw [QfU o1,QaU (Qn3 w) (by omega) (by omega),Qn1 (fun i=>by unfold stB;rw [QmS];rfl)]
  rfl
 have hP:(Y8 e e (wkV w) zL zO n).2.2=0/\(Y8 e e (wkV w) zL zO n).1=(Y8 e e (wkV w) zL zO n).2.1:=by
  unfold Y8
  rw [QfU o1,QaU (Qn3 w) (by omega) (by omega)]
  exact ⟨rfl,rfl⟩
 have hC:(XY e zP zL zO n).2=0/\(XY e zP zL zO n).1.length=e.2.1.length:=by
  unfold XY
  rw [o1,QaU (y:=zP) rfl (by omega) (by omega)]
  exact ⟨rfl,Qn2 (fun i=>by unfold clB;rw [Qn0];rfl) _ _⟩
 have hq:Gn e e (wkV w) zL zO n=true:=Bg.2 ⟨Bg.2 ⟨l1,l1⟩,rfl⟩
 refine brY hd (brY hw (brY rfl (brY hq (brY hq (brY (show IS e zP zL zO n=true from Bg.2 ⟨l1,rfl⟩) ?_)))))
 refine brX ?_ (brX ?_ (brX ?_ (brX ?_ (brY ?_ rfl))))
 ·rw [hS,hP.1,hC.1]
  rfl
 ·rw [hS]
  rfl
 ·rw [hP.2]
  simp [ine]
 ·simp only [Qc,hC.2]
  simp [ine]
 ·unfold IB
  rw [o1,l1]
  exact Be ⟨Dq 0,by simp only [Qc];omega,rfl,by omega,by omega⟩
def sp_f6:Ent:=Ql (.pr (.sl tI) (.pr (.int .u16) .nil)) (fun x=>(QfV x.1 x.2.1)) (fun x=>(.t .bool (smL x.1 x.2.1)))
theorem ms_f6:Qu Tryz.prog 6 (Qq sp_f6):=Qr (R:=Jq FU QaX rv_f6 false) (mG Tryz.func6 (by kernel_rfl) Tryz.ntmps6 (by kernel_rfl) gk_f6 lk_f6) fun x hok=>(e_f6 x.1 x.2.1).trans (s_f6 x.1 x.2.1 hok)
end
end Go.Proofs.YtmjnnemhoeolgaaGreat.K.PE
namespace Go.Proofs.YtmjnnemhoeolgaaGreat.K
open Go.RowKit PE
theorem QzA (z0:List Int)(z1:Int)(w0:Ty.wf (.sl (.int .i64)) z0)(w1:Ty.wf (.int .u16) z1):QfV z0 z1=true:=Be (Qmj w1)
theorem walkPolicySame (z0:(List Int))(z1:Int)(W:World)(v0:Value)(v1:Value)(c0:C noX W (fun _=> .no) (V.t (.sl tI) z0).d v0)(c1:C noX W (fun _=> .no) (V.t (.int .u16) z1).d v1)(w0:Ty.wf (.sl tI) z0)(w1:Ty.wf (.int .u16) z1):
  Calls Tryz.prog 6 #[v0,v1] W fun r w'=>r= .returned (.bool true)/\Below W.heap.size W w':=
 Qxd (by decide) ms_f6 (args:=[.t (.sl tI) z0,.t (.int .u16) z1]) (V6 (x:=(z0,z1,())) rfl (QzA z0 z1 w0 w1)) (by simp only [V.ds,Cs];exact ⟨_,_,rfl,c0,_,_,rfl,c1,rfl⟩)
end Go.Proofs.YtmjnnemhoeolgaaGreat.K
