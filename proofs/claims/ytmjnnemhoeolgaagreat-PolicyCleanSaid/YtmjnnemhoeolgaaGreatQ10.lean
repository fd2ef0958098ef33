import Derived.Test.YtmjnnemhoeolgaaGreatQ9
import Derived.Test.YtmjnnemhoeolgaaGreatQ8
set_option linter.unusedSimpArgs false
set_option linter.unusedVariables false
noncomputable section
namespace Go.Proofs.YtmjnnemhoeolgaaGreat.K
open Go.RowKit
noncomputable section
def WS (l:List Keep)(_:Keep):Bool:=decide (l.length<=100000)
def Vp (l:List Keep)(v:Keep):Int:=match Qs (fun c=>v==c) l with|some k=>(k:Int)|none=> -1
abbrev Qeh:Sh:=⟨[(0,.ty (.sl Qd)),(3,.ptr 3 0),(7,.ty tI),(8,.ty tI)],[(3,.box Qd)]⟩
abbrev Qxt:Sh:=⟨[(4,.ty tI)],[]⟩
abbrev Qxu:Sh:=⟨[],[]⟩
def Ql0:Fg:=Qeh.f
def Qxv:TC:=aF Tryz.f60 [(26,pL 0 Ql0),(421,.fg Qxu.f),(3378,pD [(0,[3]),(1,[]),(2,[]),(3,[]),(4,[]),(5,[])] (.of [0,1,2,3,4,5])),(13517,.fg Qxt.f)]
def Qxw:TC:=lb 0 Qxv
def Qxx (x0:List Keep)(x7 x8:Int)(y3:Keep):VS:=Qeh.st (x0,(),x7,x8,()) (y3,())
def Ql1 (x4:Int):VS:=Qxt.st (x4,()) ()
def Ql2  : VS:=Qxu.st () ()
def QLB:VS->Option (Bool×List (Bool×Exit×VS)):=mkL Qeh (fun x y=>(QA x.1 x.2.2.1 x.2.2.2.1)) (fun x y=>[(((Qs (fun c=>y.1==c) (x.1.drop x.2.2.2.1.toNat)).isSome),.ret,Ql1 (x.2.2.2.1+((Qs (fun c=>y.1==c) (x.1.drop x.2.2.2.1.toNat)).getD 0:Nat))),(true,.exit 0,Ql2)])
def Ql3:G:=gG 19 [] (Ls [QLB])
def Qei (x0:List Keep)(x7 x8:Int)(y3:Keep):OX:=Qr (Qv Ql3 Ql0 Qxw) (Qxx x0 x7 x8 y3)
def Vq (kk:List Keep->Int->Int->Keep->OX)(x0:List Keep)(x7 x8:Int)(y3:Keep):OX:=
 let a1:=lgt Qd x0 (Int.toNat x8)
 br (ilt x8 x7) (br (cIx x0 x8) (br (and (ieq y3.1 (a1.1)) (and (ieq y3.2.1 ((a1.2).1)) true)) (some (.ret,Ql1 x8)) (kk x0 x7 (Qg .i64 x8 1) y3)) none) (some (.exit 0,Ql2))
def Qej (x0:List Keep)(x7 x8:Int)(y3:Keep):OX:=br ((Qs (fun c=>y3==c) (x0.drop x8.toNat)).isSome) (some (.ret,Ql1 (x8+((Qs (fun c=>y3==c) (x0.drop x8.toNat)).getD 0:Nat))))<|some (.exit 0,Ql2)
theorem Qxy (x0:List Keep)(x7 x8:Int)(y3:Keep):Qei x0 x7 x8 y3=Vq Qei x0 x7 x8 y3:=lnT (x:=Vq (fun x0 x7 x8 y3=>some (.normal,Qxx x0 x7 x8 y3)) x0 x7 x8 y3) (by simp only [Vq,nxA];rfl)
def r_f60 (p0:List Keep)(p1:Keep):OV:=
 let a1:=(p0.drop (0:Int).toNat)
 br (QA p0 (Qa p0) (0:Int)) (br ((Qs (fun c=>p1==c) a1).isSome) (some (.t tI ((0:Int)+((Qs (fun c=>p1==c) a1).getD 0:Nat)),[])) (some (.t tI (-1),[]))) none
theorem QLC (x0:List Keep)(x7 x8:Int)(y3:Keep)(h:(QA x0 x7 x8)=true):Qei x0 x7 x8 y3=Qej x0 x7 x8 y3:=by
 obtain ⟨rfl,h3,k,rfl,hk⟩:=JB h
 clear h
 refine QP x0 (fun k=>Qei x0 (x0.length:Int) (k:Int) y3=Qej x0 (x0.length:Int) (k:Int) y3) ?_ ?_ k hk
 ·rw [Qxy]
  simp [Vq,Qej,Qz,Qf,Qs]
 ·intro k hk ih
  rw [Qxy]
  have hq:(and (ieq y3.1 x0[k].1) (and (ieq y3.2.1 x0[k].2.1) true))=(y3==x0[k]):=rfl
  simp only [Vq,Qz,QJ,hk,Bt,Qb,Bc,QO (show k<4611686018427387904 by omega),ih,QL (y:=Qd) hk]
  rw [hq]
  simp only [Qej,Bc,Bi hk,Qs]
  cases h:(y3==x0[k]) with
  |true=>simp [Qb]
  |false=>
   simp only [Qf,BF,Dd]
   cases hq:Qs (fun c=>y3==c) (x0.drop (k+1)) with
   |none=>rfl
   |some j=>
    simp only [B3,B7,BH,Qb]
    congr 3
    omega
theorem QLD:LO Ql3 Ql0 Qxw 0:=QH (s:=Qeh) fun x y h _ q=>by simp only [QE,QF] at q;exact (QLC x.1 x.2.2.1 x.2.2.2.1 y.1 h).trans q
theorem s_f60 (l:List Keep)(v:Keep)(h:WS l v=true):r_f60 l v=some (.t tI (Vp l v),[]):=by
 have hl:l.length<=100000:=Bx h
 simp only [r_f60,JC hl,Qb,Br,By,Vp]
 cases Qs (fun c=>v==c) l<;>simp [Qb,Qf]
def Qxz:Ent:=Qi (.pr (.sl Qd) (.pr Qd .nil)) (fun x=>(WS x.1 x.2.1)) (fun x=>(.t tI (Vp x.1 x.2.1)))
theorem ms_f60:EM 60 Qxz:=mS (lk:=lkL (lkc QLD lkn)) Ql3 Qxv [((.t 4),some tI)] false (gB gN) fun m=>Qm m fun x hok=>kT (s_f60 x.1 x.2.1 hok)
def Yh (l:List Keep)(v:Keep):Bool:=l.any fun c=>v==c
def tc_f34:TC:=aF Tryz.f34 []
def g_f34:G:=gG 9 [(60,Qxz)] (fun _ _=>none)
def r_f34 (p0:List Keep)(p1:Keep):OV:=br (WS p0 p1) (some (.t .bool (ige (Vp p0 p1) 0),[])) none
theorem QxA (p:Keep->Bool)(l:List Keep):ige (match Qs p l with|some k=>(k:Int)|none=> -1) 0=l.any p:=by
 rw [←Qd6]
 cases Qs p l with
 |none=>rfl
 |some k=>
  simp only [ige,B7,Ba]
  omega
theorem s_f34 (l:List Keep)(v:Keep)(h:WS l v=true):r_f34 l v=some (.t .bool (Yh l v),[]):=by
 unfold r_f34
 refine brY h ?_
 rw [show ige (Vp l v) 0=Yh l v from QxA _ l]
def QxB:Ent:=Qi (.pr (.sl Qd) (.pr Qd .nil)) (fun x=>(WS x.1 x.2.1)) (fun x=>(.t .bool (Yh x.1 x.2.1)))
theorem ms_f34:EM 34 QxB:=mS g_f34 tc_f34 [((.t 4),some .bool)] false (gB (gD ms_f60 gN)) fun m=>Qm m fun x hok=>kT (s_f34 x.1 x.2.1 hok)
def inO (o:Keep)(d:List Keep):Bool:=Yh d o
def Qek (_:Keep)(d:List Keep):Bool:=decide (d.length<=100000)
def tc_f33:TC:=aF Tryz.f33 []
def g_f33:G:=gG 7 [(34,QxB)] (fun _ _=>none)
def r_f33 (p0:Keep)(d0:List Keep):OV:=br (WS d0 p0) (some (.t .bool (Yh d0 p0),[.box (.t (.sl Qd) d0)])) none
theorem s_f33 (o:Keep)(d:List Keep)(h:Qek o d=true):r_f33 o d=some (.t .bool (inO o d),[.box (.t (.sl Qd) d)]):=brY h rfl
def QxC:Ent:=Ei [.ty Qd,.ptr 50000 0] [(.sl Qd)] (fun x d=>(Qek x.1 d.1)) (fun x d=>(.t .bool (inO x.1 d.1)))
theorem ms_f33:EM 33 QxC:=mS g_f33 tc_f33 [((.t 3),some .bool)] false (gB (gD ms_f34 gN)) fun m=>Oz (ZZ m fun x d hok=>kT (s_f33 x.1 d.1 hok))
def okS (l d:List Keep):Bool:=decide (l.length<=100000/\d.length<=100000)
def ixS (l d:List Keep):Int:=match Qs (fun c=>inO c d) l with|some k=>(k:Int)|none=> -1
abbrev Qel:Sh:=⟨[(0,.ty (.sl Qd)),(1,.fn 33 [(50000,0)]),(7,.ty tI),(8,.ty tI)],[(50000,.box (.sl Qd))]⟩
abbrev QxD:Sh:=⟨[(4,.ty tI)],[(50000,.box (.sl Qd))]⟩
abbrev QxE:Sh:=⟨[],[(50000,.box (.sl Qd))]⟩
def Ql4:Fg:=Qel.f
def QxF:TC:=aF Tryz.f58 [(26,pL 0 Ql4),(421,.fg QxE.f),(13517,.fg QxD.f)]
def QxG:TC:=lb 0 QxF
def QxH (x0:List Keep)(x7 x8:Int)(Qc:List Keep):VS:=Qel.st (x0,(),x7,x8,()) (Qc,())
def Ql5 (x4:Int)(Qc:List Keep):VS:=QxD.st (x4,()) (Qc,())
def Ql6 (Qc:List Keep):VS:=QxE.st () (Qc,())
def QLE:VS->Option (Bool×List (Bool×Exit×VS)):=mkL Qel (fun x y=>(QA x.1 x.2.2.1 x.2.2.2.1&&okS x.1 y.1)) (fun x y=>[(((Qs (fun c=>inO c y.1) (x.1.drop x.2.2.2.1.toNat)).isSome),.ret,Ql5 (x.2.2.2.1+((Qs (fun c=>inO c y.1) (x.1.drop x.2.2.2.1.toNat)).getD 0:Nat)) (y.1)),(true,.exit 0,Ql6 (y.1))])
def Ql7:G:=gG 19 [(33,QxC)] (Ls [QLE])
def Qem (x0:List Keep)(x7 x8:Int)(Qc:List Keep):OX:=Qr (Qv Ql7 Ql4 QxG) (QxH x0 x7 x8 Qc)
def Vr (kk:List Keep->Int->Int->List Keep->OX)(x0:List Keep)(x7 x8:Int)(Qc:List Keep):OX:=
 let a1:=lgt Qd x0 (Int.toNat x8)
 br (ilt x8 x7) (br (cIx x0 x8) (br (Qek a1 Qc) (br (inO a1 Qc) (some (.ret,Ql5 x8 Qc)) (kk x0 x7 (Qg .i64 x8 1) Qc)) none) none) (some (.exit 0,Ql6 Qc))
def Qen (x0:List Keep)(x7 x8:Int)(Qc:List Keep):OX:=br ((Qs (fun c=>inO c Qc) (x0.drop x8.toNat)).isSome) (some (.ret,Ql5 (x8+((Qs (fun c=>inO c Qc) (x0.drop x8.toNat)).getD 0:Nat)) (Qc)))<|some (.exit 0,Ql6 (Qc))
theorem QxI (x0:List Keep)(x7 x8:Int)(Qc:List Keep):Qem x0 x7 x8 Qc=Vr Qem x0 x7 x8 Qc:=lnT (x:=Vr (fun x0 x7 x8 Qc=>some (.normal,QxH x0 x7 x8 Qc)) x0 x7 x8 Qc) (by simp only [Vr,nxA];rfl)
def QxJ (p0 d0:List Keep):OV:=
 let a1:=(p0.drop (0:Int).toNat)
 br (QA p0 (Qa p0) (0:Int)&&okS p0 d0) (br ((Qs (fun c=>inO c d0) a1).isSome) (some (.t tI ((0:Int)+((Qs (fun c=>inO c d0) a1).getD 0:Nat)),[.box (.t (.sl Qd) (d0))])) (some (.t tI (-1),[.box (.t (.sl Qd) (d0))]))) none
theorem QLF (x0:List Keep)(x7 x8:Int)(Qc:List Keep)(h:(QA x0 x7 x8&&okS x0 Qc)=true):Qem x0 x7 x8 Qc=Qen x0 x7 x8 Qc:=by
 simp only [Bb] at h
 obtain ⟨h0,hc⟩:=h
 have hd:Qc.length<=100000:=(Bx hc).2
 obtain ⟨rfl,h3,k,rfl,hk⟩:=JB h0
 clear h0
 refine QP x0 (fun k=>Qem x0 (x0.length:Int) (k:Int) Qc=Qen x0 (x0.length:Int) (k:Int) Qc) ?_ ?_ k hk
 ·rw [QxI]
  simp [Vr,Qen,Qz,Qf,Qs]
 ·intro k hk ih
  rw [QxI]
  have e1: ∀ o,Qek o Qc=true:=fun _=>Be hd
  simp only [Vr,Qz,QJ,hk,Bt,Qb,Bc,QO (show k<4611686018427387904 by omega),ih,QL (y:=Qd) hk,e1]
  simp only [Qen,Bc,Bi hk,Qs]
  cases h:(inO x0[k] Qc) with
  |true=>simp [Qb]
  |false=>
   simp only [Qf,BF,Dd]
   cases hq:Qs (fun c=>inO c Qc) (x0.drop (k+1)) with
   |none=>rfl
   |some j=>
    simp only [B3,B7,BH,Qb]
    congr 3
    omega
theorem QLG:LO Ql7 Ql4 QxG 0:=QH (s:=Qel) fun x y h _ q=>by simp only [QE,QF] at q;exact (QLF x.1 x.2.2.1 x.2.2.2.1 y.1 h).trans q
theorem QLH (l d:List Keep)(h:okS l d=true):QxJ l d=some (.t tI (ixS l d),[.box (.t (.sl Qd) d)]):=by
 have hl:l.length<=100000:=(Bx h).1
 simp only [QxJ,JC hl,h,BZ,Qb,Br,By,ixS]
 cases Qs (fun c=>inO c d) l<;>simp [Qb,Qf]
def QxK:Ent:=Ei [.ty (.sl Qd),.fn 33 [(50000,0)]] [(.sl Qd)] (fun x d=>(okS x.1 d.1)) (fun x d=>(.t tI (ixS x.1 d.1)))
theorem QLI:EM 58 QxK:=mS (lk:=lkL (lkc QLG lkn)) Ql7 QxF [((.t 4),some tI)] false (gB (gD ms_f33 gN)) fun m=>Oz (ZZ m fun x d hok=>kT (QLH x.1 d.1 hok))
def E6 (l d:List Keep):Bool:=l.any fun c=>inO c d
def QLJ:TC:=aF Tryz.f31 []
def QLK:G:=gG 9 [(58,QxK)] (fun _ _=>none)
def QxL (p0 d0:List Keep):OV:=br (okS p0 d0) (some (.t .bool (ige (ixS p0 d0) 0),[.box (.t (.sl Qd) d0)])) none
theorem QLL (l d:List Keep)(h:okS l d=true):QxL l d=some (.t .bool (E6 l d),[.box (.t (.sl Qd) d)]):=by
 unfold QxL
 refine brY h ?_
 rw [show ige (ixS l d) 0=E6 l d from QxA _ l]
def QxM:Ent:=Ei [.ty (.sl Qd),.fn 33 [(50000,0)]] [(.sl Qd)] (fun x d=>(okS x.1 d.1)) (fun x d=>(.t .bool (E6 x.1 d.1)))
theorem QLM:EM 31 QxM:=mS QLK QLJ [((.t 4),some .bool)] false (gB (gD QLI gN)) fun m=>Oz (ZZ m fun x d hok=>kT (QLL x.1 d.1 hok))
def UE (b a:Estate)(i:Int):List Keep×Int:=bif ine (Yv b a) 0 then ([],Yv b a) else bif ilt i 0||ige i (Qa b.2.1) then ([],4) else (YG b a i,0)
def Qeo (b a:Estate)(_i:Int):Bool:=IA b a
def tc_f16:TC:=aF Tryz.f16 []
def g_f16:G:=gG 28 [(30,Qn0),(32,Qds)] (fun _ _=>none)
def r_f16 (p0 p1:Estate)(p2:Int):OV:=br (IA p0 p1) (br (ine (Yv p0 p1) 0) (some (.tu [(.t (.sl Qd) ([]:List Keep)),(.t tI (Yv p0 p1))],[])) (br (ilt p2 0) (some (.tu [(.t (.sl Qd) ([]:List Keep)),(.t tI 4)],[])) (br (ige p2 (Qa p0.2.1)) (some (.tu [(.t (.sl Qd) ([]:List Keep)),(.t tI 4)],[])) (br (Qdm p0 p1 p2) (some (.tu [(.t (.sl Qd) (YG p0 p1 p2)),(.t tI 0)],[])) none)))) none
theorem s_f16 (b a:Estate)(i:Int)(h:Qeo b a i=true):r_f16 b a i=some (.tu [.t (.sl Qd) (UE b a i).1,.t tI (UE b a i).2],[]):=by
 obtain ⟨l1,l2⟩:=Bg.1 h
 unfold r_f16 UE
 refine brY h ?_
 cases hb:ine (Yv b a) 0 with
 |true=>rfl
 |false=>
  obtain ⟨o1,o2,he⟩:=QAU hb
  rw [Qf]
  cases h3:ilt i 0 with
  |true=>rfl
  |false=>
   rw [Qf]
   cases h4:ige i (Qa b.2.1) with
   |true=>rfl
   |false=>
    rw [Qf]
    have h3:=Dn h3
    have h4:=Dn h4
    simp only [Qa] at h4
    exact brY (Bg.2 ⟨Ix o1 l1 (by omega) (by omega),Ix o2 l2 (by omega) (by rw [←he];omega)⟩) rfl
def QxN:Ent:=Qi (.pr Qx (.pr Qx (.pr tI .nil))) (fun x=>(Qeo x.1 x.2.1 x.2.2.1)) (fun x=>(.tu [(.t (.sl Qd) ((UE x.1 x.2.1 x.2.2.1).1)),(.t tI ((UE x.1 x.2.1 x.2.2.1).2))]))
theorem ms_f16:EM 16 QxN:=mS g_f16 tc_f16 [((.t 6),some (.sl Qd)),((.t 7),some tI)] false (gB (gD QAV (gC QvR QvT gN))) fun m=>Qm m fun x hok=>kT (s_f16 x.1 x.2.1 x.2.2.1 hok)
def JR (f:Int->Bool):Nat->Int->List Int
 |0,_=>[]
 |k+1,i=>bif f i then i::JR f k (i+1) else JR f k (i+1)
def stB (r:Rules)(b a:Estate)(i:Int):Bool:=E6 (YG b a i) (ZQ r a i)
def E7 (n i:Int)(b a:Estate)(r:Rules)(out:List Int):Bool:=
 J0 b&&(JN b&&(J0 a&&(JN a&&(YV r&&decide (0<=i/\i<=n/\n=b.2.1.length/\n=a.2.1.length/\(out.length:Int)<=i)))))
def WT (b a:Estate)(y:Policy)(l:List Exception)(o:Dice)(d:Int):List Int×Int:=
 bif ine (Yv b a) 0 then ([],Yv b a) else bif ine (Zc (rl y l o d)) 0 then ([],Zc (rl y l o d)) else (JR (stB (rl y l o d) b a) b.2.1.length 0,0)
def Vs (b a:Estate)(y:Policy)(l:List Exception)(o:Dice)(d:Int):Bool:=IA b a&&YV (rl y l o d)
abbrev Qep:Sh:=⟨[(6,.ptr 6 0),(7,.ptr 7 0),(14,.ptr 14 0),(17,.ms 17),(38,.ty tI),(39,.ty tI)],[(6,.box Qx),(7,.box Qx),(14,.box Ft),(17,.arr 3 tI),(55,.no)]⟩
abbrev QxO:Sh:=⟨[(17,.ms 17)],[(17,.arr 3 tI),(55,.no)]⟩
def Ql8:Fg:=Qep.f
def QxP:TC:=aF Tryz.f14 [(506,.nw 17 3),(506,pL 0 Ql8),(8101,.fg QxO.f)]
def QxQ:TC:=lb 0 QxP
def QxR (x38 x39:Int)(y6 y7:Estate)(y14:Rules)(y17:List Int):VS:=Qep.st ((),(),(),(),x38,x39,()) (y6,y7,y14,y17,(),())
def Ql9 (y17:List Int):VS:=QxO.st ((),()) (y17,(),())
def QLN:VS->Option (Bool×List (Bool×Exit×VS)):=mkL Qep (fun x y=>(E7 x.2.2.2.2.1 x.2.2.2.2.2.1 y.1 y.2.1 y.2.2.1 y.2.2.2.1)) (fun x y=>[(true,.exit 0,Ql9 (y.2.2.2.1++JR (stB y.2.2.1 y.1 y.2.1) (x.2.2.2.2.1-x.2.2.2.2.2.1).toNat x.2.2.2.2.2.1))])
def Qma:G:=gG 58 [(28,QfJ),(29,QfN),(30,Qn0),(31,QxM),(32,Qds)] (Ls [QLN])
def Qmb (x38 x39:Int)(y6 y7:Estate)(y14:Rules)(y17:List Int):OX:=Qr (Qv Qma Ql8 QxQ) (QxR x38 x39 y6 y7 y14 y17)
def Vt (kk:Int->Int->Estate->Estate->Rules->List Int->OX)(x38 x39:Int)(y6 y7:Estate)(y14:Rules)(y17:List Int):OX:=br (ilt x39 x38) (br (Gs y14 y7 x39) (br (Qdm y6 y7 x39) (br (okS (YG y6 y7 x39) (ZQ y14 y7 x39)) (br (E6 (YG y6 y7 x39) (ZQ y14 y7 x39)) (br (QM y17 ([x39]) 8) (kk x38 (Qg .i64 x39 1) y6 y7 y14 (y17++([x39]))) none) (kk x38 (Qg .i64 x39 1) y6 y7 y14 y17)) none) none) none) (some (.exit 0,Ql9 y17))
def Qmc (x38 x39:Int)(y6 y7:Estate)(y14:Rules)(y17:List Int):OX:=some (.exit 0,Ql9 (y17++JR (stB y14 y6 y7) (x38-x39).toNat x39))
theorem QxS (x38 x39:Int)(y6 y7:Estate)(y14:Rules)(y17:List Int):Qmb x38 x39 y6 y7 y14 y17=Vt Qmb x38 x39 y6 y7 y14 y17:=lnT (x:=Vt (fun x38 x39 y6 y7 y14 y17=>some (.normal,QxR x38 x39 y6 y7 y14 y17)) x38 x39 y6 y7 y14 y17) (by simp only [Vt,nxA];rfl)
def r_f14 (p0 p1:Estate)(p2:Policy)(p3:List Exception)(p4:Dice)(p5:Int):OV:=
 let a1:=((p2.1,(p2.2.1,())),(p3,((p4.1,(p4.2.1,())),(p5,()))))
 br (IA p0 p1) (br (ine (Yv p0 p1) 0) (some (.tu [(.t (.sl tI) ([]:List Int)),(.t tI (Yv p0 p1))],[])) (br (YV a1) (br (ine (Zc a1) 0) (some (.tu [(.t (.sl tI) ([]:List Int)),(.t tI (Zc a1))],[])) (br (E7 (Qa p0.2.1) (0:Int) p0 p1 a1 ([]:List Int)) (some (.tu [(.t (.sl tI) (([]:List Int)++JR (stB a1 p0 p1) ((Qa p0.2.1)-(0:Int)).toNat (0:Int))),(.t tI 0)],[])) none)) none)) none
theorem QLO (x38 x39:Int)(y6 y7:Estate)(y14:Rules)(y17:List Int)(h:(E7 x38 x39 y6 y7 y14 y17)=true):Qmb x38 x39 y6 y7 y14 y17=Qmc x38 x39 y6 y7 y14 y17:=by
 simp only [E7,Bb,Ba] at h
 obtain ⟨a1,a2,b1,b2,hr,h0,h1,h2,h3,h4⟩:=h
 have hle:y6.2.1.length<=40:=(Ud a1).2.2.2.2.2
 obtain ⟨m,hm⟩: ∃ m:Nat,(x38-x39).toNat=m:=⟨_,rfl⟩
 induction m generalizing x39 y17 with
 |zero=>
  have:ilt x39 x38=false:=Bl (by omega)
  rw [QxS]
  simp only [Vt,Qmc,this,Qf,hm,JR,BQ]
 |succ m ih=>
  have e0:ilt x39 x38=true:=Be (by omega)
  have e1:Qg .i64 x39 1=x39+1:=J6 (by omega)
  have p1:Xj y6 x39=true:=Ix a1 a2 h0 (by omega)
  have p2:Xj y7 x39=true:=Ix b1 b2 h0 (by omega)
  have e2:Gs y14 y7 x39=true:=Bg.2 ⟨hr,p2⟩
  have e3:Qdm y6 y7 x39=true:=Bg.2 ⟨p1,p2⟩
  have l1:=QvE y6 y7 x39
  have l2:=QAN y14 y7 x39
  have e4:okS (YG y6 y7 x39) (ZQ y14 y7 x39)=true:=Be ⟨by omega,by omega⟩
  have e5:QM y17 [x39] 8=true:=Jk (by decide) (by simp only [Bq];omega)
  have e6:(x38-(x39+1)).toNat=m:=by omega
  rw [QxS]
  simp only [Vt,e0,e1,e2,e3,e4,e5,Qb]
  rw [ih (x39+1) (y17++[x39]) (by omega) (by omega) (by simp only [Bm,Bq];omega) (by omega),ih (x39+1) y17 (by omega) (by omega) (by omega) (by omega)]
  simp only [Qmc,hm,e6,JR]
  show br (stB y14 y6 y7 x39) _ _=_
  cases stB y14 y6 y7 x39 with
  |true=>simp only [Qb,B2,BU,BN]
  |false=>simp only [Qf,BM]
theorem QLP:LO Qma Ql8 QxQ 0:=QH (s:=Qep) fun x y h _ q=>by simp only [QE,QF] at q;exact (QLO x.2.2.2.2.1 x.2.2.2.2.2.1 y.1 y.2.1 y.2.2.1 y.2.2.2.1 h).trans q
theorem s_f14 (b a:Estate)(y:Policy)(l:List Exception)(o:Dice)(d:Int)(h:Vs b a y l o d=true):r_f14 b a y l o d=some (.tu [.t (.sl tI) (WT b a y l o d).1,.t tI (WT b a y l o d).2],[]):=by
 obtain ⟨h1,h2⟩:=Bg.1 h
 obtain ⟨l1,l2⟩:=Bg.1 h1
 unfold r_f14 WT
 refine brY h1 ?_
 cases hb:ine (Yv b a) 0 with
 |true=>rfl
 |false=>
  obtain ⟨o1,o2,he⟩:=QAU hb
  rw [Qf]
  refine brY (show YV (rl y l o d)=true from h2) ?_
  show br (ine (Zc (rl y l o d)) 0) (some (V.tu [V.t (.sl tI) ([]:List Int),V.t tI (Zc (rl y l o d))],[])) (br (E7 (Qa b.2.1) 0 b a (rl y l o d) []) (some (V.tu [V.t (.sl tI) ([]++JR (stB (rl y l o d) b a) ((Qa b.2.1)-0).toNat 0),V.t tI 0],[])) none)=_
  cases ine (Zc (rl y l o d)) 0 with
  |true=>rfl
  |false=>
   rw [Qf]
   have e:((Qa b.2.1)-0).toNat=b.2.1.length:=by simp only [Qa];omega
   refine brY ?_ ?_
   ·unfold E7
    rw [o1,o2,l1,l2,h2]
    exact Be ⟨BV 0,by simp only [Qa];omega,rfl,by rw [←he],by simp⟩
   ·rw [e,BP]
    rfl
def Qmd:Ent:=Qi (.pr Qx (.pr Qx (.pr Jz (.pr (.sl Jm) (.pr QK (.pr tI .nil)))))) (fun x=>(Vs x.1 x.2.1 x.2.2.1 x.2.2.2.1 x.2.2.2.2.1 x.2.2.2.2.2.1)) (fun x=>(.tu [(.t (.sl tI) ((WT x.1 x.2.1 x.2.2.1 x.2.2.2.1 x.2.2.2.2.1 x.2.2.2.2.2.1).1)),(.t tI ((WT x.1 x.2.1 x.2.2.1 x.2.2.2.1 x.2.2.2.2.1 x.2.2.2.2.2.1).2))]))
theorem QxT:EM 14 Qmd:=mS (lk:=lkL (lkc QLP lkn)) Qma QxP [((.t 12),some (.sl tI)),((.t 13),some tI)] false (gB (gD QnU (gD QnY (gD QAV (gD QLM (gC QvR QvT gN)))))) fun m=>Qm m fun x hok=>kT (s_f14 x.1 x.2.1 x.2.2.1 x.2.2.2.1 x.2.2.2.2.1 x.2.2.2.2.2.1 hok)
def clB (r:Rules)(e:Estate)(i:Int):Bool:=ieq (Qa (ZQ r e i)) 0
def E8 (n i:Int)(e:Estate)(r:Rules)(out:List Int):Bool:=J0 e&&(JN e&&(YV r&&decide (0<=i/\i<=n/\n=e.2.1.length/\(out.length:Int)<=i)))
def WU (e:Estate)(y:Policy)(l:List Exception)(o:Dice)(d:Int):List Int×Int:=
 bif !J0 e then ([],31) else bif ine (Zc (rl y l o d)) 0 then ([],Zc (rl y l o d)) else (JR (clB (rl y l o d) e) e.2.1.length 0,0)
def Vu (e:Estate)(y:Policy)(l:List Exception)(o:Dice)(d:Int):Bool:=JN e&&YV (rl y l o d)
abbrev Qeq:Sh:=⟨[(5,.ptr 5 0),(12,.ptr 12 0),(14,.ms 14),(31,.ty tI),(32,.ty tI)],[(5,.box Qx),(12,.box Ft),(14,.arr 3 tI),(44,.no)]⟩
abbrev QxU:Sh:=⟨[(14,.ms 14)],[(14,.arr 3 tI),(44,.no)]⟩
def Qme:Fg:=Qeq.f
def QxV:TC:=aF Tryz.f13 [(506,.nw 14 3),(506,pL 0 Qme),(8101,.fg QxU.f)]
def QxW:TC:=lb 0 QxV
def QxX (x31 x32:Int)(y5:Estate)(y12:Rules)(y14:List Int):VS:=Qeq.st ((),(),(),x31,x32,()) (y5,y12,y14,(),())
def Qmf (y14:List Int):VS:=QxU.st ((),()) (y14,(),())
def QLQ:VS->Option (Bool×List (Bool×Exit×VS)):=mkL Qeq (fun x y=>(E8 x.2.2.2.1 x.2.2.2.2.1 y.1 y.2.1 y.2.2.1)) (fun x y=>[(true,.exit 0,Qmf (y.2.2.1++JR (clB y.2.1 y.1) (x.2.2.2.1-x.2.2.2.2.1).toNat x.2.2.2.2.1))])
def Qmg:G:=gG 47 [(27,QhA),(28,QfJ),(29,QfN)] (Ls [QLQ])
def Qmh (x31 x32:Int)(y5:Estate)(y12:Rules)(y14:List Int):OX:=Qr (Qv Qmg Qme QxW) (QxX x31 x32 y5 y12 y14)
def Vv (kk:Int->Int->Estate->Rules->List Int->OX)(x31 x32:Int)(y5:Estate)(y12:Rules)(y14:List Int):OX:=br (ilt x32 x31) (br (Gs y12 y5 x32) (br (ieq (Qa (ZQ y12 y5 x32)) 0) (br (QM y14 ([x32]) 8) (kk x31 (Qg .i64 x32 1) y5 y12 (y14++([x32]))) none) (kk x31 (Qg .i64 x32 1) y5 y12 y14)) none) (some (.exit 0,Qmf y14))
def Qmi (x31 x32:Int)(y5:Estate)(y12:Rules)(y14:List Int):OX:=some (.exit 0,Qmf (y14++JR (clB y12 y5) (x31-x32).toNat x32))
theorem QxY (x31 x32:Int)(y5:Estate)(y12:Rules)(y14:List Int):Qmh x31 x32 y5 y12 y14=Vv Qmh x31 x32 y5 y12 y14:=lnT (x:=Vv (fun x31 x32 y5 y12 y14=>some (.normal,QxX x31 x32 y5 y12 y14)) x31 x32 y5 y12 y14) (by simp only [Vv,nxA];rfl)
def r_f13 (p0:Estate)(p1:Policy)(p2:List Exception)(p3:Dice)(p4:Int):OV:=
 let a1:=((p1.1,(p1.2.1,())),(p2,((p3.1,(p3.2.1,())),(p4,()))))
 br (JN p0) (br (ine (YQ p0) 0) (some (.tu [(.t (.sl tI) ([]:List Int)),(.t tI 31)],[])) (br (YV a1) (br (ine (Zc a1) 0) (some (.tu [(.t (.sl tI) ([]:List Int)),(.t tI (Zc a1))],[])) (br (E8 (Qa p0.2.1) (0:Int) p0 a1 ([]:List Int)) (some (.tu [(.t (.sl tI) (([]:List Int)++JR (clB a1 p0) ((Qa p0.2.1)-(0:Int)).toNat (0:Int))),(.t tI 0)],[])) none)) none)) none
theorem QLR (x31 x32:Int)(y5:Estate)(y12:Rules)(y14:List Int)(h:(E8 x31 x32 y5 y12 y14)=true):Qmh x31 x32 y5 y12 y14=Qmi x31 x32 y5 y12 y14:=by
 simp only [E8,Bb,Ba] at h
 obtain ⟨a1,a2,hr,h0,h1,h2,h4⟩:=h
 have hle:y5.2.1.length<=40:=(Ud a1).2.2.2.2.2
 obtain ⟨m,hm⟩: ∃ m:Nat,(x31-x32).toNat=m:=⟨_,rfl⟩
 induction m generalizing x32 y14 with
 |zero=>
  have:ilt x32 x31=false:=Bl (by omega)
  rw [QxY]
  simp only [Vv,Qmi,this,Qf,hm,JR,BQ]
 |succ m ih=>
  have e0:ilt x32 x31=true:=Be (by omega)
  have e1:Qg .i64 x32 1=x32+1:=J6 (by omega)
  have e2:Gs y12 y5 x32=true:=Bg.2 ⟨hr,Ix a1 a2 h0 (by omega)⟩
  have e5:QM y14 [x32] 8=true:=Jk (by decide) (by simp only [Bq];omega)
  have e6:(x31-(x32+1)).toNat=m:=by omega
  rw [QxY]
  simp only [Vv,e0,e1,e2,e5,Qb]
  rw [ih (x32+1) (y14++[x32]) (by omega) (by omega) (by simp only [Bm,Bq];omega) (by omega),ih (x32+1) y14 (by omega) (by omega) (by omega) (by omega)]
  simp only [Qmi,hm,e6,JR]
  show br (clB y12 y5 x32) _ _=_
  cases clB y12 y5 x32 with
  |true=>simp only [Qb,B2,BU,BN]
  |false=>simp only [Qf,BM]
theorem QLS:LO Qmg Qme QxW 0:=QH (s:=Qeq) fun x y h _ q=>by simp only [QE,QF] at q;exact (QLR x.2.2.2.1 x.2.2.2.2.1 y.1 y.2.1 y.2.2.1 h).trans q
theorem s_f13 (e:Estate)(y:Policy)(l:List Exception)(o:Dice)(d:Int)(h:Vu e y l o d=true):r_f13 e y l o d=some (.tu [.t (.sl tI) (WU e y l o d).1,.t tI (WU e y l o d).2],[]):=by
 obtain ⟨h1,h2⟩:=Bg.1 h
 unfold r_f13 WU
 refine brY h1 ?_
 rw [Qhv]
 cases ho:J0 e with
 |false=>rfl
 |true=>
  rw [BC,Qf]
  refine brY (show YV (rl y l o d)=true from h2) ?_
  show br (ine (Zc (rl y l o d)) 0) (some (V.tu [V.t (.sl tI) ([]:List Int),V.t tI (Zc (rl y l o d))],[])) (br (E8 (Qa e.2.1) 0 e (rl y l o d) []) (some (V.tu [V.t (.sl tI) ([]++JR (clB (rl y l o d) e) ((Qa e.2.1)-0).toNat 0),V.t tI 0],[])) none)=_
  cases ine (Zc (rl y l o d)) 0 with
  |true=>rfl
  |false=>
   rw [Qf]
   have e:((Qa e.2.1)-0).toNat=e.2.1.length:=by simp only [Qa];omega
   refine brY ?_ ?_
   ·unfold E8
    rw [ho,h1,h2]
    exact Be ⟨BV 0,by simp only [Qa];omega,rfl,by simp⟩
   ·rw [e,BP]
    rfl
def Qmj:Ent:=Qi (.pr Qx (.pr Jz (.pr (.sl Jm) (.pr QK (.pr tI .nil))))) (fun x=>(Vu x.1 x.2.1 x.2.2.1 x.2.2.2.1 x.2.2.2.2.1)) (fun x=>(.tu [(.t (.sl tI) ((WU x.1 x.2.1 x.2.2.1 x.2.2.2.1 x.2.2.2.2.1).1)),(.t tI ((WU x.1 x.2.1 x.2.2.1 x.2.2.2.1 x.2.2.2.2.1).2))]))
theorem QxZ:EM 13 Qmj:=mS (lk:=lkL (lkc QLS lkn)) Qmg QxV [((.t 10),some (.sl tI)),((.t 11),some tI)] false (gB (gD Qqb (gD QnU (gD QnY gN)))) fun m=>Qm m fun x hok=>kT (s_f13 x.1 x.2.1 x.2.2.1 x.2.2.2.1 x.2.2.2.2.1 hok)
end
end Go.Proofs.YtmjnnemhoeolgaaGreat.K
noncomputable section
namespace Go.Proofs.YtmjnnemhoeolgaaGreat.K.PE
open Go.RowKit
noncomputable section
abbrev zO:Dice:=(([]:List Int),(0,()))
abbrev zL:List Exception:=[]
theorem Qlx {y:Policy}{d:Int}(h:ZM y=0)(h0:0<=d)(h1:d<=40000):Zc (rl y zL zO d)=0:=by
 unfold Zc
 show (bif ine (ZM y) 0 then (25:Int) else bif ilt d 0||igt d 40000 then 2 else 0)=0
 rw [h,show ilt d 0=false from Bl (by omega),show igt d 40000=false from Bl (by omega)]
 rfl
def wkV (d:Dice):Policy:=([(false,(dof d [14,16,2,12],(0,(0,(dof (QU d [14,16,2,12]) [0,5,100],(40001,()))))))],([],()))
def wkN (d:Dice):Dice:=QU (QU d [14,16,2,12]) [0,5,100]
theorem QdQ (d:Dice):ZM (wkV d)=0:=by
 have h1:=Oo (d:=d) (l:=[14,16,2,12]) (by decide)
 have h2:=Oo (d:=QU d [14,16,2,12]) (l:=[0,5,100]) (by decide)
 unfold wkV
 generalize dof d [14,16,2,12]=a at h1
 generalize dof (QU d [14,16,2,12]) [0,5,100]=b at h2
 have g1:0<=a/\a<=22:=by
  simp only [B5,Do,or_false] at h1
  omega
 have g2:0<=b/\b<=100:=by
  simp only [B5,Do,or_false] at h2
  omega
 have hr:YF (false,(a,(0,(0,(b,(40001,()))))))=true:=Be ⟨g1.1,g1.2,BV 0,(by decide:(0:Int)<=16384),BV 0,(by decide:(0:Int)<=4),g2.1,(show b<40001 by omega),BV 40001⟩
 have hp:YU ([(false,(a,(0,(0,(b,(40001,()))))))],([],()))=true:=by
  unfold YU
  rw [BW,hr]
  rfl
 unfold ZM
 rw [if_pos hp]
def tc_f11:TC:=aF Tryz.f11 []
def g_f11:G:=gG 12 [(26,QbY)] (fun _ _=>none)
def r_f11 (d0:Dice):OV:=
 let a1:=(QU d0 ([14,16,2,12]))
 br (YC d0 ([14,16,2,12])) (br (YC a1 ([0,5,100])) (some (.t Jz ([(false,((dof d0 ([14,16,2,12])),(0,(0,((dof a1 ([0,5,100])),(40001,()))))))],(([]:List Keep),())),[.box (.t QK (QU a1 ([0,5,100])))])) none) none
theorem s_f11 (d:Dice)(h:dOk d=true):r_f11 d=some (.t Jz (wkV d),[.box (.t QK (wkN d))]):=
 brY (QlW h (by decide) (by decide)) (brY (QlW (F8 (l:=[14,16,2,12]) h) (by decide) (by decide)) rfl)
def QwE:Ent:=Wn QK .nil (fun d x=>(dOk d)) (fun d x=>(.t Jz (wkV d))) (fun d x=>(wkN d))
theorem ms_f11:EM 11 QwE:=mS g_f11 tc_f11 [((.c 2 true 2),some Jz)] false (gB (gD QiL gN)) fun m=>Um m rfl fun d x hok=>kT (s_f11 d hok)
def QdR:Bool:=true
def tc_f8:TC:=aF Tryz.f8 []
def rv_f8:List (RV×Option Ty):=[((.t 0),some .bool)]
def g_f8:G:=gG 44 [(13,Qmj),(14,Qmd),(15,QnZ)] (fun _ _=>none)
def r_f8  : OV:=
 let a1:=(WU (([]:List Endpoint),(([]:List Keep),(([]:List Item),()))) (([]:List Rule),(([]:List Keep),())) ([]:List Exception) (([]:List Int),(0,())) 0)
 br (V4 (([]:List Endpoint),(([]:List Keep),(([]:List Item),()))) (([]:List Rule),(([]:List Keep),())) ([]:List Exception) (([]:List Int),(0,())) 0 0) (br (Vu (([]:List Endpoint),(([]:List Keep),(([]:List Item),()))) (([]:List Rule),(([]:List Keep),())) ([]:List Exception) (([]:List Int),(0,())) 0) (br (Vs (([]:List Endpoint),(([]:List Keep),(([]:List Item),()))) (([]:List Endpoint),(([]:List Keep),(([]:List Item),()))) (([]:List Rule),(([]:List Keep),())) ([]:List Exception) (([]:List Int),(0,())) (-1)) (br (ieq ((UN (([]:List Endpoint),(([]:List Keep),(([]:List Item),()))) (([]:List Rule),(([]:List Keep),())) ([]:List Exception) (([]:List Int),(0,())) 0 0).2) 4) (br (ieq (a1.2) 0) (br (ieq (Qa (a1.1)) 0) (some (.t .bool (ieq ((WT (([]:List Endpoint),(([]:List Keep),(([]:List Item),()))) (([]:List Endpoint),(([]:List Keep),(([]:List Item),()))) (([]:List Rule),(([]:List Keep),())) ([]:List Exception) (([]:List Int),(0,())) (-1)).2) 2),[])) (some (.t .bool false,[]))) (some (.t .bool false,[]))) (some (.t .bool false,[]))) none) none) none
theorem e_f8  : J2 g_f8 tc_f8 rv_f8 false [] []=r_f8  :=by kernel_rfl
set_option maxRecDepth 100000 in
theorem s_f8:r_f8=some (.t .bool QdR,[]):=by kernel_rfl
def sp_f8:Ent:=Qi .nil (fun x=>true) (fun x=>(.t .bool QdR))
theorem ms_f8:EM 8 sp_f8:=mS g_f8 tc_f8 rv_f8 false (gB (gD QxZ (gD QxT (gD QAT gN)))) fun m=>Qm m fun x _=>(e_f8 ).trans (s_f8)
theorem brX {β:Type}{c:Bool}{a b r:Option β}(h:c=false)(k:b=r):br c a b=r:=by rw [h];exact k
-- loop 0: (x8 : Int) (x87 : Int) (x88 : Int) (y6 : Estate); out: ('ret',) (x4 : Bool); ('exit', 0)
end
end Go.Proofs.YtmjnnemhoeolgaaGreat.K.PE
namespace Go.Proofs.YtmjnnemhoeolgaaGreat.K
open Go.RowKit PE
end Go.Proofs.YtmjnnemhoeolgaaGreat.K
noncomputable section
namespace Go.Proofs.YtmjnnemhoeolgaaGreat.K
open Go.RowKit
noncomputable section
def ZI (x:Estate)(c:Change):Estate×Int:=bif ine (YQ x) 0 then (zX,31) else XU x c
def tc_f21:TC:=aF Tryz.f21 []
def g_f21:G:=gG 15 [(42,QEW),(43,QwD)] (fun _ _=>none)
def r_f21 (p0:Estate)(p1:Change):OV:=br (JN p0) (br (ine (YQ p0) 0) (some (.tu [(.t Qx (([]:List Endpoint),(([]:List Keep),(([]:List Item),())))),(.t tI 31)],[])) (br (UA p0 p1) (some (.tu [(.t Qx ((XU p0 p1).1)),(.t tI ((XU p0 p1).2))],[])) none)) none
theorem s_f21 (x:Estate)(c:Change)(h:UA x c=true):r_f21 x c=some (.tu [.t Qx (ZI x c).1,.t tI (ZI x c).2],[]):=by
 obtain ⟨hb,hi⟩:=Bg.1 h
 obtain ⟨hl,_⟩:=Qlw hb (by decide)
 unfold r_f21 ZI
 refine brY hl ?_
 cases ine (YQ x) 0 with
 |true=>rfl
 |false=>
  rw [Qf]
  exact brY h rfl
def Quq:Ent:=Qi (.pr Qx (.pr Zo .nil)) (fun x=>(UA x.1 x.2.1)) (fun x=>(.tu [(.t Qx ((ZI x.1 x.2.1).1)),(.t tI ((ZI x.1 x.2.1).2))]))
theorem ms_f21:EM 21 Quq:=mS g_f21 tc_f21 [((.c 4 true 3),some Qx),((.t 5),some tI)] false (gB (gD ms_f42 (gD ms_f43 gN))) fun m=>Qm m fun x hok=>kT (s_f21 x.1 x.2.1 hok)
abbrev QcL:Sh:=⟨[(3,.ptr 3 0),(7,.ty (.sl Qd)),(8,.ty tI),(9,.ty tI)],[(3,.box Qd)]⟩
abbrev Qur:Sh:=⟨[(4,.ty .bool)],[]⟩
abbrev Qus:Sh:=⟨[],[]⟩
def Qka:Fg:=QcL.f
def Qut:TC:=aF Tryz.f18 [(26,pL 0 Qka),(421,.fg Qus.f),(13517,.fg Qur.f)]
def Quu:TC:=lb 0 Qut
def Quv (x7:List Keep)(x8 x9:Int)(y3:Keep):VS:=QcL.st ((),x7,x8,x9,()) (y3,())
def Qkb (x4:Bool):VS:=Qur.st (x4,()) ()
def Qkc  : VS:=Qus.st () ()
def QIw:VS->Option (Bool×List (Bool×Exit×VS)):=mkL QcL (fun x y=>(QA x.2.1 x.2.2.1 x.2.2.2.1)) (fun x y=>[((Yh (x.2.1.drop x.2.2.2.1.toNat) y.1),.ret,Qkb (true)),(true,.exit 0,Qkc)])
def Qkd:G:=gG 17 [] (Ls [QIw])
def QcM (x7:List Keep)(x8 x9:Int)(y3:Keep):OX:=Qr (Qv Qkd Qka Quu) (Quv x7 x8 x9 y3)
def OJ (kk:List Keep->Int->Int->Keep->OX)(x7:List Keep)(x8 x9:Int)(y3:Keep):OX:=
 let a1:=lgt Qd x7 (Int.toNat x9)
 br (ilt x9 x8) (br (cIx x7 x9) (br (and (ieq (a1.1) y3.1) (and (ieq ((a1.2).1) y3.2.1) true)) (some (.ret,Qkb true)) (kk x7 x8 (Qg .i64 x9 1) y3)) none) (some (.exit 0,Qkc))
def QcN (x7:List Keep)(x8 x9:Int)(y3:Keep):OX:=br (Yh (x7.drop x9.toNat) y3) (some (.ret,Qkb (true)))<|some (.exit 0,Qkc)
theorem Quw (x7:List Keep)(x8 x9:Int)(y3:Keep):QcM x7 x8 x9 y3=OJ QcM x7 x8 x9 y3:=lnT (x:=OJ (fun x7 x8 x9 y3=>some (.normal,Quv x7 x8 x9 y3)) x7 x8 x9 y3) (by simp only [OJ,nxA];rfl)
def r_f18 (p0:List Keep)(p1:Keep):OV:=br (QA p0 (Qa p0) (0:Int)) (br (Yh (p0.drop (0:Int).toNat) p1) (some (.t .bool (true),[])) (some (.t .bool false,[]))) none
theorem QIx (x7:List Keep)(x8 x9:Int)(y3:Keep)(h:(QA x7 x8 x9)=true):QcM x7 x8 x9 y3=QcN x7 x8 x9 y3:=by
 obtain ⟨rfl,h3,k,rfl,hk⟩:=JB h
 clear h
 refine QP x7 (fun k=>QcM x7 (x7.length:Int) (k:Int) y3=QcN x7 (x7.length:Int) (k:Int) y3) ?_ ?_ k hk
 ·rw [Quw]
  simp only [OJ,QcN,Qz,BT,B0,Qf,Bc,BK,Yh,List.any_nil]
 ·intro k hk ih
  rw [Quw]
  have hq:(and (ieq x7[k].1 y3.1) (and (ieq x7[k].2.1 y3.2.1) true))=(y3==x7[k]):=by
   show (x7[k]==y3)=(y3==x7[k])
   exact Bool.beq_comm
  simp only [OJ,Qz,QJ,hk,Bt,Qb,Bc,QO (show k<4611686018427387904 by omega),QL (y:=Qd) hk,ih]
  rw [hq]
  simp only [QcN,Bc,Bi hk,Yh,List.any_cons]
  cases y3==x7[k]<;>rfl
theorem QIy:LO Qkd Qka Quu 0:=QH (s:=QcL) fun x y h _ q=>by simp only [QE,QF] at q;exact (QIx x.2.1 x.2.2.1 x.2.2.2.1 y.1 h).trans q
theorem s_f18 (l:List Keep)(o:Keep)(h:WS l o=true):r_f18 l o=some (.t .bool (Yh l o),[]):=by
 have hl:l.length<=100000:=Bx h
 simp only [r_f18,JC hl,Qb,Br,By]
 cases Yh l o<;>rfl
def Qux:Ent:=Qi (.pr (.sl Qd) (.pr Qd .nil)) (fun x=>(WS x.1 x.2.1)) (fun x=>(.t .bool (Yh x.1 x.2.1)))
theorem ms_f18:EM 18 Qux:=mS (lk:=lkL (lkc QIy lkn)) Qkd Qut [((.t 4),some .bool)] false (gB gN) fun m=>Qm m fun x hok=>kT (s_f18 x.1 x.2.1 hok)
theorem QIz {e:Endpoint}(h:GL e):Z1 1000 e=true:=by
 have hl:=QFj h
 obtain ⟨d,k,s,rfl,hs,hk⟩:=h
 have hsu:(GI d).length<=5:=Bx (Qqv (p:=fun l=>decide (l.length<=5)) (by decide) d)
 unfold QS at hl
 simp only [Bb,Ba] at hl
 unfold Z1
 simp only [Bb,Ba]
 exact ⟨⟨hl.1.1,Dg hsu (by decide),(show 1<=1000 by decide),(show 1<=1000 by decide),(show 2<=1000 by decide)⟩,hl.2⟩
theorem Quy (d:Dice):YI 1000 (QD d)=true:=by
 obtain ⟨g1,g2⟩:=Qbk d
 have hn:=IX d
 have hl:(Qt (QD d)).length<=3:=by rw [QhX];omega
 obtain ⟨_,he,_⟩:=QFo d
 have hitm:(ZB (QD d)).all GN=true:=Bf.2 fun i hi=>by
  have h1:=Bf.1 (Ud g1).2.1 i hi
  have:=(Zu.1 h1).2.2.2.1
  exact Be (by omega)
 unfold JN at g2
 simp only [Bb] at g2
 unfold YI
 simp only [Bb,Ba]
 exact ⟨Bf.2 fun e he=>QIz (Qqx d e he),⟨by omega,by omega⟩,g2.2.2,hitm⟩
abbrev k6:Keep:=(3,(6,()))
end
end Go.Proofs.YtmjnnemhoeolgaaGreat.K
noncomputable section
namespace Go.Proofs.YtmjnnemhoeolgaaGreat.K
open Go.RowKit
noncomputable section
abbrev ecV:Keep:=(7,(256,()))
def QuZ:TC:=aF Tryz.f44 []
def Qu0:List (RV×Option Ty):=[((.c 0 true 2),some Qd)]
def g_f44:G:=gG 2 [] (fun _ _=>none)
def r_f44  : OV:=some (.t Qd (7,(256,())),[])
theorem e_f44  : J2 g_f44 QuZ Qu0 false [] []=r_f44  :=by kernel_rfl
theorem s_f44:r_f44=some (.t Qd ecV,[]):=rfl
def Qu1:Ent:=Qi .nil (fun x=>true) (fun x=>(.t Qd ecV))
theorem ms_f44:EM 44 Qu1:=mS g_f44 QuZ Qu0 false (gB gN) fun m=>Qm m fun x _=>(e_f44 ).trans (s_f44)
abbrev anL (e:Estate):Int:=Qa (Qt e)
abbrev anK (d:Dice)(e:Estate):Int:=Qg .i64 1 (Qj (Qe d (anL e)) 12)
abbrev anD (d:Dice)(e:Estate):Dice:=Qe (Qe d (anL e)) 12
abbrev anX (d:Dice)(e:Estate):Endpoint:=lgt Qo (Qt e) (Int.toNat (Qj d (anL e)))
abbrev anI (d:Dice)(e:Estate)(n a:Int)(i:Identity):Change:=(Qj d (anL e),(anK d e,(n,(a,(i,())))))
abbrev anC (d:Dice)(e:Estate)(n:Int):Change:=anI d e n 0 UC
abbrev anN (d:Dice)(e:Estate)(m:Int):Change×Dice:=(anC d e (Qg .i64 1 (Qj (anD d e) m)),Qe (anD d e) m)
def any1 (d:Dice)(e:Estate):Change×Dice:=
 (anI d e (Qg .i64 1 (Qj (anD d e) 16)) (Qj (Qe (anD d e) 16) (Qg .i64 (Qa (Qq (anX d e))) 1)) UC,Qe (Qe (anD d e) 16) (Qg .i64 (Qa (Qq (anX d e))) 1))
def Qku (d:Dice)(e:Estate):Change×Dice:=
 bif igt (Qa (Qq (anX d e))) 0 then (bif !(done (Qe (anD d e) 16) 4) then (anC d e (lgt tI (Qq (anX d e)) (Int.toNat (Qj (Qe (Qe (anD d e) 16) 4) (Qa (Qq (anX d e)))))),Qe (Qe (Qe (anD d e) 16) 4) (Qa (Qq (anX d e))))
  else (anC d e (Qg .i64 1 (Qj (anD d e) 16)),Qe (Qe (anD d e) 16) 4)) else anN d e 16
abbrev anU (e:Endpoint):Int:=Qg .i64 (Qa (Qp e)) 1
abbrev QcY:List Keep:=[ecV,Jy]
def Qkv (d:Dice)(e:Estate):Change×Dice:=
 (anI d e 0 (Qj (anD d e) (anU (anX d e))) (Yi (anX d e).1 (lgt Qd QcY (Int.toNat (Qj (Qe (anD d e) (anU (anX d e))) 2))) (Qg .i64 200 (Qj (Qe (Qe (anD d e) (anU (anX d e))) 2) 3)) (Qg .i64 1 (Qj (Qe (Qe (Qe (anD d e) (anU (anX d e))) 2) 3) 2)) 901),
  Qe (Qe (Qe (Qe (anD d e) (anU (anX d e))) 2) 3) 2)
def Qkw (d:Dice)(e:Estate):Change×Dice:=
 bif igt (Qa (Qp (anX d e))) 0 then (bif !(done (Qe (anD d e) 4) 4) then (anC d e (lgt QV (Qp (anX d e)) (Int.toNat (Qj (Qe (Qe (anD d e) 4) 4) (Qa (Qp (anX d e)))))).2.1,Qe (Qe (Qe (anD d e) 4) 4) (Qa (Qp (anX d e))))
  else (anC d e (Qg .i64 100 (Qj (anD d e) 4)),Qe (Qe (anD d e) 4) 4)) else (anC d e (Qg .i64 100 (Qj (anD d e) 4)),Qe (anD d e) 4)
def Qkx (d:Dice)(e:Estate):Change×Dice:=
 bif ieq (anK d e) 11 then (anC d e (Qj (anD d e) 2),Qe (anD d e) 2) else bif ieq (anK d e) 12 then (anC d e (Qj (anD d e) 2),Qe (anD d e) 2) else (anC d e 0,anD d e)
def Qky (d:Dice)(e:Estate):Change×Dice:=bif ieq (anK d e) 9 then anN d e 4 else bif ieq (anK d e) 10 then anN d e 4 else Qkx d e
def QcZ (d:Dice)(e:Estate):Change×Dice:=
 bif ieq (anK d e) 5 then Qkv d e else bif ieq (anK d e) 6 then Qkw d e else bif ieq (anK d e) 7 then anN d e 3 else bif ieq (anK d e) 8 then anN d e 3 else Qky d e
def Ez (d:Dice)(e:Estate):Change×Dice:=
 bif ieq (anK d e) 1 then any1 d e else bif ieq (anK d e) 2 then Qku d e else bif ieq (anK d e) 3 then anN d e 4 else bif ieq (anK d e) 4 then anN d e 4 else QcZ d e
def Z0 (d:Dice)(e:Estate):Change:=(Ez d e).1
def Uq (d:Dice)(e:Estate):Dice:=(Ez d e).2
def anyE (e:Endpoint):Bool:=QS e&&nm1 e.1
def Gh (d:Dice)(e:Estate):Bool:=dOk d&&(decide (0<(Qt e).length/\(Qt e).length<=1000)&&(Qt e).all anyE)
abbrev Y9 (p:Change×Dice):OV:=some (.t Zo p.1,[.box (.t QK p.2)])
theorem brQ {c:Bool}{x y:Change×Dice}{A B:OV}(h1:A=Y9 x)(h2:B=Y9 y):br c A B=Y9 (bif c then x else y):=by
 cases c with
 |true=>exact h1
 |false=>exact h2
theorem Qc0 {c b:Bool}{x y:Change×Dice}{A B:OV}(h1:A=Y9 x)(h2:B=Y9 y):br c (br c A B) (br b A B)=Y9 (bif c then x else bif b then x else y):=by
 cases c with
 |true=>exact h1
 |false=>
  show br b A B=Y9 (bif b then x else y)
  exact brQ h1 h2
def tc_f23:TC:=aF Tryz.f23 [(1002,pD [(0,[50000]),(1,[28,5028,10028,15028,50000]),(2,[]),(3,[50000]),(4,[6]),(5,[6]),(6,[]),(7,[]),(8,[35,5035,10035,15035,50000]),(9,[7]),(10,[7]),(11,[7]),(12,[7])] (.of [0,3,4,5,6,7,1,2,9,8,10,11,12])),(32118,pD [(0,[6]),(1,[6]),(2,[50000]),(3,[6]),(4,[6]),(5,[]),(6,[59,5059,10059,15059,50000]),(7,[]),(8,[]),(9,[7]),(10,[7])] (.of [0,1,2,3,4,5,6,7,8,9,10])),(64254,pD [(0,[50000]),(1,[6]),(2,[6]),(3,[]),(4,[]),(5,[77,5077,10077,15077,50000]),(6,[6]),(7,[6]),(8,[]),(9,[]),(10,[]),(11,[50000]),(12,[84,5084,10084,15084,50000]),(13,[]),(14,[]),(15,[50000]),(16,[88,5088,10088,15088,50000]),(17,[]),(18,[50000]),(19,[91,5091,10091,15091,50000]),(20,[]),(21,[]),(22,[7]),(23,[7]),(24,[7]),(25,[7])] (.of [0,1,2,3,4,6,7,11,15,18,5,8,9,10,22,12,13,14,16,17,19,20,21,23,24,25])),(2056182,pD [(0,[6]),(1,[6]),(2,[50000]),(3,[6]),(4,[6]),(5,[]),(6,[117,5117,10117,15117,50000]),(7,[]),(8,[]),(9,[]),(10,[7]),(11,[7])] (.of [0,1,2,3,4,5,6,7,8,9,10,11]))]
def g_f23:G:=gG 143 [(22,U7),(37,QiK),(38,Qnj),(39,Qni),(44,Qu1)] (fun _ _=>none)
def OP (d0:Dice)(p1:Estate):OV:=
 let a1:=Qe (Qe d0 (Qa p1.1)) 12
 br (Q2 a1 4) (some (.t Zo ((Qj d0 (Qa p1.1)),((Qg .i64 1 (Qj (Qe d0 (Qa p1.1)) 12)),((Qg .i64 1 (Qj a1 4)),(0,(((0,(0,())),(0,(([]:List Certificate),()))),()))))),[.box (.t QK (Qe a1 4))])) none
def Qkz (d0:Dice)(p1:Estate):OV:=
 let a1:=Qe (Qe d0 (Qa p1.1)) 12
 br (Q2 a1 3) (some (.t Zo ((Qj d0 (Qa p1.1)),((Qg .i64 1 (Qj (Qe d0 (Qa p1.1)) 12)),((Qg .i64 1 (Qj a1 3)),(0,(((0,(0,())),(0,(([]:List Certificate),()))),()))))),[.box (.t QK (Qe a1 3))])) none
def QkA (d0:Dice)(p1:Estate):OV:=
 let a1:=Qe (Qe d0 (Qa p1.1)) 12
 br (Q2 a1 2) (some (.t Zo ((Qj d0 (Qa p1.1)),((Qg .i64 1 (Qj (Qe d0 (Qa p1.1)) 12)),((Qj a1 2),(0,(((0,(0,())),(0,(([]:List Certificate),()))),()))))),[.box (.t QK (Qe a1 2))])) none
def Qc1 (d0:Dice)(p1:Estate):OV:=
 let a1:=Qg .i64 1 (Qj (Qe d0 (Qa p1.1)) 12)
 let a2:=Qe (Qe d0 (Qa p1.1)) 12
 br (ieq a1 11) (br (ieq a1 11) (QkA d0 p1) (some (.t Zo ((Qj d0 (Qa p1.1)),(a1,(0,(0,(((0,(0,())),(0,(([]:List Certificate),()))),()))))),[.box (.t QK a2)]))) (br (ieq a1 12) (QkA d0 p1) (some (.t Zo ((Qj d0 (Qa p1.1)),(a1,(0,(0,(((0,(0,())),(0,(([]:List Certificate),()))),()))))),[.box (.t QK a2)])))
def Qc2 (d0:Dice)(p1:Estate):OV:=
 let a1:=Qg .i64 1 (Qj (Qe d0 (Qa p1.1)) 12)
 br (ieq a1 9) (br (ieq a1 9) (OP d0 p1) (Qc1 d0 p1)) (br (ieq a1 10) (OP d0 p1) (Qc1 d0 p1))
def Qc3 (d0:Dice)(p1:Estate):OV:=
 let a4:=Qe d0 (Qa p1.1)
 let a7:=Qj d0 (Qa p1.1)
 let a3:=(((((((lgt Qo p1.1 (Int.toNat a7)).2).2).2).2).2).1)
 let a11:=Qg .i64 (Qa a3) 1
 let a1:=Qe (Qe a4 12) a11
 let a8:=Qe (Qe a1 2) 3
 let a2:=(Yi ((lgt Qo p1.1 (Int.toNat a7)).1) (lgt Qd ([(ecV.1,(ecV.2.1,())),(Jy.1,(Jy.2.1,()))]) (Int.toNat (Qj a1 2))) (Qg .i64 200 (Qj (Qe a1 2) 3)) (Qg .i64 1 (Qj a8 2)) 901)
 let a5:=Qg .i64 1 (Qj a4 12)
 let a6:=Qe (Qe a4 12) 4
 let a9:=Qg .i64 100 (Qj (Qe a4 12) 4)
 let a10:=Qj (Qe a6 4) (Qa a3)
 br (ieq a5 5) (br (Q2 (Qe a4 12) a11) (br (Q2 a1 2) (br (cIx ([(ecV.1,(ecV.2.1,())),(Jy.1,(Jy.2.1,()))]) (Qj a1 2)) (br (Q2 (Qe a1 2) 3) (br (Q2 a8 2) (br (Ir ((lgt Qo p1.1 (Int.toNat a7)).1) (lgt Qd ([(ecV.1,(ecV.2.1,())),(Jy.1,(Jy.2.1,()))]) (Int.toNat (Qj a1 2))) (Qg .i64 200 (Qj (Qe a1 2) 3)) (Qg .i64 1 (Qj a8 2)) 901) (some (.t Zo (a7,(a5,(0,((Qj (Qe a4 12) a11),((((a2.1).1,(((a2.1).2).1,())),((a2.2).1,(((a2.2).2).1,()))),()))))),[.box (.t QK (Qe a8 2))])) none) none) none) none) none) none) (br (ieq a5 6) (br (Q2 (Qe a4 12) 4) (br (igt (Qa a3) 0) (br (Y5 a6 4) (br (!(done a6 4)) (br (Q2 (Qe a6 4) (Qa a3)) (br (cIx a3 a10) (some (.t Zo (a7,(a5,(((lgt QV a3 (Int.toNat a10)).2).1,(0,(((0,(0,())),(0,(([]:List Certificate),()))),()))))),[.box (.t QK (Qe (Qe a6 4) (Qa a3)))])) none) none) (some (.t Zo (a7,(a5,(a9,(0,(((0,(0,())),(0,(([]:List Certificate),()))),()))))),[.box (.t QK (Qe a6 4))]))) none) (some (.t Zo (a7,(a5,(a9,(0,(((0,(0,())),(0,(([]:List Certificate),()))),()))))),[.box (.t QK a6)]))) none) (br (ieq a5 7) (br (ieq a5 7) (Qkz d0 p1) (Qc2 d0 p1)) (br (ieq a5 8) (Qkz d0 p1) (Qc2 d0 p1))))
def r_f23 (d0:Dice)(p1:Estate):OV:=
 let a5:=Qj d0 (Qa p1.1)
 let a1:=(((((lgt Qo p1.1 (Int.toNat a5)).2).2).2).1)
 let a2:=Qe d0 (Qa p1.1)
 let a3:=Qe (Qe a2 12) 16
 let a4:=Qg .i64 1 (Qj a2 12)
 let a6:=Qg .i64 1 (Qj (Qe a2 12) 16)
 let a7:=Qg .i64 (Qa a1) 1
 let a8:=Qj (Qe a3 4) (Qa a1)
 let a9:=Q2 (Qe a2 12) 16
 br (Q2 d0 (Qa p1.1)) (br (cIx p1.1 a5) (br (Q2 a2 12) (br (ieq a4 1) (br a9 (br (Q2 a3 a7) (some (.t Zo (a5,(a4,(a6,((Qj a3 a7),(((0,(0,())),(0,(([]:List Certificate),()))),()))))),[.box (.t QK (Qe a3 a7))])) none) none) (br (ieq a4 2) (br a9 (br (igt (Qa a1) 0) (br (Y5 a3 4) (br (!(done a3 4)) (br (Q2 (Qe a3 4) (Qa a1)) (br (cIx a1 a8) (some (.t Zo (a5,(a4,((lgt tI a1 (Int.toNat a8)),(0,(((0,(0,())),(0,(([]:List Certificate),()))),()))))),[.box (.t QK (Qe (Qe a3 4) (Qa a1)))])) none) none) (some (.t Zo (a5,(a4,(a6,(0,(((0,(0,())),(0,(([]:List Certificate),()))),()))))),[.box (.t QK (Qe a3 4))]))) none) (some (.t Zo (a5,(a4,(a6,(0,(((0,(0,())),(0,(([]:List Certificate),()))),()))))),[.box (.t QK a3)]))) none) (br (ieq a4 3) (br (ieq a4 3) (OP d0 p1) (Qc3 d0 p1)) (br (ieq a4 4) (OP d0 p1) (Qc3 d0 p1))))) none) none) none
theorem s_f23 (d:Dice)(e:Estate)(h:Gh d e=true):r_f23 d e=Y9 (Ez d e):=by
 simp only [Gh,Bb,Ba] at h
 obtain ⟨hd,⟨hl0,hl1⟩,hall⟩:=h
 have hL:anL e=((Qt e).length:Int):=rfl
 have hv:=JO (d:=d) (n:=anL e) (by omega)
 have hi:(Int.toNat (Qj d (anL e)))<(Qt e).length:=by omega
 have hX:anyE (anX d e)=true:=by
  rw [show anX d e=(Qt e)[Int.toNat (Qj d (anL e))] from QL (y:=Qo) hi]
  exact Bf.1 hall _ (Bw hi)
 obtain ⟨hX1,hX2⟩:=Bg.1 hX
 obtain ⟨_,b1,b2,_,_,_⟩:=XT hX1
 have d1:dOk (Qe d (anL e))=true:=QW hd
 have d2:dOk (anD d e)=true:=QW d1
 have nx: ∀ {w:Dice} {n:Int},dOk w=true->n<=1000000->Q2 w n=true:=fun h hn=>Fl h hn
 have s1:Qg .i64 (Qa (Qq (anX d e))) 1=((Qq (anX d e)).length:Int)+1:=J6 (by simp only [Qa];omega)
 have s2:anU (anX d e)=((Qp (anX d e)).length:Int)+1:=J6 (by simp only [Qa];omega)
 have q1:OP d e=Y9 (anN d e 4):=brY (nx d2 (by decide)) rfl
 have q3:Qkz d e=Y9 (anN d e 3):=brY (nx d2 (by decide)) rfl
 have q6:QkA d e=Y9 (anC d e (Qj (anD d e) 2),Qe (anD d e) 2):=brY (nx d2 (by decide)) rfl
 have q5:Qc1 d e=Y9 (Qkx d e):=by
  unfold Qc1
  exact Qc0 q6 rfl
 have q4:Qc2 d e=Y9 (Qky d e):=by
  unfold Qc2
  exact Qc0 q1 q5
 have q2:Qc3 d e=Y9 (QcZ d e):=by
  unfold Qc3
  refine brQ ?_ (brQ ?_ (Qc0 q3 q4))
  ·refine brY (nx d2 (by show anU (anX d e)<=1000000;omega)) (brY (nx (QW d2) (by decide)) (brY ?_ (brY (nx (QW (QW d2)) (by decide)) (brY (nx (QW (QW (QW d2))) (by decide)) (brY hX2 rfl)))))
   have:=JO (d:=Qe (anD d e) (anU (anX d e))) (n:=2) (by decide)
   exact Be ⟨this.1,this.2⟩
  ·refine brY (nx d2 (by decide)) ?_
   unfold Qkw
   show br (igt (Qa (Qp (anX d e))) 0) _ _=_
   cases hg:igt (Qa (Qp (anX d e))) 0 with
   |false=>rfl
   |true=>
    have hg:=Bx hg
    simp only [Qa] at hg
    have:=JO (d:=Qe (Qe (anD d e) 4) 4) (n:=Qa (Qp (anX d e))) hg
    rw [Qb,B2]
    refine brY (Qef (QW d2) (by decide) (by decide)) (brQ ?_ rfl)
    exact brY (nx (QW (QW d2)) (by show ((Qp (anX d e)).length:Int)<=1000000;omega)) (brY (Be ⟨this.1,this.2⟩) rfl)
 unfold r_f23
 refine brY (nx hd (by show anL e<=1000000;omega)) (brY (Be ⟨hv.1,hv.2⟩) (brY (nx d1 (by decide)) (brQ ?_ (brQ ?_ (Qc0 q1 q2)))))
 ·exact brY (nx d2 (by decide)) (brY (nx (QW d2) (by show Qg .i64 (Qa (Qq (anX d e))) 1<=1000000;omega)) rfl)
 ·refine brY (nx d2 (by decide)) ?_
  unfold Qku
  show br (igt (Qa (Qq (anX d e))) 0) _ _=_
  cases hg:igt (Qa (Qq (anX d e))) 0 with
  |false=>rfl
  |true=>
   have hg:=Bx hg
   simp only [Qa] at hg
   have:=JO (d:=Qe (Qe (anD d e) 16) 4) (n:=Qa (Qq (anX d e))) hg
   rw [Qb,B2]
   refine brY (Qef (QW d2) (by decide) (by decide)) (brQ ?_ rfl)
   exact brY (nx (QW (QW d2)) (by show ((Qq (anX d e)).length:Int)<=1000000;omega)) (brY (Be ⟨this.1,this.2⟩) rfl)
def Qu2:Ent:=Wn QK (.pr Qx .nil) (fun d x=>(Gh d x.1)) (fun d x=>(.t Zo (Z0 d x.1))) (fun d x=>(Uq d x.1))
theorem ms_f23:EM 23 Qu2:=mS g_f23 tc_f23 [((.c 4 true 8),some Zo)] false (gB (gD GT (gD QrX (gD Qz4 (gD Qz3 (gD ms_f44 gN)))))) fun m=>Um m rfl fun d x hok=>kT (s_f23 d x.1 hok)
end
end Go.Proofs.YtmjnnemhoeolgaaGreat.K
noncomputable section
namespace Go.Proofs.YtmjnnemhoeolgaaGreat.K
open Go.RowKit
noncomputable section
theorem YJ {P:Change×Dice->Prop}{b:Bool}{x y:Change×Dice}(hx:P x)(hy:P y):P (bif b then x else y):=by
 cases b with
 |true=>exact hx
 |false=>exact hy
theorem Qnl {P:Change×Dice->Prop}(d:Dice)(e:Estate)(h5:P (Qkv d e))(h: ∀ n a w,dOk d=true->dOk w=true->P (anI d e n a UC,w))(hd:dOk d=true):P (Ez d e):=by
 have d2:dOk (anD d e)=true:=QW (QW hd)
 have d3: ∀ n,dOk (Qe (anD d e) n)=true:=fun n=>QW d2
 have d4: ∀ n m,dOk (Qe (Qe (anD d e) n) m)=true:=fun n m=>QW (d3 n)
 have d5: ∀ n m k,dOk (Qe (Qe (Qe (anD d e) n) m) k)=true:=fun n m k=>QW (d4 n m)
 unfold Ez QcZ Qky Qkx Qku Qkw any1
 refine YJ (h _ _ _ hd (d4 _ _)) (YJ (YJ (YJ (h _ _ _ hd (d5 _ _ _)) (h _ _ _ hd (d4 _ _))) (h _ _ _ hd (d3 _))) (YJ (h _ _ _ hd (d3 _)) (YJ (h _ _ _ hd (d3 _)) (YJ h5 (YJ (YJ (YJ (h _ _ _ hd (d5 _ _ _)) (h _ _ _ hd (d4 _ _))) (h _ _ _ hd (d3 _))) (YJ (h _ _ _ hd (d3 _)) (YJ (h _ _ _ hd (d3 _)) (YJ (h _ _ _ hd (d3 _)) (YJ (h _ _ _ hd (d3 _)) (YJ (h _ _ _ hd (d3 _)) (YJ (h _ _ _ hd (d3 _)) (h _ _ _ hd d2))))))))))))
theorem Qz5 {d:Dice}{e:Estate}(hd:dOk d=true):dOk (Uq d e)=true:=
 Qnl (P:=fun p=>dOk p.2=true) d e (QW (n:=2) (QW (n:=3) (QW (n:=2) (QW (n:=anU (anX d e)) (QW (QW hd)))))) (fun _ _ _ _ h=>h) hd
theorem QN1:(YO.all fun s=>[ecV,Jy].all fun k=>[200,201,202].all fun i=>[1,2].all fun a=>Jo (Yi s k i a 901))=true:=by kernel_rfl
theorem any_id {d:Dice}{e:Estate}(hd:dOk d=true)(hl:0<(Qt e).length)(hs: ∀ x∈Qt e,x.1∈YO):Jo (Zn (Z0 d e))=true:=by
 refine Qnl (P:=fun p=>Jo (Zn p.1)=true) d e ?_ (fun _ _ _ _ _=>rfl) hd
 have hL:anL e=((Qt e).length:Int):=rfl
 have hv:=JO (d:=d) (n:=anL e) (by omega)
 have hi:(Int.toNat (Qj d (anL e)))<(Qt e).length:=by omega
 have hX:(anX d e).1∈YO:=by
  rw [show anX d e=(Qt e)[Int.toNat (Qj d (anL e))] from QL (y:=Qo) hi]
  exact hs _ (Bw hi)
 show Jo (Yi (anX d e).1 _ _ _ 901)=true
 generalize (anX d e).1=nm at hX
 have k1:=JO (d:=Qe (anD d e) (anU (anX d e))) (n:=2) (by decide)
 have k2:=JO (d:=Qe (Qe (anD d e) (anU (anX d e))) 2) (n:=3) (by decide)
 have k3:=JO (d:=Qe (Qe (Qe (anD d e) (anU (anX d e))) 2) 3) (n:=2) (by decide)
 generalize Qj (Qe (anD d e) (anU (anX d e))) 2=v1 at k1
 generalize Qj (Qe (Qe (anD d e) (anU (anX d e))) 2) 3=v2 at k2
 generalize Qj (Qe (Qe (Qe (anD d e) (anU (anX d e))) 2) 3) 2=v3 at k3
 have h:=Bf.1 QN1 nm hX
 have g1:lgt Qd QcY (Int.toNat v1)∈[ecV,Jy]:=by
  rcases (show v1=0∨v1=1 by omega) with rfl|rfl
  ·exact B8
  ·exact B4 _ B8
 have g2:Qg .i64 200 v2∈[(200:Int),201,202]:=by
  rcases (show v2=0∨v2=1∨v2=2 by omega) with rfl|rfl|rfl<;>decide
 have g3:Qg .i64 1 v3∈[(1:Int),2]:=by
  rcases (show v3=0∨v3=1 by omega) with rfl|rfl<;>decide
 exact Bf.1 (Bf.1 (Bf.1 h _ g1) _ g2) _ g3
def dropE (e0 e:Endpoint):Prop:=QN e=true/\e.1=e0.1/\e.2.1=e0.2.1/\e.2.2.1=e0.2.2.1/\Qp e=Qp e0∧ ∀ x,QR (Qq e) x=true->QR (Qq e0) x=true
def Qnm (d:Dice)(n:Nat)(x:Estate):Prop:=YI n x=true/\x.2=(QD d).2/\(Qt x).length=(Qt (QD d)).length∧ ∀ j,j<(Qt (QD d)).length->dropE (Jb (Qt (QD d)) j) (Jb (Qt x) j)
theorem QN2 (d:Dice):Qnm d 1000 (QD d):=⟨Quy d,rfl,rfl,fun j hj=>⟨Qqw (Qe7 d hj),rfl,rfl,rfl,rfl,fun _ h=>h⟩⟩
theorem apy_of {x:Estate}{c:Change}(h:(ZI x c).2=0): ∃ i:Nat,i<(Qt x).length/\c.1=(i:Int)/\Zh (Jb (Qt x) i) c=0/\QN (Yb (Jb (Qt x) i) c)=true/\ZI x c=(((Qt x).set i (Yb (Jb (Qt x) i) c),(Q9 x,(ZB x,()))),0)/\ZI x c=XU x c:=by
 unfold ZI at h ⊢
 cases h0:ine (YQ x) 0 with
 |true=>
  rw [h0] at h
  exact absurd (show (31:Int)=0 from h) (by decide)
 |false=>
  rw [h0] at h
  simp only [BM] at h ⊢
  unfold XU at h ⊢
  cases h1:ilt c.1 0 with
  |true=>
   rw [h1] at h
   exact absurd (show (40:Int)=0 from h) (by decide)
  |false=>
   rw [h1] at h
   cases h2:ige c.1 (Qa (Qt x)) with
   |true=>
    rw [h2] at h
    exact absurd (show (40:Int)=0 from h) (by decide)
   |false=>
    rw [h2] at h
    simp only [BM] at h ⊢
    simp only [ilt,ige,Qa,Bn] at h1 h2
    cases h3:ine (ZC (Jb (Qt x) c.1.toNat) c).2 0 with
    |true=>
     rw [h3] at h
     have h:(ZC (Jb (Qt x) c.1.toNat) c).2=0:=h
     rw [h] at h3
     cases h3
    |false=>
     have h3:=Vd h3
     refine ⟨c.1.toNat,by omega,by omega, ?_⟩
     unfold ZC at h3 ⊢
     cases h4:ine (Zh (Jb (Qt x) c.1.toNat) c) 0 with
     |true=>
      rw [h4] at h3
      have h3:Zh (Jb (Qt x) c.1.toNat) c=0:=h3
      rw [h3] at h4
      cases h4
     |false=>
      rw [h4] at h3
      cases h5:ine (JZ (Yb (Jb (Qt x) c.1.toNat) c)) 0 with
      |true=>
       rw [h5] at h3
       exact absurd (show (18:Int)=0 from h3) (by decide)
      |false=>
       rw [Gm] at h5
       exact ⟨Vd h4,by simpa using h5,rfl,trivial⟩
theorem QN3 {e:Endpoint}(h:GL e):e.1∈YO:=by
 obtain ⟨d,k,s,rfl,hs,_⟩:=h
 exact hs
theorem QN4 {d:Dice}{n:Nat}{x:Estate}(h:Qnm d n x): ∀ e∈Qt x,e.1∈YO:=fun e he=>by
 obtain ⟨j,hj⟩:=DD.1 he
 obtain ⟨hj1,rfl⟩:=BG.1 hj
 have hj2:j<(Qt (QD d)).length:=by rw [←h.2.2.1];exact hj1
 have:=(h.2.2.2 j hj2).2.1
 rw [show Jb (Qt x) j=(Qt x)[j] by simp only [Jb,Bk,Bh hj1,BH]] at this
 rw [this]
 exact QN3 (Qe7 d hj2)
theorem QN5:(YO.all nm1)=true:=by kernel_rfl
theorem QN6 {d w:Dice}{n:Nat}{x:Estate}(h:Qnm d n x)(hn:n<=80000)(hw:dOk w=true):Gh w x=true/\UA x (Z0 w x)=true:=by
 have hl:=IX d
 have hlen:(Qt x).length=(JF d).length:=by rw [h.2.2.1,QhX]
 have hnm:=QN4 h
 constructor
 ·unfold Gh
  rw [hw,Be (show 0<(Qt x).length/\(Qt x).length<=1000 by omega),BA,BA]
  refine Bf.2 fun e he=>Bg.2 ⟨EA (Bf.1 (Fh h.1).1 e he) (by omega),Bf.1 QN5 _ (hnm e he)⟩
 ·exact Bg.2 ⟨QmL h.1 hn,any_id hw (by omega) hnm⟩
end
end Go.Proofs.YtmjnnemhoeolgaaGreat.K
noncomputable section
namespace Go.Proofs.YtmjnnemhoeolgaaGreat.K
open Go.RowKit
noncomputable section
def Ga (y:Policy)(_u:Keep)(_p _d:Int):Bool:=ZL y.1
abbrev Qb2:Sh:=⟨[(2,.ty tI),(3,.ty tI),(4,.ptr 4 0),(5,.ptr 5 0),(9,.ty tI)],[(4,.box Jz),(5,.box Qd)]⟩
abbrev Qr7:Sh:=⟨[(8,.ty tI)],[]⟩
abbrev Gb:Sh:=⟨[],[]⟩
def QiR:Fg:=Qb2.f
def Qr8:TC:=aF Tryz.f147 [(26,pL 0 QiR),(419,.fg Gb.f),(840,pD [(0,[4]),(1,[4]),(2,[]),(3,[]),(4,[]),(5,[5]),(6,[]),(7,[]),(8,[])] (.of [0,1,2,3,4,5,6,7,8])),(3365,.fg Qr7.f)]
def Qr9:TC:=lb 0 Qr8
def Qsa (x2 x3 x9:Int)(y4:Policy)(y5:Keep):VS:=Qb2.st (x2,x3,(),(),x9,()) (y4,y5,())
def QiS (x8:Int):VS:=Qr7.st (x8,()) ()
def QiT  : VS:=Gb.st () ()
def QGB:VS->Option (Bool×List (Bool×Exit×VS)):=mkL Qb2 (fun x y=>(decide (-1<=x.2.2.2.2.1/\x.2.2.2.2.1<y.1.1.length/\y.1.1.length<=100000))) (fun x y=>[(((XD (y.1.1.take (x.2.2.2.2.1+1).toNat) y.2.1 x.1 x.2.1).isSome),.ret,QiS ((XD (y.1.1.take (x.2.2.2.2.1+1).toNat) y.2.1 x.1 x.2.1).getD 0:Nat)),(true,.exit 0,QiT)])
def QiU:G:=gG 28 [(183,Qrd)] (Ls [QGB])
def QiV (x2 x3 x9:Int)(y4:Policy)(y5:Keep):OX:=Qr (Qv QiU QiR Qr9) (Qsa x2 x3 x9 y4 y5)
def Oq (kk:Int->Int->Int->Policy->Keep->OX)(x2 x3 x9:Int)(y4:Policy)(y5:Keep):OX:=br (ige x9 0) (br (cIx y4.1 x9) (br (Wj (lgt Ju y4.1 (Int.toNat x9)) y5 x2 x3) (some (.ret,QiS x9)) (kk x2 x3 (QY .i64 x9 1) y4 y5)) none) (some (.exit 0,QiT))
def Qsb (x2 x3 x9:Int)(y4:Policy)(y5:Keep):OX:=
 let a1:=XD (y4.1.take (x9+1).toNat) y5 x2 x3
 br (a1.isSome) (some (.ret,QiS (a1.getD 0:Nat)))<|some (.exit 0,QiT)
theorem Qsc (x2 x3 x9:Int)(y4:Policy)(y5:Keep):QiV x2 x3 x9 y4 y5=Oq QiV x2 x3 x9 y4 y5:=lnT (x:=Oq (fun x2 x3 x9 y4 y5=>some (.normal,Qsa x2 x3 x9 y4 y5)) x2 x3 x9 y4 y5) (by simp only [Oq,nxA];rfl)
def Qsd (p0:Policy)(p1:Keep)(p2 p3:Int):OV:=
 let a1:=QY .i64 (Qa p0.1) 1
 let a2:=XD (p0.1.take (a1+1).toNat) p1 p2 p3
 br (decide (-1<=a1/\a1<p0.1.length/\p0.1.length<=100000)) (br (a2.isSome) (some (.t tI (a2.getD 0:Nat),[])) (some (.t tI (-1),[]))) none
theorem Qse {α:Type}{l:List α}{k:Nat}(h:k<l.length):l.take (k+1)=l.take k++[l[k]]:=List.take_succ_eq_append_getElem h
theorem QGC {l:List Rule}{k:Nat}(h:k<l.length){u:Keep}{p d:Int}:XD (l.take (k+1)) u p d=if Wj l[k] u p d then some k else XD (l.take k) u p d:=by
 rw [Qse h]
 unfold XD
 rw [QoJ]
 simp only [ZF]
 have e:(l.take k).length=k:=by simp;omega
 rw [e]
 split<;>rename_i hq
 ·split at hq
  ·rename_i hm
   injection hq with hq
   subst hq
   rw [if_pos hm]
   rfl
  ·cases hq
 ·split at hq
  ·cases hq
  ·rename_i hm
   rw [if_neg hm]
theorem QGD (x2 x3 x9:Int)(y4:Policy)(y5:Keep)(h:(decide (-1<=x9/\x9<y4.1.length/\y4.1.length<=100000))=true):QiV x2 x3 x9 y4 y5=Qsb x2 x3 x9 y4 y5:=by
 simp only [Ba] at h
 obtain ⟨h1,h2,h3⟩:=h
 obtain ⟨k,hk⟩: ∃ k:Nat,x9=(k:Int)-1:=⟨(x9+1).toNat,by omega⟩
 subst hk
 have h4:k<=y4.1.length:=by omega
 clear h1 h2
 induction k with
 |zero=>
  rw [Qsc]
  have e1:ige (((0:Nat):Int)-1) 0=false:=rfl
  simp only [Oq,e1,Qf]
  rfl
 |succ k ih=>
  rw [Qsc]
  have e1:ige (((k+1:Nat):Int)-1) 0=true:=by simp only [ige,Ba];omega
  have e2:(((k+1:Nat):Int)-1)=(k:Int):=by omega
  have e3:QY .i64 (k:Int) 1=(k:Int)-1:=Yc (by omega)
  have hk:k<y4.1.length:=by omega
  rw [e2] at e1 ⊢
  simp only [Oq,e1,e3,Qb,QJ,hk,Bt,Bc,QL (y:=Ju) hk,ih (by omega)]
  have e4:((k:Int)+1).toNat=k+1:=by omega
  have e5:((k:Int)-1+1).toNat=k:=by omega
  simp only [Qsb,e4,e5,QGC hk]
  cases hm:Wj y4.1[k] y5 x2 x3 with
  |true=>rfl
  |false=>rfl
theorem QGE:LO QiU QiR Qr9 0:=QH (s:=Qb2) fun x y h _ q=>by simp only [QE,QF] at q;exact (QGD x.1 x.2.1 x.2.2.2.2.1 y.1 y.2.1 h).trans q
theorem s_f147 (y:Policy)(u:Keep)(p d:Int)(h:Ga y u p d=true):Qsd y u p d=some (.t tI (ZP y u p d),[]):=by
 have h:ZL y.1=true:=h
 simp only [ZL,Ba] at h
 have e1:QY .i64 (Qa y.1) 1=(y.1.length:Int)-1:=Yc (by unfold Qa;omega)
 have e2:((y.1.length:Int)-1+1).toNat=y.1.length:=by omega
 simp only [Qsd,e1,e2,List.take_length]
 rw [GR ⟨by omega,by omega,h⟩,Qb,QoL]
 cases XD y.1 u p d<;>rfl
def QiW:Ent:=Qi (.pr Jz (.pr Qd (.pr tI (.pr tI .nil)))) (fun x=>(Ga x.1 x.2.1 x.2.2.1 x.2.2.2.1)) (fun x=>(.t tI (ZP x.1 x.2.1 x.2.2.1 x.2.2.2.1)))
theorem Qsf:EM 147 QiW:=mS (lk:=lkL (lkc QGE lkn)) QiU Qr8 [((.t 8),some tI)] false (gB (gD QFT gN)) fun m=>Qm m fun x hok=>kT (s_f147 x.1 x.2.1 x.2.2.1 x.2.2.2.1 hok)
def QGF:TC:=aF Tryz.f146 []
def g_f146:G:=gG 25 [(147,QiW)] (fun _ _=>none)
def Qsg (p0:Policy)(p1:Keep)(p2 p3:Int):OV:=
 let a1:=ZP p0 p1 p2 p3
 br (Ga p0 p1 p2 p3) (br (ilt a1 0) (some (.t .bool true,[])) (br (cIx p0.1 a1) (some (.t .bool ((lgt Ju p0.1 (Int.toNat a1)).1),[])) none)) none
theorem s_f146 (y:Policy)(u:Keep)(p d:Int)(h:Ga y u p d=true):Qsg y u p d=some (.t .bool (UR y u p d),[]):=by
 simp only [Qsg,h,Qb,QzB]
 cases h:ilt (ZP y u p d) 0 with
 |true=>simp [Qb]
 |false=>rw [QzC h,Qf,Qb,Da,lgt]
def Qsh:Ent:=Qi (.pr Jz (.pr Qd (.pr tI (.pr tI .nil)))) (fun x=>(Ga x.1 x.2.1 x.2.2.1 x.2.2.2.1)) (fun x=>(.t .bool (UR x.1 x.2.1 x.2.2.1 x.2.2.2.1)))
theorem QGG:EM 146 Qsh:=mS g_f146 QGF [((.t 8),some .bool)] false (gB (gD Qsf gN)) fun m=>Qm m fun x hok=>kT (s_f146 x.1 x.2.1 x.2.2.1 x.2.2.2.1 hok)
def Eb (y:Policy)(u:Keep)(p:Int):Int:=Yt y u p 0
def QGH:TC:=aF Tryz.f145 []
def g_f145:G:=gG 22 [(117,I4),(182,QvD)] (fun _ _=>none)
def Qsi (p0:Policy)(p1:Keep)(p2:Int):OV:=br (J4 p0) (br (ine (ZM p0) 0) (some (.t tI (ZM p0),[])) (br (!(Jq p1)) (some (.t tI 7,[])) (br (ilt p2 1) (some (.t tI 2,[])) (br (igt p2 4) (some (.t tI 2,[])) (some (.t tI 0,[])))))) none
theorem s_f145 (y:Policy)(u:Keep)(p:Int)(h:Qfc y u p=true):Qsi y u p=some (.t tI (Eb y u p),[]):=by
 have h:J4 y=true:=h
 simp only [Qsi,h,Qb,ZM,Eb,Yt]
 cases YU y with
 |false=>rfl
 |true=>
  simp only [if_true,show ine 0 0=false from rfl,Qf,Bool.true_eq_false,Dd]
  cases Jq u with
  |false=>rfl
  |true=>
   simp only [BC,Qf,Bool.true_eq_false,Dd]
   repeat' (refine QX ?_ ?_<;>intro _)
   all_goals simp only [igt,ilt,Ba,Bn] at*
   all_goals first
    |rw [if_pos (by omega)]
    |rw [if_neg (by omega)]
def Qsj:Ent:=Qi (.pr Jz (.pr Qd (.pr tI .nil))) (fun x=>(Qfc x.1 x.2.1 x.2.2.1)) (fun x=>(.t tI (Eb x.1 x.2.1 x.2.2.1)))
theorem QGI:EM 145 Qsj:=mS g_f145 QGH [((.t 6),some tI)] false (gB (gD QaZ (gD QJt gN))) fun m=>Qm m fun x hok=>kT (s_f145 x.1 x.2.1 x.2.2.1 hok)
def QGJ:TC:=aF Tryz.f109 [(30,pD [(0,[4]),(1,[5]),(2,[]),(3,[]),(4,[]),(5,[4]),(6,[5]),(7,[]),(8,[]),(9,[]),(10,[]),(11,[]),(12,[])] (.of [0,1,2,3,4,5,6,7,8,9,10,11,12]))]
def g_f109:G:=gG 35 [(145,Qsj),(146,Qsh),(147,QiW)] (fun _ _=>none)
def Qsk (p0:Policy)(p1:Keep)(p2 p3:Int):OV:=br (Qfc p0 p1 p2) (br (ine (Eb p0 p1 p2) 0) (some (.tu [(.t .bool false),(.t tI 0),(.t tI (Eb p0 p1 p2))],[])) (br (ilt p3 0) (some (.tu [(.t .bool false),(.t tI 0),(.t tI 2)],[])) (br (igt p3 40000) (some (.tu [(.t .bool false),(.t tI 0),(.t tI 2)],[])) (br (Ga p0 p1 p2 p3) (br (Ga p0 p1 p2 p3) (some (.tu [(.t .bool (UR p0 p1 p2 p3)),(.t tI (ZP p0 p1 p2 p3)),(.t tI 0)],[])) none) none)))) none
theorem QGK {y:Policy}{u:Keep}{p d:Int}:Yt y u p d=if Yt y u p 0≠0 then Yt y u p 0 else if d<0∨40000<d then 2 else 0:=by
 unfold Yt
 cases YU y<;>cases Jq u<;>simp only [Bool.true_eq_false,if_true,Dd]<;>try rfl
 repeat' split
 all_goals first|rfl|omega
theorem s_f109 (y:Policy)(u:Keep)(p d:Int)(h:UJ y u p d=true):Qsk y u p d=some (.tu [.t .bool (Jt y u p d).1,.t tI (Jt y u p d).2.1,.t tI (Jt y u p d).2.2],[]):=by
 have h3:Qfc y u p=true:=h
 have h5:Ga y u p d=true:=by
  have h:J4 y=true:=h
  simp only [J4,Bb] at h
  exact h.1
 simp only [Qsk,h3,h5,Qb,Jt,Eb,QrV]
 rw [QGK (d:=d)]
 by_cases h0:Yt y u p 0=0
 ·simp only [h0,ne_eq,not_true_eq_false,B0,Qf,Dd]
  repeat' (refine QX ?_ ?_<;>intro _)
  all_goals simp only [igt,ilt,Ba,Bn] at*
  all_goals first
   |rw [if_pos (show d<0∨40000<d by omega)];rfl
   |rw [if_neg (show ¬ (d<0∨40000<d) by omega)];rfl
 ·simp [h0,Qb]
def Qsl:Ent:=Qi (.pr Jz (.pr Qd (.pr tI (.pr tI .nil)))) (fun x=>(UJ x.1 x.2.1 x.2.2.1 x.2.2.2.1)) (fun x=>(.tu [(.t .bool ((Jt x.1 x.2.1 x.2.2.1 x.2.2.2.1).1)),(.t tI (((Jt x.1 x.2.1 x.2.2.1 x.2.2.2.1).2).1)),(.t tI (((Jt x.1 x.2.1 x.2.2.1 x.2.2.2.1).2).2))]))
theorem QGL:EM 109 Qsl:=mS g_f109 QGJ [((.t 8),some .bool),((.t 9),some tI),((.t 10),some tI)] false (gB (gD QGI (gD QGG (gD Qsf gN)))) fun m=>Qm m fun x hok=>kT (s_f109 x.1 x.2.1 x.2.2.1 x.2.2.2.1 hok)
def Or (_:Exception):List Int×Int:=([],0)
def QiX (_:Exception)(_:Dice):Bool:=false
def QiY (_:Exception)(_:Dice):Bool:=false
def Qb3 (_:List Exception):Int:=0
def QiZ (_:List Exception)(_:Dice)(_:Keep)(_:Int)(_:ByteArray)(_:Int):Bool:=false
def Qb4 (x:Exception)(u:Keep)(p:Int)(e:ByteArray)(d:Int):Bool:=(and (ieq x.1.1 u.1) (and (ieq x.1.2.1 u.2.1) true))&&(ieq x.2.1 p&&(seq x.2.2.1 e&&(ige d x.2.2.2.1.1&&ilt d x.2.2.2.1.2.1)))
abbrev Qb5:Sh:=⟨[(1,.ptr 1 0),(3,.ty tI)],[(1,.box Jm)]⟩
def Qi0:Fg:=Qb5.f
def Qsm:TC:=aF Tryz.f148 [(58,pL 0 Qi0),(931,.fg Gb.f),(3730,pD [(0,[4]),(1,[4]),(2,[]),(3,[]),(4,[4]),(5,[4]),(6,[]),(7,[]),(8,[]),(9,[4]),(10,[4]),(11,[]),(12,[]),(13,[]),(14,[4]),(15,[4]),(16,[]),(17,[]),(18,[]),(19,[]),(20,[]),(21,[]),(22,[1]),(23,[1]),(24,[]),(25,[]),(26,[]),(27,[]),(28,[]),(29,[4]),(30,[4]),(31,[]),(32,[]),(33,[])] (.of [0,1,2,3,4,5,6,7,8,9,10,11,12,13,14,15,16,17,18,19,20,21,22,23,24,25,26,27,28,29,30,31,32,33])),(14925,.fg ⟨[(2,some tI)],[]⟩)]
def Qsn:TC:=lb 0 Qsm
def QGM (x3:Int)(y1:Exception):VS:=Qb5.st ((),x3,()) (y1,())
def Qso  : VS:=Gb.st () ()
def QGN:VS->Option (Bool×List (Bool×Exit×VS)):=mkL Qb5 (fun x y=>(Za y.1)) (fun x y=>[(true,.exit 0,Qso)])
def Qi1:G:=gG 98 [(116,Qee),(117,I4)] (Ls [QGN])
def QGO (x3:Int)(y1:Exception):OX:=Qr (Qv Qi1 Qi0 Qsn) (QGM x3 y1)
def QGP (x3:Int)(y1:Exception):OX:=some (.exit 0,Qso)
def r_f148 (p0:Exception):OV:=br (!(Jq p0.1)) (some (.t tI 26,[])) (br (ilt p0.2.1 1) (some (.t tI 26,[])) (br (igt p0.2.1 4) (some (.t tI 26,[])) (br (Jg p0.2.2.1) (br (!(JD p0.2.2.1)) (some (.t tI 26,[])) (br (ilt p0.2.2.2.1.1 0) (some (.t tI 26,[])) (br (ige p0.2.2.2.1.1 p0.2.2.2.1.2.1) (some (.t tI 26,[])) (br (igt p0.2.2.2.1.2.1 40001) (some (.t tI 26,[])) (br (igt (Qa p0.2.2.2.2.1) 8) (some (.t tI 26,[])) (br (Za p0) (some (.t tI 0,[])) none)))))) none)))
theorem QGQ (x3:Int)(y1:Exception)(h:(Za y1)=true):QGO x3 y1=QGP x3 y1:=by
 cases h
theorem QGR:LO Qi1 Qi0 Qsn 0:=QH (s:=Qb5) fun x y h _ q=>by simp only [QE,QF] at q;exact (QGQ x.2.1 y.1 h).trans q
theorem s_f148 (x:Exception)(h:Za x=true):r_f148 x=some (.t tI (exZ x),[]):=by cases h
def Qi2:Ent:=Qi (.pr Jm .nil) (fun x=>(Za x.1)) (fun x=>(.t tI (exZ x.1)))
theorem Qsp:EM 148 Qi2:=mS (lk:=lkL (lkc QGR lkn)) Qi1 Qsm [((.t 2),some tI)] false (gB (gD QlV (gD QaZ gN))) fun m=>Qm m fun x hok=>kT (s_f148 x.1 hok)
def QGS:TC:=aF Tryz.f184 [(14,pD [(0,[1]),(1,[1]),(2,[1]),(3,[]),(4,[1]),(5,[1]),(6,[1]),(7,[]),(8,[1]),(9,[1]),(10,[]),(11,[1]),(12,[1]),(13,[]),(14,[1]),(15,[1]),(16,[1]),(17,[]),(18,[1]),(19,[1]),(20,[1]),(21,[]),(22,[]),(23,[])] (.of [0,1,2,3,4,5,6,7,8,9,10,11,12,13,14,15,16,17,18,19,20,21,22,23]))]
def g_f184:G:=gG 39 [(148,Qi2),(151,QlM),(188,Qlm),(189,Qd4),(190,QdJ)] (fun _ _=>none)
def r_f184 (p0:Exception):OV:=
 let a6:=((Q4 p0.1.1).2)
 let a4:=Q4 p0.1.2.1
 let a7:=((Q4 p0.2.1).2)
 let a5:=J9 p0.2.2.1
 let a3:=Q4 p0.2.2.2.1.1
 let a2:=Q4 p0.2.2.2.1.2.1
 let a1:=(XA ([((Q4 p0.1.1).1,(a6.1,((a6.2).1,((List.map Val.of (List.map Val.un (((a6.2).2).1))),())))),(a4.1,((a4.2).1,(((a4.2).2).1,((List.map Val.of (List.map Val.un ((((a4.2).2).2).1))),())))),((Q4 p0.2.1).1,(a7.1,((a7.2).1,((List.map Val.of (List.map Val.un (((a7.2).2).1))),())))),(a5.1,((a5.2).1,(((a5.2).2).1,((List.map Val.of (List.map Val.un ((((a5.2).2).2).1))),())))),(a3.1,((a3.2).1,(((a3.2).2).1,((List.map Val.of (List.map Val.un ((((a3.2).2).2).1))),())))),(a2.1,((a2.2).1,(((a2.2).2).1,((List.map Val.of (List.map Val.un ((((a2.2).2).2).1))),()))))]))
 br (Za p0) (br (ine (exZ p0) 0) (some (.tu [(.t (.sl (.int .u8)) ([]:List Int)),(.t tI (exZ p0))],[])) (br (Zw p0.1.1) (br (Zw p0.1.2.1) (br (Zw p0.2.1) (br (Y8 p0.2.2.1) (br (Zw p0.2.2.2.1.1) (br (Zw p0.2.2.2.1.2.1) (br (X5 ([((Q4 p0.1.1).1,(a6.1,((a6.2).1,((List.map Val.of (List.map Val.un (((a6.2).2).1))),())))),(a4.1,((a4.2).1,(((a4.2).2).1,((List.map Val.of (List.map Val.un ((((a4.2).2).2).1))),())))),((Q4 p0.2.1).1,(a7.1,((a7.2).1,((List.map Val.of (List.map Val.un (((a7.2).2).1))),())))),(a5.1,((a5.2).1,(((a5.2).2).1,((List.map Val.of (List.map Val.un ((((a5.2).2).2).1))),())))),(a3.1,((a3.2).1,(((a3.2).2).1,((List.map Val.of (List.map Val.un ((((a3.2).2).2).1))),())))),(a2.1,((a2.2).1,(((a2.2).2).1,((List.map Val.of (List.map Val.un ((((a2.2).2).2).1))),()))))])) (br (WO a1) (some (.tu [(.t (.sl (.int .u8)) ((Ww a1).1)),(.t tI ((Ww a1).2))],[])) none) none) none) none) none) none) none) none)) none
theorem s_f184 (x:Exception)(h:Za x=true):r_f184 x=some (.tu [.t (.sl (.int .u8)) (Or x).1,.t tI (Or x).2],[]):=by cases h
def Qsq:Ent:=Qi (.pr Jm .nil) (fun x=>(Za x.1)) (fun x=>(.tu [(.t (.sl (.int .u8)) ((Or x.1).1)),(.t tI ((Or x.1).2))]))
theorem QGT:EM 184 Qsq:=mS g_f184 QGS [((.t 2),some (.sl (.int .u8))),((.t 3),some tI)] false (gB (gD Qsp (gD Qw9 (gD Qwn (gD QlN (gD Qll gN)))))) fun m=>Qm m fun x hok=>kT (s_f184 x.1 hok)
abbrev Qb6:Sh:=⟨[(2,.ptr 2 0),(3,.ptr 3 0),(5,.ty (.sl (.int .u8))),(7,.ty tI),(8,.ty tI)],[(2,.box Jm),(3,.box QK)]⟩
abbrev Qsr:Sh:=⟨[(3,.ptr 3 0),(7,.ty tI)],[(3,.box QK)]⟩
def Qi3:Fg:=Qb6.f
def Qss:TC:=aF Tryz.f149 [(250,pL 0 Qi3),(4003,.fg Qsr.f),(8008,pD [(0,[2]),(1,[2]),(2,[]),(3,[]),(4,[]),(5,[]),(6,[]),(7,[]),(8,[]),(9,[]),(10,[3]),(11,[3]),(12,[2]),(13,[2]),(14,[]),(15,[]),(16,[]),(17,[]),(18,[]),(19,[])] (.of [0,1,2,3,4,5,6,7,8,9,10,11,12,13,14,15,16,17,18,19]))]
def Qst:TC:=lb 0 Qss
def QGU (x5:List Int)(x7 x8:Int)(y2:Exception)(y3:Dice):VS:=Qb6.st ((),(),x5,x7,x8,()) (y2,y3,())
def Qsu (x7:Int)(y3:Dice):VS:=Qsr.st ((),x7,()) (y3,())
def QGV:VS->Option (Bool×List (Bool×Exit×VS)):=mkL Qb6 (fun x y=>(Za y.1)) (fun x y=>[(true,.exit 0,Qsu (x.2.2.2.1) (y.2.1))])
def Qi4:G:=gG 54 [(99,Qaq),(115,Qbq),(184,Qsq)] (Ls [QGV])
def QGW (x5:List Int)(x7 x8:Int)(y2:Exception)(y3:Dice):OX:=Qr (Qv Qi4 Qi3 Qst) (QGU x5 x7 x8 y2 y3)
def QGX (x5:List Int)(x7 x8:Int)(y2:Exception)(y3:Dice):OX:=some (.exit 0,Qsu (x7) (y3))
def r_f149 (p0:Exception)(p1:Dice):OV:=br (Za p0) (br (ine ((Or p0).2) 0) (some (.t .bool false,[])) (br (ilt p1.2.1 1) (some (.t .bool false,[])) (br (Za p0) (some (.t .bool (ige (0:Int) (((p1).2).1)),[])) none))) none
theorem QGY (x5:List Int)(x7 x8:Int)(y2:Exception)(y3:Dice)(h:(Za y2)=true):QGW x5 x7 x8 y2 y3=QGX x5 x7 x8 y2 y3:=by
 cases h
theorem QGZ:LO Qi4 Qi3 Qst 0:=QH (s:=Qb6) fun x y h _ q=>by simp only [QE,QF] at q;exact (QGY x.2.2.1 x.2.2.2.1 x.2.2.2.2.1 y.1 y.2.1 h).trans q
theorem s_f149 (x:Exception)(o:Dice)(h:QiY x o=true):r_f149 x o=some (.t .bool (QiX x o),[]):=by cases h
def Qsv:Ent:=Qi (.pr Jm (.pr QK .nil)) (fun x=>(QiY x.1 x.2.1)) (fun x=>(.t .bool (QiX x.1 x.2.1)))
theorem QG0:EM 149 Qsv:=mS (lk:=lkL (lkc QGZ lkn)) Qi4 Qss [((.t 4),some .bool)] false (gB (gD Qgl (gD Qh7 (gD QGT gN)))) fun m=>Qm m fun x hok=>kT (s_f149 x.1 x.2.1 hok)
def QG1:TC:=aF Tryz.f150 []
def g_f150:G:=gG 41 [] (fun _ _=>none)
def Qsw (p0:Exception)(p1:Keep)(p2:Int)(p3:ByteArray)(p4:Int):OV:=br (and (ieq p0.1.1 p1.1) (and (ieq p0.1.2.1 p1.2.1) true)) (br (ieq p0.2.1 p2) (br (seq p0.2.2.1 p3) (br (ige p4 p0.2.2.2.1.1) (some (.t .bool (ilt p4 p0.2.2.2.1.2.1),[])) (some (.t .bool false,[]))) (some (.t .bool false,[]))) (some (.t .bool false,[]))) (some (.t .bool false,[]))
theorem s_f150 (x:Exception)(u:Keep)(p:Int)(e:ByteArray)(d:Int):Qsw x u p e d=some (.t .bool (Qb4 x u p e d),[]):=by
 unfold Qsw Qb4
 cases (and (ieq x.1.1 u.1) (and (ieq x.1.2.1 u.2.1) true)) with
 |false=>rfl
 |true=>
  cases ieq x.2.1 p with
  |false=>rfl
  |true=>
   cases seq x.2.2.1 e with
   |false=>rfl
   |true=>cases ige d x.2.2.2.1.1<;>rfl
def Qsx:Ent:=Qi (.pr Jm (.pr Qd (.pr tI (.pr .str (.pr tI .nil))))) (fun x=>true) (fun x=>(.t .bool (Qb4 x.1 x.2.1 x.2.2.1 x.2.2.2.1 x.2.2.2.2.1)))
theorem QG2:EM 150 Qsx:=mS g_f150 QG1 [((.t 10),some .bool)] false (gB gN) fun m=>Qm m fun x _=>kT (s_f150 x.1 x.2.1 x.2.2.1 x.2.2.2.1 x.2.2.2.2.1)
abbrev Qb7:Sh:=⟨[(0,.ty (.sl Jm)),(3,.ty tI),(4,.ty .str),(5,.ty tI),(7,.ptr 7 0),(8,.ptr 8 0),(13,.ty tI)],[(7,.box QK),(8,.box Qd)]⟩
abbrev Qsy:Sh:=⟨[(12,.ty .bool)],[]⟩
def Qi5:Fg:=Qb7.f
def Qsz:TC:=aF Tryz.f111 [(26,pL 0 Qi5),(419,.fg Gb.f),(840,pD [(0,[]),(1,[]),(2,[]),(3,[]),(4,[7]),(5,[]),(6,[]),(7,[]),(8,[]),(9,[]),(10,[]),(11,[8]),(12,[]),(13,[]),(14,[]),(15,[]),(16,[])] (.of [0,1,2,3,4,5,6,7,8,9,10,11,12,13,14,15,16])),(3365,.fg Qsy.f)]
def QsA:TC:=lb 0 Qsz
def QsB (x0:List Exception)(x3:Int)(x4:ByteArray)(x5 x13:Int)(y7:Dice)(y8:Keep):VS:=Qb7.st (x0,x3,x4,x5,(),(),x13,()) (y7,y8,())
def Qi6 (x12:Bool):VS:=Qsy.st (x12,()) ()
def Qi7  : VS:=Gb.st () ()
def QG3:VS->Option (Bool×List (Bool×Exit×VS)):=mkL Qb7 (fun x y=>(Jj x.1&&ieq x.2.2.2.2.2.2.1 0)) (fun x y=>[((false),.ret,Qi6 (false)),(true,.exit 0,Qi7)])
def Qi8:G:=gG 37 [(149,Qsv),(150,Qsx)] (Ls [QG3])
def Qi9 (x0:List Exception)(x3:Int)(x4:ByteArray)(x5 x13:Int)(y7:Dice)(y8:Keep):OX:=Qr (Qv Qi8 Qi5 QsA) (QsB x0 x3 x4 x5 x13 y7 y8)
def Qja (kk:List Exception->Int->ByteArray->Int->Int->Dice->Keep->OX)(x0:List Exception)(x3:Int)(x4:ByteArray)(x5 x13:Int)(y7:Dice)(y8:Keep):OX:=
 let a1:=lgt Jm x0 (Int.toNat x13)
 br (ilt x13 (Qa x0)) (br (cIx x0 x13) (br (QiY a1 y7) (br (QiX a1 y7) (br (cIx x0 x13) (br (Qb4 a1 y8 x3 x4 x5) (some (.ret,Qi6 true)) (kk x0 x3 x4 x5 (Qg .i64 x13 1) y7 y8)) none) (kk x0 x3 x4 x5 (Qg .i64 x13 1) y7 y8)) none) none) (some (.exit 0,Qi7))
def QG4 (x0:List Exception)(x3:Int)(x4:ByteArray)(x5 x13:Int)(y7:Dice)(y8:Keep):OX:=br (false) (some (.ret,Qi6 (false)))<|some (.exit 0,Qi7)
theorem QG5 (x0:List Exception)(x3:Int)(x4:ByteArray)(x5 x13:Int)(y7:Dice)(y8:Keep):Qi9 x0 x3 x4 x5 x13 y7 y8=Qja Qi9 x0 x3 x4 x5 x13 y7 y8:=lnT (x:=Qja (fun x0 x3 x4 x5 x13 y7 y8=>some (.normal,QsB x0 x3 x4 x5 x13 y7 y8)) x0 x3 x4 x5 x13 y7 y8) (by simp only [Qja,nxA];rfl)
def r_f111 (p0:List Exception)(p1:Dice)(p2:Keep)(p3:Int)(p4:ByteArray)(p5:Int):OV:=br (Jj p0&&ieq (0:Int) 0) (br (false) (some (.t .bool (false),[])) (some (.t .bool false,[]))) none
theorem QG6 (x0:List Exception)(x3:Int)(x4:ByteArray)(x5 x13:Int)(y7:Dice)(y8:Keep)(h:(Jj x0&&ieq x13 0)=true):Qi9 x0 x3 x4 x5 x13 y7 y8=QG4 x0 x3 x4 x5 x13 y7 y8:=by
 simp only [Bb] at h
 obtain ⟨h1,h2⟩:=h
 obtain rfl:=XY h1
 have h2:x13=0:=by simpa [ieq] using h2
 subst h2
 rw [QG5]
 try rfl
theorem QG7:LO Qi8 Qi5 QsA 0:=QH (s:=Qb7) fun x y h _ q=>by simp only [QE,QF] at q;exact (QG6 x.1 x.2.1 x.2.2.1 x.2.2.2.1 x.2.2.2.2.2.2.1 y.1 y.2.1 h).trans q
theorem s_f111 (l:List Exception)(o:Dice)(u:Keep)(p:Int)(e:ByteArray)(d:Int)(h:Ie l o u p e d=true):r_f111 l o u p e d=some (.t .bool (QiZ l o u p e d),[]):=by
 obtain rfl:=XY h
 rfl
def QsC:Ent:=Qi (.pr (.sl Jm) (.pr QK (.pr Qd (.pr tI (.pr .str (.pr tI .nil)))))) (fun x=>(Ie x.1 x.2.1 x.2.2.1 x.2.2.2.1 x.2.2.2.2.1 x.2.2.2.2.2.1)) (fun x=>(.t .bool (QiZ x.1 x.2.1 x.2.2.1 x.2.2.2.1 x.2.2.2.2.1 x.2.2.2.2.2.1)))
theorem QG8:EM 111 QsC:=mS (lk:=lkL (lkc QG7 lkn)) Qi8 Qsz [((.t 12),some .bool)] false (gB (gD QG0 (gD QG2 gN))) fun m=>Qm m fun x hok=>kT (s_f111 x.1 x.2.1 x.2.2.1 x.2.2.2.1 x.2.2.2.2.1 x.2.2.2.2.2.1 hok)
abbrev Qb8:Sh:=⟨[(0,.ty (.sl Jm)),(3,.ty tI)],[]⟩
abbrev QsD:Sh:=⟨[(2,.ty tI)],[]⟩
def Qjb:Fg:=Qb8.f
def QsE:TC:=aF Tryz.f110 [(26,pL 0 Qjb),(419,.fg Gb.f),(6733,.fg QsD.f)]
def QsF:TC:=lb 0 QsE
def QsG (x0:List Exception)(x3:Int):VS:=Qb8.st (x0,x3,()) ()
def Qjc (x2:Int):VS:=QsD.st (x2,()) ()
def Qjd  : VS:=Gb.st () ()
def QG9:VS->Option (Bool×List (Bool×Exit×VS)):=mkL Qb8 (fun x y=>(Jj x.1&&ieq x.2.1 0)) (fun x y=>[((false),.ret,Qjc (0)),(true,.exit 0,Qjd)])
def Qje:G:=gG 19 [(148,Qi2)] (Ls [QG9])
def Qjf (x0:List Exception)(x3:Int):OX:=Qr (Qv Qje Qjb QsF) (QsG x0 x3)
def Qjg (kk:List Exception->Int->OX)(x0:List Exception)(x3:Int):OX:=
 let a1:=lgt Jm x0 (Int.toNat x3)
 br (ilt x3 (Qa x0)) (br (cIx x0 x3) (br (Za a1) (br (ine (exZ a1) 0) (some (.ret,Qjc (exZ a1))) (kk x0 (Qg .i64 x3 1))) none) none) (some (.exit 0,Qjd))
def QHa (x0:List Exception)(x3:Int):OX:=br (false) (some (.ret,Qjc (0)))<|some (.exit 0,Qjd)
theorem QHb (x0:List Exception)(x3:Int):Qjf x0 x3=Qjg Qjf x0 x3:=lnT (x:=Qjg (fun x0 x3=>some (.normal,QsG x0 x3)) x0 x3) (by simp only [Qjg,nxA];rfl)
def r_f110 (p0:List Exception):OV:=br (Jj p0&&ieq (0:Int) 0) (br (false) (some (.t tI (0),[])) (some (.t tI 0,[]))) none
theorem QHc (x0:List Exception)(x3:Int)(h:(Jj x0&&ieq x3 0)=true):Qjf x0 x3=QHa x0 x3:=by
 simp only [Bb] at h
 obtain ⟨h1,h2⟩:=h
 obtain rfl:=XY h1
 have h2:x3=0:=by simpa [ieq] using h2
 subst h2
 rw [QHb]
 try rfl
theorem QHd:LO Qje Qjb QsF 0:=QH (s:=Qb8) fun x y h _ q=>by simp only [QE,QF] at q;exact (QHc x.1 x.2.1 h).trans q
theorem s_f110 (l:List Exception)(h:Jj l=true):r_f110 l=some (.t tI (Qb3 l),[]):=by
 obtain rfl:=XY h
 rfl
def QsH:Ent:=Qi (.pr (.sl Jm) .nil) (fun x=>(Jj x.1)) (fun x=>(.t tI (Qb3 x.1)))
theorem QHe:EM 110 QsH:=mS (lk:=lkL (lkc QHd lkn)) Qje QsE [((.t 2),some tI)] false (gB (gD Qsp gN)) fun m=>Qm m fun x hok=>kT (s_f110 x.1 hok)
def tc_f67:TC:=aF Tryz.f67 []
def g_f67:G:=gG 47 [(109,Qsl),(110,QsH),(111,QsC)] (fun _ _=>none)
def r_f67 (p0:Policy)(p1:List Exception)(p2:Dice)(p3:Keep)(p4:Int)(p5:ByteArray)(p6:Int):OV:=
 let a1:=Jt p0 p3 p4 p6
 br (UJ p0 p3 p4 p6) (br (ine ((a1.2).2) 0) (some (.tu [(.t .bool false),(.t tI ((a1.2).2))],[])) (br (Jj p1) (br (ine (Qb3 p1) 0) (some (.tu [(.t .bool false),(.t tI (Qb3 p1))],[])) (br (a1.1) (some (.tu [(.t .bool true),(.t tI 0)],[])) (br (Ie p1 p2 p3 p4 p5 p6) (some (.tu [(.t .bool (QiZ p1 p2 p3 p4 p5 p6)),(.t tI 0)],[])) none))) none)) none
theorem s_f67 (y:Policy)(l:List Exception)(o:Dice)(u:Keep)(p:Int)(e:ByteArray)(d:Int)(h:Gn y l o u p e d=true):r_f67 y l o u p e d=some (.tu [.t .bool (Xh y l o u p e d).1,.t tI (Xh y l o u p e d).2],[]):=by
 obtain ⟨h1,h2⟩:=Bg.1 h
 unfold r_f67 Xh
 refine brY h1 (QX (fun k=>by rw [QyA k]) fun k=> ?_)
 refine brY h2 ?_
 show br false _ _=_
 rw [Qf]
 have hk:=QyB k
 cases hq:(Jt y u p d).1 with
 |true=>
  rw [Qb,hk]
 |false=>
  rw [Qf,hk]
  exact brY h2 rfl
def QsI:Ent:=Qi (.pr Jz (.pr (.sl Jm) (.pr QK (.pr Qd (.pr tI (.pr .str (.pr tI .nil))))))) (fun x=>(Gn x.1 x.2.1 x.2.2.1 x.2.2.2.1 x.2.2.2.2.1 x.2.2.2.2.2.1 x.2.2.2.2.2.2.1)) (fun x=>(.tu [(.t .bool ((Xh x.1 x.2.1 x.2.2.1 x.2.2.2.1 x.2.2.2.2.1 x.2.2.2.2.2.1 x.2.2.2.2.2.2.1).1)),(.t tI ((Xh x.1 x.2.1 x.2.2.1 x.2.2.2.1 x.2.2.2.2.1 x.2.2.2.2.2.1 x.2.2.2.2.2.2.1).2))]))
theorem ms_f67:EM 67 QsI:=mS g_f67 tc_f67 [((.t 14),some .bool),((.t 15),some tI)] false (gB (gD QGL (gD QHe (gD QG8 gN)))) fun m=>Qm m fun x hok=>kT (s_f67 x.1 x.2.1 x.2.2.1 x.2.2.2.1 x.2.2.2.2.1 x.2.2.2.2.2.1 x.2.2.2.2.2.2.1 hok)
abbrev Qb9:Sh:=⟨[(1,.ty (.sl Jm)),(5,.ty tI),(6,.ptr 6 0),(8,.ptr 8 0),(9,.ptr 9 0),(14,.ty (.sl Qd)),(16,.ty .bool),(17,.ty tI)],[(6,.box Jz),(8,.box QK),(9,.box Qo)]⟩
abbrev QsJ:Sh:=⟨[(12,.ty .bool),(13,.ty tI)],[]⟩
abbrev QsK:Sh:=⟨[(16,.ty .bool)],[]⟩
def Qjh:Fg:=Qb9.f
def QsL:TC:=aF Tryz.f36 [(250,pL 0 Qjh),(4003,.fg QsK.f),(8008,pD [(0,[6]),(1,[]),(2,[8]),(3,[]),(4,[]),(5,[]),(6,[]),(7,[9]),(8,[9]),(9,[]),(10,[]),(11,[]),(12,[]),(13,[]),(14,[]),(15,[])] (.of [0,1,2,3,4,5,6,7,8,9,10,11,12,13,14,15])),(128149,.fg QsJ.f)]
def QsM:TC:=lb 0 QsL
def QsN (x1:List Exception)(x5:Int)(x14:List Keep)(x16:Bool)(x17:Int)(y6:Policy)(y8:Dice)(y9:Endpoint):VS:=Qb9.st (x1,x5,(),(),(),x14,x16,x17,()) (y6,y8,y9,())
def Qji (x12:Bool)(x13:Int):VS:=QsJ.st (x12,x13,()) ()
def Qjj (x16:Bool):VS:=QsK.st (x16,()) ()
def QHf:VS->Option (Bool×List (Bool×Exit×VS)):=mkL Qb9 (fun x y=>(decide (0<=x.2.2.2.2.2.2.2.1/\x.2.2.2.2.2.2.2.1<=x.2.2.2.2.2.1.length/\x.2.2.2.2.2.1.length<=4)&&(J4 y.1&&Jj x.1))) (fun x y=>[((ine (Zj y.1 x.2.1 (x.2.2.2.2.2.1.drop x.2.2.2.2.2.2.2.1.toNat) x.2.2.2.2.2.2.1).2 0),.ret,Qji (false) ((Zj y.1 x.2.1 (x.2.2.2.2.2.1.drop x.2.2.2.2.2.2.2.1.toNat) x.2.2.2.2.2.2.1).2)),(true,.exit 0,Qjj ((Zj y.1 x.2.1 (x.2.2.2.2.2.1.drop x.2.2.2.2.2.2.2.1.toNat) x.2.2.2.2.2.2.1).1))])
def Qjk:G:=gG 58 [(66,Qwz),(67,QsI)] (Ls [QHf])
def Qca (x1:List Exception)(x5:Int)(x14:List Keep)(x16:Bool)(x17:Int)(y6:Policy)(y8:Dice)(y9:Endpoint):OX:=Qr (Qv Qjk Qjh QsM) (QsN x1 x5 x14 x16 x17 y6 y8 y9)
def Ot (kk:List Exception->Int->List Keep->Bool->Int->Policy->Dice->Endpoint->OX)(x1:List Exception)(x5:Int)(x14:List Keep)(x16:Bool)(x17:Int)(y6:Policy)(y8:Dice)(y9:Endpoint):OX:=
 let a1:=Xh y6 x1 y8 (lgt Qd x14 (Int.toNat x17)) 1 y9.1 x5
 br (ilt x17 (Qa x14)) (br (cIx x14 x17) (br (Gn y6 x1 y8 (lgt Qd x14 (Int.toNat x17)) 1 y9.1 x5) (br (ine (a1.2) 0) (some (.ret,Qji false (a1.2))) (br (x16) (kk x1 x5 x14 true (Qg .i64 x17 1) y6 y8 y9) (kk x1 x5 x14 (!(a1.1)) (Qg .i64 x17 1) y6 y8 y9))) none) none) (some (.exit 0,Qjj x16))
def Ec (x1:List Exception)(x5:Int)(x14:List Keep)(x16:Bool)(x17:Int)(y6:Policy)(y8:Dice)(y9:Endpoint):OX:=
 let a1:=Zj y6 x5 (x14.drop x17.toNat) x16
 br (ine a1.2 0) (some (.ret,Qji (false) (a1.2)))<|some (.exit 0,Qjj (a1.1))
theorem QsO (x1:List Exception)(x5:Int)(x14:List Keep)(x16:Bool)(x17:Int)(y6:Policy)(y8:Dice)(y9:Endpoint):Qca x1 x5 x14 x16 x17 y6 y8 y9=Ot Qca x1 x5 x14 x16 x17 y6 y8 y9:=lnT (x:=Ot (fun x1 x5 x14 x16 x17 y6 y8 y9=>some (.normal,QsN x1 x5 x14 x16 x17 y6 y8 y9)) x1 x5 x14 x16 x17 y6 y8 y9) (by simp only [Ot,nxA];rfl)
def r_f36 (p0:Policy)(p1:List Exception)(p2:Dice)(p3:Endpoint)(p4:Keep)(p5:Int):OV:=
 let a1:=(Zj p0 p5 (((Q5 p3 p4).1).drop (0:Int).toNat) false)
 br (E0 p3 p4) (br (ine ((Q5 p3 p4).2) 0) (some (.tu [(.t .bool false),(.t tI ((Q5 p3 p4).2))],[])) (br (decide (0<=(0:Int)/\(0:Int)<=((Q5 p3 p4).1).length/\((Q5 p3 p4).1).length<=4)&&(J4 p0&&Jj p1)) (br (ine a1.2 0) (some (.tu [(.t .bool (false)),(.t tI (a1.2))],[])) (some (.tu [(.t .bool (a1.1)),(.t tI 0)],[]))) none)) none
theorem QHg (x1:List Exception)(x5:Int)(x14:List Keep)(x16:Bool)(x17:Int)(y6:Policy)(y8:Dice)(y9:Endpoint)(h:(decide (0<=x17/\x17<=x14.length/\x14.length<=4)&&(J4 y6&&Jj x1))=true):Qca x1 x5 x14 x16 x17 y6 y8 y9=Ec x1 x5 x14 x16 x17 y6 y8 y9:=by
 simp only [Bb,Ba] at h
 obtain ⟨⟨h0,h1,h2⟩,g1,g2⟩:=h
 obtain ⟨k,rfl⟩:=Bo h0
 clear h0
 revert x16
 refine QP x14 (fun k=> ∀ x16:Bool,Qca x1 x5 x14 x16 (k:Int) y6 y8 y9=Ec x1 x5 x14 x16 (k:Int) y6 y8 y9) ?_ ?_ k (by omega)
 ·intro x16
  rw [QsO]
  simp only [Ot,Ec,Qa,Qz,BT,B0,Qf,Bc,BK,Zj]
  rfl
 ·intro k hk ih x16
  rw [QsO]
  have e1: ∀ u p e,Gn y6 x1 y8 u p e x5=true:=fun _ _ _=>Bg.2 ⟨g1,g2⟩
  have hd:Zj y6 x5 (x14.drop k) x16=bif ine (Jt y6 x14[k] 1 x5).2.2 0 then (false,(Jt y6 x14[k] 1 x5).2.2) else Zj y6 x5 (x14.drop (k+1)) (x16||VE y6 x5 x14[k]):=by
   rw [Bi hk]
   rfl
  simp only [Ot,Qa,Qz,QJ,hk,Bt,Qb,Bc,QO (show k<4611686018427387904 by omega),e1,QL (y:=Qd) hk,Xh]
  simp only [Ec,Bc,hd]
  cases hq:ine (Jt y6 x14[k] 1 x5).2.2 0 with
  |true=>simp only [Qb,B2,hq]
  |false=>
   simp only [Qf,BM]
   cases x16 with
   |true=>
    rw [Qb,ih true]
    simp only [Ec,Bc,Bool.true_or]
   |false=>
    rw [Qf,ih]
    simp only [Ec,Bc,Da,VE]
theorem QHh:LO Qjk Qjh QsM 0:=QH (s:=Qb9) fun x y h _ q=>by simp only [QE,QF] at q;exact (QHg x.1 x.2.1 x.2.2.2.2.2.1 x.2.2.2.2.2.2.1 x.2.2.2.2.2.2.2.1 y.1 y.2.1 y.2.2.1 h).trans q
theorem s_f36 (y:Policy)(l:List Exception)(w:Dice)(s:Endpoint)(o:Keep)(d:Int)(h:WV y l w s o d=true):r_f36 y l w s o d=some (.tu [.t .bool (ZO y l w s o d).1,.t tI (ZO y l w s o d).2],[]):=by
 simp only [WV,Bb] at h
 obtain ⟨h1,h2,h3⟩:=h
 unfold r_f36 ZO
 refine brY h3 (QX (fun k=>by rw [k];rfl) fun k=> ?_)
 have hl:=QyD s o
 rw [k,BM]
 refine brY ?_ ?_
 ·rw [h1,h2,Be (show 0<=(0:Int)/\(0:Int)<=((Q5 s o).1.length:Int)/\(Q5 s o).1.length<=4 by omega)]
  rfl
 ·rw [Br,By]
  cases hz:ine (Zj y d (Q5 s o).1 false).2 0 with
  |true=>rw [Qb,QmG hz]
  |false=>rw [Qf,ine_z hz]
def QsP:Ent:=Qi (.pr Jz (.pr (.sl Jm) (.pr QK (.pr Qo (.pr Qd (.pr tI .nil)))))) (fun x=>(WV x.1 x.2.1 x.2.2.1 x.2.2.2.1 x.2.2.2.2.1 x.2.2.2.2.2.1)) (fun x=>(.tu [(.t .bool ((ZO x.1 x.2.1 x.2.2.1 x.2.2.2.1 x.2.2.2.2.1 x.2.2.2.2.2.1).1)),(.t tI ((ZO x.1 x.2.1 x.2.2.1 x.2.2.2.1 x.2.2.2.2.1 x.2.2.2.2.2.1).2))]))
theorem ms_f36:EM 36 QsP:=mS (lk:=lkL (lkc QHh lkn)) Qjk QsL [((.t 12),some .bool),((.t 13),some tI)] false (gB (gD ms_f66 (gD ms_f67 gN))) fun m=>Qm m fun x hok=>kT (s_f36 x.1 x.2.1 x.2.2.1 x.2.2.2.1 x.2.2.2.2.1 x.2.2.2.2.2.1 hok)
def wLt (a b:Way):Bool:=ilt a.1.1 b.1.1||(ieq a.1.1 b.1.1&&ilt a.1.2.1 b.1.2.1)
def JI (l:List Way)(w:Way):Nat:=(l.takeWhile fun x=>wLt x w).length
theorem QsQ (l:List Way)(w:Way):JI l w<=l.length:=List.Sublist.length_le (List.takeWhile_sublist _)
def Y6 (l:List Way)(w:Way):List Way:=
 bif ilt (JI l w:Nat) (Qa l) then (bif (lgt Q6 l (JI l w)).1==w.1 then l else ((([]:List Way)++lsl l 0 (JI l w:Nat))++[w])++lsl l (JI l w:Nat) ((List.length l:Nat):Int))
 else ((([]:List Way)++lsl l 0 (JI l w:Nat))++[w])++lsl l (JI l w:Nat) ((List.length l:Nat):Int)
def Ed (l:List Way)(_:Way):Bool:=decide (l.length<=100000)
abbrev Ou:Sh:=⟨[(0,.ty (.sl Q6)),(3,.ptr 3 0),(5,.ty tI)],[(3,.box Q6)]⟩
def Qjl:Fg:=Ou.f
def QsR:TC:=aF Tryz.f63 [(28,pL 0 Qjl),(224,pD [(0,[]),(1,[]),(2,[]),(3,[]),(4,[]),(5,[]),(6,[]),(7,[]),(8,[]),(9,[]),(10,[]),(11,[3]),(12,[3]),(13,[3]),(14,[]),(15,[]),(16,[]),(17,[]),(18,[]),(19,[]),(20,[]),(21,[]),(22,[3]),(23,[3]),(24,[3]),(25,[]),(26,[]),(27,[]),(28,[]),(29,[]),(30,[]),(31,[]),(32,[]),(33,[3]),(34,[3]),(35,[3]),(36,[]),(37,[]),(38,[]),(39,[])] (.of [0,1,2,3,4,5,6,7,8,9,10,11,12,13,14,15,16,17,18,19,20,21,22,23,24,25,26,27,28,29,30,31,32,33,34,35,36,37,38,39])),(451,.fg Ou.f),(60,pD [(0,[]),(1,[]),(2,[]),(3,[]),(4,[]),(5,[]),(6,[]),(7,[]),(8,[]),(9,[]),(10,[3]),(11,[3]),(12,[]),(13,[])] (.of [0,1,2,3,4,5,6,7,8,9,10,11,12,13])),(62,pD [(0,[63,5063,10063,15063]),(1,[]),(2,[]),(3,[]),(4,[63,67,5067,10067,15067]),(5,[3]),(6,[]),(7,[63,67,70,5070,10070,15070]),(8,[]),(9,[]),(10,[]),(11,[63,67,70,74,5074,10074,15074]),(12,[63,67,70,74])] (.of [1,2,3,5,6,8,9,10,0,4,7,11,12]))]
def QsS:TC:=lb 0 QsR
def GV (x0:List Way)(x5:Int)(y3:Way):VS:=Ou.st (x0,(),x5,()) (y3,())
def QHi:VS->Option (Bool×List (Bool×Exit×VS)):=mkL Ou (fun x y=>(decide (0<=x.2.2.1/\x.2.2.1<=x.1.length/\x.1.length<=100000))) (fun x y=>[(true,.exit 0,GV (x.1) (x.2.2.1+(JI (x.1.drop x.2.2.1.toNat) y.1:Nat)) (y.1))])
def Qjm:G:=⟨TYs,[63],75,EL [],X9,(Ls [QHi]),IL [],RL []⟩
def Qcb (x0:List Way)(x5:Int)(y3:Way):OX:=Qr (Qv Qjm Qjl QsS) (GV x0 x5 y3)
def Ov (kk:List Way->Int->Way->OX)(x0:List Way)(x5:Int)(y3:Way):OX:=
 let a1:=((lgt Q6 x0 (Int.toNat x5)).1)
 br (ilt x5 (Qa x0)) (br (cIx x0 x5) (br (ilt (a1.1) y3.1.1) (kk x0 (Qg .i64 x5 1) y3) (br (cIx x0 x5) (br (ieq (a1.1) y3.1.1) (br (cIx x0 x5) (br (ilt ((a1.2).1) y3.1.2.1) (kk x0 (Qg .i64 x5 1) y3) (some (.exit 0,GV x0 x5 y3))) none) (some (.exit 0,GV x0 x5 y3))) none)) none) (some (.exit 0,GV x0 x5 y3))
def Qcc (x0:List Way)(x5:Int)(y3:Way):OX:=some (.exit 0,GV (x0) (x5+(JI (x0.drop x5.toNat) y3:Nat)) (y3))
theorem QsT (x0:List Way)(x5:Int)(y3:Way):Qcb x0 x5 y3=Ov Qcb x0 x5 y3:=lnT (x:=Ov (fun x0 x5 y3=>some (.normal,GV x0 x5 y3)) x0 x5 y3) (by simp only [Ov,nxA];rfl)
def Qcd (p0:List Way)(p1:Way):OV:=
 let a1:=(JI (p0.drop (0:Int).toNat) p1:Nat)
 let a2:=((((p1).1).1,((((p1).1).2).1,())),(((p1).2).1,((((p1).2).2).1,())))
 let a3:=(List.length (p0):Nat)
 let a4:=(lsl (p0) 0 ((0:Int)+a1))
 let a5:=(lsl (p0) ((0:Int)+a1) (a3:Int))
 br (cSl (p0) 0 ((0:Int)+a1) (a3:Int)) (br (cSl (p0) ((0:Int)+a1) (a3:Int) (a3:Int)) (br (QM ([]:List Way) a4 48) (br (QM (([]:List Way)++a4) ([a2]) 48) (br (QM ((([]:List Way)++a4)++([a2])) a5 48) (some (.t (.sl Q6) (((([]:List Way)++a4)++([a2]))++a5),[])) none) none) none) none) none
def r_f63 (p0:List Way)(p1:Way):OV:=
 let a1:=(JI (p0.drop (0:Int).toNat) p1:Nat)
 let a2:=(lgt Q6 (p0) (Int.toNat ((0:Int)+a1)))
 br (decide (0<=(0:Int)/\(0:Int)<=p0.length/\p0.length<=100000)) (br (ilt ((0:Int)+a1) (Qa (p0))) (br (cIx (p0) ((0:Int)+a1)) (br (and (ieq ((a2.1).1) (((p1).1).1)) (and (ieq (((a2.1).2).1) ((((p1).1).2).1)) true)) (some (.t (.sl Q6) (p0),[])) (Qcd p0 p1)) none) (Qcd p0 p1)) none
theorem QHj (x0:List Way)(x5:Int)(y3:Way)(h:(decide (0<=x5/\x5<=x0.length/\x0.length<=100000))=true):Qcb x0 x5 y3=Qcc x0 x5 y3:=by
 simp only [Ba] at h
 obtain ⟨h0,h1,h2⟩:=h
 obtain ⟨k,rfl⟩:=Bo h0
 refine QP x0 (fun k=>Qcb x0 (k:Int) y3=Qcc x0 (k:Int) y3) ?_ ?_ k (by omega)
 ·rw [QsT]
  simp only [Ov,Qcc,Qa,Qz,BT,B0,Qf,Bc,BK,JI,List.takeWhile_nil,BB,Int.natCast_zero,Int.add_zero]
 ·intro k hk ih
  rw [QsT]
  simp only [Ov,Qa,Qz,QJ,hk,Bt,Qb,Bc,QO (show k<4611686018427387904 by omega),ih,QL (y:=Q6) hk]
  simp only [Qcc,Bc,Bi hk,JI,List.takeWhile_cons,wLt]
  cases ilt x0[k].1.1 y3.1.1 with
  |true=>simp only [Qb,Bool.true_or,if_true,Bv,Int.natCast_add,Int.natCast_one];congr 3;omega
  |false=>
   simp only [Qf,Da]
   cases ieq x0[k].1.1 y3.1.1 with
   |false=>simp only [Qf,DH,BF,Dd,BB,Int.natCast_zero,Int.add_zero]
   |true=>
    simp only [Qb,BA]
    cases ilt x0[k].1.2.1 y3.1.2.1 with
    |true=>simp only [Qb,if_true,Bv,Int.natCast_add,Int.natCast_one];congr 3;omega
    |false=>simp only [Qf,BF,Dd,BB,Int.natCast_zero,Int.add_zero]
theorem QHk:LO Qjm Qjl QsS 0:=QH (s:=Ou) fun x y h _ q=>by simp only [QE,QF] at q;exact (QHj x.1 x.2.2.1 y.1 h).trans q
theorem s_f63 (l:List Way)(w:Way)(h:Ed l w=true):r_f63 l w=some (.t (.sl Q6) (Y6 l w),[]):=by
 have hl:l.length<=100000:=Bx h
 have hle:=QsQ l w
 have e0:(0:Int)+(JI (l.drop (0:Int).toNat) w:Nat)=(JI l w:Nat):=by rw [Br,By,Int.zero_add]
 have e1:=WM (y:=Q6) (l:=l) (a:=(JI l w:Nat)) (by omega) (by omega)
 have e2:=WN (y:=Q6) (l:=l) (a:=(JI l w:Nat)) (by omega) (by omega)
 have q1:Qcd l w=some (.t (.sl Q6) (((([]:List Way)++lsl l 0 (JI l w:Nat))++[w])++lsl l (JI l w:Nat) ((List.length l:Nat):Int)),[]):=by
  unfold Qcd
  simp only [e0]
  refine brY (Be ⟨BV 0,by omega,by omega,BV _⟩) (brY (Be ⟨by omega,by omega,BV _,BV _⟩) (brY ?_ (brY ?_ (brY ?_ rfl))))
  ·exact Jk (by decide) (by simp only [BB];omega)
  ·exact Jk (by decide) (by simp only [BB,Bm,Bq];omega)
  ·exact Jk (by decide) (by simp only [BB,Bm,Bq];omega)
 unfold r_f63
 refine brY (Be ⟨BV 0,by omega,hl⟩) ?_
 rw [e0,q1]
 unfold Y6
 cases hk:ilt (JI l w:Nat) (Qa l) with
 |false=>rfl
 |true=>
  have hk2:=Bx hk
  simp only [Qa] at hk2
  rw [Qb,B2,Bc]
  refine brY (Be ⟨by omega,by omega⟩) ?_
  show br ((lgt Q6 l (JI l w)).1==w.1) _ _=_
  cases (lgt Q6 l (JI l w)).1==w.1<;>rfl
def QsU:Ent:=Qi (.pr (.sl Q6) (.pr Q6 .nil)) (fun x=>(Ed x.1 x.2.1)) (fun x=>(.t (.sl Q6) (Y6 x.1 x.2.1)))
theorem ms_f63:EM 63 QsU:=mS (lk:=lkL (lkc QHk lkn)) Qjm QsR [((.t 4),some (.sl Q6))] false (ZX _ (fun p hp=>by cases hp)) fun m=>Qm m fun x hok=>kT (s_f63 x.1 x.2.1 hok)
theorem QsV {l:List Way}{w x:Way}(h:x∈Y6 l w):x=w∨x∈l:=by
 have key:x∈((([]:List Way)++lsl l 0 (JI l w:Nat))++[w])++lsl l (JI l w:Nat) ((List.length l:Nat):Int)->x=w∨x∈l:=fun h=>by
  rw [BP] at h
  rcases BE.1 h with h|h
  ·rcases BE.1 h with h|h
   ·exact .inr (DU (Du h))
   ·exact .inl (Dm.1 h)
  ·exact .inr (DU (Du h))
 unfold Y6 at h
 cases hk:ilt (JI l w:Nat) (Qa l) with
 |false=>
  rw [hk] at h
  exact key h
 |true=>
  rw [hk] at h
  cases hq:((lgt Q6 l (JI l w)).1==w.1) with
  |true=>
   rw [hq] at h
   exact .inr h
  |false=>
   rw [hq] at h
   exact key h
theorem Qjn (l:List Way)(w:Way):(Y6 l w).length<=l.length+1:=by
 have hle:=QsQ l w
 have e1:=WM (y:=Q6) (l:=l) (a:=(JI l w:Nat)) (by omega) (by omega)
 have e2:=WN (y:=Q6) (l:=l) (a:=(JI l w:Nat)) (by omega) (by omega)
 have key:(((([]:List Way)++lsl l 0 (JI l w:Nat))++[w])++lsl l (JI l w:Nat) ((List.length l:Nat):Int)).length<=l.length+1:=by
  simp only [BP,Bm,Bq]
  omega
 unfold Y6
 cases ilt (JI l w:Nat) (Qa l) with
 |false=>exact key
 |true=>
  cases ((lgt Q6 l (JI l w)).1==w.1) with
  |true=>exact Nat.le_succ _
  |false=>exact key
end
end Go.Proofs.YtmjnnemhoeolgaaGreat.K
noncomputable section
namespace Go.Proofs.YtmjnnemhoeolgaaGreat.K
open Go.RowKit
noncomputable section
def FS (c s:Endpoint)(d v:Int):Way:=((JY c s d v (Qq c)).1,(v,(([]:List Int)++Qq c,())))
def Ub (k:Int):List Int:=[(QB k).1.1]
def Qqg (c s:Endpoint)(d v k:Int):Way:=((JY c s d v (Ub k)).1,(v,(Ub k,())))
def XI (c s:Endpoint)(d:Int):Nat->Int->List Way->List Way
 |0,_,out=>out
 |n+1,v,out=>bif ilt v c.2.2.1&& !c.2.2.2.2.2.2.2.2.1 then out else XI c s d n (v-1) (bif ieq (JY c s d v (Qq c)).2 0 then Y6 out (FS c s d v) else out)
def a1S (c s:Endpoint)(d w v k:Int)(out:List Way):List Way:=bif ige (Yl (QB k).1.2.2.2.2.2.1) w then out else bif ieq (JY c s d v (Ub k)).2 0 then Y6 out (Qqg c s d v k) else out
def a1Z (c s:Endpoint)(d w v:Int):List Int->List Way->List Way
 | [],out=>out
 |k::r,out=>a1Z c s d w v r (a1S c s d w v k out)
def a2Z (c s:Endpoint)(d w:Int):Nat->Int->List Way->List Way
 |0,_,out=>out
 |n+1,v,out=>a2Z c s d w n (v-1) (a1Z c s d w v (Qq c) out)
def XJ (c s:Endpoint):Bool:=QS c&&(QS s&&decide ((Qq c).length<=2000))
def QhL (_d _w:Int)(out:List Way)(v:Int)(c s:Endpoint):Bool:=XJ c s&&decide (1<=c.2.1/\v<=4/\c.2.1-1<=v/\(out.length:Int)<=4-v)
def QhM (_d _w:Int)(out:List Way)(v:Int)(c s:Endpoint):Bool:=XJ c s&&decide (1<=c.2.1/\v<=4/\c.2.1-1<=v/\(out.length:Int)<=4+2000*(4-v))
def Qa9 (_d _w:Int)(out:List Way)(v i:Int)(c s:Endpoint):Bool:=XJ c s&&decide (1<=v/\v<=4/\0<=i/\i<=(Qq c).length/\(out.length:Int)<=4+2000*(4-v)+i)
def Z9 (c s:Endpoint)(d w:Int):List Way×Int:=
 bif !QN c then ([],19) else bif !QN s then ([],19) else bif ilt d 0 then ([],2) else bif igt d 40000 then ([],2) else bif ilt w 0 then ([],2) else bif igt w 512 then ([],2) else
 (a2Z c s d w (c.2.2.1-c.2.1+1).toNat c.2.2.1 (XI c s d (c.2.2.1-c.2.1+1).toNat c.2.2.1 []),0)
def Qqh (c s:Endpoint)(_d _w:Int):Bool:=XJ c s
theorem QEX (c s:Endpoint)(d w v k:Int)(out:List Way):(a1S c s d w v k out).length<=out.length+1:=by
 unfold a1S
 cases ige (Yl (QB k).1.2.2.2.2.2.1) w with
 |true=>exact Nat.le_succ _
 |false=>
  cases ieq (JY c s d v (Ub k)).2 0 with
  |true=>exact Qjn _ _
  |false=>exact Nat.le_succ _
theorem Qqi (c s:Endpoint)(d w v:Int): ∀ (l:List Int) (out:List Way),(a1Z c s d w v l out).length<=out.length+l.length
 | [],_=>BL _
 |k::r,out=>by
  have h1:=Qqi c s d w v r (a1S c s d w v k out)
  have h2:=QEX c s d w v k out
  unfold a1Z
  rw [Bv]
  omega
theorem QhN (c s:Endpoint)(d:Int): ∀ (n:Nat) (v:Int) (out:List Way),(XI c s d n v out).length<=out.length+n
 |0,_,_=>BL _
 |n+1,v,out=>by
  have h2:=Qjn out (FS c s d v)
  unfold XI
  cases (ilt v c.2.2.1&& !c.2.2.2.2.2.2.2.2.1) with
  |true=>exact Nat.le_add_right _ _
  |false=>
   cases ieq (JY c s d v (Qq c)).2 0 with
   |true=>
    have h1:=QhN c s d n (v-1) (Y6 out (FS c s d v))
    simp only [B2,BM]
    omega
   |false=>
    have h1:=QhN c s d n (v-1) out
    simp only [BM]
    omega
abbrev QhO:Sh:=⟨[(2,.ty tI),(3,.ty tI),(4,.ptr 4 0),(5,.ptr 5 0),(10,.ty (.sl Q6)),(11,.ty tI)],[(4,.box Qo),(5,.box Qo)]⟩
abbrev Qqj:Sh:=⟨[(2,.ty tI),(3,.ty tI),(4,.ptr 4 0),(5,.ptr 5 0),(10,.ty (.sl Q6))],[(4,.box Qo),(5,.box Qo)]⟩
abbrev Qba:Sh:=⟨[(2,.ty tI),(3,.ty tI),(4,.ptr 4 0),(5,.ptr 5 0),(10,.ty (.sl Q6)),(14,.ty tI),(15,.ty tI)],[(4,.box Qo),(5,.box Qo)]⟩
abbrev Qbb:Sh:=⟨[(2,.ty tI),(3,.ty tI),(4,.ptr 4 0),(5,.ptr 5 0),(10,.ty (.sl Q6)),(14,.ty tI)],[(4,.box Qo),(5,.box Qo)]⟩
abbrev QEY:Sh:=⟨[(10,.ty (.sl Q6))],[]⟩
def Qqk:Fg:=QhO.f
def Qql:Fg:=Qba.f
def Qqm:Fg:=Qbb.f
def QhP:TC:=aF Tryz.f35 [(250,pL 0 Qqk),(4003,.fg Qqj.f),(32034,.fg Qqj.f),(64078,pD [(0,[]),(1,[12]),(2,[]),(3,[74,5074,10074,15074]),(4,[4]),(5,[4]),(6,[74,77,5077,10077,15077]),(7,[74,77]),(8,[74,77,79,5079,10079,15079]),(9,[])] (.of [0,1,2,4,5,3,6,7,8,9])),(506,pL 2 Qqm),(8099,.fg QEY.f),(32402,pL 1 Qql),(518435,.fg Qbb.f),(8294986,.fg Qba.f)]
def QEZ:TC:=lb 0 QhP
def QE0:TC:=lb 1 QhP
def QE1:TC:=lb 2 QhP
def QE2 (x2 x3:Int)(x10:List Way)(x11:Int)(y4 y5:Endpoint):VS:=QhO.st (x2,x3,(),(),x10,x11,()) (y4,y5,())
def Qbc (x2 x3:Int)(x10:List Way)(y4 y5:Endpoint):VS:=Qqj.st (x2,x3,(),(),x10,()) (y4,y5,())
def QE3 (x2 x3:Int)(x10:List Way)(x14 x15:Int)(y4 y5:Endpoint):VS:=Qba.st (x2,x3,(),(),x10,x14,x15,()) (y4,y5,())
def Qbd (x2 x3:Int)(x10:List Way)(x14:Int)(y4 y5:Endpoint):VS:=Qbb.st (x2,x3,(),(),x10,x14,()) (y4,y5,())
def Qqn (x10:List Way):VS:=QEY.st (x10,()) ()
def QST:VS->Option (Bool×List (Bool×Exit×VS)):=mkL QhO (fun x y=>(QhL x.1 x.2.1 x.2.2.2.2.1 x.2.2.2.2.2.1 y.1 y.2.1)) (fun x y=>[(true,.exit 0,Qbc (x.1) (x.2.1) (XI y.1 y.2.1 x.1 (x.2.2.2.2.2.1-y.1.2.1+1).toNat x.2.2.2.2.2.1 x.2.2.2.2.1) (y.1) (y.2.1))])
def QSU:VS->Option (Bool×List (Bool×Exit×VS)):=mkL Qba (fun x y=>(Qa9 x.1 x.2.1 x.2.2.2.2.1 x.2.2.2.2.2.1 x.2.2.2.2.2.2.1 y.1 y.2.1)) (fun x y=>[(true,.exit 4,Qbd (x.1) (x.2.1) (a1Z y.1 y.2.1 x.1 x.2.1 x.2.2.2.2.2.1 ((Qq y.1).drop x.2.2.2.2.2.2.1.toNat) x.2.2.2.2.1) (x.2.2.2.2.2.1) (y.1) (y.2.1))])
def QSV:VS->Option (Bool×List (Bool×Exit×VS)):=mkL Qbb (fun x y=>(QhM x.1 x.2.1 x.2.2.2.2.1 x.2.2.2.2.2.1 y.1 y.2.1)) (fun x y=>[(true,.exit 2,Qqn (a2Z y.1 y.2.1 x.1 x.2.1 (x.2.2.2.2.2.1-y.1.2.1+1).toNat x.2.2.2.2.2.1 x.2.2.2.2.1))])
def FT:G:=⟨TYs,[74],131,EL [(61,Fm),(62,Qww),(63,QsU),(64,IJ),(65,QpZ)],X9,(Ls [QST,QSU,QSV]),IL [],RL []⟩
def QhQ (x2 x3:Int)(x10:List Way)(x11:Int)(y4 y5:Endpoint):OX:=Qr (Qv FT Qqk QEZ) (QE2 x2 x3 x10 x11 y4 y5)
def I8 (kk:Int->Int->List Way->Int->Endpoint->Endpoint->OX)(x2 x3:Int)(x10:List Way)(x11:Int)(y4 y5:Endpoint):OX:=
 let a1:=((((JY y4 y5 x2 x11 y4.2.2.2.1).1).1,((((JY y4 y5 x2 x11 y4.2.2.2.1).1).2).1,())),(x11,((([]:List Int)++y4.2.2.2.1),())))
 br (Xz y4 y5 x2 x11 y4.2.2.2.1) (br (ieq ((JY y4 y5 x2 x11 y4.2.2.2.1).2) 0) (br (QM ([]:List Int) y4.2.2.2.1 8) (br (Ed x10 a1) (kk x2 x3 (Y6 x10 a1) (QY .i64 x11 1) y4 y5) none) none) (kk x2 x3 x10 (QY .i64 x11 1) y4 y5)) none
def Qbe (kk:Int->Int->List Way->Int->Endpoint->Endpoint->OX)(x2 x3:Int)(x10:List Way)(x11:Int)(y4 y5:Endpoint):OX:=br (ige x11 y4.2.1) (br (ilt x11 y4.2.2.1) (br (!y4.2.2.2.2.2.2.2.2.1) (some (.exit 0,Qbc x2 x3 x10 y4 y5)) (I8 kk x2 x3 x10 x11 y4 y5)) (I8 kk x2 x3 x10 x11 y4 y5)) (some (.exit 0,Qbc x2 x3 x10 y4 y5))
def Qbf (x2 x3:Int)(x10:List Way)(x11:Int)(y4 y5:Endpoint):OX:=some (.exit 0,Qbc (x2) (x3) (XI y4 y5 x2 (x11-y4.2.1+1).toNat x11 x10) (y4) (y5))
theorem QE4 (x2 x3:Int)(x10:List Way)(x11:Int)(y4 y5:Endpoint):QhQ x2 x3 x10 x11 y4 y5=Qbe QhQ x2 x3 x10 x11 y4 y5:=lnT (x:=Qbe (fun x2 x3 x10 x11 y4 y5=>some (.normal,QE2 x2 x3 x10 x11 y4 y5)) x2 x3 x10 x11 y4 y5) (by simp only [Qbe,I8,nxA];rfl)
def QhR (x2 x3:Int)(x10:List Way)(x14 x15:Int)(y4 y5:Endpoint):OX:=Qr (Qv FT Qql QE0) (QE3 x2 x3 x10 x14 x15 y4 y5)
def Qbg (kk:Int->Int->List Way->Int->Int->Endpoint->Endpoint->OX)(x2 x3:Int)(x10:List Way)(x14 x15:Int)(y4 y5:Endpoint):OX:=
 let a1:=((QB (lgt tI y4.2.2.2.1 (Int.toNat x15))).1)
 let a2:=JY y4 y5 x2 x14 ([a1.1])
 let a3:=(((a2.1).1,(((a2.1).2).1,())),(x14,([a1.1],())))
 let a4:=Qg .i64 x15 1
 br (ilt x15 (Qa y4.2.2.2.1)) (br (cIx y4.2.2.2.1 x15) (br (ige (Yl ((((((a1.2).2).2).2).2).1)) x3) (kk x2 x3 x10 x14 a4 y4 y5) (br (Xz y4 y5 x2 x14 ([a1.1])) (br (ieq (a2.2) 0) (br (Ed x10 a3) (kk x2 x3 (Y6 x10 a3) x14 a4 y4 y5) none) (kk x2 x3 x10 x14 a4 y4 y5)) none)) none) (some (.exit 4,Qbd x2 x3 x10 x14 y4 y5))
def FU (x2 x3:Int)(x10:List Way)(x14 x15:Int)(y4 y5:Endpoint):OX:=some (.exit 4,Qbd (x2) (x3) (a1Z y4 y5 x2 x3 x14 ((Qq y4).drop x15.toNat) x10) (x14) (y4) (y5))
theorem QE5 (x2 x3:Int)(x10:List Way)(x14 x15:Int)(y4 y5:Endpoint):QhR x2 x3 x10 x14 x15 y4 y5=Qbg QhR x2 x3 x10 x14 x15 y4 y5:=lnT (x:=Qbg (fun x2 x3 x10 x14 x15 y4 y5=>some (.normal,QE3 x2 x3 x10 x14 x15 y4 y5)) x2 x3 x10 x14 x15 y4 y5) (by simp only [Qbg,nxA];rfl)
def Qqo (x2 x3:Int)(x10:List Way)(x14:Int)(y4 y5:Endpoint):OX:=Qr (Qv FT Qqm QE1) (Qbd x2 x3 x10 x14 y4 y5)
def Qbh (kk:Int->Int->List Way->Int->Endpoint->Endpoint->OX)(x2 x3:Int)(x10:List Way)(x14:Int)(y4 y5:Endpoint):OX:=br (ige x14 y4.2.1) (br (Qa9 x2 x3 x10 x14 (0:Int) y4 y5) (kk (x2) (x3) (a1Z y4 y5 x2 x3 x14 ((Qq y4).drop (0:Int).toNat) x10) (QY .i64 (x14) 1) (y4) (y5)) none) (some (.exit 2,Qqn x10))
def Qqp (x2 x3:Int)(x10:List Way)(x14:Int)(y4 y5:Endpoint):OX:=some (.exit 2,Qqn (a2Z y4 y5 x2 x3 (x14-y4.2.1+1).toNat x14 x10))
theorem QE6 (x2 x3:Int)(x10:List Way)(x14:Int)(y4 y5:Endpoint):Qqo x2 x3 x10 x14 y4 y5=Qbh Qqo x2 x3 x10 x14 y4 y5:=lnT (x:=Qbh (fun x2 x3 x10 x14 y4 y5=>some (.normal,Qbd x2 x3 x10 x14 y4 y5)) x2 x3 x10 x14 y4 y5) (by simp only [Qbh,nxA];rfl)
def r_f35 (p0 p1:Endpoint)(p2 p3:Int):OV:=
 let a1:=(XI p0 p1 p2 (p0.2.2.1-p0.2.1+1).toNat p0.2.2.1 ([]:List Way))
 let a2:=((((p0).2).2).1)
 br (QS p0) (br (ine (JZ p0) 0) (some (.tu [(.t (.sl Q6) ([]:List Way)),(.t tI 19)],[])) (br (QS p1) (br (ine (JZ p1) 0) (some (.tu [(.t (.sl Q6) ([]:List Way)),(.t tI 19)],[])) (br (ilt p2 0) (some (.tu [(.t (.sl Q6) ([]:List Way)),(.t tI 2)],[])) (br (igt p2 40000) (some (.tu [(.t (.sl Q6) ([]:List Way)),(.t tI 2)],[])) (br (ilt p3 0) (some (.tu [(.t (.sl Q6) ([]:List Way)),(.t tI 2)],[])) (br (igt p3 512) (some (.tu [(.t (.sl Q6) ([]:List Way)),(.t tI 2)],[])) (br (QhL p2 p3 ([]:List Way) p0.2.2.1 p0 p1) (br (QhM (p2) (p3) a1 a2 (p0) (p1)) (some (.tu [(.t (.sl Q6) (a2Z (p0) (p1) (p2) (p3) (a2-(p0).2.1+1).toNat a2 a1)),(.t tI 0)],[])) none) none)))))) none)) none
theorem QSW (x2 x3:Int)(x10:List Way)(x11:Int)(y4 y5:Endpoint)(h:(QhL x2 x3 x10 x11 y4 y5)=true):QhQ x2 x3 x10 x11 y4 y5=Qbf x2 x3 x10 x11 y4 y5:=by
 simp only [QhL,Bb,Ba] at h
 obtain ⟨hr,h1,h2,h3,h4⟩:=h
 have hr2:=hr
 simp only [XJ,Bb,Ba] at hr2
 obtain ⟨l1,l2,l3⟩:=hr2
 obtain ⟨m,hm⟩: ∃ m:Nat,(x11-y4.2.1+1).toNat=m:=⟨_,rfl⟩
 induction m generalizing x11 x10 with
 |zero=>
  have:ige x11 y4.2.1=false:=Bl (by omega)
  rw [QE4]
  simp only [Qbe,I8,Qbf,this,Qf,hm,XI]
 |succ m ih=>
  have e0:ige x11 y4.2.1=true:=Be (by omega)
  have e1:QY .i64 x11 1=x11-1:=Yc (by omega)
  have e2:Xz y4 y5 x2 x11 (Qq y4)=true:=Bg.2 ⟨Bg.2 ⟨l1,l2⟩,Be (by omega)⟩
  have e3:QM ([]:List Int) (Qq y4) 8=true:=Jk (by decide) (by simp only [BB];omega)
  have e4: ∀ w,Ed x10 w=true:=fun _=>Be (by omega)
  have e6:(x11-1-y4.2.1+1).toNat=m:=by omega
  have hp:=Qjn x10 (FS y4 y5 x2 x11)
  have i1:=ih (x11:=x11-1) (x10:=x10) (by omega) (by omega) (by omega) e6
  have i2:=ih (x11:=x11-1) (x10:=Y6 x10 (FS y4 y5 x2 x11)) (by omega) (by omega) (by omega) e6
  have q1:I8 QhQ x2 x3 x10 x11 y4 y5=some (.exit 0,Qbc x2 x3 (XI y4 y5 x2 m (x11-1) (bif ieq (JY y4 y5 x2 x11 (Qq y4)).2 0 then Y6 x10 (FS y4 y5 x2 x11) else x10)) y4 y5):=by
   unfold I8
   rw [e1]
   refine brY e2 ?_
   cases hz:ieq (JY y4 y5 x2 x11 (Qq y4)).2 0 with
   |true=>
    rw [Qb]
    refine brY e3 (brY (e4 _) ?_)
    refine i2.trans ?_
    simp only [Qbf,e6,B2]
   |false=>
    rw [Qf]
    refine i1.trans ?_
    simp only [Qbf,e6,BM]
  rw [QE4]
  unfold Qbe
  simp only [Qbf,hm,XI]
  rw [e0,Qb,q1]
  cases ilt x11 y4.2.2.1 with
  |false=>simp only [Qf,DH,BM]
  |true=>
   cases y4.2.2.2.2.2.2.2.2.1 with
   |true=>simp only [Qb,Qf,BC,Bool.and_false,BM]
   |false=>simp only [Qb,Dx,BZ,B2]
theorem QSX (x2 x3:Int)(x10:List Way)(x14 x15:Int)(y4 y5:Endpoint)(h:(Qa9 x2 x3 x10 x14 x15 y4 y5)=true):QhR x2 x3 x10 x14 x15 y4 y5=FU x2 x3 x10 x14 x15 y4 y5:=by
 simp only [Qa9,Bb,Ba] at h
 obtain ⟨hr,h1,h2,h3,h4,h5⟩:=h
 have hr2:=hr
 simp only [XJ,Bb,Ba] at hr2
 obtain ⟨l1,l2,l3⟩:=hr2
 obtain ⟨k,rfl⟩:=Bo h3
 clear h3
 revert x10
 refine QP (Qq y4) (fun k=> ∀ x10:List Way,(x10.length:Int)<=4+2000*(4-x14)+(k:Int)->QhR x2 x3 x10 x14 (k:Int) y4 y5=FU x2 x3 x10 x14 (k:Int) y4 y5) ?_ ?_ k (by omega)
 ·intro x10 _
  rw [QE5]
  unfold Qbg
  rw [show ilt (((Qq y4).length:Nat):Int) (Qa y4.2.2.2.1)=false from Bl (by show ¬ (((Qq y4).length:Nat):Int)<((Qq y4).length:Int);omega),Qf]
  simp only [FU,Bc,BK,a1Z]
 ·intro k hk ih x10 h5
  have e0:ilt (k:Int) (Qa y4.2.2.2.1)=true:=Be (by show (k:Int)<((Qq y4).length:Int);omega)
  have e1:cIx y4.2.2.2.1 (k:Int)=true:=by
   rw [QJ]
   exact Be hk
  have e2:lgt tI y4.2.2.2.1 (Int.toNat (k:Int))=(Qq y4)[k]:=by
   rw [Bc]
   exact QL (y:=tI) hk
  have e3:Qg .i64 (k:Int) 1=((k+1:Nat):Int):=QO (by omega)
  have e4: ∀ w,Ed x10 w=true:=fun _=>Be (by omega)
  have e5:Xz y4 y5 x2 x14 (Ub (Qq y4)[k])=true:=Bg.2 ⟨Bg.2 ⟨l1,l2⟩,Be (show 1<=100000 by decide)⟩
  have hp:=QEX y4 y5 x2 x3 x14 (Qq y4)[k] x10
  have i1:=ih x10 (by omega)
  have i2:=ih (a1S y4 y5 x2 x3 x14 (Qq y4)[k] x10) (by omega)
  rw [QE5]
  unfold Qbg
  rw [e0,e1,e2,e3,Qb,Qb]
  simp only [FU,Bc,Bi hk,a1Z]
  unfold a1S at i2 ⊢
  cases hs:ige (Yl (QB (Qq y4)[k]).1.2.2.2.2.2.1) x3 with
  |true=>
   rw [Qb,i1,B2]
   simp only [FU,Bc]
  |false=>
   rw [hs,BM] at i2
   rw [Qf,BM]
   refine brY e5 ?_
   cases hz:ieq (JY y4 y5 x2 x14 (Ub (Qq y4)[k])).2 0 with
   |true=>
    rw [hz,B2] at i2
    refine brY hz (brY (e4 _) (i2.trans ?_))
    simp only [FU,Bc,B2]
   |false=>
    rw [show ieq (JY y4 y5 x2 x14 [(QB (Qq y4)[k]).1.1]).2 0=false from hz,Qf]
    refine i1.trans ?_
    simp only [FU,Bc,BM]
theorem QSY (x2 x3:Int)(x10:List Way)(x14:Int)(y4 y5:Endpoint)(h:(QhM x2 x3 x10 x14 y4 y5)=true):Qqo x2 x3 x10 x14 y4 y5=Qqp x2 x3 x10 x14 y4 y5:=by
 simp only [QhM,Bb,Ba] at h
 obtain ⟨hr,h1,h2,h3,h4⟩:=h
 have hr2:=hr
 simp only [XJ,Bb,Ba] at hr2
 obtain ⟨l1,l2,l3⟩:=hr2
 obtain ⟨m,hm⟩: ∃ m:Nat,(x14-y4.2.1+1).toNat=m:=⟨_,rfl⟩
 induction m generalizing x14 x10 with
 |zero=>
  have:ige x14 y4.2.1=false:=Bl (by omega)
  rw [QE6]
  simp only [Qbh,Qqp,this,Qf,hm,a2Z]
 |succ m ih=>
  have e0:ige x14 y4.2.1=true:=Be (by omega)
  have e1:QY .i64 x14 1=x14-1:=Yc (by omega)
  have e2:Qa9 x2 x3 x10 x14 0 y4 y5=true:=Bg.2 ⟨hr,Be ⟨by omega,h2,by decide,by omega,by omega⟩⟩
  have hl:=Qqi y4 y5 x2 x3 x14 (Qq y4) x10
  have e6:(x14-1-y4.2.1+1).toNat=m:=by omega
  have i1:=ih (x14:=x14-1) (x10:=a1Z y4 y5 x2 x3 x14 (Qq y4) x10) (by omega) (by omega) (by omega) e6
  rw [QE6]
  unfold Qbh
  rw [e0,e1,Qb]
  refine brY e2 ?_
  rw [Br,By]
  refine i1.trans ?_
  simp only [Qqp,hm,e6,a2Z]
theorem QSZ:LO FT Qqk QEZ 0:=QH (s:=QhO) fun x y h _ q=>by simp only [QE,QF] at q;exact (QSW x.1 x.2.1 x.2.2.2.2.1 x.2.2.2.2.2.1 y.1 y.2.1 h).trans q
theorem QS0:LO FT Qql QE0 1:=QH (s:=Qba) fun x y h _ q=>by simp only [QE,QF] at q;exact (QSX x.1 x.2.1 x.2.2.2.2.1 x.2.2.2.2.2.1 x.2.2.2.2.2.2.1 y.1 y.2.1 h).trans q
theorem QS1:LO FT Qqm QE1 2:=QH (s:=Qbb) fun x y h _ q=>by simp only [QE,QF] at q;exact (QSY x.1 x.2.1 x.2.2.2.2.1 x.2.2.2.2.2.1 y.1 y.2.1 h).trans q
theorem s_f35 (c s:Endpoint)(d w:Int)(h:Qqh c s d w=true):r_f35 c s d w=some (.tu [.t (.sl Q6) (Z9 c s d w).1,.t tI (Z9 c s d w).2],[]):=by
 have hr:XJ c s=true:=h
 have hr2:=hr
 simp only [XJ,Bb,Ba] at hr2
 obtain ⟨l1,l2,l3⟩:=hr2
 unfold r_f35 Z9
 refine brY l1 ?_
 rw [Gm]
 cases v1:QN c with
 |false=>rfl
 |true=>
  rw [BC,Qf]
  refine brY l2 ?_
  rw [Gm]
  cases v2:QN s with
  |false=>rfl
  |true=>
   rw [BC,Qf]
   have hv:=WL v1
   cases ilt d 0 with
   |true=>rfl
   |false=>
    rw [Qf]
    cases igt d 40000 with
    |true=>rfl
    |false=>
     rw [Qf]
     cases ilt w 0 with
     |true=>rfl
     |false=>
      rw [Qf]
      cases igt w 512 with
      |true=>rfl
      |false=>
       rw [Qf]
       have hn:(c.2.2.1-c.2.1+1).toNat<=4:=by omega
       have hl:=QhN c s d (c.2.2.1-c.2.1+1).toNat c.2.2.1 []
       rw [BB] at hl
       refine brY (Bg.2 ⟨hr,Be ⟨hv.1,hv.2.2,by omega,by simp only [BB];omega⟩⟩) (brY (Bg.2 ⟨hr,Be ⟨hv.1,hv.2.2,by omega,by omega⟩⟩) rfl)
def QE7:Ent:=Qi (.pr Qo (.pr Qo (.pr tI (.pr tI .nil)))) (fun x=>(Qqh x.1 x.2.1 x.2.2.1 x.2.2.2.1)) (fun x=>(.tu [(.t (.sl Q6) ((Z9 x.1 x.2.1 x.2.2.1 x.2.2.2.1).1)),(.t tI ((Z9 x.1 x.2.1 x.2.2.1 x.2.2.2.1).2))]))
theorem ms_f35:EM 35 QE7:=mS (lk:=lkL (lkc QSZ (lkc QS1 (lkc QS0 lkn)))) FT QhP [((.t 8),some (.sl Q6)),((.t 9),some tI)] false (ZX _ (gA (gD Ia (gD ms_f62 (gD ms_f63 (gD Qao (gD QEh gN))))))) fun m=>Qm m fun x hok=>kT (s_f35 x.1 x.2.1 x.2.2.1 x.2.2.2.1 hok)
theorem QS2:((List.range' 1 16).all fun k=>ieq (QB (k:Nat)).1.1 (k:Nat))=true:=by kernel_rfl
theorem cod_in {k x:Int}(h:QR (Ub k) x=true)(h1:1<=x):x=k:=by
 have h2:x=(QB k).1.1:=by
  have:=BI.1 h
  exact Dm.1 this
 by_cases hk:k<1∨16<k
 ·have:QB k=(Qgc,8):=by
   unfold QB
   rw [if_pos hk]
  rw [this] at h2
  have h2:x=0:=h2
  omega
 ·have h3:=Bf.1 QS2 k.toNat (by rw [Dw];omega)
  have e:((k.toNat:Nat):Int)=k:=by omega
  rw [e] at h3
  have h3:(QB k).1.1=k:=by simpa [ZV] using h3
  rw [h2,h3]
theorem QE8 {c s:Endpoint}{d v:Int}{o:List Int}(hr:XB c s=true)(hv:v<=c.2.2.1)(ho: ∀ x,QR o x=true->1<=x->QR (Qq c) x=true)(h:ieq (JY c s d v o).2 0=true):(JY c s d v o).1∈Z4 c s:=by
 have h:(JY c s d v o).2=0:=by simpa [ZV] using h
 unfold JY at h ⊢
 rw [hr] at h ⊢
 cases h1:ilt d 0 with
 |true=>rw [h1] at h;exact absurd (show (2:Int)=0 from h) (by decide)
 |false=>
  cases h2:igt d 40000 with
  |true=>rw [h1,h2] at h;exact absurd (show (2:Int)=0 from h) (by decide)
  |false=>
   cases h3:ilt v 1 with
   |true=>rw [h1,h2,h3] at h;exact absurd (show (2:Int)=0 from h) (by decide)
   |false=>
    cases h4:igt v 4 with
    |true=>rw [h1,h2,h3,h4] at h;exact absurd (show (2:Int)=0 from h) (by decide)
    |false=>
     cases h5:ilt (imn v s.2.2.1) c.2.1 with
     |true=>rw [h1,h2,h3,h4,h5] at h;exact absurd (show (27:Int)=0 from h) (by decide)
     |false=>
      cases h6:ilt (imn v s.2.2.1) s.2.1 with
      |true=>rw [h1,h2,h3,h4,h5,h6] at h;exact absurd (show (27:Int)=0 from h) (by decide)
      |false=>
       rw [h1,h2,h3,h4,h5,h6] at h
       simp only [BC,BM] at h ⊢
       unfold XS at h ⊢
       cases hq:Qs (JL s o (imn v s.2.2.1)) (Ff s o) with
       |none=>
        rw [hq] at h
        exact absurd (show (28:Int)=0 from h) (by decide)
       |some k=>
        rw [hq] at h
        obtain ⟨_,hp⟩:=QKK hq
        simp only at h ⊢
        unfold Qlo at h ⊢
        generalize (Ff s o).getD k 0=x at hp h ⊢
        cases h9:ine (QdK c s d x) 0 with
        |true=>
         rw [h9] at h
         exact absurd (show (29:Int)=0 from h) (by decide)
        |false=>
         show (imn v s.2.2.1,(x,()))∈Z4 c s
         have g5:=Dn h5
         have g6:=Dn h6
         refine QFP hr ?_ ?_ ?_
         ·show imx c.2.1 s.2.1<=_
          unfold imx
          split<;>omega
         ·show _<=imn c.2.2.1 s.2.2.1
          unfold imn
          split<;>split<;>omega
         ·unfold JL at hp ⊢
          simp only [Bb] at hp ⊢
          obtain ⟨p1,p2,p3,p4,p5,p6⟩:=hp
          exact ⟨p1,p2,p3,ho x p4 (Qer p1).1,p5,p6⟩
theorem QE9 {c s:Endpoint}{d:Int}{P:Way->Prop}(hP: ∀ v,v<=c.2.2.1->ieq (JY c s d v (Qq c)).2 0=true->P (FS c s d v)): ∀ (n:Nat) (v:Int) (out:List Way),v<=c.2.2.1->(∀ w∈out,P w)→ ∀ w∈XI c s d n v out,P w
 |0,_,_,_,h=>h
 |n+1,v,out,hv,h=>by
  unfold XI
  cases (ilt v c.2.2.1&& !c.2.2.2.2.2.2.2.2.1) with
  |true=>exact h
  |false=>
   refine QE9 hP n (v-1) _ (by omega) (fun w hw=> ?_)
   cases hz:ieq (JY c s d v (Qq c)).2 0 with
   |false=>
    rw [hz] at hw
    exact h w hw
   |true=>
    rw [hz] at hw
    rcases QsV hw with rfl|hw
    ·exact hP v hv hz
    ·exact h w hw
theorem a1_in {c s:Endpoint}{d w v:Int}{P:Way->Prop}: ∀ (l:List Int) (out:List Way),(∀ k∈l,ieq (JY c s d v (Ub k)).2 0=true->P (Qqg c s d v k))->(∀ w∈out,P w)→ ∀ x∈a1Z c s d w v l out,P x
 | [],_,_,h=>h
 |k::r,out,hP,h=>by
  unfold a1Z
  refine a1_in r _ (fun k hk=>hP k (B4 _ hk)) (fun x hx=> ?_)
  unfold a1S at hx
  cases hs:ige (Yl (QB k).1.2.2.2.2.2.1) w with
  |true=>
   rw [hs] at hx
   exact h x hx
  |false=>
   rw [hs] at hx
   cases hz:ieq (JY c s d v (Ub k)).2 0 with
   |false=>
    rw [hz] at hx
    exact h x hx
   |true=>
    rw [hz] at hx
    rcases QsV hx with rfl|hx
    ·exact hP k B8 hz
    ·exact h x hx
theorem a2_in {c s:Endpoint}{d w:Int}{P:Way->Prop}(hP: ∀ v,v<=c.2.2.1→ ∀ k∈Qq c,ieq (JY c s d v (Ub k)).2 0=true->P (Qqg c s d v k)): ∀ (n:Nat) (v:Int) (out:List Way),v<=c.2.2.1->(∀ w∈out,P w)→ ∀ x∈a2Z c s d w n v out,P x
 |0,_,_,_,h=>h
 |n+1,v,out,hv,h=>by
  unfold a2Z
  exact a2_in hP n (v-1) _ (by omega) (a1_in (Qq c) out (hP v hv) h)
theorem QFa {c s:Endpoint}{d w:Int}: ∀ x∈(Z9 c s d w).1,x.1∈Z4 c s:=by
 unfold Z9
 cases v1:QN c with
 |false=>exact fun x hx=>(nomatch hx)
 |true=>
  cases v2:QN s with
  |false=>exact fun x hx=>(nomatch hx)
  |true=>
   have hr:XB c s=true:=Bg.2 ⟨v1,v2⟩
   cases ilt d 0 with
   |true=>exact fun x hx=>(nomatch hx)
   |false=>
    cases igt d 40000 with
    |true=>exact fun x hx=>(nomatch hx)
    |false=>
     cases ilt w 0 with
     |true=>exact fun x hx=>(nomatch hx)
     |false=>
      cases igt w 512 with
      |true=>exact fun x hx=>(nomatch hx)
      |false=>
       refine a2_in (P:=fun x=>x.1∈Z4 c s) (fun v hv k hk hz=> ?_) _ _ _ (BV _) (QE9 (P:=fun x=>x.1∈Z4 c s) (fun v hv hz=> ?_) _ _ _ (BV _) (fun x hx=>(nomatch hx)))
       ·exact QE8 hr hv (fun x hx h1=>by rw [cod_in hx h1];exact BI.2 hk) hz
       ·exact QE8 hr hv (fun x hx _=>hx) hz
def U1 (y:Policy)(l:List Exception)(o:Dice)(s:Endpoint)(d:Int)(w:Way):Bool:=(ZO y l o s w.1 d).1
def QhS (y:Policy)(l:List Exception)(o:Dice)(s:Endpoint)(d:Int)(w:Way):Bool:=ieq (ZO y l o s w.1 d).2 0
def Qbi (l:List Exception)(d:Int)(ws:List Way)(i:Int)(s:Endpoint)(y:Policy)(o:Dice)(out:List Way):Bool:=
 ws.all (QhS y l o s d)&&((J4 y&&(Jj l&&QS s))&&decide (0<=i/\i<=ws.length/\ws.length<=50000/\(out.length:Int)<=i))
def GK (c s:Endpoint)(y:Policy)(l:List Exception)(o:Dice)(d w:Int):List Way×Int:=
 bif ine (Z9 c s d w).2 0 then ([],(Z9 c s d w).2) else ((Z9 c s d w).1.filter (U1 y l o s d),0)
def I9 (c s:Endpoint)(y:Policy)(l:List Exception)(o:Dice)(d w:Int):Bool:=XJ c s&&((J4 y&&Jj l)&&(Z9 c s d w).1.all (QhS y l o s d))
theorem QS3 (c s:Endpoint)(d w:Int)(h:(Qq c).length<=2000):(Z9 c s d w).1.length<=50000:=by
 unfold Z9
 cases v1:QN c with
 |false=>exact BX _
 |true=>
  cases QN s with
  |false=>exact BX _
  |true=>
   have hv:=WL v1
   cases ilt d 0 with
   |true=>exact BX _
   |false=>
    cases igt d 40000 with
    |true=>exact BX _
    |false=>
     cases ilt w 0 with
     |true=>exact BX _
     |false=>
      cases igt w 512 with
      |true=>exact BX _
      |false=>
       have hz: ∀ (n:Nat) (v:Int) (out:List Way),(a2Z c s d w n v out).length<=out.length+n*2000:=by
        intro n
        induction n with
        |zero=>exact fun _ _=>Nat.le_add_right _ _
        |succ n ih=>
         intro v out
         have h1:=ih (v-1) (a1Z c s d w v (Qq c) out)
         have h2:=Qqi c s d w v (Qq c) out
         unfold a2Z
         omega
       have h1:=hz (c.2.2.1-c.2.1+1).toNat c.2.2.1 (XI c s d (c.2.2.1-c.2.1+1).toNat c.2.2.1 [])
       have h2:=QhN c s d (c.2.2.1-c.2.1+1).toNat c.2.2.1 []
       rw [BB] at h2
       show (a2Z c s d w _ _ _).length<=50000
       omega
abbrev QhT:Sh:=⟨[(3,.ty (.sl Jm)),(5,.ty tI),(8,.ptr 8 0),(9,.ptr 9 0),(11,.ptr 11 0),(16,.ty (.sl Q6)),(18,.ms 18),(19,.ty tI)],[(8,.box Qo),(9,.box Jz),(11,.box QK),(18,.arr 98 Q6),(63,.no)]⟩
abbrev QFb:Sh:=⟨[(14,.nl),(15,.ty tI)],[(18,.arr 98 Q6),(63,.no)]⟩
abbrev QFc:Sh:=⟨[(18,.ms 18)],[(18,.arr 98 Q6),(63,.no)]⟩
def Qqq:Fg:=QhT.f
def QFd:TC:=aF Tryz.f19 [(250,.nw 18 98),(250,pL 0 Qqq),(4003,.fg QFc.f),(8008,pD [(0,[9]),(1,[]),(2,[11]),(3,[8]),(4,[]),(5,[]),(6,[]),(7,[]),(8,[]),(9,[]),(10,[]),(11,[]),(12,[]),(13,[]),(14,[]),(15,[])] (.of [0,1,2,3,4,5,6,7,8,9,10,11,12,13,14,15])),(128149,.fg QFb.f)]
def QFe:TC:=lb 0 QFd
def QFf (x3:List Exception)(x5:Int)(x16:List Way)(x19:Int)(y8:Endpoint)(y9:Policy)(y11:Dice)(y18:List Way):VS:=QhT.st (x3,x5,(),(),(),x16,(),x19,()) (y8,y9,y11,y18,(),())
def Qqr (x15:Int)(y18:List Way):VS:=QFb.st ((),x15,()) (y18,(),())
def Qqs (y18:List Way):VS:=QFc.st ((),()) (y18,(),())
def QS4:VS->Option (Bool×List (Bool×Exit×VS)):=mkL QhT (fun x y=>(Qbi x.1 x.2.1 x.2.2.2.2.2.1 x.2.2.2.2.2.2.2.1 y.1 y.2.1 y.2.2.1 y.2.2.2.1)) (fun x y=>[((false),.ret,Qqr (0) (y.2.2.2.1)),(true,.exit 0,Qqs (y.2.2.2.1++(x.2.2.2.2.2.1.drop x.2.2.2.2.2.2.2.1.toNat).filter (U1 y.2.1 x.1 y.2.2.1 y.1 x.2.1)))])
def Qqt:G:=gG 65 [(35,QE7),(36,QsP)] (Ls [QS4])
def QhU (x3:List Exception)(x5:Int)(x16:List Way)(x19:Int)(y8:Endpoint)(y9:Policy)(y11:Dice)(y18:List Way):OX:=Qr (Qv Qqt Qqq QFe) (QFf x3 x5 x16 x19 y8 y9 y11 y18)
def Qbj (kk:List Exception->Int->List Way->Int->Endpoint->Policy->Dice->List Way->OX)(x3:List Exception)(x5:Int)(x16:List Way)(x19:Int)(y8:Endpoint)(y9:Policy)(y11:Dice)(y18:List Way):OX:=
 let a1:=lgt Q6 x16 (Int.toNat x19)
 let a2:=(((a1.1).1,(((a1.1).2).1,())),((a1.2).1,(((a1.2).2).1,())))
 let a3:=ZO y9 x3 y11 y8 (a1.1) x5
 br (ilt x19 (Qa x16)) (br (cIx x16 x19) (br (WV y9 x3 y11 y8 (a1.1) x5) (br (ine (a3.2) 0) (some (.ret,Qqr (a3.2) y18)) (br (a3.1) (br (cIx x16 x19) (br (QM y18 ([a2]) 48) (kk x3 x5 x16 (Qg .i64 x19 1) y8 y9 y11 (y18++([a2]))) none) none) (kk x3 x5 x16 (Qg .i64 x19 1) y8 y9 y11 y18))) none) none) (some (.exit 0,Qqs y18))
def QhV (x3:List Exception)(x5:Int)(x16:List Way)(x19:Int)(y8:Endpoint)(y9:Policy)(y11:Dice)(y18:List Way):OX:=br (false) (some (.ret,Qqr (0) (y18)))<|some (.exit 0,Qqs (y18++(x16.drop x19.toNat).filter (U1 y9 x3 y11 y8 x5)))
theorem QFg (x3:List Exception)(x5:Int)(x16:List Way)(x19:Int)(y8:Endpoint)(y9:Policy)(y11:Dice)(y18:List Way):QhU x3 x5 x16 x19 y8 y9 y11 y18=Qbj QhU x3 x5 x16 x19 y8 y9 y11 y18:=lnT (x:=Qbj (fun x3 x5 x16 x19 y8 y9 y11 y18=>some (.normal,QFf x3 x5 x16 x19 y8 y9 y11 y18)) x3 x5 x16 x19 y8 y9 y11 y18) (by simp only [Qbj,nxA];rfl)
def r_f19 (p0 p1:Endpoint)(p2:Policy)(p3:List Exception)(p4:Dice)(p5 p6:Int):OV:=
 let a1:=Z9 p0 p1 p5 p6
 br (Qqh p0 p1 p5 p6) (br (ine (a1.2) 0) (some (.tu [(.t (.sl Q6) ([]:List Way)),(.t tI (a1.2))],[])) (br (Qbi p3 p5 (a1.1) (0:Int) p1 p2 p4 ([]:List Way)) (br (false) (some (.tu [(.t (.sl Q6) ([]:List Way)),(.t tI (0))],[])) (some (.tu [(.t (.sl Q6) (([]:List Way)++((a1.1).drop (0:Int).toNat).filter (U1 p2 p3 p4 p1 p5))),(.t tI 0)],[]))) none)) none
theorem QS5 (x3:List Exception)(x5:Int)(x16:List Way)(x19:Int)(y8:Endpoint)(y9:Policy)(y11:Dice)(y18:List Way)(h:(Qbi x3 x5 x16 x19 y8 y9 y11 y18)=true):QhU x3 x5 x16 x19 y8 y9 y11 y18=QhV x3 x5 x16 x19 y8 y9 y11 y18:=by
 simp only [Qbi,Bb,Ba] at h
 obtain ⟨hf,⟨g1,g2,g3⟩,h0,h1,h2,h3⟩:=h
 obtain ⟨k,rfl⟩:=Bo h0
 clear h0
 revert y18
 refine QP x16 (fun k=> ∀ y18:List Way,(y18.length:Int)<=(k:Int)->QhU x3 x5 x16 (k:Int) y8 y9 y11 y18=QhV x3 x5 x16 (k:Int) y8 y9 y11 y18) ?_ ?_ k (by omega)
 ·intro y18 _
  rw [QFg]
  simp only [Qbj,QhV,Qa,Qz,BT,B0,Qf,Bc,BK,List.filter_nil,BQ]
 ·intro k hk ih y18 h3
  rw [QFg]
  have e1: ∀ o,WV y9 x3 y11 y8 o x5=true:=fun _=>Bg.2 ⟨g1,Bg.2 ⟨g2,g3⟩⟩
  have hx:((((x16[k].1.1,(x16[k].1.2.1,())):Keep),(x16[k].2.1,(x16[k].2.2.1,()))):Way)=x16[k]:=rfl
  have e2:QM y18 [x16[k]] 48=true:=Jk (by omega) (by simp only [Bq];omega)
  have e3:ine (ZO y9 x3 y11 y8 x16[k].1 x5).2 0=false:=by
   have:=Bf.1 hf _ (Bw hk)
   unfold QhS at this
   rw [Ig,this]
   rfl
  simp only [Qbj,Qa,Qz,QJ,hk,Bt,Qb,Bc,QO (show k<4611686018427387904 by omega),e1,QL (y:=Q6) hk,hx,e2,e3,Qf]
  rw [ih (y18++[x16[k]]) (by simp only [Bm,Bq];omega),ih y18 (by omega)]
  simp only [QhV,Bc,Bi hk,List.filter_cons]
  show br (U1 y9 x3 y11 y8 x5 x16[k]) _ _=_
  cases U1 y9 x3 y11 y8 x5 x16[k] with
  |true=>simp only [Qb,Qf,if_true,BU,BN]
  |false=>simp only [Qf,BF,Dd]
theorem QS6:LO Qqt Qqq QFe 0:=QH (s:=QhT) fun x y h _ q=>by simp only [QE,QF] at q;exact (QS5 x.1 x.2.1 x.2.2.2.2.2.1 x.2.2.2.2.2.2.2.1 y.1 y.2.1 y.2.2.1 y.2.2.2.1 h).trans q
theorem s_f19 (c s:Endpoint)(y:Policy)(l:List Exception)(o:Dice)(d w:Int)(h:I9 c s y l o d w=true):r_f19 c s y l o d w=some (.tu [.t (.sl Q6) (GK c s y l o d w).1,.t tI (GK c s y l o d w).2],[]):=by
 simp only [I9,Bb] at h
 obtain ⟨hr,⟨g1,g2⟩,hf⟩:=h
 have hr2:=hr
 simp only [XJ,Bb,Ba] at hr2
 obtain ⟨l1,l2,l3⟩:=hr2
 have hl:=QS3 c s d w l3
 unfold r_f19 GK
 refine brY hr ?_
 cases ine (Z9 c s d w).2 0 with
 |true=>rfl
 |false=>
  rw [Qf,BM]
  refine brY ?_ ?_
  ·unfold Qbi
   rw [hf,g1,g2,l2]
   exact Be ⟨BV 0,by omega,hl,by simp⟩
  ·rw [Qf,Br,By,BP]
def QFh:Ent:=Qi (.pr Qo (.pr Qo (.pr Jz (.pr (.sl Jm) (.pr QK (.pr tI (.pr tI .nil))))))) (fun x=>(I9 x.1 x.2.1 x.2.2.1 x.2.2.2.1 x.2.2.2.2.1 x.2.2.2.2.2.1 x.2.2.2.2.2.2.1)) (fun x=>(.tu [(.t (.sl Q6) ((GK x.1 x.2.1 x.2.2.1 x.2.2.2.1 x.2.2.2.2.1 x.2.2.2.2.2.1 x.2.2.2.2.2.2.1).1)),(.t tI ((GK x.1 x.2.1 x.2.2.1 x.2.2.2.1 x.2.2.2.2.1 x.2.2.2.2.2.1 x.2.2.2.2.2.2.1).2))]))
theorem ms_f19:EM 19 QFh:=mS (lk:=lkL (lkc QS6 lkn)) Qqt QFd [((.t 14),some (.sl Q6)),((.t 15),some tI)] false (gB (gD ms_f35 (gD ms_f36 gN))) fun m=>Qm m fun x hok=>kT (s_f19 x.1 x.2.1 x.2.2.1 x.2.2.2.1 x.2.2.2.2.1 x.2.2.2.2.2.1 x.2.2.2.2.2.2.1 hok)
end
end Go.Proofs.YtmjnnemhoeolgaaGreat.K
