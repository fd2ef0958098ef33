import Derived.Test.YtkmobehaikjdjaaGreatQ10
import Derived.Test.YtkmobehaikjdjaaGreatQ8
set_option linter.unusedSimpArgs false
set_option linter.unusedVariables false
noncomputable section
namespace Go.Proofs.YtkmobehaikjdjaaGreat
namespace K
open Go.RowKit
def Vm (l:List Aa)(_:Aa):Bool:=decide (l.length<=100000)
def QcO (l:List Aa)(v:Aa):Int:=match QG (fun c=>v==c) l with|some k=>(k:Int)|none=> -1
abbrev Qjy:Sh:=⟨[(0,.ty (.sl Qe)),(3,.ptr 3 0),(7,.ty tI),(8,.ty tI)],[(3,.box Qe)]⟩
abbrev QIf:Sh:=⟨[(4,.ty tI)],[]⟩
abbrev QIg:Sh:=⟨[],[]⟩
def QsI:Fg:=Qjy.f
def QIh:TC:=aF Tryz.f81 [(26,pL 0 QsI),(421,.fg QIg.f),(3378,pE [[3],[],[],[],[],[]] (oN 6)),(13517,.fg QIf.f)]
def QIi:TC:=lb 0 QIh
def QIj (x0:List Aa)(x7 x8:Int)(y3:Aa):VS:=Qjy.st (x0,(),x7,x8,()) (y3,())
def QsJ (x4:Int):VS:=QIf.st (x4,()) ()
def QsK  : VS:=QIg.st () ()
def QYk:VS->Option (Bool×List (Bool×Exit×VS)):=mkL Qjy (fun x y=>(Qw x.1 x.2.2.1 x.2.2.2.1)) (fun x y=>[(((QG (fun c=>y.1==c) (x.1.drop x.2.2.2.1.toNat)).isSome),.ret,QsJ (x.2.2.2.1+((QG (fun c=>y.1==c) (x.1.drop x.2.2.2.1.toNat)).getD 0:Nat))),(true,.exit 0,QsK)])
def QsL:G:=gG 19 [] (Ls [QYk])
def Qjz (x0:List Aa)(x7 x8:Int)(y3:Aa):OX:=Qu (Qx QsL QsI QIi) (QIj x0 x7 x8 y3)
def QcP (kk:List Aa->Int->Int->Aa->OX)(x0:List Aa)(x7 x8:Int)(y3:Aa):OX:=
 let a1:=lgt Qe x0 (Int.toNat x8)
 br (ilt x8 x7) (br (cIx x0 x8) (br (and (ieq y3.1 (a1.1)) (and (ieq y3.2.1 ((a1.2).1)) true)) (some (.ret,QsJ x8)) (kk x0 x7 (Qi .i64 x8 1) y3)) none) (some (.exit 0,QsK))
def QjA (x0:List Aa)(x7 x8:Int)(y3:Aa):OX:=br ((QG (fun c=>y3==c) (x0.drop x8.toNat)).isSome) (some (.ret,QsJ (x8+((QG (fun c=>y3==c) (x0.drop x8.toNat)).getD 0:Nat))))<|some (.exit 0,QsK)
theorem QIk (x0 x7 x8 y3):Qjz x0 x7 x8 y3=QcP Qjz x0 x7 x8 y3:=lnT (x:=QcP (fun x0 x7 x8 y3=>some (.normal,QIj x0 x7 x8 y3)) x0 x7 x8 y3) (by simp only [QcP,nxA];rfl)
def r_f81 (p0:List Aa)(p1:Aa):OV:=
 let a1:=(p0.drop (0:Int).toNat)
 br (Qw p0 (Qb p0) (0:Int)) (br ((QG (fun c=>p1==c) a1).isSome) (some (.t tI ((0:Int)+((QG (fun c=>p1==c) a1).getD 0:Nat)),[])) (some (.t tI (-1),[]))) none
theorem QYl (x0:List Aa)(x7 x8:Int)(y3:Aa)(h:(Qw x0 x7 x8)=true):Qjz x0 x7 x8 y3=QjA x0 x7 x8 y3:=by
 obtain ⟨rfl,h3,k,rfl,hk⟩:=Jv h
 clear h
 refine QP x0 (fun k=>Qjz x0 (x0.length:Int) (k:Int) y3=QjA x0 (x0.length:Int) (k:Int) y3) ?_ ?_ k hk
 ·rw [QIk]
  simp [QcP,QjA,Qv,Qh,QG]
 ·intro k hk ih
  rw [QIk]
  have hq:(and (ieq y3.1 x0[k].1) (and (ieq y3.2.1 x0[k].2.1) true))=(y3==x0[k]):=rfl
  simp only [QcP,Qv,QM,hk,Bu,Qd,Bb,QO (k:=k),ih,QN (y:=Qe) hk]
  rw [hq]
  simp only [QjA,Bb,Bg hk,QG]
  cases h:(y3==x0[k]) with
  |true=>simp [Qd]
  |false=>
   simp only [Qh,BE,Dc]
   cases hq:QG (fun c=>y3==c) (x0.drop (k+1)) with
   |none=>rfl
   |some j=>
    simp only [B4,Da,BU,Qd]
    congr 3
    omega
theorem QYm:LO QsL QsI QIi 0:=QC (s:=Qjy) fun x y h _ q=>by simp only [QA,QB] at q;exact (QYl x.1 x.2.2.1 x.2.2.2.1 y.1 h).trans q
theorem s_f81 (l v)(h:Vm l v=true):r_f81 l v=some (.t tI (QcO l v),[]):=by
 have hl:l.length<=100000:=Bw h
 simp only [r_f81,Jw hl,Qd,Bt,Bx,QcO]
 cases QG (fun c=>v==c) l<;>simp [Qd,Qh]
def QIl:Ent:=Qm (.pr (.sl Qe) (.pr Qe .nil)) (fun x=>(Vm x.1 x.2.1)) (fun x=>(.t tI (QcO x.1 x.2.1)))
theorem ms_f81:EM 81 QIl:=mS (lk:=lkL (lkc QYm lkn)) QsL QIh [((.t 4),some tI)] false (gB gN) fun m=>Qq m fun x hok=>kT (s_f81 x.1 x.2.1 hok)
def E7 (l:List Aa)(v:Aa):Bool:=l.any fun c=>v==c
def tc_f49:TC:=aF Tryz.f49 []
def g_f49:G:=gG 9 [(81,QIl)] (fun _ _=>none)
def r_f49 (p0:List Aa)(p1:Aa):OV:=br (Vm p0 p1) (some (.t .bool (ige (QcO p0 p1) 0),[])) none
theorem QIm (p:Aa->Bool)(l:List Aa):ige (match QG p l with|some k=>(k:Int)|none=> -1) 0=l.any p:=by
 rw [<-QbJ]
 cases QG p l with
 |none=>rfl
 |some k=>
  simp only [ige,Da,Ba]
  omega
theorem s_f49 (l v)(h:Vm l v=true):r_f49 l v=some (.t .bool (E7 l v),[]):=by
 unfold r_f49
 refine brY h ?_
 rw [show ige (QcO l v) 0=E7 l v from QIm _ l]
def QIn:Ent:=Qm (.pr (.sl Qe) (.pr Qe .nil)) (fun x=>(Vm x.1 x.2.1)) (fun x=>(.t .bool (E7 x.1 x.2.1)))
theorem ms_f49:EM 49 QIn:=mS g_f49 tc_f49 [((.t 4),some .bool)] false (gB (gD ms_f81 gN)) fun m=>Qq m fun x hok=>kT (s_f49 x.1 x.2.1 hok)
def inO (o:Aa)(d:List Aa):Bool:=E7 d o
def QjB (_:Aa)(d:List Aa):Bool:=decide (d.length<=100000)
def tc_f48:TC:=aF Tryz.f48 []
def g_f48:G:=gG 7 [(49,QIn)] (fun _ _=>none)
def r_f48 (p0:Aa)(d0:List Aa):OV:=br (Vm d0 p0) (some (.t .bool (E7 d0 p0),[.box (.t (.sl Qe) d0)])) none
theorem s_f48 (o d)(h:QjB o d=true):r_f48 o d=some (.t .bool (inO o d),[.box (.t (.sl Qe) d)]):=brY h rfl
def QIo:Ent:=Vl [.ty Qe,.ptr 50000 0] [(.sl Qe)] (fun x d=>(QjB x.1 d.1)) (fun x d=>(.t .bool (inO x.1 d.1)))
theorem ms_f48:EM 48 QIo:=mS g_f48 tc_f48 [((.t 3),some .bool)] false (gB (gD ms_f49 gN)) fun m=>QcN (Yn m fun x d hok=>kT (s_f48 x.1 d.1 hok))
def okS (l d:List Aa):Bool:=decide (l.length<=100000/\d.length<=100000)
def ixS (l d:List Aa):Int:=match QG (fun c=>inO c d) l with|some k=>(k:Int)|none=> -1
abbrev QjC:Sh:=⟨[(0,.ty (.sl Qe)),(1,.fn 48 [(50000,0)]),(7,.ty tI),(8,.ty tI)],[(50000,.box (.sl Qe))]⟩
abbrev QIp:Sh:=⟨[(4,.ty tI)],[(50000,.box (.sl Qe))]⟩
abbrev QIq:Sh:=⟨[],[(50000,.box (.sl Qe))]⟩
def QsM:Fg:=QjC.f
def QIr:TC:=aF Tryz.f80 [(26,pL 0 QsM),(421,.fg QIq.f),(13517,.fg QIp.f)]
def QIs:TC:=lb 0 QIr
def QIt (x0:List Aa)(x7 x8:Int)(Qa:List Aa):VS:=QjC.st (x0,(),x7,x8,()) (Qa,())
def QsN (x4:Int)(Qa:List Aa):VS:=QIp.st (x4,()) (Qa,())
def QsO (Qa:List Aa):VS:=QIq.st () (Qa,())
def QYn:VS->Option (Bool×List (Bool×Exit×VS)):=mkL QjC (fun x y=>(Qw x.1 x.2.2.1 x.2.2.2.1&&okS x.1 y.1)) (fun x y=>[(((QG (fun c=>inO c y.1) (x.1.drop x.2.2.2.1.toNat)).isSome),.ret,QsN (x.2.2.2.1+((QG (fun c=>inO c y.1) (x.1.drop x.2.2.2.1.toNat)).getD 0:Nat)) (y.1)),(true,.exit 0,QsO (y.1))])
def QsP:G:=gG 19 [(48,QIo)] (Ls [QYn])
def QjD (x0:List Aa)(x7 x8:Int)(Qa:List Aa):OX:=Qu (Qx QsP QsM QIs) (QIt x0 x7 x8 Qa)
def QcQ (kk:List Aa->Int->Int->List Aa->OX)(x0:List Aa)(x7 x8:Int)(Qa:List Aa):OX:=
 let a1:=lgt Qe x0 (Int.toNat x8)
 br (ilt x8 x7) (br (cIx x0 x8) (br (QjB a1 Qa) (br (inO a1 Qa) (some (.ret,QsN x8 Qa)) (kk x0 x7 (Qi .i64 x8 1) Qa)) none) none) (some (.exit 0,QsO Qa))
def QjE (x0:List Aa)(x7 x8:Int)(Qa:List Aa):OX:=br ((QG (fun c=>inO c Qa) (x0.drop x8.toNat)).isSome) (some (.ret,QsN (x8+((QG (fun c=>inO c Qa) (x0.drop x8.toNat)).getD 0:Nat)) (Qa)))<|some (.exit 0,QsO (Qa))
theorem QIu (x0 x7 x8 Qa):QjD x0 x7 x8 Qa=QcQ QjD x0 x7 x8 Qa:=lnT (x:=QcQ (fun x0 x7 x8 Qa=>some (.normal,QIt x0 x7 x8 Qa)) x0 x7 x8 Qa) (by simp only [QcQ,nxA];rfl)
def QIv (p0 d0:List Aa):OV:=
 let a1:=(p0.drop (0:Int).toNat)
 br (Qw p0 (Qb p0) (0:Int)&&okS p0 d0) (br ((QG (fun c=>inO c d0) a1).isSome) (some (.t tI ((0:Int)+((QG (fun c=>inO c d0) a1).getD 0:Nat)),[.box (.t (.sl Qe) (d0))])) (some (.t tI (-1),[.box (.t (.sl Qe) (d0))]))) none
theorem QYo (x0:List Aa)(x7 x8:Int)(Qa:List Aa)(h:(Qw x0 x7 x8&&okS x0 Qa)=true):QjD x0 x7 x8 Qa=QjE x0 x7 x8 Qa:=by
 simp only [Bd] at h
 obtain ⟨h0,hc⟩:=h
 have hd:Qa.length<=100000:=(Bw hc).2
 obtain ⟨rfl,h3,k,rfl,hk⟩:=Jv h0
 clear h0
 refine QP x0 (fun k=>QjD x0 (x0.length:Int) (k:Int) Qa=QjE x0 (x0.length:Int) (k:Int) Qa) ?_ ?_ k hk
 ·rw [QIu]
  simp [QcQ,QjE,Qv,Qh,QG]
 ·intro k hk ih
  rw [QIu]
  have e1: ∀ o,QjB o Qa=true:=fun _=>Bc hd
  simp only [QcQ,Qv,QM,hk,Bu,Qd,Bb,QO (k:=k),ih,QN (y:=Qe) hk,e1]
  simp only [QjE,Bb,Bg hk,QG]
  cases h:(inO x0[k] Qa) with
  |true=>simp [Qd]
  |false=>
   simp only [Qh,BE,Dc]
   cases hq:QG (fun c=>inO c Qa) (x0.drop (k+1)) with
   |none=>rfl
   |some j=>
    simp only [B4,Da,BU,Qd]
    congr 3
    omega
theorem QYp:LO QsP QsM QIs 0:=QC (s:=QjC) fun x y h _ q=>by simp only [QA,QB] at q;exact (QYo x.1 x.2.2.1 x.2.2.2.1 y.1 h).trans q
theorem QYq (l d:List Aa)(h:okS l d=true):QIv l d=some (.t tI (ixS l d),[.box (.t (.sl Qe) d)]):=by
 have hl:l.length<=100000:=(Bw h).1
 simp only [QIv,Jw hl,h,B1,Qd,Bt,Bx,ixS]
 cases QG (fun c=>inO c d) l<;>simp [Qd,Qh]
def QIw:Ent:=Vl [.ty (.sl Qe),.fn 48 [(50000,0)]] [(.sl Qe)] (fun x d=>(okS x.1 d.1)) (fun x d=>(.t tI (ixS x.1 d.1)))
theorem QYr:EM 80 QIw:=mS (lk:=lkL (lkc QYp lkn)) QsP QIr [((.t 4),some tI)] false (gB (gD ms_f48 gN)) fun m=>QcN (Yn m fun x d hok=>kT (QYq x.1 d.1 hok))
def Vn (l d:List Aa):Bool:=l.any fun c=>inO c d
def QYs:TC:=aF Tryz.f47 []
def QYt:G:=gG 9 [(80,QIw)] (fun _ _=>none)
def QIx (p0 d0:List Aa):OV:=br (okS p0 d0) (some (.t .bool (ige (ixS p0 d0) 0),[.box (.t (.sl Qe) d0)])) none
theorem QYu (l d:List Aa)(h:okS l d=true):QIx l d=some (.t .bool (Vn l d),[.box (.t (.sl Qe) d)]):=by
 unfold QIx
 refine brY h ?_
 rw [show ige (ixS l d) 0=Vn l d from QIm _ l]
def QIy:Ent:=Vl [.ty (.sl Qe),.fn 48 [(50000,0)]] [(.sl Qe)] (fun x d=>(okS x.1 d.1)) (fun x d=>(.t .bool (Vn x.1 d.1)))
theorem QYv:EM 47 QIy:=mS QYt QYs [((.t 4),some .bool)] false (gB (gD QYr gN)) fun m=>QcN (Yn m fun x d hok=>kT (QYu x.1 d.1 hok))
def Xx (b a:Ad)(i:Int):List Aa×Int:=bif ine (JO b a) 0 then ([],JO b a) else bif ilt i 0||ige i (Qb b.2.1) then ([],4) else (YP b a i,0)
def E8 (b a:Ad)(_i:Int):Bool:=WI b a
def tc_f18:TC:=aF Tryz.f18 []
def g_f18:G:=gG 28 [(43,QfN),(44,Qgd)] (fun _ _=>none)
def r_f18 (p0 p1:Ad)(p2:Int):OV:=br (WI p0 p1) (br (ine (JO p0 p1) 0) (some (.tu [(.t (.sl Qe) ([]:List Aa)),(.t tI (JO p0 p1))],[])) (br (ilt p2 0) (some (.tu [(.t (.sl Qe) ([]:List Aa)),(.t tI 4)],[])) (br (ige p2 (Qb p0.2.1)) (some (.tu [(.t (.sl Qe) ([]:List Aa)),(.t tI 4)],[])) (br (UN p0 p1 p2) (some (.tu [(.t (.sl Qe) (YP p0 p1 p2)),(.t tI 0)],[])) none)))) none
theorem s_f18 (b a i)(h:E8 b a i=true):r_f18 b a i=some (.tu [.t (.sl Qe) (Xx b a i).1,.t tI (Xx b a i).2],[]):=by
 obtain ⟨l1,l2⟩:=Bf.1 h
 unfold r_f18 Xx
 refine brY h ?_
 cases hb:ine (JO b a) 0 with
 |true=>rfl
 |false=>
  obtain ⟨o1,o2,he⟩:=Ei hb
  rw [Qh]
  cases h3:ilt i 0 with
  |true=>rfl
  |false=>
   rw [Qh]
   cases h4:ige i (Qb b.2.1) with
   |true=>rfl
   |false=>
    rw [Qh]
    have h3:=Dp h3
    have h4:=Dp h4
    simp only [Qb] at h4
    exact brY (Bf.2 ⟨Y3 o1 l1 (by omega) (by omega),Y3 o2 l2 (by omega) (by rw [<-he];omega)⟩) rfl
def QIz:Ent:=Qm (.pr Qo (.pr Qo (.pr tI .nil))) (fun x=>(E8 x.1 x.2.1 x.2.2.1)) (fun x=>(.tu [(.t (.sl Qe) ((Xx x.1 x.2.1 x.2.2.1).1)),(.t tI ((Xx x.1 x.2.1 x.2.2.1).2))]))
theorem ms_f18:EM 18 QIz:=mS g_f18 tc_f18 [((.t 6),some (.sl Qe)),((.t 7),some tI)] false (gB (gD QnZ (gC QAz QAB gN))) fun m=>Qq m fun x hok=>kT (s_f18 x.1 x.2.1 x.2.2.1 hok)
def Zn (f:Int->Bool):Nat->Int->List Int
 |0,_=>[]
 |k+1,i=>bif f i then i::Zn f k (i+1) else Zn f k (i+1)
def stB (r:Ak)(b a:Ad)(i:Int):Bool:=Vn (YP b a i) (YN r a i)
def Us (n i:Int)(b a:Ad)(r:Ak)(out:List Int):Bool:=
 JQ b&&(Jh b&&(JQ a&&(Jh a&&(ZS r&&decide (0<=i/\i<=n/\n=b.2.1.length/\n=a.2.1.length/\(out.length:Int)<=i)))))
def Xe (b a:Ad)(y:Ah)(l:List Ae)(o:Ab)(d:Int):List Int×Int:=
 bif ine (JO b a) 0 then ([],JO b a) else bif ine (JE (rl y l o d)) 0 then ([],JE (rl y l o d)) else (Zn (stB (rl y l o d) b a) b.2.1.length 0,0)
def Ut (b a:Ad)(y:Ah)(l:List Ae)(o:Ab)(d:Int):Bool:=WI b a&&ZS (rl y l o d)
abbrev QjF:Sh:=⟨[(6,.ptr 6 0),(7,.ptr 7 0),(14,.ptr 14 0),(17,.ms 17),(38,.ty tI),(39,.ty tI)],[(6,.box Qo),(7,.box Qo),(14,.box Fc),(17,.arr 3 tI),(55,.no)]⟩
abbrev QIA:Sh:=⟨[(17,.ms 17)],[(17,.arr 3 tI),(55,.no)]⟩
def QsQ:Fg:=QjF.f
def QIB:TC:=aF Tryz.f20 [(506,.nw 17 3),(506,pL 0 QsQ),(8101,.fg QIA.f)]
def QIC:TC:=lb 0 QIB
def QID (x38 x39:Int)(y6 y7:Ad)(y14:Ak)(y17:List Int):VS:=QjF.st ((),(),(),(),x38,x39,()) (y6,y7,y14,y17,(),())
def QsR (y17:List Int):VS:=QIA.st ((),()) (y17,(),())
def QYw:VS->Option (Bool×List (Bool×Exit×VS)):=mkL QjF (fun x y=>(Us x.2.2.2.2.1 x.2.2.2.2.2.1 y.1 y.2.1 y.2.2.1 y.2.2.2.1)) (fun x y=>[(true,.exit 0,QsR (y.2.2.2.1++Zn (stB y.2.2.1 y.1 y.2.1) (x.2.2.2.2.1-x.2.2.2.2.2.1).toNat x.2.2.2.2.2.1))])
def QsS:G:=gG 58 [(36,QaV),(37,QaY),(43,QfN),(44,Qgd),(47,QIy)] (Ls [QYw])
def QsT (x38 x39:Int)(y6 y7:Ad)(y14:Ak)(y17:List Int):OX:=Qu (Qx QsS QsQ QIC) (QID x38 x39 y6 y7 y14 y17)
def QcR (kk:Int->Int->Ad->Ad->Ak->List Int->OX)(x38 x39:Int)(y6 y7:Ad)(y14:Ak)(y17:List Int):OX:=br (ilt x39 x38) (br (WH y14 y7 x39) (br (UN y6 y7 x39) (br (okS (YP y6 y7 x39) (YN y14 y7 x39)) (br (Vn (YP y6 y7 x39) (YN y14 y7 x39)) (br (Qt y17 ([x39]) 8) (kk x38 (Qi .i64 x39 1) y6 y7 y14 (y17++([x39]))) none) (kk x38 (Qi .i64 x39 1) y6 y7 y14 y17)) none) none) none) (some (.exit 0,QsR y17))
def QsU (x38 x39:Int)(y6 y7:Ad)(y14:Ak)(y17:List Int):OX:=some (.exit 0,QsR (y17++Zn (stB y14 y6 y7) (x38-x39).toNat x39))
theorem QIE (x38 x39 y6 y7 y14 y17):QsT x38 x39 y6 y7 y14 y17=QcR QsT x38 x39 y6 y7 y14 y17:=lnT (x:=QcR (fun x38 x39 y6 y7 y14 y17=>some (.normal,QID x38 x39 y6 y7 y14 y17)) x38 x39 y6 y7 y14 y17) (by simp only [QcR,nxA];rfl)
def r_f20 (p0 p1:Ad)(p2:Ah)(p3:List Ae)(p4:Ab)(p5:Int):OV:=
 let a1:=((p2.1,(p2.2.1,())),(p3,((p4.1,(p4.2.1,())),(p5,()))))
 br (WI p0 p1) (br (ine (JO p0 p1) 0) (some (.tu [(.t (.sl tI) ([]:List Int)),(.t tI (JO p0 p1))],[])) (br (ZS a1) (br (ine (JE a1) 0) (some (.tu [(.t (.sl tI) ([]:List Int)),(.t tI (JE a1))],[])) (br (Us (Qb p0.2.1) (0:Int) p0 p1 a1 ([]:List Int)) (some (.tu [(.t (.sl tI) (([]:List Int)++Zn (stB a1 p0 p1) ((Qb p0.2.1)-(0:Int)).toNat (0:Int))),(.t tI 0)],[])) none)) none)) none
theorem QYx (x38 x39:Int)(y6 y7:Ad)(y14:Ak)(y17:List Int)(h:(Us x38 x39 y6 y7 y14 y17)=true):QsT x38 x39 y6 y7 y14 y17=QsU x38 x39 y6 y7 y14 y17:=by
 simp only [Us,Bd,Ba] at h
 obtain ⟨a1,a2,b1,b2,hr,h0,h1,h2,h3,h4⟩:=h
 have hle:y6.2.1.length<=40:=(WG a1).2.2.2.2.2
 obtain ⟨m,hm⟩: ∃ m:Nat,(x38-x39).toNat=m:=⟨_,rfl⟩
 induction m generalizing x39 y17 with
 |zero=>
  have:ilt x39 x38=false:=Bn (by omega)
  rw [QIE]
  simp only [QcR,QsU,this,Qh,hm,Zn,BH]
 |succ m ih=>
  have e0:ilt x39 x38=true:=Bc (by omega)
  have e1:Qi .i64 x39 1=x39+1:=Ja (by omega)
  have p1:JC y6 x39=true:=Y3 a1 a2 h0 (by omega)
  have p2:JC y7 x39=true:=Y3 b1 b2 h0 (by omega)
  have e2:WH y14 y7 x39=true:=Bf.2 ⟨hr,p2⟩
  have e3:UN y6 y7 x39=true:=Bf.2 ⟨p1,p2⟩
  have l1:=Qoz y6 y7 x39
  have l2:=IU y14 y7 x39
  have e4:okS (YP y6 y7 x39) (YN y14 y7 x39)=true:=Bc ⟨by omega,by omega⟩
  have e5:Qt y17 [x39] 8=true:=QX (by decide) (by simp only [Bh];omega)
  have e6:(x38-(x39+1)).toNat=m:=by omega
  rw [QIE]
  simp only [QcR,e0,e1,e2,e3,e4,e5,Qd]
  rw [ih (x39+1) (y17++[x39]) (by omega) (by omega) (by simp only [Bj,Bh];omega) (by omega),ih (x39+1) y17 (by omega) (by omega) (by omega) (by omega)]
  simp only [QsU,hm,e6,Zn]
  show br (stB y14 y6 y7 x39) _ _=_
  cases stB y14 y6 y7 x39 with
  |true=>simp only [Qd,B6,BG,BD]
  |false=>simp only [Qh,BW]
theorem QYy:LO QsS QsQ QIC 0:=QC (s:=QjF) fun x y h _ q=>by simp only [QA,QB] at q;exact (QYx x.2.2.2.2.1 x.2.2.2.2.2.1 y.1 y.2.1 y.2.2.1 y.2.2.2.1 h).trans q
theorem s_f20 (b a y l o d)(h:Ut b a y l o d=true):r_f20 b a y l o d=some (.tu [.t (.sl tI) (Xe b a y l o d).1,.t tI (Xe b a y l o d).2],[]):=by
 obtain ⟨h1,h2⟩:=Bf.1 h
 obtain ⟨l1,l2⟩:=Bf.1 h1
 unfold r_f20 Xe
 refine brY h1 ?_
 cases hb:ine (JO b a) 0 with
 |true=>rfl
 |false=>
  obtain ⟨o1,o2,he⟩:=Ei hb
  rw [Qh]
  refine brY (show ZS (rl y l o d)=true from h2) ?_
  show br (ine (JE (rl y l o d)) 0) (some (V.tu [V.t (.sl tI) ([]:List Int),V.t tI (JE (rl y l o d))],[])) (br (Us (Qb b.2.1) 0 b a (rl y l o d) []) (some (V.tu [V.t (.sl tI) ([]++Zn (stB (rl y l o d) b a) ((Qb b.2.1)-0).toNat 0),V.t tI 0],[])) none)=_
  cases ine (JE (rl y l o d)) 0 with
  |true=>rfl
  |false=>
   rw [Qh]
   have e:((Qb b.2.1)-0).toNat=b.2.1.length:=by simp only [Qb];omega
   refine brY ?_ ?_
   ·unfold Us
    rw [o1,o2,l1,l2,h2]
    exact Bc ⟨BY 0,by simp only [Qb];omega,rfl,by rw [<-he],by simp⟩
   ·rw [e,BM]
    rfl
def QsV:Ent:=Qm (.pr Qo (.pr Qo (.pr Q3 (.pr (.sl QK) (.pr Qn (.pr tI .nil)))))) (fun x=>(Ut x.1 x.2.1 x.2.2.1 x.2.2.2.1 x.2.2.2.2.1 x.2.2.2.2.2.1)) (fun x=>(.tu [(.t (.sl tI) ((Xe x.1 x.2.1 x.2.2.1 x.2.2.2.1 x.2.2.2.2.1 x.2.2.2.2.2.1).1)),(.t tI ((Xe x.1 x.2.1 x.2.2.1 x.2.2.2.1 x.2.2.2.2.1 x.2.2.2.2.2.1).2))]))
theorem QIF:EM 20 QsV:=mS (lk:=lkL (lkc QYy lkn)) QsS QIB [((.t 12),some (.sl tI)),((.t 13),some tI)] false (gB (gD QfI (gD QfM (gD QnZ (gC QAz QAB (gD QYv gN)))))) fun m=>Qq m fun x hok=>kT (s_f20 x.1 x.2.1 x.2.2.1 x.2.2.2.1 x.2.2.2.2.1 x.2.2.2.2.2.1 hok)
def clB (r:Ak)(e:Ad)(i:Int):Bool:=ieq (Qb (YN r e i)) 0
def Uu (n i:Int)(e:Ad)(r:Ak)(out:List Int):Bool:=JQ e&&(Jh e&&(ZS r&&decide (0<=i/\i<=n/\n=e.2.1.length/\(out.length:Int)<=i)))
def Xg (e:Ad)(y:Ah)(l:List Ae)(o:Ab)(d:Int):List Int×Int:=
 bif !JQ e then ([],31) else bif ine (JE (rl y l o d)) 0 then ([],JE (rl y l o d)) else (Zn (clB (rl y l o d) e) e.2.1.length 0,0)
def E9 (e:Ad)(y:Ah)(l:List Ae)(o:Ab)(d:Int):Bool:=Jh e&&ZS (rl y l o d)
abbrev QjG:Sh:=⟨[(5,.ptr 5 0),(12,.ptr 12 0),(14,.ms 14),(31,.ty tI),(32,.ty tI)],[(5,.box Qo),(12,.box Fc),(14,.arr 3 tI),(44,.no)]⟩
abbrev QIG:Sh:=⟨[(14,.ms 14)],[(14,.arr 3 tI),(44,.no)]⟩
def QsW:Fg:=QjG.f
def QIH:TC:=aF Tryz.f24 [(506,.nw 14 3),(506,pL 0 QsW),(8101,.fg QIG.f)]
def QII:TC:=lb 0 QIH
def QIJ (x31 x32:Int)(y5:Ad)(y12:Ak)(y14:List Int):VS:=QjG.st ((),(),(),x31,x32,()) (y5,y12,y14,(),())
def QsX (y14:List Int):VS:=QIG.st ((),()) (y14,(),())
def QYz:VS->Option (Bool×List (Bool×Exit×VS)):=mkL QjG (fun x y=>(Uu x.2.2.2.1 x.2.2.2.2.1 y.1 y.2.1 y.2.2.1)) (fun x y=>[(true,.exit 0,QsX (y.2.2.1++Zn (clB y.2.1 y.1) (x.2.2.2.1-x.2.2.2.2.1).toNat x.2.2.2.2.1))])
def QsY:G:=gG 47 [(35,Qi1),(36,QaV),(37,QaY)] (Ls [QYz])
def QsZ (x31 x32:Int)(y5:Ad)(y12:Ak)(y14:List Int):OX:=Qu (Qx QsY QsW QII) (QIJ x31 x32 y5 y12 y14)
def QcS (kk:Int->Int->Ad->Ak->List Int->OX)(x31 x32:Int)(y5:Ad)(y12:Ak)(y14:List Int):OX:=br (ilt x32 x31) (br (WH y12 y5 x32) (br (ieq (Qb (YN y12 y5 x32)) 0) (br (Qt y14 ([x32]) 8) (kk x31 (Qi .i64 x32 1) y5 y12 (y14++([x32]))) none) (kk x31 (Qi .i64 x32 1) y5 y12 y14)) none) (some (.exit 0,QsX y14))
def Qs0 (x31 x32:Int)(y5:Ad)(y12:Ak)(y14:List Int):OX:=some (.exit 0,QsX (y14++Zn (clB y12 y5) (x31-x32).toNat x32))
theorem QIK (x31 x32 y5 y12 y14):QsZ x31 x32 y5 y12 y14=QcS QsZ x31 x32 y5 y12 y14:=lnT (x:=QcS (fun x31 x32 y5 y12 y14=>some (.normal,QIJ x31 x32 y5 y12 y14)) x31 x32 y5 y12 y14) (by simp only [QcS,nxA];rfl)
def r_f24 (p0:Ad)(p1:Ah)(p2:List Ae)(p3:Ab)(p4:Int):OV:=
 let a1:=((p1.1,(p1.2.1,())),(p2,((p3.1,(p3.2.1,())),(p4,()))))
 br (Jh p0) (br (ine (Ye p0) 0) (some (.tu [(.t (.sl tI) ([]:List Int)),(.t tI 31)],[])) (br (ZS a1) (br (ine (JE a1) 0) (some (.tu [(.t (.sl tI) ([]:List Int)),(.t tI (JE a1))],[])) (br (Uu (Qb p0.2.1) (0:Int) p0 a1 ([]:List Int)) (some (.tu [(.t (.sl tI) (([]:List Int)++Zn (clB a1 p0) ((Qb p0.2.1)-(0:Int)).toNat (0:Int))),(.t tI 0)],[])) none)) none)) none
theorem QYA (x31 x32:Int)(y5:Ad)(y12:Ak)(y14:List Int)(h:(Uu x31 x32 y5 y12 y14)=true):QsZ x31 x32 y5 y12 y14=Qs0 x31 x32 y5 y12 y14:=by
 simp only [Uu,Bd,Ba] at h
 obtain ⟨a1,a2,hr,h0,h1,h2,h4⟩:=h
 have hle:y5.2.1.length<=40:=(WG a1).2.2.2.2.2
 obtain ⟨m,hm⟩: ∃ m:Nat,(x31-x32).toNat=m:=⟨_,rfl⟩
 induction m generalizing x32 y14 with
 |zero=>
  have:ilt x32 x31=false:=Bn (by omega)
  rw [QIK]
  simp only [QcS,Qs0,this,Qh,hm,Zn,BH]
 |succ m ih=>
  have e0:ilt x32 x31=true:=Bc (by omega)
  have e1:Qi .i64 x32 1=x32+1:=Ja (by omega)
  have e2:WH y12 y5 x32=true:=Bf.2 ⟨hr,Y3 a1 a2 h0 (by omega)⟩
  have e5:Qt y14 [x32] 8=true:=QX (by decide) (by simp only [Bh];omega)
  have e6:(x31-(x32+1)).toNat=m:=by omega
  rw [QIK]
  simp only [QcS,e0,e1,e2,e5,Qd]
  rw [ih (x32+1) (y14++[x32]) (by omega) (by omega) (by simp only [Bj,Bh];omega) (by omega),ih (x32+1) y14 (by omega) (by omega) (by omega) (by omega)]
  simp only [Qs0,hm,e6,Zn]
  show br (clB y12 y5 x32) _ _=_
  cases clB y12 y5 x32 with
  |true=>simp only [Qd,B6,BG,BD]
  |false=>simp only [Qh,BW]
theorem QYB:LO QsY QsW QII 0:=QC (s:=QjG) fun x y h _ q=>by simp only [QA,QB] at q;exact (QYA x.2.2.2.1 x.2.2.2.2.1 y.1 y.2.1 y.2.2.1 h).trans q
theorem s_f24 (e y l o d)(h:E9 e y l o d=true):r_f24 e y l o d=some (.tu [.t (.sl tI) (Xg e y l o d).1,.t tI (Xg e y l o d).2],[]):=by
 obtain ⟨h1,h2⟩:=Bf.1 h
 unfold r_f24 Xg
 refine brY h1 ?_
 rw [FM]
 cases ho:JQ e with
 |false=>rfl
 |true=>
  rw [BA,Qh]
  refine brY (show ZS (rl y l o d)=true from h2) ?_
  show br (ine (JE (rl y l o d)) 0) (some (V.tu [V.t (.sl tI) ([]:List Int),V.t tI (JE (rl y l o d))],[])) (br (Uu (Qb e.2.1) 0 e (rl y l o d) []) (some (V.tu [V.t (.sl tI) ([]++Zn (clB (rl y l o d) e) ((Qb e.2.1)-0).toNat 0),V.t tI 0],[])) none)=_
  cases ine (JE (rl y l o d)) 0 with
  |true=>rfl
  |false=>
   rw [Qh]
   have e:((Qb e.2.1)-0).toNat=e.2.1.length:=by simp only [Qb];omega
   refine brY ?_ ?_
   ·unfold Uu
    rw [ho,h1,h2]
    exact Bc ⟨BY 0,by simp only [Qb];omega,rfl,by simp⟩
   ·rw [e,BM]
    rfl
def Qs1:Ent:=Qm (.pr Qo (.pr Q3 (.pr (.sl QK) (.pr Qn (.pr tI .nil))))) (fun x=>(E9 x.1 x.2.1 x.2.2.1 x.2.2.2.1 x.2.2.2.2.1)) (fun x=>(.tu [(.t (.sl tI) ((Xg x.1 x.2.1 x.2.2.1 x.2.2.2.1 x.2.2.2.2.1).1)),(.t tI ((Xg x.1 x.2.1 x.2.2.1 x.2.2.2.1 x.2.2.2.2.1).2))]))
theorem QIL:EM 24 Qs1:=mS (lk:=lkL (lkc QYB lkn)) QsY QIH [((.t 10),some (.sl tI)),((.t 11),some tI)] false (gB (gD Qse (gD QfI (gD QfM gN)))) fun m=>Qq m fun x hok=>kT (s_f24 x.1 x.2.1 x.2.2.1 x.2.2.2.1 x.2.2.2.2.1 hok)
def Js (r:Ak)(e:Ad)(i:Int):Int:=Qb (YN r e i)
def Z5 (f:Int->Int):Nat->Int->Int->Int
 |0,_,s=>s
 |k+1,i,s=>Z5 f k (i+1) (s+f i)
def Uv (n i:Int)(b a:Ad)(r:Ak)(s t:Int):Bool:=
 JQ b&&(Jh b&&(JQ a&&(Jh a&&(ZS r&&decide (0<=i/\i<=n/\n=b.2.1.length/\n=a.2.1.length/\0<=s/\s<=64*i/\0<=t/\t<=64*i)))))
def Xy (b a:Ad)(y:Ah)(l:List Ae)(o:Ab)(d:Int):Int×Int×Int:=
 bif ine (JO b a) 0 then (0,0,JO b a) else bif ine (JE (rl y l o d)) 0 then (0,0,JE (rl y l o d)) else (Z5 (Js (rl y l o d) b) b.2.1.length 0 0,Z5 (Js (rl y l o d) a) b.2.1.length 0 0,0)
abbrev QjH:Sh:=⟨[(6,.ptr 6 0),(7,.ptr 7 0),(15,.ptr 15 0),(18,.ty tI),(19,.ty tI),(39,.ty tI),(40,.ty tI)],[(6,.box Qo),(7,.box Qo),(15,.box Fc)]⟩
abbrev QIM:Sh:=⟨[(18,.ty tI),(19,.ty tI)],[]⟩
def Qs2:Fg:=QjH.f
def QIN:TC:=aF Tryz.f22 [(506,pL 0 Qs2),(8101,.fg QIM.f),(32409,pE [[],[15],[6],[],[],[],[],[],[15],[7],[],[],[],[],[],[]] (oN 16))]
def QIO:TC:=lb 0 QIN
def QIP (x18 x19 x39 x40:Int)(y6 y7:Ad)(y15:Ak):VS:=QjH.st ((),(),(),x18,x19,x39,x40,()) (y6,y7,y15,())
def Qs3 (x18 x19:Int):VS:=QIM.st (x18,x19,()) ()
def QYC:VS->Option (Bool×List (Bool×Exit×VS)):=mkL QjH (fun x y=>(Uv x.2.2.2.2.2.1 x.2.2.2.2.2.2.1 y.1 y.2.1 y.2.2.1 x.2.2.2.1 x.2.2.2.2.1)) (fun x y=>[(true,.exit 0,Qs3 (Z5 (Js y.2.2.1 y.1) (x.2.2.2.2.2.1-x.2.2.2.2.2.2.1).toNat x.2.2.2.2.2.2.1 x.2.2.2.1) (Z5 (Js y.2.2.1 y.2.1) (x.2.2.2.2.2.1-x.2.2.2.2.2.2.1).toNat x.2.2.2.2.2.2.1 x.2.2.2.2.1))])
def Qs4:G:=gG 60 [(36,QaV),(37,QaY),(43,QfN)] (Ls [QYC])
def Qs5 (x18 x19 x39 x40:Int)(y6 y7:Ad)(y15:Ak):OX:=Qu (Qx Qs4 Qs2 QIO) (QIP x18 x19 x39 x40 y6 y7 y15)
def QcT (kk:Int->Int->Int->Int->Ad->Ad->Ak->OX)(x18 x19 x39 x40:Int)(y6 y7:Ad)(y15:Ak):OX:=br (ilt x40 x39) (br (WH y15 y6 x40) (br (WH y15 y7 x40) (kk (Qi .i64 x18 (Qb (YN y15 y6 x40))) (Qi .i64 x19 (Qb (YN y15 y7 x40))) x39 (Qi .i64 x40 1) y6 y7 y15) none) none) (some (.exit 0,Qs3 x18 x19))
def Qs6 (x18 x19 x39 x40:Int)(y6 y7:Ad)(y15:Ak):OX:=some (.exit 0,Qs3 (Z5 (Js y15 y6) (x39-x40).toNat x40 x18) (Z5 (Js y15 y7) (x39-x40).toNat x40 x19))
theorem QIQ (x18 x19 x39 x40 y6 y7 y15):Qs5 x18 x19 x39 x40 y6 y7 y15=QcT Qs5 x18 x19 x39 x40 y6 y7 y15:=lnT (x:=QcT (fun x18 x19 x39 x40 y6 y7 y15=>some (.normal,QIP x18 x19 x39 x40 y6 y7 y15)) x18 x19 x39 x40 y6 y7 y15) (by simp only [QcT,nxA];rfl)
def r_f22 (p0 p1:Ad)(p2:Ah)(p3:List Ae)(p4:Ab)(p5:Int):OV:=
 let a1:=((p2.1,(p2.2.1,())),(p3,((p4.1,(p4.2.1,())),(p5,()))))
 br (WI p0 p1) (br (ine (JO p0 p1) 0) (some (.tu [(.t tI 0),(.t tI 0),(.t tI (JO p0 p1))],[])) (br (ZS a1) (br (ine (JE a1) 0) (some (.tu [(.t tI 0),(.t tI 0),(.t tI (JE a1))],[])) (br (Uv (Qb p0.2.1) (0:Int) p0 p1 a1 (0:Int) (0:Int)) (some (.tu [(.t tI (Z5 (Js a1 p0) ((Qb p0.2.1)-(0:Int)).toNat (0:Int) (0:Int))),(.t tI (Z5 (Js a1 p1) ((Qb p0.2.1)-(0:Int)).toNat (0:Int) (0:Int))),(.t tI 0)],[])) none)) none)) none
theorem QYD (x18 x19 x39 x40:Int)(y6 y7:Ad)(y15:Ak)(h:(Uv x39 x40 y6 y7 y15 x18 x19)=true):Qs5 x18 x19 x39 x40 y6 y7 y15=Qs6 x18 x19 x39 x40 y6 y7 y15:=by
 simp only [Uv,Bd,Ba] at h
 obtain ⟨a1,a2,b1,b2,hr,h0,h1,h2,h3,h4,h5,h6,h7⟩:=h
 have hle:y6.2.1.length<=40:=(WG a1).2.2.2.2.2
 obtain ⟨m,hm⟩: ∃ m:Nat,(x39-x40).toNat=m:=⟨_,rfl⟩
 induction m generalizing x40 x18 x19 with
 |zero=>
  have:ilt x40 x39=false:=Bn (by omega)
  rw [QIQ]
  simp only [QcT,Qs6,this,Qh,hm,Z5]
 |succ m ih=>
  have e0:ilt x40 x39=true:=Bc (by omega)
  have e1:Qi .i64 x40 1=x40+1:=Ja (by omega)
  have e2:WH y15 y6 x40=true:=Bf.2 ⟨hr,Y3 a1 a2 h0 (by omega)⟩
  have e3:WH y15 y7 x40=true:=Bf.2 ⟨hr,Y3 b1 b2 h0 (by omega)⟩
  have l1:0<=Js y15 y6 x40/\Js y15 y6 x40<=64:=by have:=IU y15 y6 x40;simp only [Js,Qb];omega
  have l2:0<=Js y15 y7 x40/\Js y15 y7 x40<=64:=by have:=IU y15 y7 x40;simp only [Js,Qb];omega
  have e4:Qi .i64 x18 (Qb (YN y15 y6 x40))=x18+Js y15 y6 x40:=Ja (by show _<=x18+Js y15 y6 x40/\x18+Js y15 y6 x40<=_;omega)
  have e5:Qi .i64 x19 (Qb (YN y15 y7 x40))=x19+Js y15 y7 x40:=Ja (by show _<=x19+Js y15 y7 x40/\x19+Js y15 y7 x40<=_;omega)
  have e6:(x39-(x40+1)).toNat=m:=by omega
  rw [QIQ]
  simp only [QcT,e0,e1,e2,e3,e4,e5,Qd]
  rw [ih (x18+Js y15 y6 x40) (x19+Js y15 y7 x40) (x40+1) (by omega) (by omega) (by omega) (by omega) (by omega) (by omega) (by omega)]
  simp only [Qs6,hm,e6,Z5]
theorem QYE:LO Qs4 Qs2 QIO 0:=QC (s:=QjH) fun x y h _ q=>by simp only [QA,QB] at q;exact (QYD x.2.2.2.1 x.2.2.2.2.1 x.2.2.2.2.2.1 x.2.2.2.2.2.2.1 y.1 y.2.1 y.2.2.1 h).trans q
theorem s_f22 (b a y l o d)(h:Ut b a y l o d=true):r_f22 b a y l o d=some (.tu [.t tI (Xy b a y l o d).1,.t tI (Xy b a y l o d).2.1,.t tI (Xy b a y l o d).2.2],[]):=by
 obtain ⟨h1,h2⟩:=Bf.1 h
 obtain ⟨l1,l2⟩:=Bf.1 h1
 unfold r_f22 Xy
 refine brY h1 ?_
 cases hb:ine (JO b a) 0 with
 |true=>rfl
 |false=>
  obtain ⟨o1,o2,he⟩:=Ei hb
  rw [Qh]
  refine brY (show ZS (rl y l o d)=true from h2) ?_
  show br (ine (JE (rl y l o d)) 0) (some (V.tu [V.t tI 0,V.t tI 0,V.t tI (JE (rl y l o d))],[])) (br (Uv (Qb b.2.1) 0 b a (rl y l o d) 0 0) (some (V.tu [V.t tI (Z5 (Js (rl y l o d) b) ((Qb b.2.1)-0).toNat 0 0),V.t tI (Z5 (Js (rl y l o d) a) ((Qb b.2.1)-0).toNat 0 0),V.t tI 0],[])) none)=_
  cases ine (JE (rl y l o d)) 0 with
  |true=>rfl
  |false=>
   rw [Qh]
   have e:((Qb b.2.1)-0).toNat=b.2.1.length:=by simp only [Qb];omega
   refine brY ?_ ?_
   ·unfold Uv
    rw [o1,o2,l1,l2,h2]
    exact Bc ⟨BY 0,by simp only [Qb];omega,rfl,by rw [<-he],by omega,by omega,by omega,by omega⟩
   ·rw [e]
    rfl
def QIR:Ent:=Qm (.pr Qo (.pr Qo (.pr Q3 (.pr (.sl QK) (.pr Qn (.pr tI .nil)))))) (fun x=>(Ut x.1 x.2.1 x.2.2.1 x.2.2.2.1 x.2.2.2.2.1 x.2.2.2.2.2.1)) (fun x=>(.tu [(.t tI ((Xy x.1 x.2.1 x.2.2.1 x.2.2.2.1 x.2.2.2.2.1 x.2.2.2.2.2.1).1)),(.t tI (((Xy x.1 x.2.1 x.2.2.1 x.2.2.2.1 x.2.2.2.2.1 x.2.2.2.2.2.1).2).1)),(.t tI (((Xy x.1 x.2.1 x.2.2.1 x.2.2.2.1 x.2.2.2.2.1 x.2.2.2.2.2.1).2).2))]))
theorem ms_f22:EM 22 QIR:=mS (lk:=lkL (lkc QYE lkn)) Qs4 QIN [((.t 12),some tI),((.t 13),some tI),((.t 14),some tI)] false (gB (gD QfI (gD QfM (gD QnZ gN)))) fun m=>Qq m fun x hok=>kT (s_f22 x.1 x.2.1 x.2.2.1 x.2.2.2.1 x.2.2.2.2.1 x.2.2.2.2.2.1 hok)
abbrev QeR:Sh:=⟨[(1,.ty (.sl QK)),(5,.ty tI),(6,.ptr 6 0),(8,.ptr 8 0),(9,.ptr 9 0),(14,.ty (.sl Qe)),(16,.ty .bool),(17,.ty tI)],[(6,.box Q3),(8,.box Qn),(9,.box Qp)]⟩
abbrev QxI:Sh:=⟨[(12,.ty .bool),(13,.ty tI)],[]⟩
abbrev QxJ:Sh:=⟨[(16,.ty .bool)],[]⟩
def Qm3:Fg:=QeR.f
def QxK:TC:=aF Tryz.f75 [(250,pL 0 Qm3),(4003,.fg QxJ.f),(8008,pE [[6],[],[8],[],[],[],[],[9],[9],[],[],[],[],[],[],[]] (oN 16)),(128149,.fg QxI.f)]
def QxL:TC:=lb 0 QxK
def QxM (x1:List Ae)(x5:Int)(x14:List Aa)(x16:Bool)(x17:Int)(y6:Ah)(y8:Ab)(y9:Ac):VS:=QeR.st (x1,x5,(),(),(),x14,x16,x17,()) (y6,y8,y9,())
def Qm4 (x12:Bool)(x13:Int):VS:=QxI.st (x12,x13,()) ()
def Qm5 (x16:Bool):VS:=QxJ.st (x16,()) ()
def QOR:VS->Option (Bool×List (Bool×Exit×VS)):=mkL QeR (fun x y=>(decide (0<=x.2.2.2.2.2.2.2.1/\x.2.2.2.2.2.2.2.1<=x.2.2.2.2.2.1.length/\x.2.2.2.2.2.1.length<=4)&&(JP y.1&&ZT x.1 y.2.1))) (fun x y=>[((ine (J1 (fun u=>Jp y.1 x.1 y.2.1 u 1 y.2.2.1.1 x.2.1) (x.2.2.2.2.2.1.drop x.2.2.2.2.2.2.2.1.toNat) x.2.2.2.2.2.2.1).2 0),.ret,Qm4 (false) ((J1 (fun u=>Jp y.1 x.1 y.2.1 u 1 y.2.2.1.1 x.2.1) (x.2.2.2.2.2.1.drop x.2.2.2.2.2.2.2.1.toNat) x.2.2.2.2.2.2.1).2)),(true,.exit 0,Qm5 ((J1 (fun u=>Jp y.1 x.1 y.2.1 u 1 y.2.2.1.1 x.2.1) (x.2.2.2.2.2.1.drop x.2.2.2.2.2.2.2.1.toNat) x.2.2.2.2.2.2.1).1))])
def Qm6:G:=gG 58 [(122,Qus),(123,QEG)] (Ls [QOR])
def QeS (x1:List Ae)(x5:Int)(x14:List Aa)(x16:Bool)(x17:Int)(y6:Ah)(y8:Ab)(y9:Ac):OX:=Qu (Qx Qm6 Qm3 QxL) (QxM x1 x5 x14 x16 x17 y6 y8 y9)
def Qau (kk:List Ae->Int->List Aa->Bool->Int->Ah->Ab->Ac->OX)(x1:List Ae)(x5:Int)(x14:List Aa)(x16:Bool)(x17:Int)(y6:Ah)(y8:Ab)(y9:Ac):OX:=
 let a1:=Jp y6 x1 y8 (lgt Qe x14 (Int.toNat x17)) 1 y9.1 x5
 br (ilt x17 (Qb x14)) (br (cIx x14 x17) (br (FA y6 x1 y8 (lgt Qe x14 (Int.toNat x17)) 1 y9.1 x5) (br (ine (a1.2) 0) (some (.ret,Qm4 false (a1.2))) (br (x16) (kk x1 x5 x14 true (Qi .i64 x17 1) y6 y8 y9) (kk x1 x5 x14 (!(a1.1)) (Qi .i64 x17 1) y6 y8 y9))) none) none) (some (.exit 0,Qm5 x16))
def IH (x1:List Ae)(x5:Int)(x14:List Aa)(x16:Bool)(x17:Int)(y6:Ah)(y8:Ab)(y9:Ac):OX:=
 let a1:=x14.drop x17.toNat
 br (ine (J1 (fun u=>Jp y6 x1 y8 u 1 y9.1 x5) a1 x16).2 0) (some (.ret,Qm4 (false) ((J1 (fun u=>Jp y6 x1 y8 u 1 y9.1 x5) a1 x16).2)))<|some (.exit 0,Qm5 ((J1 (fun u=>Jp y6 x1 y8 u 1 y9.1 x5) a1 x16).1))
theorem QxN (x1 x5 x14 x16 x17 y6 y8 y9):QeS x1 x5 x14 x16 x17 y6 y8 y9=Qau QeS x1 x5 x14 x16 x17 y6 y8 y9:=lnT (x:=Qau (fun x1 x5 x14 x16 x17 y6 y8 y9=>some (.normal,QxM x1 x5 x14 x16 x17 y6 y8 y9)) x1 x5 x14 x16 x17 y6 y8 y9) (by simp only [Qau,nxA];rfl)
def r_f75 (p0:Ah)(p1:List Ae)(p2:Ab)(p3:Ac)(p4:Aa)(p5:Int):OV:=
 let a1:=((QZ p3 p4).1)
 let a2:=(a1.drop (0:Int).toNat)
 br (Gd p3 p4) (br (ine ((QZ p3 p4).2) 0) (some (.tu [(.t .bool false),(.t tI ((QZ p3 p4).2))],[])) (br (decide (0<=(0:Int)/\(0:Int)<=a1.length/\a1.length<=4)&&(JP p0&&ZT p1 p2)) (br (ine (J1 (fun u=>Jp p0 p1 p2 u 1 p3.1 p5) a2 false).2 0) (some (.tu [(.t .bool (false)),(.t tI ((J1 (fun u=>Jp p0 p1 p2 u 1 p3.1 p5) a2 false).2))],[])) (some (.tu [(.t .bool ((J1 (fun u=>Jp p0 p1 p2 u 1 p3.1 p5) a2 false).1)),(.t tI 0)],[]))) none)) none
theorem QOS (x1:List Ae)(x5:Int)(x14:List Aa)(x16:Bool)(x17:Int)(y6:Ah)(y8:Ab)(y9:Ac)(h:(decide (0<=x17/\x17<=x14.length/\x14.length<=4)&&(JP y6&&ZT x1 y8))=true):QeS x1 x5 x14 x16 x17 y6 y8 y9=IH x1 x5 x14 x16 x17 y6 y8 y9:=by
 simp only [Bd,Ba] at h
 obtain ⟨⟨h0,h1,h2⟩,g1,g2⟩:=h
 obtain ⟨k,rfl⟩:=Bm h0
 clear h0
 revert x16
 refine QP x14 (fun k=> ∀ x16:Bool,QeS x1 x5 x14 x16 (k:Int) y6 y8 y9=IH x1 x5 x14 x16 (k:Int) y6 y8 y9) ?_ ?_ k (by omega)
 ·intro x16
  rw [QxN]
  simp only [Qau,IH,Qb,Qv,BK,BP,Qh,Bb,BF,J1]
  rfl
 ·intro k hk ih x16
  rw [QxN]
  have e1: ∀ u p e,FA y6 x1 y8 u p e x5=true:=fun _ _ _=>Bf.2 ⟨g1,g2⟩
  have hd:J1 (fun u=>Jp y6 x1 y8 u 1 y9.1 x5) (x14.drop k) x16=bif ine (Jp y6 x1 y8 x14[k] 1 y9.1 x5).2 0 then (false,(Jp y6 x1 y8 x14[k] 1 y9.1 x5).2) else J1 (fun u=>Jp y6 x1 y8 u 1 y9.1 x5) (x14.drop (k+1)) (x16|| !(Jp y6 x1 y8 x14[k] 1 y9.1 x5).1):=by
   rw [Bg hk]
   rfl
  simp only [Qau,Qb,Qv,QM,hk,Bu,Qd,Bb,QO (k:=k),e1,QN (y:=Qe) hk]
  simp only [IH,Bb,hd]
  cases hq:ine (Jp y6 x1 y8 x14[k] 1 y9.1 x5).2 0 with
  |true=>simp only [Qd,B6,hq]
  |false=>
   simp only [Qh,BW]
   cases x16 with
   |true=>
    rw [Qd,ih true]
    simp only [IH,Bb,Bool.true_or]
   |false=>
    rw [Qh,ih]
    simp only [IH,Bb,De]
theorem QOT:LO Qm6 Qm3 QxL 0:=QC (s:=QeR) fun x y h _ q=>by simp only [QA,QB] at q;exact (QOS x.1 x.2.1 x.2.2.2.2.2.1 x.2.2.2.2.2.2.1 x.2.2.2.2.2.2.2.1 y.1 y.2.1 y.2.2.1 h).trans q
theorem s_f75 (y l w s o d)(h:UO y l w s o d=true):r_f75 y l w s o d=some (.tu [.t .bool (ZY y l w s o d).1,.t tI (ZY y l w s o d).2],[]):=by
 simp only [UO,Bd] at h
 obtain ⟨h1,h2,h3⟩:=h
 unfold r_f75 ZY
 refine brY h3 (Q1 (fun k=>by rw [k];rfl) fun k=> ?_)
 have hl:=QoE s o
 rw [k,BW]
 refine brY ?_ ?_
 ·rw [h1,h2,Bc (show 0<=(0:Int)/\(0:Int)<=((QZ s o).1.length:Int)/\(QZ s o).1.length<=4 by omega)]
  rfl
 ·rw [Bt,Bx]
  cases hz:ine (J1 (fun u=>Jp y l w u 1 s.1 d) (QZ s o).1 false).2 0 with
  |true=>rw [Qd,Qgn hz]
  |false=>rw [Qh,ine_z hz]
def QxO:Ent:=Qm (.pr Q3 (.pr (.sl QK) (.pr Qn (.pr Qp (.pr Qe (.pr tI .nil)))))) (fun x=>(UO x.1 x.2.1 x.2.2.1 x.2.2.2.1 x.2.2.2.2.1 x.2.2.2.2.2.1)) (fun x=>(.tu [(.t .bool ((ZY x.1 x.2.1 x.2.2.1 x.2.2.2.1 x.2.2.2.2.1 x.2.2.2.2.2.1).1)),(.t tI ((ZY x.1 x.2.1 x.2.2.1 x.2.2.2.1 x.2.2.2.2.1 x.2.2.2.2.2.1).2))]))
theorem ms_f75:EM 75 QxO:=mS (lk:=lkL (lkc QOT lkn)) Qm6 QxK [((.t 12),some .bool),((.t 13),some tI)] false (gB (gD QLi (gD QUB gN))) fun m=>Qq m fun x hok=>kT (s_f75 x.1 x.2.1 x.2.2.1 x.2.2.2.1 x.2.2.2.2.1 x.2.2.2.2.2.1 hok)
def WB (y:Ah)(l:List Ae)(d:Int):Int:=bif ine (YI y) 0 then 25 else bif YF l then 26 else bif ilt d 0||igt d 40000 then 2 else 0
def Ee (y:Ah)(l:List Ae)(_:Int):Bool:=JP y&&J2 l
abbrev QeT:Sh:=⟨[(2,.ty tI),(12,.ty (.sl QK)),(13,.ty tI),(14,.ty tI)],[]⟩
abbrev QxP:Sh:=⟨[(6,.ty tI)],[]⟩
abbrev QxQ:Sh:=⟨[(2,.ty tI)],[]⟩
def Qm7:Fg:=QeT.f
def QxR:TC:=aF Tryz.f39 [(58,pL 0 Qm7),(933,.fg QxQ.f),(29901,.fg QxP.f)]
def QxS:TC:=lb 0 QxR
def QxT (x2:Int)(x12:List Ae)(x13 x14:Int):VS:=QeT.st (x2,x12,x13,x14,()) ()
def Qm8 (x6:Int):VS:=QxP.st (x6,()) ()
def Qm9 (x2:Int):VS:=QxQ.st (x2,()) ()
def QOU:VS->Option (Bool×List (Bool×Exit×VS)):=mkL QeT (fun x y=>(Qw x.2.1 x.2.2.1 x.2.2.2.1&&J2 x.2.1)) (fun x y=>[(((x.2.1.drop x.2.2.2.1.toNat).any JX),.ret,Qm8 (26)),(true,.exit 0,Qm9 (x.1))])
def Qna:G:=gG 28 [(73,Qrd),(74,QiG)] (Ls [QOU])
def QeU (x2:Int)(x12:List Ae)(x13 x14:Int):OX:=Qu (Qx Qna Qm7 QxS) (QxT x2 x12 x13 x14)
def Qav (kk:Int->List Ae->Int->Int->OX)(x2:Int)(x12:List Ae)(x13 x14:Int):OX:=
 let a1:=lgt QK x12 (Int.toNat x14)
 br (ilt x14 x13) (br (cIx x12 x14) (br (Jy a1) (br (ine (exZ a1) 0) (some (.ret,Qm8 26)) (kk x2 x12 x13 (Qi .i64 x14 1))) none) none) (some (.exit 0,Qm9 x2))
def QeV (x2:Int)(x12:List Ae)(x13 x14:Int):OX:=br ((x12.drop x14.toNat).any JX) (some (.ret,Qm8 (26)))<|some (.exit 0,Qm9 (x2))
theorem QxU (x2 x12 x13 x14):QeU x2 x12 x13 x14=Qav QeU x2 x12 x13 x14:=lnT (x:=Qav (fun x2 x12 x13 x14=>some (.normal,QxT x2 x12 x13 x14)) x2 x12 x13 x14) (by simp only [Qav,nxA];rfl)
def r_f39 (p0:Ah)(p1:List Ae)(p2:Int):OV:=br (JP p0) (br (ine (YI p0) 0) (some (.t tI 25,[])) (br (Qw p1 (Qb p1) (0:Int)&&J2 p1) (br ((p1.drop (0:Int).toNat).any JX) (some (.t tI (26),[])) (br (ilt (p2) 0) (some (.t tI 2,[])) (br (igt (p2) 40000) (some (.t tI 2,[])) (some (.t tI 0,[]))))) none)) none
theorem QOV (x2:Int)(x12:List Ae)(x13 x14:Int)(h:(Qw x12 x13 x14&&J2 x12)=true):QeU x2 x12 x13 x14=QeV x2 x12 x13 x14:=by
 obtain ⟨h,hc⟩:=Bf.1 h
 obtain ⟨rfl,h3,k,rfl,hk⟩:=Jv h
 clear h
 refine QP x12 (fun k=>QeU x2 x12 (x12.length:Int) (k:Int)=QeV x2 x12 (x12.length:Int) (k:Int)) ?_ ?_ k hk
 ·rw [QxU]
  simp only [Qav,QeV,Qv,BK,BP,Qh,Bb,BF,List.any_nil]
 ·intro k hk ih
  rw [QxU]
  have hv:=Qb1 hc hk
  simp only [Qav,Qv,QM,hk,Bu,Qd,Bb,QO (k:=k),QN (y:=QK) hk,hv,ih]
  simp only [QeV,Bb,Bg hk,List.any_cons,JX,Ve]
  cases exG x12[k]<;>rfl
theorem QOW:LO Qna Qm7 QxS 0:=QC (s:=QeT) fun x y h _ q=>by simp only [QA,QB] at q;exact (QOV x.1 x.2.1 x.2.2.1 x.2.2.2.1 h).trans q
theorem s_f39 (y l d)(h:Ee y l d=true):r_f39 y l d=some (.t tI (WB y l d),[]):=by
 obtain ⟨h1,h2⟩:=Bf.1 h
 have hl:=OL h2
 unfold r_f39 WB
 refine brY h1 ?_
 cases ine (YI y) 0 with
 |true=>rfl
 |false=>
  rw [Qh]
  refine brY (by rw [h2,Jw (by omega)];rfl) ?_
  rw [Bt,Bx]
  show br (YF l) _ _=_
  cases YF l with
  |true=>rfl
  |false=>
   rw [Qh]
   cases ilt d 0 with
   |true=>rfl
   |false=>cases igt d 40000<;>rfl
def Qaw:Ent:=Qm (.pr Q3 (.pr (.sl QK) (.pr tI .nil))) (fun x=>(Ee x.1 x.2.1 x.2.2.1)) (fun x=>(.t tI (WB x.1 x.2.1 x.2.2.1)))
theorem QeW:EM 39 Qaw:=mS (lk:=lkL (lkc QOW lkn)) Qna QxR [((.t 6),some tI)] false (gB (gD QFE (gD QrT gN))) fun m=>Qq m fun x hok=>kT (s_f39 x.1 x.2.1 x.2.2.1 hok)
theorem QOX {y:Ah}{l:List Ae}{w:Ab}{s:Ac}{o:Aa}{d:Int}(h:ine (ZY y l w s o d).2 0=true):(ZY y l w s o d).1=false:=by
 unfold ZY at h ⊢
 cases hq:ine (QZ s o).2 0 with
 |true=>rfl
 |false=>
  rw [hq] at h
  exact Qgn h
def WC (s:Ac)(m:List Aa)(y:Ah)(l:List Ae)(w:Ab)(d:Int):List Aa:=m.filter (XK (rl y l w d) s)
def WD (s:Ac)(m:List Aa)(y:Ah)(l:List Ae)(w:Ab)(_:Int):Bool:=decide (m.length<=1000)&&(QY s&&(JP y&&ZT l w))
def Qax (y:Ah)(l:List Ae)(w:Ab)(s:Ac)(m out:List Aa)(k:Int):Bool:=(JP y&&ZT l w)&&(QY s&&decide (m.length<=1000/\(out.length:Int)<=k))
abbrev QeX:Sh:=⟨[(3,.ty (.sl QK)),(5,.ty tI),(6,.ptr 6 0),(8,.ptr 8 0),(10,.ptr 10 0),(13,.ms 13),(18,.ty (.sl Qe)),(19,.ty tI),(20,.ty tI)],[(6,.box Qp),(8,.box Q3),(10,.box Qn),(13,.arr 108 Qe),(42,.no)]⟩
abbrev QxV:Sh:=⟨[(13,.ms 13)],[(13,.arr 108 Qe),(42,.no)]⟩
def Qnb:Fg:=QeX.f
def QxW:TC:=aF Tryz.f40 [(58,.nw 13 108),(58,pL 0 Qnb),(933,.fg QxV.f)]
def QxX:TC:=lb 0 QxW
def QxY (x3:List Ae)(x5:Int)(x18:List Aa)(x19 x20:Int)(y6:Ac)(y8:Ah)(y10:Ab)(y13:List Aa):VS:=QeX.st (x3,x5,(),(),(),(),x18,x19,x20,()) (y6,y8,y10,y13,(),())
def Qnc (y13:List Aa):VS:=QxV.st ((),()) (y13,(),())
def QOY:VS->Option (Bool×List (Bool×Exit×VS)):=mkL QeX (fun x y=>(Qw x.2.2.2.2.2.2.1 x.2.2.2.2.2.2.2.1 x.2.2.2.2.2.2.2.2.1&&Qax y.2.1 x.1 y.2.2.1 y.1 x.2.2.2.2.2.2.1 y.2.2.2.1 x.2.2.2.2.2.2.2.2.1)) (fun x y=>[(true,.exit 0,Qnc (y.2.2.2.1++(x.2.2.2.2.2.2.1.drop x.2.2.2.2.2.2.2.2.1.toNat).filter (XK (rl y.2.1 x.1 y.2.2.1 x.2.1) y.1)))])
def Qnd:G:=gG 45 [(75,QxO)] (Ls [QOY])
def QeY (x3:List Ae)(x5:Int)(x18:List Aa)(x19 x20:Int)(y6:Ac)(y8:Ah)(y10:Ab)(y13:List Aa):OX:=Qu (Qx Qnd Qnb QxX) (QxY x3 x5 x18 x19 x20 y6 y8 y10 y13)
def Qay (kk:List Ae->Int->List Aa->Int->Int->Ac->Ah->Ab->List Aa->OX)(x3:List Ae)(x5:Int)(x18:List Aa)(x19 x20:Int)(y6:Ac)(y8:Ah)(y10:Ab)(y13:List Aa):OX:=
 let a1:=lgt Qe x18 (Int.toNat x20)
 let a2:=Qi .i64 x20 1
 let a3:=ZY y8 x3 y10 y6 a1 x5
 br (ilt x20 x19) (br (cIx x18 x20) (br (UO y8 x3 y10 y6 a1 x5) (br (ieq (a3.2) 0) (br (a3.1) (br (Qt y13 ([(a1.1,((a1.2).1,()))]) 16) (kk x3 x5 x18 x19 a2 y6 y8 y10 (y13++([(a1.1,((a1.2).1,()))]))) none) (kk x3 x5 x18 x19 a2 y6 y8 y10 y13)) (kk x3 x5 x18 x19 a2 y6 y8 y10 y13)) none) none) (some (.exit 0,Qnc y13))
def QeZ (x3:List Ae)(x5:Int)(x18:List Aa)(x19 x20:Int)(y6:Ac)(y8:Ah)(y10:Ab)(y13:List Aa):OX:=some (.exit 0,Qnc (y13++(x18.drop x20.toNat).filter (XK (rl y8 x3 y10 x5) y6)))
theorem QxZ (x3 x5 x18 x19 x20 y6 y8 y10 y13):QeY x3 x5 x18 x19 x20 y6 y8 y10 y13=Qay QeY x3 x5 x18 x19 x20 y6 y8 y10 y13:=lnT (x:=Qay (fun x3 x5 x18 x19 x20 y6 y8 y10 y13=>some (.normal,QxY x3 x5 x18 x19 x20 y6 y8 y10 y13)) x3 x5 x18 x19 x20 y6 y8 y10 y13) (by simp only [Qay,nxA];rfl)
def r_f40 (p0:Ac)(p1:List Aa)(p2:Ah)(p3:List Ae)(p4:Ab)(p5:Int):OV:=br (Qw p1 (Qb p1) (0:Int)&&Qax p2 p3 p4 p0 p1 ([]:List Aa) (0:Int)) (some (.t (.sl Qe) (([]:List Aa)++(p1.drop (0:Int).toNat).filter (XK (rl p2 p3 p4 p5) p0)),[])) none
theorem QOZ (x3:List Ae)(x5:Int)(x18:List Aa)(x19 x20:Int)(y6:Ac)(y8:Ah)(y10:Ab)(y13:List Aa)(h:(Qw x18 x19 x20&&Qax y8 x3 y10 y6 x18 y13 x20)=true):QeY x3 x5 x18 x19 x20 y6 y8 y10 y13=QeZ x3 x5 x18 x19 x20 y6 y8 y10 y13:=by
 simp only [Qax,Bd,Ba] at h
 obtain ⟨h,⟨r1,r2⟩,g2,g3,g4⟩:=h
 obtain ⟨rfl,h3,k,rfl,hk⟩:=Jv h
 clear h
 revert y13
 refine QP x18 (fun k=> ∀ y13:List Aa,(y13.length:Int)<=(k:Int)->QeY x3 x5 x18 (x18.length:Int) (k:Int) y6 y8 y10 y13=QeZ x3 x5 x18 (x18.length:Int) (k:Int) y6 y8 y10 y13) ?_ ?_ k hk
 ·intro y13 _
  rw [QxZ]
  simp only [Qay,QeZ,Qv,BK,BP,Qh,Bb,BF,List.filter_nil,BH]
 ·intro k hk ih y13 g4
  rw [QxZ]
  have e1: ∀ o,UO y8 x3 y10 y6 o x5=true:=fun _=>Bf.2 ⟨r1,Bf.2 ⟨r2,g2⟩⟩
  have hx:((x18[k].1,(x18[k].2.1,())):Aa)=x18[k]:=rfl
  have e2:Qt y13 [x18[k]] 16=true:=QX (by omega) (by simp only [Bh];omega)
  simp only [Qay,Qv,QM,hk,Bu,Qd,Bb,QO (k:=k),e1,QN (y:=Qe) hk,hx,e2]
  rw [ih (y13++[x18[k]]) (by simp only [Bj,Bh];omega),ih y13 (by omega)]
  simp only [QeZ,Bb,Bg hk,DU]
  have hb:XK (rl y8 x3 y10 x5) y6 x18[k]=(ZY y8 x3 y10 y6 x18[k] x5).1:=rfl
  rw [hb]
  cases hq:ieq (ZY y8 x3 y10 y6 x18[k] x5).2 0 with
  |false=>
   have hn:ine (ZY y8 x3 y10 y6 x18[k] x5).2 0=true:=by
    unfold ine bne
    have hq:((ZY y8 x3 y10 y6 x18[k] x5).2==0)=false:=hq
    rw [hq]
    rfl
   rw [QOX hn,Qh]
   simp only [BE,Dc]
  |true=>
   rw [Qd]
   cases (ZY y8 x3 y10 y6 x18[k] x5).1 with
   |true=>simp only [Qd,if_true,BG,BD]
   |false=>simp only [Qh,BE,Dc]
theorem QO0:LO Qnd Qnb QxX 0:=QC (s:=QeX) fun x y h _ q=>by simp only [QA,QB] at q;exact (QOZ x.1 x.2.1 x.2.2.2.2.2.2.1 x.2.2.2.2.2.2.2.1 x.2.2.2.2.2.2.2.2.1 y.1 y.2.1 y.2.2.1 y.2.2.2.1 h).trans q
theorem s_f40 (s m y l w d)(h:WD s m y l w d=true):r_f40 s m y l w d=some (.t (.sl Qe) (WC s m y l w d),[]):=by
 obtain ⟨h1,h2⟩:=Bf.1 h
 obtain ⟨h3,h4⟩:=Bf.1 h2
 have h1:m.length<=1000:=Bw h1
 unfold r_f40 WC
 refine brY ?_ ?_
 ·rw [Jw (by omega),By]
  unfold Qax
  rw [h4,By]
  exact Bf.2 ⟨h3,Bc ⟨h1,by simp⟩⟩
 ·rw [Bt,Bx,BM]
def Qaz:Ent:=Qm (.pr Qp (.pr (.sl Qe) (.pr Q3 (.pr (.sl QK) (.pr Qn (.pr tI .nil)))))) (fun x=>(WD x.1 x.2.1 x.2.2.1 x.2.2.2.1 x.2.2.2.2.1 x.2.2.2.2.2.1)) (fun x=>(.t (.sl Qe) (WC x.1 x.2.1 x.2.2.1 x.2.2.2.1 x.2.2.2.2.1 x.2.2.2.2.2.1)))
theorem Qe0:EM 40 Qaz:=mS (lk:=lkL (lkc QO0 lkn)) Qnd QxW [((.t 12),some (.sl Qe))] false (gB (gD ms_f75 gN)) fun m=>Qq m fun x hok=>kT (s_f40 x.1 x.2.1 x.2.2.1 x.2.2.2.1 x.2.2.2.2.1 x.2.2.2.2.2.1 hok)
def Zk (e:Ad)(i:Int):List Aa:=(Q9 e i).1
def tc_f42:TC:=aF Tryz.f42 [(14,pE [[2],[2],[5],[5],[],[],[2],[2],[5],[5],[],[],[],[]] (oN 14))]
def g_f42:G:=gG 24 [(76,QAS)] (fun _ _=>none)
def r_f42 (p0:Ad)(p1:Int):OV:=
 let a1:=lgt Qe p0.2.1 (Int.toNat p1)
 let a2:=lgt Qp p0.1 (Int.toNat ((a1.2).1))
 let a3:=lgt Qp p0.1 (Int.toNat (a1.1))
 br (cIx p0.2.1 p1) (br (cIx p0.1 (a1.1)) (br (cIx p0.1 ((a1.2).1)) (br (WZ a3 a2) (some (.t (.sl Qe) (Xo a3 a2),[])) none) none) none) none
theorem s_f42 (e i)(h:JC e i=true):r_f42 e i=some (.t (.sl Qe) (Zk e i),[]):=by
 simp only [JC,Fe,Bd] at h
 obtain ⟨⟨h1,h2,h3⟩,h4⟩:=h
 exact brY h1 (brY h2 (brY h3 (brY h4 rfl)))
def QaA:Ent:=Qm (.pr Qo (.pr tI .nil)) (fun x=>(JC x.1 x.2.1)) (fun x=>(.t (.sl Qe) (Zk x.1 x.2.1)))
theorem Qe1:EM 42 QaA:=mS g_f42 tc_f42 [((.t 4),some (.sl Qe))] false (gB (gD ms_f76 gN)) fun m=>Qq m fun x hok=>kT (s_f42 x.1 x.2.1 hok)
def Jt (e:Ad)(i:Int):Ac:=(Q9 e i).2
def tc_f41:TC:=aF Tryz.f41 [(6,pE [[2],[2],[2],[2],[],[],[],[],[],[],[4]] (oN 11))]
def g_f41:G:=gG 15 [] (fun _ _=>none)
def r_f41 (p0:Ad)(p1:Int):OV:=
 let a1:=(((lgt Qe p0.2.1 (Int.toNat p1)).2).1)
 br (cIx p0.2.1 p1) (br (cIx p0.1 a1) (some (.t Qp (lgt Qp p0.1 (Int.toNat a1)),[])) none) none
theorem s_f41 (e i)(h:JC e i=true):r_f41 e i=some (.t Qp (Jt e i),[]):=by
 simp only [JC,Fe,Bd] at h
 obtain ⟨⟨h1,h2,h3⟩,h4⟩:=h
 exact brY h1 (brY h3 rfl)
def II:Ent:=Qm (.pr Qo (.pr tI .nil)) (fun x=>(JC x.1 x.2.1)) (fun x=>(.t Qp (Jt x.1 x.2.1)))
theorem QaB:EM 41 II:=mS g_f41 tc_f41 [((.c 4 true 9),some Qp)] false (gB gN) fun m=>Qq m fun x hok=>kT (s_f41 x.1 x.2.1 hok)
theorem Qe2 (y:Ah)(l:List Ae)(o:Ab)(d:Int):WB y l d=JE (rl y l o d):=rfl
theorem QaC {e:Ad}{i:Int}{y:Ah}{l:List Ae}{o:Ab}{d:Int}(h:JC e i=true)(hr:ZS (rl y l o d)=true):WD (Jt e i) (Zk e i) y l o d=true:=by
 obtain ⟨h3,h4⟩:=Bf.1 h
 have hs:QY (We e i).2=true:=(Bf.1 h4).2
 have hl:(Q9 e i).1.length<=64:=F3
 exact Bf.2 ⟨Bc (show (Q9 e i).1.length<=1000 by omega),Bf.2 ⟨hs,hr⟩⟩
theorem Qe3 {y:Ah}{l:List Ae}{o:Ab}{d:Int}(hr:ZS (rl y l o d)=true):Ee y l d=true:=by
 obtain ⟨h1,h2⟩:=Bf.1 hr
 exact Bf.2 ⟨h1,(Bf.1 h2).1⟩
def tc_f16:TC:=aF Tryz.f16 [(62,pE [[6],[],[],[6],[],[],[7],[],[9],[],[],[],[]] (oN 13))]
def g_f16:G:=gG 45 [(38,QcF),(39,Qaw),(40,Qaz),(41,II),(42,QaA)] (fun _ _=>none)
def r_f16 (p0:Ad)(p1:Ah)(p2:List Ae)(p3:Ab)(p4 p5:Int):OV:=br (Jh p0) (br (ine (Ye p0) 0) (some (.tu [(.t (.sl Qe) ([]:List Aa)),(.t tI 31)],[])) (br (Ee p1 p2 p5) (br (ine (WB p1 p2 p5) 0) (some (.tu [(.t (.sl Qe) ([]:List Aa)),(.t tI (WB p1 p2 p5))],[])) (br (ilt p4 0) (some (.tu [(.t (.sl Qe) ([]:List Aa)),(.t tI 4)],[])) (br (ige p4 (Qb p0.2.1)) (some (.tu [(.t (.sl Qe) ([]:List Aa)),(.t tI 4)],[])) (br (JC p0 p4) (br (JC p0 p4) (br (WD (Jt p0 p4) (Zk p0 p4) p1 p2 p3 p5) (some (.tu [(.t (.sl Qe) (WC (Jt p0 p4) (Zk p0 p4) p1 p2 p3 p5)),(.t tI 0)],[])) none) none) none)))) none)) none
theorem s_f16 (e y l o i d)(h:Eh e y l o i d=true):r_f16 e y l o i d=some (.tu [.t (.sl Qe) (Y4 e y l o i d).1,.t tI (Y4 e y l o i d).2],[]):=by
 obtain ⟨h1,h2⟩:=Bf.1 h
 unfold r_f16 Y4
 refine brY h1 ?_
 rw [FM]
 cases ho:JQ e with
 |false=>rfl
 |true=>
  rw [BA,Qh]
  refine brY (Qe3 h2) ?_
  rw [Qe2 y l o d]
  cases ine (JE (rl y l o d)) 0 with
  |true=>rfl
  |false=>
   rw [Qh]
   cases h3:ilt i 0 with
   |true=>rfl
   |false=>
    rw [Qh]
    cases h4:ige i (Qb e.2.1) with
    |true=>rfl
    |false=>
     rw [Qh]
     have h3:=Dp h3
     have h4:=Dp h4
     simp only [Qb] at h4
     have hp:JC e i=true:=Y3 ho h1 (by omega) (by omega)
     exact brY hp (brY hp (brY (QaC hp h2) rfl))
def Qx0:Ent:=Qm (.pr Qo (.pr Q3 (.pr (.sl QK) (.pr Qn (.pr tI (.pr tI .nil)))))) (fun x=>(Eh x.1 x.2.1 x.2.2.1 x.2.2.2.1 x.2.2.2.2.1 x.2.2.2.2.2.1)) (fun x=>(.tu [(.t (.sl Qe) ((Y4 x.1 x.2.1 x.2.2.1 x.2.2.2.1 x.2.2.2.2.1 x.2.2.2.2.2.1).1)),(.t tI ((Y4 x.1 x.2.1 x.2.2.1 x.2.2.2.1 x.2.2.2.2.1 x.2.2.2.2.2.1).2))]))
theorem ms_f16:EM 16 Qx0:=mS g_f16 tc_f16 [((.t 12),some (.sl Qe)),((.t 13),some tI)] false (gB (gD Qjc (gD QeW (gD Qe0 (gD QaB (gD Qe1 gN)))))) fun m=>Qq m fun x hok=>kT (s_f16 x.1 x.2.1 x.2.2.1 x.2.2.2.1 x.2.2.2.2.1 x.2.2.2.2.2.1 hok)
def Qe4 (n i:Int)(a b:Ad):Bool:=decide (n=a.2.1.length/\0<=i/\i<=n/\a.2.1.length=b.2.1.length/\n<=1000)
abbrev Qe5:Sh:=⟨[(2,.ptr 2 0),(3,.ptr 3 0),(23,.ty tI),(24,.ty tI)],[(2,.box Qo),(3,.box Qo)]⟩
abbrev Qx1:Sh:=⟨[(4,.ty tI)],[]⟩
abbrev Qe6:Sh:=⟨[],[]⟩
def Qne:Fg:=Qe5.f
def Qx2:TC:=aF Tryz.f45 [(122,pL 0 Qne),(1957,.fg Qe6.f),(15666,pE [[2],[2],[],[],[],[3],[3],[],[],[],[]] (oN 11)),(62669,.fg Qx1.f)]
def Qx3:TC:=lb 0 Qx2
def Qx4 (x23 x24:Int)(y2 y3:Ad):VS:=Qe5.st ((),(),x23,x24,()) (y2,y3,())
def Qnf (x4:Int):VS:=Qx1.st (x4,()) ()
def Qng  : VS:=Qe6.st () ()
def QO1:VS->Option (Bool×List (Bool×Exit×VS)):=mkL Qe5 (fun x y=>(Qe4 x.2.2.1 x.2.2.2.1 y.1 y.2.1)) (fun x y=>[((!(y.1.2.1.drop x.2.2.2.1.toNat==y.2.1.2.1.drop x.2.2.2.1.toNat)),.ret,Qnf (42)),(true,.exit 0,Qng)])
def Qnh:G:=gG 39 [(38,QcF)] (Ls [QO1])
def Qe7 (x23 x24:Int)(y2 y3:Ad):OX:=Qu (Qx Qnh Qne Qx3) (Qx4 x23 x24 y2 y3)
def QaD (kk:Int->Int->Ad->Ad->OX)(x23 x24:Int)(y2 y3:Ad):OX:=
 let a1:=Int.toNat x24
 br (ilt x24 x23) (br (cIx y2.2.1 x24) (br (cIx y3.2.1 x24) (br (!(and (ieq ((lgt Qe y2.2.1 a1).1) ((lgt Qe y3.2.1 a1).1)) (and (ieq (((lgt Qe y2.2.1 a1).2).1) (((lgt Qe y3.2.1 a1).2).1)) true))) (some (.ret,Qnf 42)) (kk x23 (Qi .i64 x24 1) y2 y3)) none) none) (some (.exit 0,Qng))
def Qe8 (x23 x24:Int)(y2 y3:Ad):OX:=br (!(y2.2.1.drop x24.toNat==y3.2.1.drop x24.toNat)) (some (.ret,Qnf (42)))<|some (.exit 0,Qng)
theorem Qx5 (x23 x24 y2 y3):Qe7 x23 x24 y2 y3=QaD Qe7 x23 x24 y2 y3:=lnT (x:=QaD (fun x23 x24 y2 y3=>some (.normal,Qx4 x23 x24 y2 y3)) x23 x24 y2 y3) (by simp only [QaD,nxA];rfl)
def r_f45 (p0 p1:Ad):OV:=br (Jh p0) (br (ine (Ye p0) 0) (some (.t tI 31,[])) (br (Jh p1) (br (ine (Ye p1) 0) (some (.t tI 31,[])) (br (ine (Qb p0.2.1) (Qb p1.2.1)) (some (.t tI 42,[])) (br (Qe4 (Qb p0.2.1) (0:Int) p0 p1) (br (!(p0.2.1.drop (0:Int).toNat==p1.2.1.drop (0:Int).toNat)) (some (.t tI (42),[])) (some (.t tI 0,[]))) none))) none)) none
theorem QO2 (x23 x24:Int)(y2 y3:Ad)(h:(Qe4 x23 x24 y2 y3)=true):Qe7 x23 x24 y2 y3=Qe8 x23 x24 y2 y3:=by
 simp only [Qe4,Ba] at h
 obtain ⟨rfl,h0,h1,h2,h3⟩:=h
 obtain ⟨k,rfl⟩:=Bm h0
 refine QP y2.2.1 (fun k=>Qe7 (y2.2.1.length:Int) (k:Int) y2 y3=Qe8 (y2.2.1.length:Int) (k:Int) y2 y3) ?_ ?_ k (by omega)
 ·rw [Qx5]
  simp only [QaD,Qe8,Qv,BK,BP,Qh,Bb,BF]
  rw [h2,BF]
  rfl
 ·intro k hk ih
  rw [Qx5]
  have hk2:k<y3.2.1.length:=by omega
  have hq:(and (ieq y2.2.1[k].1 y3.2.1[k].1) (and (ieq y2.2.1[k].2.1 y3.2.1[k].2.1) true))=(y2.2.1[k]==y3.2.1[k]):=rfl
  simp only [QaD,Qv,QM,hk,hk2,Bu,Qd,Bb,QO (k:=k),QN (y:=Qe) hk,QN (y:=Qe) hk2,ih]
  rw [hq]
  simp only [Qe8,Bb,Bg hk,Bg hk2,List.cons_beq_cons]
  cases y2.2.1[k]==y3.2.1[k]<;>rfl
theorem QO3:LO Qnh Qne Qx3 0:=QC (s:=Qe5) fun x y h _ q=>by simp only [QA,QB] at q;exact (QO2 x.2.2.1 x.2.2.2.1 y.1 y.2.1 h).trans q
theorem s_f45 (a b)(h:WI a b=true):r_f45 a b=some (.t tI (JO a b),[]):=by
 obtain ⟨h1,h2⟩:=Bf.1 h
 unfold r_f45 JO
 refine brY h1 ?_
 rw [FM]
 cases g1:JQ a with
 |false=>rfl
 |true=>
  rw [BA,Qh]
  refine brY h2 ?_
  rw [FM]
  cases g2:JQ b with
  |false=>rfl
  |true=>
   rw [BA,Qh]
   have p1:a.2.1.length<=40:=(WG g1).2.2.2.2.2
   unfold UK
   cases hl:ine (Qb a.2.1) (Qb b.2.1) with
   |true=>
    have hn:a.2.1.length≠b.2.1.length:=by
     simp only [ine,Qb,bne_iff_ne,ne_eq] at hl
     omega
    have:(a.2.1==b.2.1)=false:=by
     rw [Dv]
     intro e
     exact hn (by rw [e])
    rw [Qd,this]
    rfl
   |false=>
    have hn:a.2.1.length=b.2.1.length:=by
     simp only [ine,Qb,DM] at hl
     omega
    rw [Qh]
    refine brY (Bc ⟨rfl,BY 0,by simp only [Qb];omega,hn,by simp only [Qb];omega⟩) ?_
    rw [Bt,Bx,Bx]
    cases a.2.1==b.2.1<;>rfl
def Qe9:Ent:=Qm (.pr Qo (.pr Qo .nil)) (fun x=>(WI x.1 x.2.1)) (fun x=>(.t tI (JO x.1 x.2.1)))
theorem Qni:EM 45 Qe9:=mS (lk:=lkL (lkc QO3 lkn)) Qnh Qx2 [((.t 4),some tI)] false (gB (gD Qjc gN)) fun m=>Qq m fun x hok=>kT (s_f45 x.1 x.2.1 hok)
abbrev Qfa:Sh:=⟨[(2,.ty (.sl QK)),(4,.ty tI),(5,.ptr 5 0),(6,.ptr 6 0),(8,.ptr 8 0),(13,.ms 13),(27,.ty tI),(28,.ty tI)],[(5,.box Qo),(6,.box Q3),(8,.box Qn),(13,.arr 3 tI),(47,.no)]⟩
abbrev Qx6:Sh:=⟨[(13,.ms 13)],[(13,.arr 3 tI),(47,.no)]⟩
def Qnj:Fg:=Qfa.f
def Qx7:TC:=aF Tryz.f25 [(250,.nw 13 3),(250,pL 0 Qnj),(4005,.fg Qx6.f),(32050,pE [[5],[],[],[5],[],[],[6],[],[8],[],[],[],[]] (oN 13))]
def Qx8:TC:=lb 0 Qx7
def Qx9 (x2:List Ae)(x4 x27 x28:Int)(y5:Ad)(y6:Ah)(y8:Ab)(y13:List Int):VS:=Qfa.st (x2,x4,(),(),(),(),x27,x28,()) (y5,y6,y8,y13,(),())
def Qnk (y13:List Int):VS:=Qx6.st ((),()) (y13,(),())
def QO4:VS->Option (Bool×List (Bool×Exit×VS)):=mkL Qfa (fun x y=>(Uu x.2.2.2.2.2.2.1 x.2.2.2.2.2.2.2.1 y.1 (rl y.2.1 x.1 y.2.2.1 x.2.1) y.2.2.2.1)) (fun x y=>[(true,.exit 0,Qnk (y.2.2.2.1++Zn (clB (rl y.2.1 x.1 y.2.2.1 x.2.1) y.1) (x.2.2.2.2.2.2.1-x.2.2.2.2.2.2.2.1).toNat x.2.2.2.2.2.2.2.1))])
def Qnl:G:=gG 50 [(38,QcF),(39,Qaw),(40,Qaz),(41,II),(42,QaA)] (Ls [QO4])
def Qnm (x2:List Ae)(x4 x27 x28:Int)(y5:Ad)(y6:Ah)(y8:Ab)(y13:List Int):OX:=Qu (Qx Qnl Qnj Qx8) (Qx9 x2 x4 x27 x28 y5 y6 y8 y13)
def QaE (kk:List Ae->Int->Int->Int->Ad->Ah->Ab->List Int->OX)(x2:List Ae)(x4 x27 x28:Int)(y5:Ad)(y6:Ah)(y8:Ab)(y13:List Int):OX:=br (ilt x28 x27) (br (JC y5 x28) (br (JC y5 x28) (br (WD (Jt y5 x28) (Zk y5 x28) y6 x2 y8 x4) (br (ieq (Qb (WC (Jt y5 x28) (Zk y5 x28) y6 x2 y8 x4)) 0) (br (Qt y13 ([x28]) 8) (kk x2 x4 x27 (Qi .i64 x28 1) y5 y6 y8 (y13++([x28]))) none) (kk x2 x4 x27 (Qi .i64 x28 1) y5 y6 y8 y13)) none) none) none) (some (.exit 0,Qnk y13))
def Qnn (x2:List Ae)(x4 x27 x28:Int)(y5:Ad)(y6:Ah)(y8:Ab)(y13:List Int):OX:=some (.exit 0,Qnk (y13++Zn (clB (rl y6 x2 y8 x4) y5) (x27-x28).toNat x28))
theorem Qya (x2 x4 x27 x28 y5 y6 y8 y13):Qnm x2 x4 x27 x28 y5 y6 y8 y13=QaE Qnm x2 x4 x27 x28 y5 y6 y8 y13:=lnT (x:=QaE (fun x2 x4 x27 x28 y5 y6 y8 y13=>some (.normal,Qx9 x2 x4 x27 x28 y5 y6 y8 y13)) x2 x4 x27 x28 y5 y6 y8 y13) (by simp only [QaE,nxA];rfl)
def r_f25 (p0:Ad)(p1:Ah)(p2:List Ae)(p3:Ab)(p4:Int):OV:=br (Jh p0) (br (ine (Ye p0) 0) (some (.tu [(.t (.sl tI) ([]:List Int)),(.t tI 31)],[])) (br (Ee p1 p2 p4) (br (ine (WB p1 p2 p4) 0) (some (.tu [(.t (.sl tI) ([]:List Int)),(.t tI (WB p1 p2 p4))],[])) (br (Uu (Qb p0.2.1) (0:Int) p0 (rl p1 p2 p3 p4) ([]:List Int)) (some (.tu [(.t (.sl tI) (([]:List Int)++Zn (clB (rl p1 p2 p3 p4) p0) ((Qb p0.2.1)-(0:Int)).toNat (0:Int))),(.t tI 0)],[])) none)) none)) none
theorem QO5 (x2:List Ae)(x4 x27 x28:Int)(y5:Ad)(y6:Ah)(y8:Ab)(y13:List Int)(h:(Uu x27 x28 y5 (rl y6 x2 y8 x4) y13)=true):Qnm x2 x4 x27 x28 y5 y6 y8 y13=Qnn x2 x4 x27 x28 y5 y6 y8 y13:=by
 simp only [Uu,Bd,Ba] at h
 obtain ⟨a1,a2,hr,h0,h1,h2,h4⟩:=h
 have hle:y5.2.1.length<=40:=(WG a1).2.2.2.2.2
 obtain ⟨m,hm⟩: ∃ m:Nat,(x27-x28).toNat=m:=⟨_,rfl⟩
 induction m generalizing x28 y13 with
 |zero=>
  have:ilt x28 x27=false:=Bn (by omega)
  rw [Qya]
  simp only [QaE,Qnn,this,Qh,hm,Zn,BH]
 |succ m ih=>
  have e0:ilt x28 x27=true:=Bc (by omega)
  have e1:Qi .i64 x28 1=x28+1:=Ja (by omega)
  have hp:JC y5 x28=true:=Y3 a1 a2 h0 (by omega)
  have e2:WD (Jt y5 x28) (Zk y5 x28) y6 x2 y8 x4=true:=QaC hp hr
  have e5:Qt y13 [x28] 8=true:=QX (by decide) (by simp only [Bh];omega)
  have e6:(x27-(x28+1)).toNat=m:=by omega
  rw [Qya]
  simp only [QaE,e0,e1,hp,e2,e5,Qd]
  rw [ih (x28+1) (y13++[x28]) (by omega) (by omega) (by simp only [Bj,Bh];omega) (by omega),ih (x28+1) y13 (by omega) (by omega) (by omega) (by omega)]
  simp only [Qnn,hm,e6,Zn]
  show br (clB (rl y6 x2 y8 x4) y5 x28) _ _=_
  cases clB (rl y6 x2 y8 x4) y5 x28 with
  |true=>simp only [Qd,B6,BG,BD]
  |false=>simp only [Qh,BW]
theorem QO6:LO Qnl Qnj Qx8 0:=QC (s:=Qfa) fun x y h _ q=>by simp only [QA,QB] at q;exact (QO5 x.1 x.2.1 x.2.2.2.2.2.2.1 x.2.2.2.2.2.2.2.1 y.1 y.2.1 y.2.2.1 y.2.2.2.1 h).trans q
theorem s_f25 (e y l o d)(h:E9 e y l o d=true):r_f25 e y l o d=some (.tu [.t (.sl tI) (Xg e y l o d).1,.t tI (Xg e y l o d).2],[]):=by
 obtain ⟨h1,h2⟩:=Bf.1 h
 unfold r_f25 Xg
 refine brY h1 ?_
 rw [FM]
 cases ho:JQ e with
 |false=>rfl
 |true=>
  rw [BA,Qh]
  refine brY (Qe3 h2) ?_
  rw [Qe2 y l o d]
  cases ine (JE (rl y l o d)) 0 with
  |true=>rfl
  |false=>
   rw [Qh]
   have e:((Qb e.2.1)-0).toNat=e.2.1.length:=by simp only [Qb];omega
   refine brY ?_ ?_
   ·unfold Uu
    rw [ho,h1,h2]
    exact Bc ⟨BY 0,by simp only [Qb];omega,rfl,by simp⟩
   ·rw [e,BM]
    rfl
def Qyb:Ent:=Qm (.pr Qo (.pr Q3 (.pr (.sl QK) (.pr Qn (.pr tI .nil))))) (fun x=>(E9 x.1 x.2.1 x.2.2.1 x.2.2.2.1 x.2.2.2.2.1)) (fun x=>(.tu [(.t (.sl tI) ((Xg x.1 x.2.1 x.2.2.1 x.2.2.2.1 x.2.2.2.2.1).1)),(.t tI ((Xg x.1 x.2.1 x.2.2.1 x.2.2.2.1 x.2.2.2.2.1).2))]))
theorem ms_f25:EM 25 Qyb:=mS (lk:=lkL (lkc QO6 lkn)) Qnl Qx7 [((.t 10),some (.sl tI)),((.t 11),some tI)] false (gB (gD Qjc (gD QeW (gD Qe0 (gD QaB (gD Qe1 gN)))))) fun m=>Qq m fun x hok=>kT (s_f25 x.1 x.2.1 x.2.2.1 x.2.2.2.1 x.2.2.2.2.1 hok)
abbrev Qfb:Sh:=⟨[(3,.ty (.sl QK)),(5,.ty tI),(6,.ptr 6 0),(7,.ptr 7 0),(8,.ptr 8 0),(10,.ptr 10 0),(17,.ty tI),(18,.ty tI),(35,.ty tI),(36,.ty tI)],[(6,.box Qo),(7,.box Qo),(8,.box Q3),(10,.box Qn)]⟩
abbrev Qyc:Sh:=⟨[(17,.ty tI),(18,.ty tI)],[]⟩
def Qno:Fg:=Qfb.f
def Qyd:TC:=aF Tryz.f23 [(250,pL 0 Qno),(4005,.fg Qyc.f),(32050,pE [[],[6],[],[],[6],[],[],[8],[],[10],[],[],[],[],[]] (oN 15)),(32051,pE [[],[7],[],[],[7],[],[],[8],[],[10],[],[],[],[],[]] (oN 15))]
def Qye:TC:=lb 0 Qyd
def Qyf (x3:List Ae)(x5 x17 x18 x35 x36:Int)(y6 y7:Ad)(y8:Ah)(y10:Ab):VS:=Qfb.st (x3,x5,(),(),(),(),x17,x18,x35,x36,()) (y6,y7,y8,y10,())
def Qnp (x17 x18:Int):VS:=Qyc.st (x17,x18,()) ()
def QO7:VS->Option (Bool×List (Bool×Exit×VS)):=mkL Qfb (fun x y=>(Uv x.2.2.2.2.2.2.2.2.1 x.2.2.2.2.2.2.2.2.2.1 y.1 y.2.1 (rl y.2.2.1 x.1 y.2.2.2.1 x.2.1) x.2.2.2.2.2.2.1 x.2.2.2.2.2.2.2.1)) (fun x y=>[(true,.exit 0,Qnp (Z5 (Js (rl y.2.2.1 x.1 y.2.2.2.1 x.2.1) y.1) (x.2.2.2.2.2.2.2.2.1-x.2.2.2.2.2.2.2.2.2.1).toNat x.2.2.2.2.2.2.2.2.2.1 x.2.2.2.2.2.2.1) (Z5 (Js (rl y.2.2.1 x.1 y.2.2.2.1 x.2.1) y.2.1) (x.2.2.2.2.2.2.2.2.1-x.2.2.2.2.2.2.2.2.2.1).toNat x.2.2.2.2.2.2.2.2.2.1 x.2.2.2.2.2.2.2.1))])
def Qnq:G:=gG 70 [(39,Qaw),(40,Qaz),(41,II),(42,QaA),(45,Qe9)] (Ls [QO7])
def Qnr (x3:List Ae)(x5 x17 x18 x35 x36:Int)(y6 y7:Ad)(y8:Ah)(y10:Ab):OX:=Qu (Qx Qnq Qno Qye) (Qyf x3 x5 x17 x18 x35 x36 y6 y7 y8 y10)
def QaF (kk:List Ae->Int->Int->Int->Int->Int->Ad->Ad->Ah->Ab->OX)(x3:List Ae)(x5 x17 x18 x35 x36:Int)(y6 y7:Ad)(y8:Ah)(y10:Ab):OX:=br (ilt x36 x35) (br (JC y6 x36) (br (JC y6 x36) (br (WD (Jt y6 x36) (Zk y6 x36) y8 x3 y10 x5) (br (JC y7 x36) (br (JC y7 x36) (br (WD (Jt y7 x36) (Zk y7 x36) y8 x3 y10 x5) (kk x3 x5 (Qi .i64 x17 (Qb (WC (Jt y6 x36) (Zk y6 x36) y8 x3 y10 x5))) (Qi .i64 x18 (Qb (WC (Jt y7 x36) (Zk y7 x36) y8 x3 y10 x5))) x35 (Qi .i64 x36 1) y6 y7 y8 y10) none) none) none) none) none) none) (some (.exit 0,Qnp x17 x18))
def Qns (x3:List Ae)(x5 x17 x18 x35 x36:Int)(y6 y7:Ad)(y8:Ah)(y10:Ab):OX:=some (.exit 0,Qnp (Z5 (Js (rl y8 x3 y10 x5) y6) (x35-x36).toNat x36 x17) (Z5 (Js (rl y8 x3 y10 x5) y7) (x35-x36).toNat x36 x18))
theorem Qyg (x3 x5 x17 x18 x35 x36 y6 y7 y8 y10):Qnr x3 x5 x17 x18 x35 x36 y6 y7 y8 y10=QaF Qnr x3 x5 x17 x18 x35 x36 y6 y7 y8 y10:=lnT (x:=QaF (fun x3 x5 x17 x18 x35 x36 y6 y7 y8 y10=>some (.normal,Qyf x3 x5 x17 x18 x35 x36 y6 y7 y8 y10)) x3 x5 x17 x18 x35 x36 y6 y7 y8 y10) (by simp only [QaF,nxA];rfl)
def r_f23 (p0 p1:Ad)(p2:Ah)(p3:List Ae)(p4:Ab)(p5:Int):OV:=
 let a1:=rl p2 p3 p4 p5
 br (WI p0 p1) (br (ine (JO p0 p1) 0) (some (.tu [(.t tI 0),(.t tI 0),(.t tI (JO p0 p1))],[])) (br (Ee p2 p3 p5) (br (ine (WB p2 p3 p5) 0) (some (.tu [(.t tI 0),(.t tI 0),(.t tI (WB p2 p3 p5))],[])) (br (Uv (Qb p0.2.1) (0:Int) p0 p1 a1 (0:Int) (0:Int)) (some (.tu [(.t tI (Z5 (Js a1 p0) ((Qb p0.2.1)-(0:Int)).toNat (0:Int) (0:Int))),(.t tI (Z5 (Js a1 p1) ((Qb p0.2.1)-(0:Int)).toNat (0:Int) (0:Int))),(.t tI 0)],[])) none)) none)) none
theorem QO8 (x3:List Ae)(x5 x17 x18 x35 x36:Int)(y6 y7:Ad)(y8:Ah)(y10:Ab)(h:(Uv x35 x36 y6 y7 (rl y8 x3 y10 x5) x17 x18)=true):Qnr x3 x5 x17 x18 x35 x36 y6 y7 y8 y10=Qns x3 x5 x17 x18 x35 x36 y6 y7 y8 y10:=by
 simp only [Uv,Bd,Ba] at h
 obtain ⟨a1,a2,b1,b2,hr,h0,h1,h2,h3,h4,h5,h6,h7⟩:=h
 have hle:y6.2.1.length<=40:=(WG a1).2.2.2.2.2
 obtain ⟨m,hm⟩: ∃ m:Nat,(x35-x36).toNat=m:=⟨_,rfl⟩
 induction m generalizing x36 x17 x18 with
 |zero=>
  have:ilt x36 x35=false:=Bn (by omega)
  rw [Qyg]
  simp only [QaF,Qns,this,Qh,hm,Z5]
 |succ m ih=>
  have e0:ilt x36 x35=true:=Bc (by omega)
  have e1:Qi .i64 x36 1=x36+1:=Ja (by omega)
  have p1:JC y6 x36=true:=Y3 a1 a2 h0 (by omega)
  have p2:JC y7 x36=true:=Y3 b1 b2 h0 (by omega)
  have e2:WD (Jt y6 x36) (Zk y6 x36) y8 x3 y10 x5=true:=QaC p1 hr
  have e3:WD (Jt y7 x36) (Zk y7 x36) y8 x3 y10 x5=true:=QaC p2 hr
  have l1:0<=Js (rl y8 x3 y10 x5) y6 x36/\Js (rl y8 x3 y10 x5) y6 x36<=64:=by have:=IU (rl y8 x3 y10 x5) y6 x36;simp only [Js,Qb];omega
  have l2:0<=Js (rl y8 x3 y10 x5) y7 x36/\Js (rl y8 x3 y10 x5) y7 x36<=64:=by have:=IU (rl y8 x3 y10 x5) y7 x36;simp only [Js,Qb];omega
  have e4:Qi .i64 x17 (Qb (WC (Jt y6 x36) (Zk y6 x36) y8 x3 y10 x5))=x17+Js (rl y8 x3 y10 x5) y6 x36:=Ja (by show _<=x17+Js (rl y8 x3 y10 x5) y6 x36/\x17+Js (rl y8 x3 y10 x5) y6 x36<=_;omega)
  have e5:Qi .i64 x18 (Qb (WC (Jt y7 x36) (Zk y7 x36) y8 x3 y10 x5))=x18+Js (rl y8 x3 y10 x5) y7 x36:=Ja (by show _<=x18+Js (rl y8 x3 y10 x5) y7 x36/\x18+Js (rl y8 x3 y10 x5) y7 x36<=_;omega)
  have e6:(x35-(x36+1)).toNat=m:=by omega
  rw [Qyg]
  simp only [QaF,e0,e1,p1,p2,e2,e3,e4,e5,Qd]
  rw [ih (x17+Js (rl y8 x3 y10 x5) y6 x36) (x18+Js (rl y8 x3 y10 x5) y7 x36) (x36+1) (by omega) (by omega) (by omega) (by omega) (by omega) (by omega) (by omega)]
  simp only [Qns,hm,e6,Z5]
theorem QO9:LO Qnq Qno Qye 0:=QC (s:=Qfb) fun x y h _ q=>by simp only [QA,QB] at q;exact (QO8 x.1 x.2.1 x.2.2.2.2.2.2.1 x.2.2.2.2.2.2.2.1 x.2.2.2.2.2.2.2.2.1 x.2.2.2.2.2.2.2.2.2.1 y.1 y.2.1 y.2.2.1 y.2.2.2.1 h).trans q
theorem s_f23 (b a y l o d)(h:Ut b a y l o d=true):r_f23 b a y l o d=some (.tu [.t tI (Xy b a y l o d).1,.t tI (Xy b a y l o d).2.1,.t tI (Xy b a y l o d).2.2],[]):=by
 obtain ⟨h1,h2⟩:=Bf.1 h
 obtain ⟨l1,l2⟩:=Bf.1 h1
 unfold r_f23 Xy
 refine brY h1 ?_
 cases hb:ine (JO b a) 0 with
 |true=>rfl
 |false=>
  obtain ⟨o1,o2,he⟩:=Ei hb
  rw [Qh]
  refine brY (Qe3 h2) ?_
  rw [Qe2 y l o d]
  cases ine (JE (rl y l o d)) 0 with
  |true=>rfl
  |false=>
   rw [Qh]
   have e:((Qb b.2.1)-0).toNat=b.2.1.length:=by simp only [Qb];omega
   refine brY ?_ ?_
   ·unfold Uv
    rw [o1,o2,l1,l2,h2]
    exact Bc ⟨BY 0,by simp only [Qb];omega,rfl,by rw [<-he],by omega,by omega,by omega,by omega⟩
   ·rw [e]
    rfl
def Qyh:Ent:=Qm (.pr Qo (.pr Qo (.pr Q3 (.pr (.sl QK) (.pr Qn (.pr tI .nil)))))) (fun x=>(Ut x.1 x.2.1 x.2.2.1 x.2.2.2.1 x.2.2.2.2.1 x.2.2.2.2.2.1)) (fun x=>(.tu [(.t tI ((Xy x.1 x.2.1 x.2.2.1 x.2.2.2.1 x.2.2.2.2.1 x.2.2.2.2.2.1).1)),(.t tI (((Xy x.1 x.2.1 x.2.2.1 x.2.2.2.1 x.2.2.2.2.1 x.2.2.2.2.2.1).2).1)),(.t tI (((Xy x.1 x.2.1 x.2.2.1 x.2.2.2.1 x.2.2.2.2.1 x.2.2.2.2.2.1).2).2))]))
theorem ms_f23:EM 23 Qyh:=mS (lk:=lkL (lkc QO9 lkn)) Qnq Qyd [((.t 12),some tI),((.t 13),some tI),((.t 14),some tI)] false (gB (gD QeW (gD Qe0 (gD QaB (gD Qe1 (gD Qni gN)))))) fun m=>Qq m fun x hok=>kT (s_f23 x.1 x.2.1 x.2.2.1 x.2.2.2.1 x.2.2.2.2.1 x.2.2.2.2.2.1 hok)
def WE (a b:Ac)(o:Aa):Bool:=(QZ a o).1==(QZ b o).1
def Qfc (a b:Ac)(o:Aa):Bool:=Gd a o&&Gd b o
abbrev Qfd:Sh:=⟨[(7,.ty (.sl Qe)),(9,.ty (.sl Qe)),(30,.ty tI),(31,.ty tI)],[]⟩
abbrev Qyi:Sh:=⟨[(6,.ty .bool)],[]⟩
def Qnt:Fg:=Qfd.f
def Qyj:TC:=aF Tryz.f79 [(250,pL 0 Qnt),(4005,.fg Qe6.f),(32050,pE [[],[],[],[],[],[],[],[],[]] (oN 9)),(128205,.fg Qyi.f)]
def Qyk:TC:=lb 0 Qyj
def Qyl (x7 x9:List Aa)(x30 x31:Int):VS:=Qfd.st (x7,x9,x30,x31,()) ()
def Qnu (x6:Bool):VS:=Qyi.st (x6,()) ()
def Qnv  : VS:=Qe6.st () ()
def QPa:VS->Option (Bool×List (Bool×Exit×VS)):=mkL Qfd (fun x y=>(decide (x.2.2.1=x.1.length/\0<=x.2.2.2.1/\x.2.2.2.1<=x.2.2.1/\x.1.length=x.2.1.length/\x.2.2.1<=1000))) (fun x y=>[((!(x.1.drop x.2.2.2.1.toNat==x.2.1.drop x.2.2.2.1.toNat)),.ret,Qnu (false)),(true,.exit 0,Qnv)])
def Qnw:G:=gG 44 [(122,Qus)] (Ls [QPa])
def Qfe (x7 x9:List Aa)(x30 x31:Int):OX:=Qu (Qx Qnw Qnt Qyk) (Qyl x7 x9 x30 x31)
def QaG (kk:List Aa->List Aa->Int->Int->OX)(x7 x9:List Aa)(x30 x31:Int):OX:=
 let a1:=Int.toNat x31
 br (ilt x31 x30) (br (cIx x7 x31) (br (cIx x9 x31) (br (!(and (ieq ((lgt Qe x7 a1).1) ((lgt Qe x9 a1).1)) (and (ieq (((lgt Qe x7 a1).2).1) (((lgt Qe x9 a1).2).1)) true))) (some (.ret,Qnu false)) (kk x7 x9 x30 (Qi .i64 x31 1))) none) none) (some (.exit 0,Qnv))
def Qff (x7 x9:List Aa)(x30 x31:Int):OX:=br (!(x7.drop x31.toNat==x9.drop x31.toNat)) (some (.ret,Qnu (false)))<|some (.exit 0,Qnv)
theorem Qym (x7 x9 x30 x31):Qfe x7 x9 x30 x31=QaG Qfe x7 x9 x30 x31:=lnT (x:=QaG (fun x7 x9 x30 x31=>some (.normal,Qyl x7 x9 x30 x31)) x7 x9 x30 x31) (by simp only [QaG,nxA];rfl)
def r_f79 (p0 p1:Ac)(p2:Aa):OV:=
 let a1:=((QZ p0 p2).1)
 let a2:=((QZ p1 p2).1)
 br (Gd p0 p2) (br (Gd p1 p2) (br (ine (Qb a1) (Qb a2)) (some (.t .bool false,[])) (br (decide ((Qb a1)=a1.length/\0<=(0:Int)/\(0:Int)<=(Qb a1)/\a1.length=a2.length/\(Qb a1)<=1000)) (br (!(a1.drop (0:Int).toNat==a2.drop (0:Int).toNat)) (some (.t .bool (false),[])) (some (.t .bool true,[]))) none)) none) none
theorem QPb (x7 x9:List Aa)(x30 x31:Int)(h:(decide (x30=x7.length/\0<=x31/\x31<=x30/\x7.length=x9.length/\x30<=1000))=true):Qfe x7 x9 x30 x31=Qff x7 x9 x30 x31:=by
 simp only [Ba] at h
 obtain ⟨rfl,h0,h1,h2,h3⟩:=h
 obtain ⟨k,rfl⟩:=Bm h0
 refine QP x7 (fun k=>Qfe x7 x9 (x7.length:Int) (k:Int)=Qff x7 x9 (x7.length:Int) (k:Int)) ?_ ?_ k (by omega)
 ·rw [Qym]
  simp only [QaG,Qff,Qv,BK,BP,Qh,Bb,BF]
  rw [h2,BF]
  rfl
 ·intro k hk ih
  rw [Qym]
  have hk2:k<x9.length:=by omega
  have hq:(and (ieq x7[k].1 x9[k].1) (and (ieq x7[k].2.1 x9[k].2.1) true))=(x7[k]==x9[k]):=rfl
  simp only [QaG,Qv,QM,hk,hk2,Bu,Qd,Bb,QO (k:=k),QN (y:=Qe) hk,QN (y:=Qe) hk2,ih]
  rw [hq]
  simp only [Qff,Bb,Bg hk,Bg hk2,List.cons_beq_cons]
  cases x7[k]==x9[k]<;>rfl
theorem QPc:LO Qnw Qnt Qyk 0:=QC (s:=Qfd) fun x y h _ q=>by simp only [QA,QB] at q;exact (QPb x.1 x.2.1 x.2.2.1 x.2.2.2.1 h).trans q
theorem s_f79 (a b o)(h:Qfc a b o=true):r_f79 a b o=some (.t .bool (WE a b o),[]):=by
 obtain ⟨h1,h2⟩:=Bf.1 h
 have l1:=QoE a o
 unfold r_f79 WE
 refine brY h1 (brY h2 ?_)
 cases hl:ine (Qb (QZ a o).1) (Qb (QZ b o).1) with
 |true=>
  have hn:(QZ a o).1.length≠(QZ b o).1.length:=by
   simp only [ine,Qb,bne_iff_ne,ne_eq] at hl
   omega
  have:((QZ a o).1==(QZ b o).1)=false:=by
   rw [Dv]
   intro e
   exact hn (by rw [e])
  rw [Qd,this]
 |false=>
  have hn:(QZ a o).1.length=(QZ b o).1.length:=by
   simp only [ine,Qb,DM] at hl
   omega
  rw [Qh]
  refine brY (Bc ⟨rfl,BY 0,by simp only [Qb];omega,hn,by simp only [Qb];omega⟩) ?_
  rw [Bt,Bx,Bx]
  cases (QZ a o).1==(QZ b o).1<;>rfl
def Qyn:Ent:=Qm (.pr Qp (.pr Qp (.pr Qe .nil))) (fun x=>(Qfc x.1 x.2.1 x.2.2.1)) (fun x=>(.t .bool (WE x.1 x.2.1 x.2.2.1)))
theorem ms_f79:EM 79 Qyn:=mS (lk:=lkL (lkc QPc lkn)) Qnw Qyj [((.t 6),some .bool)] false (gB (gD QLi gN)) fun m=>Qq m fun x hok=>kT (s_f79 x.1 x.2.1 x.2.2.1 hok)
def IJ (b a:Ad)(i:Int)(o:Aa):Bool:= !((Zk b i).any fun x=>x==o)|| !(WE (Jt b i) (Jt a i) o)
def UI (b a:Ad)(i:Int):List Aa:=(Zk a i).filter (IJ b a i)
def Qfg (e:Int)(old:List Aa)(b a:Ad)(m out:List Aa)(k:Int):Bool:=UN b a e&&(old==Zk b e&&decide (m.length<=1000/\(out.length:Int)<=k))
abbrev Qfh:Sh:=⟨[(2,.ty tI),(3,.ptr 3 0),(4,.ptr 4 0),(7,.ty (.sl Qe)),(8,.ms 8),(10,.ptr 10 0),(11,.ty .bool),(19,.ty (.sl Qe)),(20,.ty tI),(21,.ty tI),(25,.ty (.sl Qe)),(26,.ty tI),(27,.ty tI)],[(3,.box Qo),(4,.box Qo),(8,.arr 108 Qe),(10,.box Qe),(54,.no)]⟩
abbrev Qyo:Sh:=⟨[(2,.ty tI),(3,.ptr 3 0),(4,.ptr 4 0),(7,.ty (.sl Qe)),(8,.ms 8),(10,.ptr 10 0),(11,.ty .bool),(19,.ty (.sl Qe)),(20,.ty tI),(21,.ty tI)],[(3,.box Qo),(4,.box Qo),(8,.arr 108 Qe),(10,.box Qe),(54,.no)]⟩
abbrev Qfi:Sh:=⟨[(2,.ty tI),(3,.ptr 3 0),(4,.ptr 4 0),(7,.ty (.sl Qe)),(8,.ms 8),(19,.ty (.sl Qe)),(20,.ty tI),(21,.ty tI)],[(3,.box Qo),(4,.box Qo),(8,.arr 108 Qe),(54,.no)]⟩
abbrev Qyp:Sh:=⟨[(8,.ms 8)],[(8,.arr 108 Qe),(54,.no)]⟩
def Qnx:Fg:=Qfh.f
def Qny:Fg:=Qfi.f
def Qnz:TC:=aF Tryz.f46 [(122,.nw 8 108),(122,pL 1 Qny),(1957,.fg Qyp.f),(125338,pL 0 Qnx),(2005413,.fg Qyo.f),(62670,pE [[],[],[],[3],[],[],[4],[],[],[10],[],[],[]] (oN 13))]
def Qyq:TC:=lb 0 Qnz
def Qyr:TC:=lb 1 Qnz
def Qys (x2:Int)(x7:List Aa)(x11:Bool)(x19:List Aa)(x20 x21:Int)(x25:List Aa)(x26 x27:Int)(y3 y4:Ad)(y8:List Aa)(y10:Aa):VS:=Qfh.st (x2,(),(),x7,(),(),x11,x19,x20,x21,x25,x26,x27,()) (y3,y4,y8,y10,(),())
def QnA (x2:Int)(x7:List Aa)(x11:Bool)(x19:List Aa)(x20 x21:Int)(y3 y4:Ad)(y8:List Aa)(y10:Aa):VS:=Qyo.st (x2,(),(),x7,(),(),x11,x19,x20,x21,()) (y3,y4,y8,y10,(),())
def Qyt (x2:Int)(x7 x19:List Aa)(x20 x21:Int)(y3 y4:Ad)(y8:List Aa):VS:=Qfi.st (x2,(),(),x7,(),x19,x20,x21,()) (y3,y4,y8,(),())
def QnB (y8:List Aa):VS:=Qyp.st ((),()) (y8,(),())
def QPd:VS->Option (Bool×List (Bool×Exit×VS)):=mkL Qfh (fun x y=>(Qw x.2.2.2.2.2.2.2.2.2.2.1 x.2.2.2.2.2.2.2.2.2.2.2.1 x.2.2.2.2.2.2.2.2.2.2.2.2.1)) (fun x y=>[(true,.exit 2,QnA (x.1) (x.2.2.2.1) (x.2.2.2.2.2.2.1||(x.2.2.2.2.2.2.2.2.2.2.1.drop x.2.2.2.2.2.2.2.2.2.2.2.2.1.toNat).any (fun x=>x==y.2.2.2.1)) (x.2.2.2.2.2.2.2.1) (x.2.2.2.2.2.2.2.2.1) (x.2.2.2.2.2.2.2.2.2.1) (y.1) (y.2.1) (y.2.2.1) (y.2.2.2.1))])
def QPe:VS->Option (Bool×List (Bool×Exit×VS)):=mkL Qfi (fun x y=>(Qw x.2.2.2.2.2.1 x.2.2.2.2.2.2.1 x.2.2.2.2.2.2.2.1&&Qfg x.1 x.2.2.2.1 y.1 y.2.1 x.2.2.2.2.2.1 y.2.2.1 x.2.2.2.2.2.2.2.1)) (fun x y=>[(true,.exit 0,QnB (y.2.2.1++(x.2.2.2.2.2.1.drop x.2.2.2.2.2.2.2.1.toNat).filter (IJ y.1 y.2.1 x.1)))])
def QaH:G:=gG 57 [(41,II),(42,QaA),(79,Qyn)] (Ls [QPd,QPe])
def Qfj (x2:Int)(x7:List Aa)(x11:Bool)(x19:List Aa)(x20 x21:Int)(x25:List Aa)(x26 x27:Int)(y3 y4:Ad)(y8:List Aa)(y10:Aa):OX:=Qu (Qx QaH Qnx Qyq) (Qys x2 x7 x11 x19 x20 x21 x25 x26 x27 y3 y4 y8 y10)
def QaI (kk:Int->List Aa->Bool->List Aa->Int->Int->List Aa->Int->Int->Ad->Ad->List Aa->Aa->OX)(x2:Int)(x7:List Aa)(x11:Bool)(x19:List Aa)(x20 x21:Int)(x25:List Aa)(x26 x27:Int)(y3 y4:Ad)(y8:List Aa)(y10:Aa):OX:=
 let a1:=lgt Qe x25 (Int.toNat x27)
 br (ilt x27 x26) (br (cIx x25 x27) (br (x11) (kk x2 x7 true x19 x20 x21 x25 x26 (Qi .i64 x27 1) y3 y4 y8 y10) (kk x2 x7 (and (ieq (a1.1) y10.1) (and (ieq ((a1.2).1) y10.2.1) true)) x19 x20 x21 x25 x26 (Qi .i64 x27 1) y3 y4 y8 y10)) none) (some (.exit 2,QnA x2 x7 x11 x19 x20 x21 y3 y4 y8 y10))
def Qfk (x2:Int)(x7:List Aa)(x11:Bool)(x19:List Aa)(x20 x21:Int)(x25:List Aa)(x26 x27:Int)(y3 y4:Ad)(y8:List Aa)(y10:Aa):OX:=some (.exit 2,QnA (x2) (x7) (x11||(x25.drop x27.toNat).any (fun x=>x==y10)) (x19) (x20) (x21) (y3) (y4) (y8) (y10))
theorem Qyu (x2 x7 x11 x19 x20 x21 x25 x26 x27 y3 y4 y8 y10):Qfj x2 x7 x11 x19 x20 x21 x25 x26 x27 y3 y4 y8 y10=QaI Qfj x2 x7 x11 x19 x20 x21 x25 x26 x27 y3 y4 y8 y10:=lnT (x:=QaI (fun x2 x7 x11 x19 x20 x21 x25 x26 x27 y3 y4 y8 y10=>some (.normal,Qys x2 x7 x11 x19 x20 x21 x25 x26 x27 y3 y4 y8 y10)) x2 x7 x11 x19 x20 x21 x25 x26 x27 y3 y4 y8 y10) (by simp only [QaI,nxA];rfl)
def Qfl (x2:Int)(x7 x19:List Aa)(x20 x21:Int)(y3 y4:Ad)(y8:List Aa):OX:=Qu (Qx QaH Qny Qyr) (Qyt x2 x7 x19 x20 x21 y3 y4 y8)
def QaJ (kk:Int->List Aa->List Aa->Int->Int->Ad->Ad->List Aa->OX)(x2:Int)(x7 x19:List Aa)(x20 x21:Int)(y3 y4:Ad)(y8:List Aa):OX:=
 let a1:=lgt Qe x19 (Int.toNat x21)
 br (Qt (y8) ([(a1.1,((a1.2).1,()))]) 16) (kk (x2) (x7) (x19) (x20) (Qi .i64 (x21) 1) (y3) (y4) ((y8)++([(a1.1,((a1.2).1,()))]))) none
def QaK (kk:Int->List Aa->List Aa->Int->Int->Ad->Ad->List Aa->OX)(x2:Int)(x7 x19:List Aa)(x20 x21:Int)(y3 y4:Ad)(y8:List Aa):OX:=
 let a1:=lgt Qe x19 (Int.toNat x21)
 br (ilt x21 x20) (br (cIx x19 x21) (br (Qw x7 (Qb x7) (0:Int)) (br (!(false||(x7.drop (0:Int).toNat).any (fun x=>x==a1))) (QaJ kk x2 x7 x19 x20 x21 y3 y4 y8) (br (JC (y3) (x2)) (br (JC (y4) (x2)) (br (Qfc (Jt (y3) (x2)) (Jt (y4) (x2)) a1) (br (!(WE (Jt (y3) (x2)) (Jt (y4) (x2)) a1)) (QaJ kk x2 x7 x19 x20 x21 y3 y4 y8) (kk (x2) (x7) (x19) (x20) (Qi .i64 (x21) 1) (y3) (y4) (y8))) none) none) none)) none) none) (some (.exit 0,QnB y8))
def Qfm (x2:Int)(x7 x19:List Aa)(x20 x21:Int)(y3 y4:Ad)(y8:List Aa):OX:=some (.exit 0,QnB (y8++(x19.drop x21.toNat).filter (IJ y3 y4 x2)))
theorem Qyv (x2 x7 x19 x20 x21 y3 y4 y8):Qfl x2 x7 x19 x20 x21 y3 y4 y8=QaK Qfl x2 x7 x19 x20 x21 y3 y4 y8:=lnT (x:=QaK (fun x2 x7 x19 x20 x21 y3 y4 y8=>some (.normal,Qyt x2 x7 x19 x20 x21 y3 y4 y8)) x2 x7 x19 x20 x21 y3 y4 y8) (by simp only [QaK,QaJ,nxA];rfl)
def r_f46 (p0 p1:Ad)(p2:Int):OV:=br (JC p0 p2) (br (JC p1 p2) (br (Qw (Zk p1 p2) (Qb (Zk p1 p2)) (0:Int)&&Qfg p2 (Zk p0 p2) p0 p1 (Zk p1 p2) ([]:List Aa) (0:Int)) (some (.t (.sl Qe) (([]:List Aa)++((Zk p1 p2).drop (0:Int).toNat).filter (IJ p0 p1 p2)),[])) none) none) none
theorem QPf (x2:Int)(x7:List Aa)(x11:Bool)(x19:List Aa)(x20 x21:Int)(x25:List Aa)(x26 x27:Int)(y3 y4:Ad)(y8:List Aa)(y10:Aa)(h:(Qw x25 x26 x27)=true):Qfj x2 x7 x11 x19 x20 x21 x25 x26 x27 y3 y4 y8 y10=Qfk x2 x7 x11 x19 x20 x21 x25 x26 x27 y3 y4 y8 y10:=by
 obtain ⟨rfl,h3,k,rfl,hk⟩:=Jv h
 clear h
 revert x11
 refine QP x25 (fun k=> ∀ x11:Bool,Qfj x2 x7 x11 x19 x20 x21 x25 (x25.length:Int) (k:Int) y3 y4 y8 y10=Qfk x2 x7 x11 x19 x20 x21 x25 (x25.length:Int) (k:Int) y3 y4 y8 y10) ?_ ?_ k hk
 ·intro x11
  rw [Qyu]
  simp only [QaI,Qfk,Qv,BK,BP,Qh,Bb,BF,List.any_nil,Bool.or_false]
 ·intro k hk ih x11
  rw [Qyu]
  have hq:(and (ieq x25[k].1 y10.1) (and (ieq x25[k].2.1 y10.2.1) true))=(x25[k]==y10):=rfl
  simp only [QaI,Qv,QM,hk,Bu,Qd,Bb,QO (k:=k),QN (y:=Qe) hk,ih]
  rw [hq]
  simp only [Qfk,Bb,Bg hk,List.any_cons]
  cases x11 with
  |true=>simp only [Qd,Bool.true_or]
  |false=>simp only [Qh,De]
theorem QPg (x2:Int)(x7 x19:List Aa)(x20 x21:Int)(y3 y4:Ad)(y8:List Aa)(h:(Qw x19 x20 x21&&Qfg x2 x7 y3 y4 x19 y8 x21)=true):Qfl x2 x7 x19 x20 x21 y3 y4 y8=Qfm x2 x7 x19 x20 x21 y3 y4 y8:=by
 obtain ⟨hr0,hj⟩:=Bf.1 h
 clear h
 simp only [Qfg,Bd,Ba] at hj
 obtain ⟨he,ho,g1,g2⟩:=hj
 have ho:x7=Zk y3 x2:=eq_of_beq ho
 obtain ⟨p1,p2⟩:=Bf.1 he
 have hsb:QY (Jt y3 x2)=true:=(Bf.1 (Bf.1 p1).2).2
 have hsa:QY (Jt y4 x2)=true:=(Bf.1 (Bf.1 p2).2).2
 have hol:x7.length<=64:=by rw [ho];exact F3
 obtain ⟨rfl,h3,k,rfl,hk⟩:=Jv hr0
 clear hr0 he
 revert y8
 refine QP x19 (fun k=> ∀ y8:List Aa,(y8.length:Int)<=(k:Int)->Qfl x2 x7 x19 (x19.length:Int) (k:Int) y3 y4 y8=Qfm x2 x7 x19 (x19.length:Int) (k:Int) y3 y4 y8) ?_ ?_ k hk
 ·intro y8 _
  rw [Qyv]
  simp only [QaK,QaJ,Qfm,Qv,BK,BP,Qh,Bb,BF,List.filter_nil,BH]
 ·intro k hk ih y8 g4
  rw [Qyv]
  have hx:((x19[k].1,(x19[k].2.1,())):Aa)=x19[k]:=rfl
  have e2:Qt y8 [x19[k]] 16=true:=QX (by omega) (by simp only [Bh];omega)
  have e3:Qw x7 (Qb x7) 0=true:=Jw (by omega)
  have e4:Qfc (Jt y3 x2) (Jt y4 x2) x19[k]=true:=Bf.2 ⟨hsb,hsa⟩
  simp only [QaK,QaJ,Qv,QM,hk,Bu,Qd,Bb,Bt,Bx,QO (k:=k),QN (y:=Qe) hk,hx,e2,e3,e4,p1,p2,De]
  rw [ih (y8++[x19[k]]) (by simp only [Bj,Bh];omega),ih y8 (by omega)]
  simp only [Qfm,Bb,Bg hk,DU]
  have hb:IJ y3 y4 x2 x19[k]=(!(x7.any fun x=>x==x19[k])|| !(WE (Jt y3 x2) (Jt y4 x2) x19[k])):=by rw [ho];rfl
  rw [hb]
  cases (x7.any fun x=>x==x19[k]) with
  |false=>simp only [Dy,Qd,Bool.true_or,if_true,BG,BD]
  |true=>
   rw [BA,Qh,De]
   cases WE (Jt y3 x2) (Jt y4 x2) x19[k] with
   |false=>simp only [Dy,Qd,if_true,BG,BD]
   |true=>simp only [BA,Qh,BE,Dc]
theorem QPh:LO QaH Qnx Qyq 0:=QC (s:=Qfh) fun x y h _ q=>by simp only [QA,QB] at q;exact (QPf x.1 x.2.2.2.1 x.2.2.2.2.2.2.1 x.2.2.2.2.2.2.2.1 x.2.2.2.2.2.2.2.2.1 x.2.2.2.2.2.2.2.2.2.1 x.2.2.2.2.2.2.2.2.2.2.1 x.2.2.2.2.2.2.2.2.2.2.2.1 x.2.2.2.2.2.2.2.2.2.2.2.2.1 y.1 y.2.1 y.2.2.1 y.2.2.2.1 h).trans q
theorem QPi:LO QaH Qny Qyr 1:=QC (s:=Qfi) fun x y h _ q=>by simp only [QA,QB] at q;exact (QPg x.1 x.2.2.2.1 x.2.2.2.2.2.1 x.2.2.2.2.2.2.1 x.2.2.2.2.2.2.2.1 y.1 y.2.1 y.2.2.1 h).trans q
theorem s_f46 (b a i)(h:UN b a i=true):r_f46 b a i=some (.t (.sl Qe) (UI b a i),[]):=by
 obtain ⟨p1,p2⟩:=Bf.1 h
 have hl:(Zk a i).length<=64:=F3
 unfold r_f46 UI
 refine brY p1 (brY p2 (brY ?_ ?_))
 ·rw [Jw (by omega),By]
  refine Bf.2 ⟨h,Bf.2 ⟨beq_self_eq_true _,Bc ⟨by omega,by simp⟩⟩⟩
 ·rw [Bt,Bx,BM]
def QnC:Ent:=Qm (.pr Qo (.pr Qo (.pr tI .nil))) (fun x=>(UN x.1 x.2.1 x.2.2.1)) (fun x=>(.t (.sl Qe) (UI x.1 x.2.1 x.2.2.1)))
theorem Qyw:EM 46 QnC:=mS (lk:=lkL (lkc QPi (lkc QPh lkn))) QaH Qnz [((.t 6),some (.sl Qe))] false (gB (gD QaB (gD Qe1 (gD ms_f79 gN)))) fun m=>Qq m fun x hok=>kT (s_f46 x.1 x.2.1 x.2.2.1 hok)
theorem QC4 {c s:Ac}{o:Aa}(h:o∈Xo c s): ∃ p q r t,(QZ s o).1=[p,q,r,t]:=by
 have hm:=(QZO h).1
 have hr:Uw c s=true:=by
  unfold Xo at h
  cases hr:Uw c s with
  |false=>rw [hr] at h;cases h
  |true=>rfl
 have hv:=(Bf.1 hr).2
 simp only [Xz,Bd] at hm
 obtain ⟨h1,_,_,_,_,h2⟩:=hm
 have h1:ine (QS o.2.1).2 0=false:=by
  have h1:(QS o.2.1).2=0:=eq_of_beq h1
  rw [h1]
  rfl
 unfold QZ
 rw [hv,h1,h2]
 exact ⟨_,_,_,_,rfl⟩
theorem QbI {x o:Aa}(h1:x.1=o.1)(h2:x.2.1=o.2.1):x=o:=by
 obtain ⟨a,b,_⟩:=x
 obtain ⟨c,d,_⟩:=o
 simp only at h1 h2
 rw [h1,h2]
theorem mth_eq {s t:Ac}{x o:Aa}(h1: ∃ p q r t,(QZ s x).1=[p,q,r,t])(h2: ∃ p q r t',(QZ t o).1=[p,q,r,t']):(J0 s x==J0 t o)=(x==o&&WE s t o):=by
 obtain ⟨p,q,r,v,h1⟩:=h1
 obtain ⟨p',q',r',v',h2⟩:=h2
 rw [Dq]
 simp only [Bd,Dh]
 constructor
 ·intro h
  unfold J0 at h
  rw [h1,h2] at h
  have h:x.1::x.2.1::[p.1,p.2.1,q.1,q.2.1,r.1,r.2.1,v.1,v.2.1]=o.1::o.2.1::[p'.1,p'.2.1,q'.1,q'.2.1,r'.1,r'.2.1,v'.1,v'.2.1]:=h
  simp only [List.cons.injEq,and_true] at h
  obtain ⟨a1,a2,b1,b2,c1,c2,d1,d2,e1,e2⟩:=h
  obtain rfl:=QbI a1 a2
  refine ⟨rfl, ?_⟩
  unfold WE
  rw [h1,h2,QbI b1 b2,QbI c1 c2,QbI d1 d2,QbI e1 e2]
  exact beq_self_eq_true _
 ·rintro ⟨rfl,h⟩
  have h:(QZ s x).1=(QZ t x).1:=eq_of_beq h
  unfold J0
  rw [h]
theorem QpO (b a:Ad)(i:Int):UI b a i=YP b a i:=by
 unfold UI YP
 refine List.filter_congr fun o ho=> ?_
 have h2:=QC4 (c:=(We a i).1) (s:=(We a i).2) (o:=o) ho
 unfold IJ Qoy
 have e: ∀ x,x∈(Q9 b i).1->(J0 (Q9 b i).2 x==J0 (Q9 a i).2 o)=(x==o&&WE (Jt b i) (Jt a i) o):=fun x hx=>mth_eq (QC4 (c:=(We b i).1) (s:=(We b i).2) (o:=x) hx) h2
 have e2:((Q9 b i).1.any fun x=>J0 (Q9 b i).2 x==J0 (Q9 a i).2 o)=(((Zk b i).any fun x=>x==o)&&WE (Jt b i) (Jt a i) o):=by
  rw [Dq]
  simp only [DI,Bd]
  constructor
  ·rintro ⟨x,hx,h⟩
   rw [e x hx] at h
   obtain ⟨g1,g2⟩:=Bf.1 h
   exact ⟨⟨x,hx,g1⟩,g2⟩
  ·rintro ⟨⟨x,hx,g1⟩,g2⟩
   refine ⟨x,hx, ?_⟩
   rw [e x hx,g1,g2]
   rfl
 rw [e2]
 cases ((Zk b i).any fun x=>x==o)<;>cases WE (Jt b i) (Jt a i) o<;>rfl
def tc_f19:TC:=aF Tryz.f19 []
def g_f19:G:=gG 28 [(45,Qe9),(46,QnC)] (fun _ _=>none)
def r_f19 (p0 p1:Ad)(p2:Int):OV:=br (WI p0 p1) (br (ine (JO p0 p1) 0) (some (.tu [(.t (.sl Qe) ([]:List Aa)),(.t tI (JO p0 p1))],[])) (br (ilt p2 0) (some (.tu [(.t (.sl Qe) ([]:List Aa)),(.t tI 4)],[])) (br (ige p2 (Qb p0.2.1)) (some (.tu [(.t (.sl Qe) ([]:List Aa)),(.t tI 4)],[])) (br (UN p0 p1 p2) (some (.tu [(.t (.sl Qe) (UI p0 p1 p2)),(.t tI 0)],[])) none)))) none
theorem s_f19 (b a i)(h:E8 b a i=true):r_f19 b a i=some (.tu [.t (.sl Qe) (Xx b a i).1,.t tI (Xx b a i).2],[]):=by
 obtain ⟨l1,l2⟩:=Bf.1 h
 unfold r_f19 Xx
 refine brY h ?_
 rw [<-QpO b a i]
 cases hb:ine (JO b a) 0 with
 |true=>rfl
 |false=>
  obtain ⟨o1,o2,he⟩:=Ei hb
  rw [Qh]
  cases h3:ilt i 0 with
  |true=>rfl
  |false=>
   rw [Qh]
   cases h4:ige i (Qb b.2.1) with
   |true=>rfl
   |false=>
    rw [Qh]
    have h3:=Dp h3
    have h4:=Dp h4
    simp only [Qb] at h4
    exact brY (Bf.2 ⟨Y3 o1 l1 (by omega) (by omega),Y3 o2 l2 (by omega) (by rw [<-he];omega)⟩) rfl
def QBw:Ent:=Qm (.pr Qo (.pr Qo (.pr tI .nil))) (fun x=>(E8 x.1 x.2.1 x.2.2.1)) (fun x=>(.tu [(.t (.sl Qe) ((Xx x.1 x.2.1 x.2.2.1).1)),(.t tI ((Xx x.1 x.2.1 x.2.2.1).2))]))
theorem ms_f19:EM 19 QBw:=mS g_f19 tc_f19 [((.t 6),some (.sl Qe)),((.t 7),some tI)] false (gB (gD Qni (gD Qyw gN))) fun m=>Qq m fun x hok=>kT (s_f19 x.1 x.2.1 x.2.2.1 hok)
theorem stb_eq (b a:Ad)(i:Int)(y:Ah)(l:List Ae)(o:Ab)(d:Int):igt (Qb (WC (Jt a i) (UI b a i) y l o d)) 0=stB (rl y l o d) b a i:=by
 rw [QpO]
 unfold stB Vn WC
 rw [Dq,DI]
 constructor
 ·intro h
  have h:(0:Int)<(((YP b a i).filter (XK (rl y l o d) (Jt a i))).length:Int):=Bw h
  obtain ⟨x,hx⟩:=List.exists_mem_of_length_pos (l:=(YP b a i).filter (XK (rl y l o d) (Jt a i))) (by omega)
  obtain ⟨h1,h2⟩:=DL.1 hx
  refine ⟨x,h1, ?_⟩
  unfold inO E7
  exact DI.2 ⟨x,DL.2 ⟨(DL.1 h1).1,h2⟩,beq_self_eq_true _⟩
 ·rintro ⟨x,h1,h2⟩
  unfold inO E7 at h2
  obtain ⟨z,hz,h3⟩:=DI.1 h2
  obtain rfl:=eq_of_beq h3
  have hm:x∈(YP b a i).filter (XK (rl y l o d) (Jt a i)):=DL.2 ⟨h1,(DL.1 hz).2⟩
  have:=List.length_pos_of_mem hm
  exact Bc (by simp only [Qb];omega)
abbrev QgE:Sh:=⟨[(3,.ty (.sl QK)),(5,.ty tI),(6,.ptr 6 0),(7,.ptr 7 0),(8,.ptr 8 0),(10,.ptr 10 0),(16,.ms 16),(33,.ty tI),(34,.ty tI)],[(6,.box Qo),(7,.box Qo),(8,.box Q3),(10,.box Qn),(16,.arr 3 tI),(54,.no)]⟩
abbrev QBx:Sh:=⟨[(16,.ms 16)],[(16,.arr 3 tI),(54,.no)]⟩
def Qo1:Fg:=QgE.f
def QBy:TC:=aF Tryz.f21 [(250,.nw 16 3),(250,pL 0 Qo1),(4005,.fg QBx.f),(32050,pE [[7],[],[],[6],[7],[],[],[8],[],[10],[],[],[],[]] (oN 14))]
def QBz:TC:=lb 0 QBy
def QBA (x3:List Ae)(x5 x33 x34:Int)(y6 y7:Ad)(y8:Ah)(y10:Ab)(y16:List Int):VS:=QgE.st (x3,x5,(),(),(),(),(),x33,x34,()) (y6,y7,y8,y10,y16,(),())
def Qo2 (y16:List Int):VS:=QBx.st ((),()) (y16,(),())
def QR6:VS->Option (Bool×List (Bool×Exit×VS)):=mkL QgE (fun x y=>(Us x.2.2.2.2.2.2.2.1 x.2.2.2.2.2.2.2.2.1 y.1 y.2.1 (rl y.2.2.1 x.1 y.2.2.2.1 x.2.1) y.2.2.2.2.1)) (fun x y=>[(true,.exit 0,Qo2 (y.2.2.2.2.1++Zn (stB (rl y.2.2.1 x.1 y.2.2.2.1 x.2.1) y.1 y.2.1) (x.2.2.2.2.2.2.2.1-x.2.2.2.2.2.2.2.2.1).toNat x.2.2.2.2.2.2.2.2.1))])
def Qo3:G:=gG 57 [(39,Qaw),(40,Qaz),(41,II),(45,Qe9),(46,QnC)] (Ls [QR6])
def Qo4 (x3:List Ae)(x5 x33 x34:Int)(y6 y7:Ad)(y8:Ah)(y10:Ab)(y16:List Int):OX:=Qu (Qx Qo3 Qo1 QBz) (QBA x3 x5 x33 x34 y6 y7 y8 y10 y16)
def Qbm (kk:List Ae->Int->Int->Int->Ad->Ad->Ah->Ab->List Int->OX)(x3:List Ae)(x5 x33 x34:Int)(y6 y7:Ad)(y8:Ah)(y10:Ab)(y16:List Int):OX:=br (ilt x34 x33) (br (JC y7 x34) (br (UN y6 y7 x34) (br (WD (Jt y7 x34) (UI y6 y7 x34) y8 x3 y10 x5) (br (igt (Qb (WC (Jt y7 x34) (UI y6 y7 x34) y8 x3 y10 x5)) 0) (br (Qt y16 ([x34]) 8) (kk x3 x5 x33 (Qi .i64 x34 1) y6 y7 y8 y10 (y16++([x34]))) none) (kk x3 x5 x33 (Qi .i64 x34 1) y6 y7 y8 y10 y16)) none) none) none) (some (.exit 0,Qo2 y16))
def Qo5 (x3:List Ae)(x5 x33 x34:Int)(y6 y7:Ad)(y8:Ah)(y10:Ab)(y16:List Int):OX:=some (.exit 0,Qo2 (y16++Zn (stB (rl y8 x3 y10 x5) y6 y7) (x33-x34).toNat x34))
theorem QBB (x3 x5 x33 x34 y6 y7 y8 y10 y16):Qo4 x3 x5 x33 x34 y6 y7 y8 y10 y16=Qbm Qo4 x3 x5 x33 x34 y6 y7 y8 y10 y16:=lnT (x:=Qbm (fun x3 x5 x33 x34 y6 y7 y8 y10 y16=>some (.normal,QBA x3 x5 x33 x34 y6 y7 y8 y10 y16)) x3 x5 x33 x34 y6 y7 y8 y10 y16) (by simp only [Qbm,nxA];rfl)
def r_f21 (p0 p1:Ad)(p2:Ah)(p3:List Ae)(p4:Ab)(p5:Int):OV:=br (WI p0 p1) (br (ine (JO p0 p1) 0) (some (.tu [(.t (.sl tI) ([]:List Int)),(.t tI (JO p0 p1))],[])) (br (Ee p2 p3 p5) (br (ine (WB p2 p3 p5) 0) (some (.tu [(.t (.sl tI) ([]:List Int)),(.t tI (WB p2 p3 p5))],[])) (br (Us (Qb p0.2.1) (0:Int) p0 p1 (rl p2 p3 p4 p5) ([]:List Int)) (some (.tu [(.t (.sl tI) (([]:List Int)++Zn (stB (rl p2 p3 p4 p5) p0 p1) ((Qb p0.2.1)-(0:Int)).toNat (0:Int))),(.t tI 0)],[])) none)) none)) none
theorem QR7 (x3:List Ae)(x5 x33 x34:Int)(y6 y7:Ad)(y8:Ah)(y10:Ab)(y16:List Int)(h:(Us x33 x34 y6 y7 (rl y8 x3 y10 x5) y16)=true):Qo4 x3 x5 x33 x34 y6 y7 y8 y10 y16=Qo5 x3 x5 x33 x34 y6 y7 y8 y10 y16:=by
 simp only [Us,Bd,Ba] at h
 obtain ⟨a1,a2,b1,b2,hr,h0,h1,h2,h3,h4⟩:=h
 have hle:y6.2.1.length<=40:=(WG a1).2.2.2.2.2
 obtain ⟨m,hm⟩: ∃ m:Nat,(x33-x34).toNat=m:=⟨_,rfl⟩
 induction m generalizing x34 y16 with
 |zero=>
  have:ilt x34 x33=false:=Bn (by omega)
  rw [QBB]
  simp only [Qbm,Qo5,this,Qh,hm,Zn,BH]
 |succ m ih=>
  have e0:ilt x34 x33=true:=Bc (by omega)
  have e1:Qi .i64 x34 1=x34+1:=Ja (by omega)
  have p1:JC y6 x34=true:=Y3 a1 a2 h0 (by omega)
  have p2:JC y7 x34=true:=Y3 b1 b2 h0 (by omega)
  have e3:UN y6 y7 x34=true:=Bf.2 ⟨p1,p2⟩
  have l1:=Qoz y6 y7 x34
  have e2:WD (Jt y7 x34) (UI y6 y7 x34) y8 x3 y10 x5=true:=by
   obtain ⟨_,g2⟩:=Bf.1 (QaC (y:=y8) (l:=x3) (o:=y10) (d:=x5) p2 hr)
   exact Bf.2 ⟨Bc (by rw [QpO];omega),g2⟩
  have e5:Qt y16 [x34] 8=true:=QX (by decide) (by simp only [Bh];omega)
  have e6:(x33-(x34+1)).toNat=m:=by omega
  rw [QBB]
  simp only [Qbm,e0,e1,p2,e2,e3,e5,stb_eq,Qd]
  rw [ih (x34+1) (y16++[x34]) (by omega) (by omega) (by simp only [Bj,Bh];omega) (by omega),ih (x34+1) y16 (by omega) (by omega) (by omega) (by omega)]
  simp only [Qo5,hm,e6,Zn]
  cases stB (rl y8 x3 y10 x5) y6 y7 x34 with
  |true=>simp only [Qd,B6,BG,BD]
  |false=>simp only [Qh,BW]
theorem QR8:LO Qo3 Qo1 QBz 0:=QC (s:=QgE) fun x y h _ q=>by simp only [QA,QB] at q;exact (QR7 x.1 x.2.1 x.2.2.2.2.2.2.2.1 x.2.2.2.2.2.2.2.2.1 y.1 y.2.1 y.2.2.1 y.2.2.2.1 y.2.2.2.2.1 h).trans q
theorem s_f21 (b a y l o d)(h:Ut b a y l o d=true):r_f21 b a y l o d=some (.tu [.t (.sl tI) (Xe b a y l o d).1,.t tI (Xe b a y l o d).2],[]):=by
 obtain ⟨h1,h2⟩:=Bf.1 h
 obtain ⟨l1,l2⟩:=Bf.1 h1
 unfold r_f21 Xe
 refine brY h1 ?_
 cases hb:ine (JO b a) 0 with
 |true=>rfl
 |false=>
  obtain ⟨o1,o2,he⟩:=Ei hb
  rw [Qh]
  refine brY (Qe3 h2) ?_
  rw [Qe2 y l o d]
  cases ine (JE (rl y l o d)) 0 with
  |true=>rfl
  |false=>
   rw [Qh]
   have e:((Qb b.2.1)-0).toNat=b.2.1.length:=by simp only [Qb];omega
   refine brY ?_ ?_
   ·unfold Us
    rw [o1,o2,l1,l2,h2]
    exact Bc ⟨BY 0,by simp only [Qb];omega,rfl,by rw [<-he],by simp⟩
   ·rw [e,BM]
    rfl
def QBC:Ent:=Qm (.pr Qo (.pr Qo (.pr Q3 (.pr (.sl QK) (.pr Qn (.pr tI .nil)))))) (fun x=>(Ut x.1 x.2.1 x.2.2.1 x.2.2.2.1 x.2.2.2.2.1 x.2.2.2.2.2.1)) (fun x=>(.tu [(.t (.sl tI) ((Xe x.1 x.2.1 x.2.2.1 x.2.2.2.1 x.2.2.2.2.1 x.2.2.2.2.2.1).1)),(.t tI ((Xe x.1 x.2.1 x.2.2.1 x.2.2.2.1 x.2.2.2.2.1 x.2.2.2.2.2.1).2))]))
theorem ms_f21:EM 21 QBC:=mS (lk:=lkL (lkc QR8 lkn)) Qo3 QBy [((.t 12),some (.sl tI)),((.t 13),some tI)] false (gB (gD QeW (gD Qe0 (gD QaB (gD Qni (gD Qyw gN)))))) fun m=>Qq m fun x hok=>kT (s_f21 x.1 x.2.1 x.2.2.1 x.2.2.2.1 x.2.2.2.2.1 x.2.2.2.2.2.1 hok)
def QtB:Ae:=((0,(0,())),(0,((ByteArray.mk #[]),((0,(0,())),(([]:List Aa),())))))
def Vu (x:Ae)(key:Int):List Aa:=lsl x.2.2.2.2.1 ((0:Int)+((x.2.2.2.2.1.drop (0:Int).toNat).takeWhile fun s=>ilt s.1 key).length) ((List.length x.2.2.2.2.1:Nat):Int)
def sgnQ (x:Ae)(key:Int):List Aa:=bif igt (Qb (Vu x key)) 0&&ieq (lgt Qe (Vu x key) 0).1 key then lsl (Vu x key) 1 ((List.length (Vu x key):Nat):Int) else Vu x key
def Qj5 (x:Ae)(key:Int):List Aa:=((([]:List Aa)++lsl x.2.2.2.2.1 0 ((0:Int)+((x.2.2.2.2.1.drop (0:Int).toNat).takeWhile fun s=>ilt s.1 key).length))++[(key,(J9 (QU x).1,()))])++sgnQ x key
def U8 (x:Ae)(key:Int):Ae×Int:=
 bif ine (QU x).2 0 then (QtB,(QU x).2) else bif ilt key 0||igt key 2147483648 then (QtB,2) else bif igt (Qb (Qj5 x key)) 8 then (QtB,3) else ((x.1,(x.2.1,(x.2.2.1,(x.2.2.2.1,(Qj5 x key,()))))),0)
def Qj6 (x:Ae)(_:Int):Bool:=Jy x
abbrev Qc5:Sh:=⟨[(1,.ty tI),(2,.ptr 2 0),(4,.ptr 4 0),(8,.ptr 8 0),(9,.ty tI)],[(2,.box QK),(4,.box QK),(8,.box Qe),(66,.no),(71,.no),(74,.no),(76,.no)]⟩
def QtC:Fg:=Qc5.f
def QJU:TC:=aF Tryz.f34 [(508,pL 0 QtC),(8131,.fg Qc5.f),(2046,pE [[66,5066,10066,15066],[2,66,71,74,76],[2,66,71,74,76],[],[66,71,74,76],[2,4,66,71,74,76,5071,10071,15071],[8],[],[2,4,66,71,74,76,5074,10074,15074],[66,71,74,76],[2,4,66,71,74,76,5076,10076,15076],[66,71,74,76]] (.one 3 (.one 6 (.one 7 (.alt 0 (.alt 1 (.one 2 (.one 4 (.alt 5 (.alt 8 (.of [9,10,11]) (.of [9,8,10,11])) (.of [9,5,8,10,11])))) (.of [9,1,2,4,5,8,10,11])) (.alt 1 (.alt 0 (.one 2 (.one 4 (.alt 5 (.alt 8 (.of [9,10,11]) (.of [9,8,10,11])) (.of [9,5,8,10,11])))) (.alt 2 (.alt 0 (.one 4 (.alt 5 (.alt 8 (.of [9,10,11]) (.of [9,8,10,11])) (.of [9,5,8,10,11]))) (.alt 4 (.alt 0 (.alt 5 (.alt 8 (.of [9,10,11]) (.of [9,8,10,11])) (.of [9,5,8,10,11])) (.of [9,0,5,8,10,11])) (.one 9 (.alt 0 (.of [4,5,8,10,11]) (.of [4,0,5,8,10,11]))))) (.one 9 (.alt 0 (.of [2,4,5,8,10,11]) (.one 2 (.alt 0 (.of [4,5,8,10,11]) (.of [4,0,5,8,10,11]))))))) (.one 9 (.alt 0 (.of [1,2,4,5,8,10,11]) (.one 1 (.alt 0 (.of [2,4,5,8,10,11]) (.one 2 (.alt 0 (.of [4,5,8,10,11]) (.of [4,0,5,8,10,11])))))))))))))]
def QJV:TC:=lb 0 QJU
def Vv (x1 x9:Int)(y2 y4:Ae)(y8:Aa):VS:=Qc5.st (x1,(),(),(),x9,()) (y2,y4,y8,(),(),(),(),())
def QZc:VS->Option (Bool×List (Bool×Exit×VS)):=mkL Qc5 (fun x y=>(decide (0<=x.2.2.2.2.1/\x.2.2.2.2.1<=y.1.2.2.2.2.1.length/\y.1.2.2.2.2.1.length<=8))) (fun x y=>[(true,.exit 0,Vv (x.1) (x.2.2.2.2.1+((y.1.2.2.2.2.1.drop x.2.2.2.2.1.toNat).takeWhile fun s=>ilt s.1 x.1).length) (y.1) (y.2.1) (y.2.2.1))])
def QtD:G:=⟨TYs,[66],84,EL [(58,Qr0),(59,Qhk)],Yx,(Ls [QZc]),IL [],RL []⟩
def Qj7 (x1 x9:Int)(y2 y4:Ae)(y8:Aa):OX:=Qu (Qx QtD QtC QJV) (Vv x1 x9 y2 y4 y8)
def Qc6 (kk:Int->Int->Ae->Ae->Aa->OX)(x1 x9:Int)(y2 y4:Ae)(y8:Aa):OX:=br (ilt x9 (Qb y2.2.2.2.2.1)) (br (cIx y2.2.2.2.2.1 x9) (br (ilt ((lgt Qe y2.2.2.2.2.1 (Int.toNat x9)).1) x1) (kk x1 (Qi .i64 x9 1) y2 y4 y8) (some (.exit 0,Vv x1 x9 y2 y4 y8))) none) (some (.exit 0,Vv x1 x9 y2 y4 y8))
def Qj8 (x1 x9:Int)(y2 y4:Ae)(y8:Aa):OX:=some (.exit 0,Vv (x1) (x9+((y2.2.2.2.2.1.drop x9.toNat).takeWhile fun s=>ilt s.1 x1).length) (y2) (y4) (y8))
theorem QJW (x1 x9 y2 y4 y8):Qj7 x1 x9 y2 y4 y8=Qc6 Qj7 x1 x9 y2 y4 y8:=lnT (x:=Qc6 (fun x1 x9 y2 y4 y8=>some (.normal,Vv x1 x9 y2 y4 y8)) x1 x9 y2 y4 y8) (by simp only [Qc6,nxA];rfl)
def Qj9 (p0:Ae)(p1:Int):OV:=
 let a1:=((((((p0).2).2).2).2).1)
 let a2:=(p0.2.2.2.2.1.drop (0:Int).toNat)
 let a3:=((p1,((J9 ((QU p0).1)),())).1,(((p1,((J9 ((QU p0).1)),())).2).1,()))
 let a4:=(List.length a1:Nat)
 br (Qt (([]:List Aa)++(lsl a1 0 ((0:Int)+(a2.takeWhile fun s=>ilt s.1 p1).length))) ([a3]) 16) (br (Qt ((([]:List Aa)++(lsl a1 0 ((0:Int)+(a2.takeWhile fun s=>ilt s.1 p1).length)))++([a3])) (lsl (lsl a1 ((0:Int)+(a2.takeWhile fun s=>ilt s.1 p1).length) (a4:Int)) 1 ((List.length (lsl a1 ((0:Int)+(a2.takeWhile fun s=>ilt s.1 p1).length) (a4:Int)):Nat):Int)) 16) (br (igt (Qb (((([]:List Aa)++(lsl a1 0 ((0:Int)+(a2.takeWhile fun s=>ilt s.1 p1).length)))++([a3]))++(lsl (lsl a1 ((0:Int)+(a2.takeWhile fun s=>ilt s.1 p1).length) (a4:Int)) 1 ((List.length (lsl a1 ((0:Int)+(a2.takeWhile fun s=>ilt s.1 p1).length) (a4:Int)):Nat):Int)))) 8) (some (.tu [(.t QK ((0,(0,())),(0,((ByteArray.mk #[]),((0,(0,())),(([]:List Aa),())))))),(.t tI 3)],[])) (some (.tu [(.t QK ((((p0).1).1,((((p0).1).2).1,())),(((p0).2).1,((((p0).2).2).1,(((((((p0).2).2).2).1).1,(((((((p0).2).2).2).1).2).1,())),((((([]:List Aa)++(lsl a1 0 ((0:Int)+(a2.takeWhile fun s=>ilt s.1 p1).length)))++([a3]))++(lsl (lsl a1 ((0:Int)+(a2.takeWhile fun s=>ilt s.1 p1).length) (a4:Int)) 1 ((List.length (lsl a1 ((0:Int)+(a2.takeWhile fun s=>ilt s.1 p1).length) (a4:Int)):Nat):Int))),())))))),(.t tI 0)],[]))) none) none
def Qka (p0:Ae)(p1:Int):OV:=br (Qt ([]:List Aa) (lsl ((((((p0).2).2).2).2).1) 0 ((0:Int)+((p0.2.2.2.2.1.drop (0:Int).toNat).takeWhile fun s=>ilt s.1 p1).length)) 16) (Qj9 p0 p1) none
def QtE (p0:Ae)(p1:Int):OV:=frk (br (Qt ([]:List Aa) (lsl ((((((p0).2).2).2).2).1) 0 ((0:Int)+((p0.2.2.2.2.1.drop (0:Int).toNat).takeWhile fun s=>ilt s.1 p1).length)) 16) (frk (Qj9 p0 p1) (Qj9 p0 p1)) none) (Qka p0 p1)
def Qkb (p0:Ae)(p1:Int):OV:=
 let a1:=((((((p0).2).2).2).2).1)
 br (cSl a1 0 ((0:Int)+((p0.2.2.2.2.1.drop (0:Int).toNat).takeWhile fun s=>ilt s.1 p1).length) ((List.length a1:Nat):Int)) (QtE p0 p1) none
def Vw (p0:Ae)(p1:Int):OV:=
 let a1:=((((((p0).2).2).2).2).1)
 br (cSl a1 0 ((0:Int)+((p0.2.2.2.2.1.drop (0:Int).toNat).takeWhile fun s=>ilt s.1 p1).length) ((List.length a1:Nat):Int)) (Qka p0 p1) none
def QtF (p0:Ae)(p1:Int):OV:=frk (Vw p0 p1) (Vw p0 p1)
def QtG (p0:Ae)(p1:Int):OV:=frk (Vw p0 p1) (QtF p0 p1)
def Qkc (p0:Ae)(p1:Int):OV:=
 let a1:=((p1,((J9 ((QU p0).1)),())).1,(((p1,((J9 ((QU p0).1)),())).2).1,()))
 let a2:=(p0.2.2.2.2.1.drop (0:Int).toNat)
 let a3:=((((((p0).2).2).2).2).1)
 let a4:=(List.length a3:Nat)
 br (Qt (([]:List Aa)++(lsl a3 0 ((0:Int)+(a2.takeWhile fun s=>ilt s.1 p1).length))) ([a1]) 16) (br (Qt ((([]:List Aa)++(lsl a3 0 ((0:Int)+(a2.takeWhile fun s=>ilt s.1 p1).length)))++([a1])) (lsl a3 ((0:Int)+(a2.takeWhile fun s=>ilt s.1 p1).length) (a4:Int)) 16) (br (igt (Qb (((([]:List Aa)++(lsl a3 0 ((0:Int)+(a2.takeWhile fun s=>ilt s.1 p1).length)))++([a1]))++(lsl a3 ((0:Int)+(a2.takeWhile fun s=>ilt s.1 p1).length) (a4:Int)))) 8) (some (.tu [(.t QK ((0,(0,())),(0,((ByteArray.mk #[]),((0,(0,())),(([]:List Aa),())))))),(.t tI 3)],[])) (some (.tu [(.t QK ((((p0).1).1,((((p0).1).2).1,())),(((p0).2).1,((((p0).2).2).1,(((((((p0).2).2).2).1).1,(((((((p0).2).2).2).1).2).1,())),((((([]:List Aa)++(lsl a3 0 ((0:Int)+(a2.takeWhile fun s=>ilt s.1 p1).length)))++([a1]))++(lsl a3 ((0:Int)+(a2.takeWhile fun s=>ilt s.1 p1).length) (a4:Int))),())))))),(.t tI 0)],[]))) none) none
def Qkd (p0:Ae)(p1:Int):OV:=br (Qt ([]:List Aa) (lsl ((((((p0).2).2).2).2).1) 0 ((0:Int)+((p0.2.2.2.2.1.drop (0:Int).toNat).takeWhile fun s=>ilt s.1 p1).length)) 16) (Qkc p0 p1) none
def QtH (p0:Ae)(p1:Int):OV:=frk (br (Qt ([]:List Aa) (lsl ((((((p0).2).2).2).2).1) 0 ((0:Int)+((p0.2.2.2.2.1.drop (0:Int).toNat).takeWhile fun s=>ilt s.1 p1).length)) 16) (frk (Qkc p0 p1) (Qkc p0 p1)) none) (Qkd p0 p1)
def Qke (p0:Ae)(p1:Int):OV:=
 let a1:=((((((p0).2).2).2).2).1)
 br (cSl a1 0 ((0:Int)+((p0.2.2.2.2.1.drop (0:Int).toNat).takeWhile fun s=>ilt s.1 p1).length) ((List.length a1:Nat):Int)) (QtH p0 p1) none
def Vx (p0:Ae)(p1:Int):OV:=
 let a1:=((((((p0).2).2).2).2).1)
 br (cSl a1 0 ((0:Int)+((p0.2.2.2.2.1.drop (0:Int).toNat).takeWhile fun s=>ilt s.1 p1).length) ((List.length a1:Nat):Int)) (Qkd p0 p1) none
def QtI (p0:Ae)(p1:Int):OV:=frk (Vx p0 p1) (Vx p0 p1)
def QtJ (p0:Ae)(p1:Int):OV:=frk (Vx p0 p1) (QtI p0 p1)
def QtK (p0:Ae)(p1:Int):OV:=
 let a1:=((((((p0).2).2).2).2).1)
 frk (frk (Qke p0 p1) (Vx p0 p1)) (frk (frk (Qke p0 p1) (frk (frk (Qke p0 p1) (frk (br (cSl a1 0 ((0:Int)+((p0.2.2.2.2.1.drop (0:Int).toNat).takeWhile fun s=>ilt s.1 p1).length) ((List.length a1:Nat):Int)) (frk (QtH p0 p1) (Qkd p0 p1)) none) (QtI p0 p1))) (QtJ p0 p1))) (frk (Vx p0 p1) (QtJ p0 p1)))
def QtL (p0:Ae)(p1:Int):OV:=
 let a3:=((((((p0).2).2).2).2).1)
 let a1:=((List.length a3:Nat):Int)
 let a2:=(p0.2.2.2.2.1.drop (0:Int).toNat)
 let a4:=ByteArray.mk #[]
 br (Jy p0) (br (ine ((QU p0).2) 0) (some (.tu [(.t QK ((0,(0,())),(0,(a4,((0,(0,())),(([]:List Aa),())))))),(.t tI ((QU p0).2))],[])) (br (ilt p1 0) (some (.tu [(.t QK ((0,(0,())),(0,(a4,((0,(0,())),(([]:List Aa),())))))),(.t tI 2)],[])) (br (igt p1 2147483648) (some (.tu [(.t QK ((0,(0,())),(0,(a4,((0,(0,())),(([]:List Aa),())))))),(.t tI 2)],[])) (br (Xs ((QU p0).1)) (br (decide (0<=(0:Int)/\(0:Int)<=p0.2.2.2.2.1.length/\p0.2.2.2.2.1.length<=8)) (br (cSl a3 ((0:Int)+(a2.takeWhile fun s=>ilt s.1 p1).length) a1 a1) (br (igt (Qb (lsl a3 ((0:Int)+(a2.takeWhile fun s=>ilt s.1 p1).length) a1)) 0) (br (cIx (lsl a3 ((0:Int)+(a2.takeWhile fun s=>ilt s.1 p1).length) a1) 0) (br (ieq ((lgt Qe (lsl a3 ((0:Int)+(a2.takeWhile fun s=>ilt s.1 p1).length) a1) (Int.toNat 0)).1) (p1)) (br (cSl (lsl a3 ((0:Int)+(a2.takeWhile fun s=>ilt s.1 p1).length) a1) 1 ((List.length (lsl a3 ((0:Int)+(a2.takeWhile fun s=>ilt s.1 p1).length) a1):Nat):Int) ((List.length (lsl a3 ((0:Int)+(a2.takeWhile fun s=>ilt s.1 p1).length) a1):Nat):Int)) (frk (frk (Qkb p0 p1) (Vw p0 p1)) (frk (frk (Qkb p0 p1) (frk (frk (Qkb p0 p1) (frk (br (cSl a3 0 ((0:Int)+(a2.takeWhile fun s=>ilt s.1 p1).length) a1) (frk (QtE p0 p1) (Qka p0 p1)) none) (QtF p0 p1))) (QtG p0 p1))) (frk (Vw p0 p1) (QtG p0 p1)))) none) (QtK p0 p1)) none) (QtK p0 p1)) none) none) none)))) none
theorem QZd (x1 x9:Int)(y2 y4:Ae)(y8:Aa)(h:(decide (0<=x9/\x9<=y2.2.2.2.2.1.length/\y2.2.2.2.2.1.length<=8))=true):Qj7 x1 x9 y2 y4 y8=Qj8 x1 x9 y2 y4 y8:=by
 obtain ⟨h0,h1,h2⟩:=Bw h
 obtain ⟨k,rfl⟩:=Bm h0
 refine QP y2.2.2.2.2.1 (fun k=>Qj7 x1 (k:Int) y2 y4 y8=Qj8 x1 (k:Int) y2 y4 y8) ?_ ?_ k (by omega)
 ·rw [QJW]
  simp only [Qc6,Qj8,Qb,Qv,BK,BP,Qh,Bb,BF,List.takeWhile_nil,Bv]
  rfl
 ·intro k hk ih
  rw [QJW]
  simp only [Qc6,Qb,Qv,QM,hk,Bu,Qd,Bb,QO (k:=k),QN (y:=Qe) hk,ih]
  simp only [Qj8,Bb,Bg hk,List.takeWhile_cons]
  cases ilt y2.2.2.2.2.1[k].1 x1 with
  |true=>
   simp only [Qd,if_true,Br]
   have e:((k+1:Nat):Int)+(((y2.2.2.2.2.1.drop (k+1)).takeWhile fun s=>ilt s.1 x1).length:Int)=(k:Int)+((((y2.2.2.2.2.1.drop (k+1)).takeWhile fun s=>ilt s.1 x1).length+1:Nat):Int):=by omega
   rw [e]
  |false=>
   simp only [Qh,BE,Dc,Bv]
   rfl
theorem QZe:LO QtD QtC QJV 0:=QC (s:=Qc5) fun x y h _ q=>by simp only [QA,QB] at q;exact (QZd x.1 x.2.2.2.2.1 y.1 y.2.1 y.2.2.1 h).trans q
theorem s_f34 (x key)(h:Qj6 x key=true):QtL x key=some (.tu [.t QK (U8 x key).1,.t tI (U8 x key).2],[]):=by
 unfold QtL U8
 refine brY h ?_
 cases hb:ine (QU x).2 0 with
 |true=>rfl
 |false=>
  have hg:exG x=true:=by
   cases hq:exG x with
   |true=>rfl
   |false=>
    unfold QU at hb
    rw [hq] at hb
    cases hb
  have h8:=(EZ hg).2.2.2.2.2.2.1
  rw [Qh]
  cases ilt key 0 with
  |true=>rfl
  |false=>
   rw [Qh]
   cases igt key 2147483648 with
   |true=>rfl
   |false=>
    rw [Qh,Bool.or_false,BW,BW]
    refine brY (QrW x) (brY (Bc ⟨BY 0,by omega,h8⟩) ?_)
    have hk:((x.2.2.2.2.1.drop (0:Int).toNat).takeWhile fun s=>ilt s.1 key).length<=x.2.2.2.2.1.length:=by
     rw [Bt,Bx]
     exact List.Sublist.length_le (List.takeWhile_sublist _)
    simp only [QtL,Qkb,QtE,Qj9,Qka,Vw,QtF,QtG,QtK,Qke,QtH,Qkc,Qkd,Vx,QtI,QtJ,JG,Qj5,sgnQ,Vu]
    generalize hK:(0:Int)+(((x.2.2.2.2.1.drop (0:Int).toNat).takeWhile fun s=>ilt s.1 key).length:Int)=K
    have hK0:0<=K/\K<=(x.2.2.2.2.1.length:Int):=by omega
    clear hk hK
    generalize x.2.2.2.2.1=l at*
    have ll: ∀ (a b:Int) (m:List Aa),(lsl m a b).length<=m.length:=fun a b m=>by
     unfold lsl
     simp only [B9,Di]
     omega
    have c1:cSl l K ((List.length l:Nat):Int) ((List.length l:Nat):Int)=true:=Bc ⟨hK0.1,hK0.2,BY _,BY _⟩
    have c2:cSl l 0 K ((List.length l:Nat):Int)=true:=Bc ⟨BY 0,hK0.1,hK0.2,BY _⟩
    have l1:=ll 0 K l
    have l2:=ll K ((List.length l:Nat):Int) l
    generalize lsl l 0 K=p at*
    generalize lsl l K ((List.length l:Nat):Int)=q at*
    have l3:=ll 1 ((List.length q:Nat):Int) q
    have c3:Qt ([]:List Aa) p 16=true:=QX (by omega) (by simp only [Bv];omega)
    have c4: ∀ v:Aa,Qt (([]:List Aa)++p) [v] 16=true:=fun v=>QX (by omega) (by simp only [BM,Bh];omega)
    have c5: ∀ v:Aa,Qt ((([]:List Aa)++p)++[v]) q 16=true:=fun v=>QX (by omega) (by simp only [BM,Bj,Bh];omega)
    have c6: ∀ v:Aa,Qt ((([]:List Aa)++p)++[v]) (lsl q 1 ((List.length q:Nat):Int)) 16=true:=fun v=>QX (by omega) (by simp only [BM,Bj,Bh];omega)
    cases h1:igt (Qb q) 0 with
    |false=>
     simp only [c1,c2,c3,c4,c5,Qd,Qh,JG,DK,BW]
     cases igt (Qb (([]++p++[(key,(J9 (QU x).1,()))])++q)) 8<;>rfl
    |true=>
     have hq:0<q.length:=by
      have:=Bw h1
      simp only [Qb] at this
      omega
     have c7:cIx q 0=true:=Bc ⟨BY 0,by omega⟩
     have c8:cSl q 1 ((List.length q:Nat):Int) ((List.length q:Nat):Int)=true:=Bc ⟨by omega,by omega,BY _,BY _⟩
     have ez:Int.toNat 0=0:=rfl
     cases h2:ieq (lgt Qe q 0).1 key with
     |false=>
      simp only [c1,c2,c3,c4,c5,c7,ez,h2,Qd,Qh,JG,By,BW]
      cases igt (Qb (([]++p++[(key,(J9 (QU x).1,()))])++q)) 8<;>rfl
     |true=>
      simp only [c1,c2,c3,c4,c6,c7,c8,ez,h2,Qd,Qh,JG,By,B6]
      cases igt (Qb (([]++p++[(key,(J9 (QU x).1,()))])++lsl q 1 ((List.length q:Nat):Int))) 8<;>rfl
def QJX:Ent:=Qm (.pr QK (.pr tI .nil)) (fun x=>(Qj6 x.1 x.2.1)) (fun x=>(.tu [(.t QK ((U8 x.1 x.2.1).1)),(.t tI ((U8 x.1 x.2.1).2))]))
theorem ms_f34:EM 34 QJX:=mS (lk:=lkL (lkc QZe lkn)) QtD QJU [((.c 4 true 7),some QK),((.t 5),some tI)] false (Zq _ (gA (gD QGD (gD Qqd gN)))) fun m=>Qq m fun x hok=>kT (s_f34 x.1 x.2.1 hok)
def X8 (x:Ad)(c:Am):Ad×Int:=bif ine (Ye x) 0 then (zX,31) else Gh x c
def tc_f28:TC:=aF Tryz.f28 []
def g_f28:G:=gG 15 [(38,QcF),(52,QMb)] (fun _ _=>none)
def r_f28 (p0:Ad)(p1:Am):OV:=br (Jh p0) (br (ine (Ye p0) 0) (some (.tu [(.t Qo (([]:List Ac),(([]:List Aa),(([]:List Ag),())))),(.t tI 31)],[])) (br (F4 p0 p1) (some (.tu [(.t Qo ((Gh p0 p1).1)),(.t tI ((Gh p0 p1).2))],[])) none)) none
theorem s_f28 (x c)(h:F4 x c=true):r_f28 x c=some (.tu [.t Qo (X8 x c).1,.t tI (X8 x c).2],[]):=by
 obtain ⟨hb,hi⟩:=Bf.1 h
 obtain ⟨hl,_⟩:=Qvf hb (by decide)
 unfold r_f28 X8
 refine brY hl ?_
 cases ine (Ye x) 0 with
 |true=>rfl
 |false=>
  rw [Qh]
  exact brY h rfl
def QL9:Ent:=Qm (.pr Qo (.pr ZD .nil)) (fun x=>(F4 x.1 x.2.1)) (fun x=>(.tu [(.t Qo ((X8 x.1 x.2.1).1)),(.t tI ((X8 x.1 x.2.1).2))]))
theorem ms_f28:EM 28 QL9:=mS g_f28 tc_f28 [((.c 4 true 3),some Qo),((.t 5),some tI)] false (gB (gD Qjc (gD ms_f52 gN))) fun m=>Qq m fun x hok=>kT (s_f28 x.1 x.2.1 hok)
theorem Q1M {e:Ac}(h:QbB e):Yp 1000 e=true:=by
 have hl:=Qpw h
 obtain ⟨d,k,s,rfl,hs,hk⟩:=h
 have hsu:(Fx d).length<=5:=Bw (QCz (p:=fun l=>decide (l.length<=5)) (by decide) d)
 unfold QY at hl
 simp only [Bd,Ba] at hl
 unfold Yp
 simp only [Bd,Ba]
 exact ⟨⟨hl.1.1,B5 hsu (by decide),(show 1<=1000 by decide),(show 1<=1000 by decide),(show 2<=1000 by decide)⟩,hl.2⟩
abbrev ecV:Aa:=(7,(256,()))
def QH4:TC:=aF Tryz.f53 []
def QH5:List (RV×Option Ty):=[((.c 0 true 2),some Qe)]
def g_f53:G:=gG 2 [] (fun _ _=>none)
def r_f53  : OV:=some (.t Qe (7,(256,())),[])
theorem e_f53  : JL g_f53 QH4 QH5 false [] []=r_f53  :=by kernel_rfl
theorem s_f53:r_f53=some (.t Qe ecV,[]):=rfl
def QH6:Ent:=Qm .nil (fun x=>true) (fun x=>(.t Qe ecV))
theorem ms_f53:EM 53 QH6:=mS g_f53 QH4 QH5 false (gB gN) fun m=>Qq m fun x _=>(e_f53 ).trans (s_f53)
abbrev anL (e:Ad):Int:=Qb (QT e)
abbrev anK (d:Ab)(e:Ad):Int:=Qi .i64 1 (Qg (Qc d (anL e)) 12)
abbrev anD (d:Ab)(e:Ad):Ab:=Qc (Qc d (anL e)) 12
abbrev anX (d:Ab)(e:Ad):Ac:=lgt Qp (QT e) (Int.toNat (Qg d (anL e)))
abbrev anI (d:Ab)(e:Ad)(n a:Int)(i:Aj):Am:=(Qg d (anL e),(anK d e,(n,(a,(i,())))))
abbrev anC (d:Ab)(e:Ad)(n:Int):Am:=anI d e n 0 GR
abbrev anN (d:Ab)(e:Ad)(m:Int):Am×Ab:=(anC d e (Qi .i64 1 (Qg (anD d e) m)),Qc (anD d e) m)
def any1 (d:Ab)(e:Ad):Am×Ab:=
 (anI d e (Qi .i64 1 (Qg (anD d e) 16)) (Qg (Qc (anD d e) 16) (Qi .i64 (Qb (QI (anX d e))) 1)) GR,Qc (Qc (anD d e) 16) (Qi .i64 (Qb (QI (anX d e))) 1))
def Qsz (d:Ab)(e:Ad):Am×Ab:=
 bif igt (Qb (QI (anX d e))) 0 then (bif !(done (Qc (anD d e) 16) 4) then (anC d e (lgt tI (QI (anX d e)) (Int.toNat (Qg (Qc (Qc (anD d e) 16) 4) (Qb (QI (anX d e)))))),Qc (Qc (Qc (anD d e) 16) 4) (Qb (QI (anX d e))))
  else (anC d e (Qi .i64 1 (Qg (anD d e) 16)),Qc (Qc (anD d e) 16) 4)) else anN d e 16
abbrev anU (e:Ac):Int:=Qi .i64 (Qb (QF e)) 1
abbrev QH7:List Aa:=[ecV,Zo]
def any5 (d:Ab)(e:Ad):Am×Ab:=
 (anI d e 0 (Qg (anD d e) (anU (anX d e))) (YM (anX d e).1 (lgt Qe QH7 (Int.toNat (Qg (Qc (anD d e) (anU (anX d e))) 2))) (Qi .i64 200 (Qg (Qc (Qc (anD d e) (anU (anX d e))) 2) 3)) (Qi .i64 1 (Qg (Qc (Qc (Qc (anD d e) (anU (anX d e))) 2) 3) 2)) 901),
  Qc (Qc (Qc (Qc (anD d e) (anU (anX d e))) 2) 3) 2)
def QsA (d:Ab)(e:Ad):Am×Ab:=
 bif igt (Qb (QF (anX d e))) 0 then (bif !(done (Qc (anD d e) 4) 4) then (anC d e (lgt Q2 (QF (anX d e)) (Int.toNat (Qg (Qc (Qc (anD d e) 4) 4) (Qb (QF (anX d e)))))).2.1,Qc (Qc (Qc (anD d e) 4) 4) (Qb (QF (anX d e))))
  else (anC d e (Qi .i64 100 (Qg (anD d e) 4)),Qc (Qc (anD d e) 4) 4)) else (anC d e (Qi .i64 100 (Qg (anD d e) 4)),Qc (anD d e) 4)
def QsB (d:Ab)(e:Ad):Am×Ab:=
 bif ieq (anK d e) 11 then (anC d e (Qg (anD d e) 2),Qc (anD d e) 2) else bif ieq (anK d e) 12 then (anC d e (Qg (anD d e) 2),Qc (anD d e) 2) else (anC d e 0,anD d e)
def QsC (d:Ab)(e:Ad):Am×Ab:=bif ieq (anK d e) 9 then anN d e 4 else bif ieq (anK d e) 10 then anN d e 4 else QsB d e
def QsD (d:Ab)(e:Ad):Am×Ab:=
 bif ieq (anK d e) 5 then any5 d e else bif ieq (anK d e) 6 then QsA d e else bif ieq (anK d e) 7 then anN d e 3 else bif ieq (anK d e) 8 then anN d e 3 else QsC d e
def QcL (d:Ab)(e:Ad):Am×Ab:=
 bif ieq (anK d e) 1 then any1 d e else bif ieq (anK d e) 2 then Qsz d e else bif ieq (anK d e) 3 then anN d e 4 else bif ieq (anK d e) 4 then anN d e 4 else QsD d e
def WX (d:Ab)(e:Ad):Am:=(QcL d e).1
def GW (d:Ab)(e:Ad):Ab:=(QcL d e).2
def anyE (e:Ac):Bool:=QY e&&nm1 e.1
def FO (d:Ab)(e:Ad):Bool:=dOk d&&(decide (0<(QT e).length/\(QT e).length<=1000)&&(QT e).all anyE)
abbrev XV (p:Am×Ab):OV:=some (.t ZD p.1,[.box (.t Qn p.2)])
theorem brQ {c:Bool}{x y:Am×Ab}{A B:OV}(h1:A=XV x)(h2:B=XV y):br c A B=XV (bif c then x else y):=by
 cases c with
 |true=>exact h1
 |false=>exact h2
theorem Qjt {c b:Bool}{x y:Am×Ab}{A B:OV}(h1:A=XV x)(h2:B=XV y):br c (br c A B) (br b A B)=XV (bif c then x else bif b then x else y):=by
 cases c with
 |true=>exact h1
 |false=>
  show br b A B=XV (bif b then x else y)
  exact brQ h1 h2
def tc_f29:TC:=aF Tryz.f29 [(1002,pE [[50000],[28,5028,10028,15028,50000],[],[50000],[6],[6],[],[],[35,5035,10035,15035,50000],[7],[7],[7],[7]] (.of [0,3,4,5,6,7,1,2,9,8,10,11,12])),(32118,pE [[6],[6],[50000],[6],[6],[],[59,5059,10059,15059,50000],[],[],[7],[7]] (oN 11)),(64254,pE [[50000],[6],[6],[],[],[77,5077,10077,15077,50000],[6],[6],[],[],[],[50000],[84,5084,10084,15084,50000],[],[],[50000],[88,5088,10088,15088,50000],[],[50000],[91,5091,10091,15091,50000],[],[],[7],[7],[7],[7]] (.of [0,1,2,3,4,6,7,11,15,18,5,8,9,10,22,12,13,14,16,17,19,20,21,23,24,25])),(2056182,pE [[6],[6],[50000],[6],[6],[],[117,5117,10117,15117,50000],[],[],[],[7],[7]] (oN 12))]
def g_f29:G:=gG 143 [(10,Y9),(13,Fq),(50,Qme),(51,Qmd),(53,QH6)] (fun _ _=>none)
def QcM (d0:Ab)(p1:Ad):OV:=
 let a1:=Qc (Qc d0 (Qb p1.1)) 12
 br (QE a1 4) (some (.t ZD ((Qg d0 (Qb p1.1)),((Qi .i64 1 (Qg (Qc d0 (Qb p1.1)) 12)),((Qi .i64 1 (Qg a1 4)),(0,(((0,(0,())),(0,(([]:List Af),()))),()))))),[.box (.t Qn (Qc a1 4))])) none
def QsE (d0:Ab)(p1:Ad):OV:=
 let a1:=Qc (Qc d0 (Qb p1.1)) 12
 br (QE a1 3) (some (.t ZD ((Qg d0 (Qb p1.1)),((Qi .i64 1 (Qg (Qc d0 (Qb p1.1)) 12)),((Qi .i64 1 (Qg a1 3)),(0,(((0,(0,())),(0,(([]:List Af),()))),()))))),[.box (.t Qn (Qc a1 3))])) none
def QsF (d0:Ab)(p1:Ad):OV:=
 let a1:=Qc (Qc d0 (Qb p1.1)) 12
 br (QE a1 2) (some (.t ZD ((Qg d0 (Qb p1.1)),((Qi .i64 1 (Qg (Qc d0 (Qb p1.1)) 12)),((Qg a1 2),(0,(((0,(0,())),(0,(([]:List Af),()))),()))))),[.box (.t Qn (Qc a1 2))])) none
def Qju (d0:Ab)(p1:Ad):OV:=
 let a1:=Qi .i64 1 (Qg (Qc d0 (Qb p1.1)) 12)
 let a2:=Qc (Qc d0 (Qb p1.1)) 12
 br (ieq a1 11) (br (ieq a1 11) (QsF d0 p1) (some (.t ZD ((Qg d0 (Qb p1.1)),(a1,(0,(0,(((0,(0,())),(0,(([]:List Af),()))),()))))),[.box (.t Qn a2)]))) (br (ieq a1 12) (QsF d0 p1) (some (.t ZD ((Qg d0 (Qb p1.1)),(a1,(0,(0,(((0,(0,())),(0,(([]:List Af),()))),()))))),[.box (.t Qn a2)])))
def Qjv (d0:Ab)(p1:Ad):OV:=
 let a1:=Qi .i64 1 (Qg (Qc d0 (Qb p1.1)) 12)
 br (ieq a1 9) (br (ieq a1 9) (QcM d0 p1) (Qju d0 p1)) (br (ieq a1 10) (QcM d0 p1) (Qju d0 p1))
def Qjw (d0:Ab)(p1:Ad):OV:=
 let a4:=Qc d0 (Qb p1.1)
 let a7:=Qg d0 (Qb p1.1)
 let a3:=(((((((lgt Qp p1.1 (Int.toNat a7)).2).2).2).2).2).1)
 let a11:=Qi .i64 (Qb a3) 1
 let a1:=Qc (Qc a4 12) a11
 let a8:=Qc (Qc a1 2) 3
 let a2:=(YM ((lgt Qp p1.1 (Int.toNat a7)).1) (lgt Qe ([(ecV.1,(ecV.2.1,())),(Zo.1,(Zo.2.1,()))]) (Int.toNat (Qg a1 2))) (Qi .i64 200 (Qg (Qc a1 2) 3)) (Qi .i64 1 (Qg a8 2)) 901)
 let a5:=Qi .i64 1 (Qg a4 12)
 let a6:=Qc (Qc a4 12) 4
 let a9:=Qi .i64 100 (Qg (Qc a4 12) 4)
 let a10:=Qg (Qc a6 4) (Qb a3)
 br (ieq a5 5) (br (QE (Qc a4 12) a11) (br (QE a1 2) (br (cIx ([(ecV.1,(ecV.2.1,())),(Zo.1,(Zo.2.1,()))]) (Qg a1 2)) (br (QE (Qc a1 2) 3) (br (QE a8 2) (br (Iw ((lgt Qp p1.1 (Int.toNat a7)).1) (lgt Qe ([(ecV.1,(ecV.2.1,())),(Zo.1,(Zo.2.1,()))]) (Int.toNat (Qg a1 2))) (Qi .i64 200 (Qg (Qc a1 2) 3)) (Qi .i64 1 (Qg a8 2)) 901) (some (.t ZD (a7,(a5,(0,((Qg (Qc a4 12) a11),((((a2.1).1,(((a2.1).2).1,())),((a2.2).1,(((a2.2).2).1,()))),()))))),[.box (.t Qn (Qc a8 2))])) none) none) none) none) none) none) (br (ieq a5 6) (br (QE (Qc a4 12) 4) (br (igt (Qb a3) 0) (br (Jb a6 4) (br (!(done a6 4)) (br (QE (Qc a6 4) (Qb a3)) (br (cIx a3 a10) (some (.t ZD (a7,(a5,(((lgt Q2 a3 (Int.toNat a10)).2).1,(0,(((0,(0,())),(0,(([]:List Af),()))),()))))),[.box (.t Qn (Qc (Qc a6 4) (Qb a3)))])) none) none) (some (.t ZD (a7,(a5,(a9,(0,(((0,(0,())),(0,(([]:List Af),()))),()))))),[.box (.t Qn (Qc a6 4))]))) none) (some (.t ZD (a7,(a5,(a9,(0,(((0,(0,())),(0,(([]:List Af),()))),()))))),[.box (.t Qn a6)]))) none) (br (ieq a5 7) (br (ieq a5 7) (QsE d0 p1) (Qjv d0 p1)) (br (ieq a5 8) (QsE d0 p1) (Qjv d0 p1))))
def r_f29 (d0:Ab)(p1:Ad):OV:=
 let a5:=Qg d0 (Qb p1.1)
 let a1:=(((((lgt Qp p1.1 (Int.toNat a5)).2).2).2).1)
 let a2:=Qc d0 (Qb p1.1)
 let a3:=Qc (Qc a2 12) 16
 let a4:=Qi .i64 1 (Qg a2 12)
 let a6:=Qi .i64 1 (Qg (Qc a2 12) 16)
 let a7:=Qi .i64 (Qb a1) 1
 let a8:=Qg (Qc a3 4) (Qb a1)
 let a9:=QE (Qc a2 12) 16
 br (QE d0 (Qb p1.1)) (br (cIx p1.1 a5) (br (QE a2 12) (br (ieq a4 1) (br a9 (br (QE a3 a7) (some (.t ZD (a5,(a4,(a6,((Qg a3 a7),(((0,(0,())),(0,(([]:List Af),()))),()))))),[.box (.t Qn (Qc a3 a7))])) none) none) (br (ieq a4 2) (br a9 (br (igt (Qb a1) 0) (br (Jb a3 4) (br (!(done a3 4)) (br (QE (Qc a3 4) (Qb a1)) (br (cIx a1 a8) (some (.t ZD (a5,(a4,((lgt tI a1 (Int.toNat a8)),(0,(((0,(0,())),(0,(([]:List Af),()))),()))))),[.box (.t Qn (Qc (Qc a3 4) (Qb a1)))])) none) none) (some (.t ZD (a5,(a4,(a6,(0,(((0,(0,())),(0,(([]:List Af),()))),()))))),[.box (.t Qn (Qc a3 4))]))) none) (some (.t ZD (a5,(a4,(a6,(0,(((0,(0,())),(0,(([]:List Af),()))),()))))),[.box (.t Qn a3)]))) none) (br (ieq a4 3) (br (ieq a4 3) (QcM d0 p1) (Qjw d0 p1)) (br (ieq a4 4) (QcM d0 p1) (Qjw d0 p1))))) none) none) none
theorem s_f29 (d e)(h:FO d e=true):r_f29 d e=XV (QcL d e):=by
 simp only [FO,Bd,Ba] at h
 obtain ⟨hd,⟨hl0,hl1⟩,hall⟩:=h
 have hL:anL e=((QT e).length:Int):=rfl
 have hv:=Q8 (d:=d) (n:=anL e) (by omega)
 have hi:(Int.toNat (Qg d (anL e)))<(QT e).length:=by omega
 have hX:anyE (anX d e)=true:=by
  rw [show anX d e=(QT e)[Int.toNat (Qg d (anL e))] from QN (y:=Qp) hi]
  exact Bi.1 hall _ (BC hi)
 obtain ⟨hX1,hX2⟩:=Bf.1 hX
 obtain ⟨_,b1,b2,_,_,_⟩:=Gc hX1
 have d1:dOk (Qc d (anL e))=true:=Qz hd
 have d2:dOk (anD d e)=true:=Qz d1
 have nx: ∀ {w:Ab} {n:Int},dOk w=true->n<=1000000->QE w n=true:=fun h hn=>Zp h hn
 have s1:Qi .i64 (Qb (QI (anX d e))) 1=((QI (anX d e)).length:Int)+1:=Ja (by simp only [Qb];omega)
 have s2:anU (anX d e)=((QF (anX d e)).length:Int)+1:=Ja (by simp only [Qb];omega)
 have q1:QcM d e=XV (anN d e 4):=brY (nx d2 (by decide)) rfl
 have q3:QsE d e=XV (anN d e 3):=brY (nx d2 (by decide)) rfl
 have q6:QsF d e=XV (anC d e (Qg (anD d e) 2),Qc (anD d e) 2):=brY (nx d2 (by decide)) rfl
 have q5:Qju d e=XV (QsB d e):=by
  unfold Qju
  exact Qjt q6 rfl
 have q4:Qjv d e=XV (QsC d e):=by
  unfold Qjv
  exact Qjt q1 q5
 have q2:Qjw d e=XV (QsD d e):=by
  unfold Qjw
  refine brQ ?_ (brQ ?_ (Qjt q3 q4))
  ·refine brY (nx d2 (by show anU (anX d e)<=1000000;omega)) (brY (nx (Qz d2) (by decide)) (brY ?_ (brY (nx (Qz (Qz d2)) (by decide)) (brY (nx (Qz (Qz (Qz d2))) (by decide)) (brY hX2 rfl)))))
   have:=Q8 (d:=Qc (anD d e) (anU (anX d e))) (n:=2) (by decide)
   exact Bc ⟨this.1,this.2⟩
  ·refine brY (nx d2 (by decide)) ?_
   unfold QsA
   show br (igt (Qb (QF (anX d e))) 0) _ _=_
   cases hg:igt (Qb (QF (anX d e))) 0 with
   |false=>rfl
   |true=>
    have hg:=Bw hg
    simp only [Qb] at hg
    have:=Q8 (d:=Qc (Qc (anD d e) 4) 4) (n:=Qb (QF (anX d e))) hg
    rw [Qd,B6]
    refine brY (WA (Qz d2) (by decide) (by decide)) (brQ ?_ rfl)
    exact brY (nx (Qz (Qz d2)) (by show ((QF (anX d e)).length:Int)<=1000000;omega)) (brY (Bc ⟨this.1,this.2⟩) rfl)
 unfold r_f29
 refine brY (nx hd (by show anL e<=1000000;omega)) (brY (Bc ⟨hv.1,hv.2⟩) (brY (nx d1 (by decide)) (brQ ?_ (brQ ?_ (Qjt q1 q2)))))
 ·exact brY (nx d2 (by decide)) (brY (nx (Qz d2) (by show Qi .i64 (Qb (QI (anX d e))) 1<=1000000;omega)) rfl)
 ·refine brY (nx d2 (by decide)) ?_
  unfold Qsz
  show br (igt (Qb (QI (anX d e))) 0) _ _=_
  cases hg:igt (Qb (QI (anX d e))) 0 with
  |false=>rfl
  |true=>
   have hg:=Bw hg
   simp only [Qb] at hg
   have:=Q8 (d:=Qc (Qc (anD d e) 16) 4) (n:=Qb (QI (anX d e))) hg
   rw [Qd,B6]
   refine brY (WA (Qz d2) (by decide) (by decide)) (brQ ?_ rfl)
   exact brY (nx (Qz (Qz d2)) (by show ((QI (anX d e)).length:Int)<=1000000;omega)) (brY (Bc ⟨this.1,this.2⟩) rfl)
def QH8:Ent:=Yz Qn (.pr Qo .nil) (fun d x=>(FO d x.1)) (fun d x=>(.t ZD (WX d x.1))) (fun d x=>(GW d x.1))
theorem ms_f29:EM 29 QH8:=mS g_f29 tc_f29 [((.c 4 true 8),some ZD)] false (gB (gD Xq (gD EG (gD Qwd (gD Qwc (gD ms_f53 gN)))))) fun m=>Y7 m rfl fun d x hok=>kT (s_f29 d x.1 hok)
end K
end Go.Proofs.YtkmobehaikjdjaaGreat
