import Derived.Test.YtkmobehaikjdjaaGreatQ4
set_option maxRecDepth 100000
set_option linter.unusedSimpArgs false
set_option linter.unusedVariables false
noncomputable section
set_option linter.unusedSectionVars false
namespace Go.Proofs.YtkmobehaikjdjaaGreat
open Go.RowKit
namespace K
theorem Qvp {n:Nat}{x:Ql}(h:okT (n+1) x=true): ∀ k (hk:k<(List.map Val.un x.2.2.2.1).length),okT n (List.map Val.un x.2.2.2.1)[k]=true:=by
 intro k hk
 rw [List.getElem_map,Qad]
 exact (UG h).2.2.2.2.2.2 _ (BC _)
def Ww (_x:Ql):Bool:=true
def F5 (x:Ql):Bool:=okT 12 x
theorem Q1Y (x:Ql)(h:F5 x=true): ∃ N,okT N x=true:=⟨12,h⟩
theorem Q1Z (x:Ql)(h:F5 x=true): ∃ N,okT N x=true:=⟨12,h⟩
theorem QMs:J6 Tryz.prog 241:= .inr ⟨by decide,_,Tryz.func241,by kernel_rfl,by kernel_rfl⟩
def VU [Fuel]:Ent:=Qm (.pr Qy .nil) (fun x=>(okT Jg x.1)) (fun x=>(.t .bool (Ww x.1)))
theorem Q10:J6 Tryz.prog 241:=QMs
section
variable [Fuel][Nonempty (PLift (QH Tryz.prog 241 (QD VU)))]
theorem Q11:QH Tryz.prog 241 (QD VU):=(Classical.choice (inferInstance:Nonempty (PLift (QH Tryz.prog 241 (QD VU))))).down
def QlC (_x:Ql):Bool:=false
def QlD [Fuel](x:Ql):Bool:=okT Jg x
def Wx [Fuel](l:List Ql):Bool:=decide (l.length<=100000)&&l.all (okT Jg)
def Q12:TC:=aF Tryz.f248 []
def g_f248:G:=gG 6 [(241,VU)] (fun _ _=>none)
def QMt (p0:Ql):OV:=br (okT Jg p0) (some (.t .bool (!(Ww p0)),[])) none
theorem s_f248 (x)(h:QlD x=true):QMt x=some (.t .bool (QlC x),[]):=by
 simp only [QMt,show okT Jg x=true from h,Qd]
 rfl
def QMu:Ent:=Qm (.pr Qy .nil) (fun x=>(QlD x.1)) (fun x=>(.t .bool (QlC x.1)))
theorem Q13:EM 248 QMu:=mS g_f248 Q12 [((.t 2),some .bool)] false (gB (gC Q10 Q11 gN)) fun m=>Qq m fun x hok=>kT (s_f248 x.1 hok)
def Qvq (_l:List Ql):Int:= -1
abbrev QlE:Sh:=⟨[(0,.ty (.sl Qy)),(1,.cf 248),(7,.ty tI),(8,.ty tI)],[]⟩
abbrev QMv:Sh:=⟨[(4,.ty tI)],[]⟩
abbrev QlF:Sh:=⟨[],[]⟩
def Qvr:Fg:=QlE.f
def QMw:TC:=aF Tryz.f252 [(26,pL 0 Qvr),(421,.fg QlF.f),(13517,.fg QMv.f)]
def QMx:TC:=lb 0 QMw
def QMy (x0:List Ql)(x7 x8:Int):VS:=QlE.st (x0,(),x7,x8,()) ()
def Qvs (x4:Int):VS:=QMv.st (x4,()) ()
def Qvt  : VS:=QlF.st () ()
def Q14:VS->Option (Bool×List (Bool×Exit×VS)):=mkL QlE (fun x y=>(Qw x.1 x.2.2.1 x.2.2.2.1&&Wx x.1)) (fun x y=>[((false),.ret,Qvs (x.2.2.2.1)),(true,.exit 0,Qvt)])
def Qvu:G:=gG 19 [(248,QMu)] (Ls [Q14])
def QlG (x0:List Ql)(x7 x8:Int):OX:=Qu (Qx Qvu Qvr QMx) (QMy x0 x7 x8)
def QdY (kk:List Ql->Int->Int->OX)(x0:List Ql)(x7 x8:Int):OX:=
 let a1:=lgt Qy x0 (Int.toNat x8)
 br (ilt x8 x7) (br (cIx x0 x8) (br (QlD a1) (br (QlC a1) (some (.ret,Qvs x8)) (kk x0 x7 (Qi .i64 x8 1))) none) none) (some (.exit 0,Qvt))
def Qvv (x0:List Ql)(x7 x8:Int):OX:=br (false) (some (.ret,Qvs (x8)))<|some (.exit 0,Qvt)
theorem QMz (x0 x7 x8):QlG x0 x7 x8=QdY QlG x0 x7 x8:=lnT (x:=QdY (fun x0 x7 x8=>some (.normal,QMy x0 x7 x8)) x0 x7 x8) (by simp only [QdY,nxA];rfl)
def QMA (p0:List Ql):OV:=br (Qw p0 (Qb p0) (0:Int)&&Wx p0) (br (false) (some (.t tI (0:Int),[])) (some (.t tI (-1),[]))) none
theorem Q15 (x0:List Ql)(x7 x8:Int)(h:(Qw x0 x7 x8&&Wx x0)=true):QlG x0 x7 x8=Qvv x0 x7 x8:=by
 simp only [Bd] at h
 obtain ⟨h0,hc⟩:=h
 obtain ⟨rfl,h3,k,rfl,hk⟩:=Jv h0
 clear h0
 simp only [Wx,Bd,Bi] at hc
 refine QP x0 (fun k=>QlG x0 (x0.length:Int) (k:Int)=Qvv x0 (x0.length:Int) (k:Int)) ?_ ?_ k hk
 ·rw [QMz]
  simp [QdY,Qvv,Qv,Qh]
 ·intro k hk ih
  rw [QMz]
  have hx:=hc.2 x0[k] (BC hk)
  simp only [QdY,Qv,QM,hk,Bu,Qd,Bb,QO (k:=k),QN (y:=Qy) hk,show QlD x0[k]=true from hx,QlC,Qh,ih]
  rfl
theorem Q16:LO Qvu Qvr QMx 0:=QC (s:=QlE) fun x y h _ q=>by simp only [QA,QB] at q;exact (Q15 x.1 x.2.2.1 x.2.2.2.1 h).trans q
theorem Q17 (l:List Ql)(h:Wx l=true):QMA l=some (.t tI (Qvq l),[]):=by
 have hl:l.length<=100000:=by simp only [Wx,Bd,Ba] at h;exact h.1
 simp only [QMA,Jw hl,h,By,Qd,Qh]
 rfl
def QMB:Ent:=YA [.ty (.sl Qy),.cf 248] [] (fun x d=>(Wx x.1)) (fun x d=>(.t tI (Qvq x.1)))
theorem Q18:EM 252 QMB:=mS (lk:=lkL (lkc Q16 lkn)) Qvu QMw [((.t 4),some tI)] false (gB (gD Q13 gN)) fun m=>Yn m fun x d hok=>kT (Q17 x.1 hok)
def Qvw (_l:List Ql):Bool:=false
def Q19:TC:=aF Tryz.f247 []
def Q2a:G:=gG 9 [(252,QMB)] (fun _ _=>none)
def QMC (p0:List Ql):OV:=br (Wx p0) (some (.t .bool (ige (Qvq p0) 0),[])) none
theorem Q2b (l:List Ql)(h:Wx l=true):QMC l=some (.t .bool (Qvw l),[]):=by
 simp only [QMC,h,Qd]
 rfl
def QMD:Ent:=YA [.ty (.sl Qy),.cf 248] [] (fun x d=>(Wx x.1)) (fun x d=>(.t .bool (Qvw x.1)))
theorem Q2c:EM 247 QMD:=mS Q2a Q19 [((.t 4),some .bool)] false (gB (gD Q18 gN)) fun m=>Yn m fun x d hok=>kT (Q2b x.1 hok)
def Qvx:TC:=aF Tryz.f241 []
def QME:List (RV×Option Ty):=[((.t 2),some .bool)]
def QlH:G:=gG 41 [(246,QBN),(247,QMD)] (fun _ _=>none)
def Qvy (p0:Ql):OV:=
 let a1:=List.map Val.un p0.2.2.2.1
 br (Wx a1) (some (.t .bool (!(Qvw a1)),[])) none
def Qvz (p0:Ql):OV:=br (!p0.2.2.1) (br (igt (Qb (List.map Val.un p0.2.2.2.1)) 0) (some (.t .bool false,[])) (Qvy p0)) (Qvy p0)
def QvA (p0:Ql):OV:=br (!(Qbo p0.1)) (some (.t .bool false,[])) (br (Ox p0.2.2.1 (ine (ET .i64 p0.1 32) 0)) (some (.t .bool false,[])) (br (p0.2.2.1) (br (igt (Qb p0.2.1) 0) (some (.t .bool false,[])) (Qvz p0)) (Qvz p0)))
theorem e_f241 (p0:Ql):JL QlH Qvx QME false [.t Qy p0] []=QvA p0:=by kernel_rfl
theorem Q2d:GOk Tryz.prog QlH:=Zq _ (gA (gD QSk (gD Q2c gN)))
theorem Q2e:Qvx.lok QlH:=by repeat (first|exact trivial|refine ⟨?_, ?_⟩)
theorem s_f241 (x:Ql)(h:okT (Jg+1) x=true):QvA x=some (.t .bool (Ww x),[]):=by
 obtain ⟨h1,h2,h3,h4,h5,h6,h7⟩:=UG h
 have hu:Wx (List.map Val.un x.2.2.2.1)=true:=by
  simp only [Wx,Bd,Ba,BT,Bi,Dd]
  refine ⟨h6, ?_⟩
  rintro y ⟨v,hv,rfl⟩
  rw [Qad]
  exact h7 v hv
 have ht:Qbo x.1=true:=by rcases h1 with e|e|e|e<;>rw [e]<;>rfl
 have hn:Ox x.2.2.1 (ine (ET .i64 x.1 32) 0)=false:=by rw [h2];rcases h1 with e|e|e|e<;>rw [e]<;>rfl
 simp only [QvA,Qvz,Qvy,ht,hn,hu,BA,Qd,Qh]
 cases hq:x.2.2.1 with
 |true=>
  rw [h3 hq]
  rfl
 |false=>
  rw [h4 hq]
  rfl
theorem Q2f:QH Tryz.prog 241 (JL QlH Qvx QME false):=mG Tryz.func241 (by kernel_rfl) Tryz.ntmps241 (by kernel_rfl) Q2d Q2e
end
theorem QMF: ∀ N:Nat,QH Tryz.prog 241 (QD (@VU ⟨N⟩))
 |0=>Fk fun x=>by first|rfl|simp [okT]
 |N+1=>by
  letI:Fuel:=⟨N⟩
  haveI:Nonempty (PLift (QH Tryz.prog 241 (QD VU))):=⟨⟨QMF N⟩⟩
  exact Qq Q2f fun x hok=>(e_f241 x.1).trans (s_f241 x.1 hok)
def QMG:Ent:=Qm (.pr Qy .nil) (fun x=>(F5 x.1)) (fun x=>(.t .bool (Ww x.1)))
theorem Q2g:QH Tryz.prog 241 (QD QMG):=Fl QMF fun x hok=>Q1Y x.1 hok
theorem QMH:J6 Tryz.prog 132:= .inr ⟨by decide,_,Tryz.func132,by kernel_rfl,by kernel_rfl⟩
def VV [Fuel]:Ent:=Qm (.pr Qy .nil) (fun x=>(okT Jg x.1)) (fun x=>(.t .bool (Ww x.1)))
theorem Q2h:J6 Tryz.prog 132:=QMH
section
variable [Fuel][Nonempty (PLift (QH Tryz.prog 132 (QD VV)))]
theorem Q2i:QH Tryz.prog 132 (QD VV):=(Classical.choice (inferInstance:Nonempty (PLift (QH Tryz.prog 132 (QD VV))))).down
def QlI [Fuel](x:Ql):Bool:=okT (Jg+1) x
abbrev QlJ:Sh:=⟨[(1,.ptr 1 0),(3,.ty tI)],[(1,.box Qy)]⟩
abbrev QMI:Sh:=⟨[(2,.ty .bool)],[]⟩
def QvB:Fg:=QlJ.f
def QlK:TC:=aF Tryz.f132 [(58,pL 0 QvB),(931,.fg QlF.f),(7461,.fg QMI.f)]
def QMJ:TC:=lb 0 QlK
def QMK:List (RV×Option Ty):=[((.t 2),some .bool)]
def QML (x3:Int)(y1:Ql):VS:=QlJ.st ((),x3,()) (y1,())
def QvC (x2:Bool):VS:=QMI.st (x2,()) ()
def QvD  : VS:=QlF.st () ()
def Q2j:VS->Option (Bool×List (Bool×Exit×VS)):=mkL QlJ (fun x y=>(decide (0<=x.2.1/\x.2.1<=y.1.2.2.2.1.length)&&QlI y.1)) (fun x y=>[((false),.ret,QvC (false)),(true,.exit 0,QvD)])
def VW:G:=gG 53 [(132,VV),(171,QBP)] (Ls [Q2j])
def QlL (x3:Int)(y1:Ql):OX:=Qu (Qx VW QvB QMJ) (QML x3 y1)
def QdZ (kk:Int->Ql->OX)(x3:Int)(y1:Ql):OX:=
 let a1:=List.map Val.un y1.2.2.2.1
 let a2:=lgt Qy a1 (Int.toNat x3)
 br (ilt x3 (Qb a1)) (br (cIx a1 x3) (br (okT Jg a2) (br (!(Ww a2)) (some (.ret,QvC false)) (kk (Qi .i64 x3 1) y1)) none) none) (some (.exit 0,QvD))
def QvE (x3:Int)(y1:Ql):OX:=br (false) (some (.ret,QvC (false)))<|some (.exit 0,QvD)
theorem QMM (x3 y1):QlL x3 y1=QdZ QlL x3 y1:=lnT (x:=QdZ (fun x3 y1=>some (.normal,QML x3 y1)) x3 y1) (by simp only [QdZ,nxA];rfl)
def QvF (p0:Ql):OV:=br (decide (0<=(0:Int)/\(0:Int)<=p0.2.2.2.1.length)&&QlI p0) (br (false) (some (.t .bool (false),[])) (some (.t .bool true,[]))) none
def QvG (p0:Ql):OV:=br (!p0.2.2.1) (br (igt (Qb (List.map Val.un p0.2.2.2.1)) 0) (some (.t .bool false,[])) (QvF p0)) (QvF p0)
def QvH (p0:Ql):OV:=br (!(Qbp p0.1)) (some (.t .bool false,[])) (br (cNz 32) (br (cNz 2) (br (Ox p0.2.2.1 (ieq (WN (ED .i64 p0.1 32) 2) 1)) (some (.t .bool false,[])) (br (p0.2.2.1) (br (igt (Qb p0.2.1) 0) (some (.t .bool false,[])) (QvG p0)) (QvG p0))) none) none)
theorem e_f132 (p0:Ql):JL VW QlK QMK false [.t Qy p0] []=QvH p0:=by kernel_rfl
theorem Q2k:GOk Tryz.prog VW:=Zq _ (gA (gC Q2h Q2i (gD QSm gN)))
theorem Q2l (x3:Int)(y1:Ql)(h:(decide (0<=x3/\x3<=y1.2.2.2.1.length)&&QlI y1)=true):QlL x3 y1=QvE x3 y1:=by
 simp only [Bd,Ba] at h
 obtain ⟨⟨h0,h1⟩,hc⟩:=h
 obtain ⟨k,rfl⟩:=Bm h0
 have hm:=Qvp hc
 have hl:=(UG hc).2.2.2.2.2.1
 refine QP (List.map Val.un y1.2.2.2.1) (fun k=>QlL (k:Int) y1=QvE (k:Int) y1) ?_ ?_ k (by rw [BT];omega)
 ·rw [QMM]
  simp [QdZ,QvE,ilt,Qb,Qh]
 ·intro k hk ih
  rw [QMM]
  have hk2:k<y1.2.2.2.1.length:=by rw [BT] at hk;exact hk
  simp only [QdZ,show ilt (k:Int) (Qb (List.map Val.un y1.2.2.2.1))=true from Bc (by simp only [Qb];omega),QM,hk,Bu,Qd,Bb,QO (k:=k),QN (y:=Qy) hk,hm k hk,Ww,BA,Qh,ih]
  rfl
theorem Q2m:LO VW QvB QMJ 0:=QC (s:=QlJ) fun x y h _ q=>by simp only [QA,QB] at q;exact (Q2l x.2.1 y.1 h).trans q
theorem Q2n:QlK.lok VW:=by
 repeat (first|exact trivial|exact Q2m|refine ⟨?_, ?_⟩)
theorem s_f132 (x:Ql)(h:okT (Jg+1) x=true):QvH x=some (.t .bool (Ww x),[]):=by
 obtain ⟨h1,h2,h3,h4,h5,h6,h7⟩:=UG h
 have ht:Qbp x.1=true:=by rcases h1 with e|e|e|e<;>rw [e]<;>rfl
 have hn:Ox x.2.2.1 (ieq (WN (ED .i64 x.1 32) 2) 1)=false:=by rw [h2];rcases h1 with e|e|e|e<;>rw [e]<;>rfl
 have hd:decide ((0:Int)<=0/\(0:Int)<=x.2.2.2.1.length)=true:=Bc (by omega)
 simp only [QvH,QvG,QvF,ht,hn,hd,show QlI x=true from h,B1,show cNz 32=true from rfl,show cNz 2=true from rfl,BA,Qd,Qh]
 cases hq:x.2.2.1 with
 |true=>
  rw [h3 hq]
  rfl
 |false=>
  rw [h4 hq]
  rfl
theorem Q2o:QH Tryz.prog 132 (JL VW QlK QMK false):=mG Tryz.func132 (by kernel_rfl) Tryz.ntmps132 (by kernel_rfl) Q2k Q2n
end
theorem QMN: ∀ N:Nat,QH Tryz.prog 132 (QD (@VV ⟨N⟩))
 |0=>Fk fun x=>by first|rfl|simp [okT]
 |N+1=>by
  letI:Fuel:=⟨N⟩
  haveI:Nonempty (PLift (QH Tryz.prog 132 (QD VV))):=⟨⟨QMN N⟩⟩
  exact Qq Q2o fun x hok=>(e_f132 x.1).trans (s_f132 x.1 hok)
def QMO:Ent:=Qm (.pr Qy .nil) (fun x=>(F5 x.1)) (fun x=>(.t .bool (Ww x.1)))
theorem Q2p:QH Tryz.prog 132 (QD QMO):=Fl QMN fun x hok=>Q1Z x.1 hok
def dpV (x:Ql):Int:=(FF (Val.of x):Int)
def Yj (n:Nat)(x:Ql):Bool:=okT n x&&decide (n<=100)
def F6 (x:Ql):Bool:=okT 12 x
theorem Q2q (x:Ql)(h:F6 x=true): ∃ N,Yj N x=true:=⟨12,by rw [Yj,show okT 12 x=true from h];rfl⟩
theorem Q2r (x:Ql)(h:F6 x=true): ∃ N,Yj N x=true:=⟨12,by rw [Yj,show okT 12 x=true from h];rfl⟩
def UE (l:List Ql):Nat:=OO (l.map Val.of)
theorem QMP:UE []=0:=rfl
theorem QMQ (x:Ql)(l:List Ql):UE (x::l)=max (FF (Val.of x)) (UE l):=rfl
theorem QlM (x:Ql):FF (Val.of x)=OO x.2.2.2.1+1:=rfl
theorem QMR (a b:Nat):imx (a:Int) (b:Int)=((max a b:Nat):Int):=by
 unfold imx
 split<;>omega
theorem QMS:J6 Tryz.prog 242:= .inr ⟨by decide,_,Tryz.func242,by kernel_rfl,by kernel_rfl⟩
def VX [Fuel]:Ent:=Qm (.pr Qy .nil) (fun x=>(Yj Jg x.1)) (fun x=>(.t tI (dpV x.1)))
theorem Q2s:J6 Tryz.prog 242:=QMS
section
variable [Fuel][Nonempty (PLift (QH Tryz.prog 242 (QD VX)))]
theorem Q2t:QH Tryz.prog 242 (QD VX):=(Classical.choice (inferInstance:Nonempty (PLift (QH Tryz.prog 242 (QD VX))))).down
def VY [Fuel](l:List Ql):Bool:=decide (l.length<=100000/\Jg+1<=100)&&l.all (okT Jg)
abbrev QlN:Sh:=⟨[(3,.ty tI),(7,.ty (.sl Qy)),(8,.ty tI),(9,.ty tI)],[]⟩
abbrev QvI:Sh:=⟨[(3,.ty tI)],[]⟩
def QvJ:Fg:=QlN.f
def QlO:TC:=aF Tryz.f242 [(58,pL 0 QvJ),(933,.fg QvI.f)]
def QMT:TC:=lb 0 QlO
def QMU:List (RV×Option Ty):=[((.t 2),some tI)]
def QMV (x3:Int)(x7:List Ql)(x8 x9:Int):VS:=QlN.st (x3,x7,x8,x9,()) ()
def VZ (x3:Int):VS:=QvI.st (x3,()) ()
def Q2u:VS->Option (Bool×List (Bool×Exit×VS)):=mkL QlN (fun x y=>(Qw x.2.1 x.2.2.1 x.2.2.2.1&&VY x.2.1&&decide (0<=x.1/\x.1<=100))) (fun x y=>[(true,.exit 0,VZ ((max x.1.toNat (UE (x.2.1.drop x.2.2.2.1.toNat)):Nat):Int))])
def V0:G:=gG 20 [(242,VX)] (Ls [Q2u])
def QlP (x3:Int)(x7:List Ql)(x8 x9:Int):OX:=Qu (Qx V0 QvJ QMT) (QMV x3 x7 x8 x9)
def Qd0 (kk:Int->List Ql->Int->Int->OX)(x3:Int)(x7:List Ql)(x8 x9:Int):OX:=
 let a1:=lgt Qy x7 (Int.toNat x9)
 br (ilt x9 x8) (br (cIx x7 x9) (br (Yj Jg a1) (kk (imx x3 (dpV a1)) x7 x8 (Qi .i64 x9 1)) none) none) (some (.exit 0,VZ x3))
def QlQ (x3:Int)(x7:List Ql)(x8 x9:Int):OX:=some (.exit 0,VZ ((max x3.toNat (UE (x7.drop x9.toNat)):Nat):Int))
theorem QMW (x3 x7 x8 x9):QlP x3 x7 x8 x9=Qd0 QlP x3 x7 x8 x9:=lnT (x:=Qd0 (fun x3 x7 x8 x9=>some (.normal,QMV x3 x7 x8 x9)) x3 x7 x8 x9) (by simp only [Qd0,nxA];rfl)
def QvK (p0:Ql):OV:=
 let a1:=List.map Val.un p0.2.2.2.1
 br (Qw a1 (Qb a1) (0:Int)&&VY a1&&decide (0<=(0:Int)/\(0:Int)<=100)) (some (.t tI (Qi .i64 ((max (0:Int).toNat (UE (a1.drop (0:Int).toNat)):Nat):Int) 1),[])) none
theorem e_f242 (p0:Ql):JL V0 QlO QMU false [.t Qy p0] []=QvK p0:=by kernel_rfl
theorem Q2v:GOk Tryz.prog V0:=Zq _ (gA (gC Q2s Q2t gN))
theorem Q2w (x3:Int)(x7:List Ql)(x8 x9:Int)(h:(Qw x7 x8 x9&&VY x7&&decide (0<=x3/\x3<=100))=true):QlP x3 x7 x8 x9=QlQ x3 x7 x8 x9:=by
 simp only [Bd,Ba] at h
 obtain ⟨⟨h0,hc⟩,h1,h2⟩:=h
 obtain ⟨rfl,h3,k,rfl,hk⟩:=Jv h0
 clear h0
 obtain ⟨m,rfl⟩:=Bm h1
 clear h1 h2
 simp only [VY,Bd,Bi,Ba] at hc
 obtain ⟨⟨hc0,hc1⟩,hc2⟩:=hc
 revert m
 refine QP x7 (fun k=> ∀ m:Nat,QlP (m:Int) x7 (x7.length:Int) (k:Int)=QlQ (m:Int) x7 (x7.length:Int) (k:Int)) ?_ ?_ k hk
 ·intro m
  rw [QMW]
  simp [Qd0,QlQ,Qv,Qh,QMP]
 ·intro k hk ih m
  rw [QMW]
  have hx:=hc2 x7[k] (BC hk)
  have hd:Yj Jg x7[k]=true:=by rw [Yj,hx,Bc (by omega)];rfl
  simp only [Qd0,Qv,QM,hk,Bu,Qd,Bb,QO (k:=k),QN (y:=Qy) hk,hd,dpV,QMR,ih]
  simp only [QlQ,Bb,Bg hk,QMQ,Nat.max_assoc]
theorem Q2x:LO V0 QvJ QMT 0:=QC (s:=QlN) fun x y h _ q=>by simp only [QA,QB] at q;exact (Q2w x.1 x.2.1 x.2.2.1 x.2.2.2.1 h).trans q
theorem Q2y:QlO.lok V0:=by
 repeat (first|exact trivial|exact Q2x|refine ⟨?_, ?_⟩)
theorem s_f242 (x:Ql)(h:Yj (Jg+1) x=true):QvK x=some (.t tI (dpV x),[]):=by
 simp only [Yj,Bd,Ba] at h
 obtain ⟨h,hf⟩:=h
 obtain ⟨h1,h2,h3,h4,h5,h6,h7⟩:=UG h
 have hu:VY (List.map Val.un x.2.2.2.1)=true:=by
  simp only [VY,Bd,Ba,BT,Bi,Dd]
  refine ⟨⟨h6,hf⟩, ?_⟩
  rintro y ⟨v,hv,rfl⟩
  rw [Qad]
  exact h7 v hv
 have hd:=QhU (v:=Val.of x) h
 rw [QlM] at hd
 simp only [QvK,Jw (show (List.map Val.un x.2.2.2.1).length<=100000 by rw [BT];exact h6),hu,B1,show decide ((0:Int)<=0/\(0:Int)<=100)=true from rfl,Qd,Bt,Bx,UE,G9,Nat.zero_max]
 rw [Ja (by omega)]
 simp only [dpV,QlM]
 congr 2
theorem Q2z:QH Tryz.prog 242 (JL V0 QlO QMU false):=mG Tryz.func242 (by kernel_rfl) Tryz.ntmps242 (by kernel_rfl) Q2v Q2y
end
theorem QMX: ∀ N:Nat,QH Tryz.prog 242 (QD (@VX ⟨N⟩))
 |0=>Fk fun x=>by first|rfl|simp [Yj]
 |N+1=>by
  letI:Fuel:=⟨N⟩
  haveI:Nonempty (PLift (QH Tryz.prog 242 (QD VX))):=⟨⟨QMX N⟩⟩
  exact Qq Q2z fun x hok=>(e_f242 x.1).trans (s_f242 x.1 hok)
def QMY:Ent:=Qm (.pr Qy .nil) (fun x=>(F6 x.1)) (fun x=>(.t tI (dpV x.1)))
theorem Q2A:QH Tryz.prog 242 (QD QMY):=Fl QMX fun x hok=>Q2q x.1 hok
theorem QMZ:J6 Tryz.prog 133:= .inr ⟨by decide,_,Tryz.func133,by kernel_rfl,by kernel_rfl⟩
def V1 [Fuel]:Ent:=Qm (.pr Qy .nil) (fun x=>(Yj Jg x.1)) (fun x=>(.t tI (dpV x.1)))
theorem Q2B:J6 Tryz.prog 133:=QMZ
section
variable [Fuel][Nonempty (PLift (QH Tryz.prog 133 (QD V1)))]
theorem Q2C:QH Tryz.prog 133 (QD V1):=(Classical.choice (inferInstance:Nonempty (PLift (QH Tryz.prog 133 (QD V1))))).down
def Qd1 [Fuel](x:Ql):Bool:=Yj (Jg+1) x
abbrev QlR:Sh:=⟨[(1,.ptr 1 0),(3,.ty tI),(4,.ty tI)],[(1,.box Qy)]⟩
def QvL:Fg:=QlR.f
def QlS:TC:=aF Tryz.f133 [(58,pL 0 QvL),(931,.fg QvI.f)]
def QM0:TC:=lb 0 QlS
def QM1:List (RV×Option Ty):=[((.t 2),some tI)]
def QM2 (x3 x4:Int)(y1:Ql):VS:=QlR.st ((),x3,x4,()) (y1,())
def Q2D:VS->Option (Bool×List (Bool×Exit×VS)):=mkL QlR (fun x y=>(decide (0<=x.2.2.1/\x.2.2.1<=y.1.2.2.2.1.length/\0<=x.2.1/\x.2.1<=100)&&Qd1 y.1)) (fun x y=>[(true,.exit 0,VZ ((max x.2.1.toNat (UE ((List.map Val.un y.1.2.2.2.1).drop x.2.2.1.toNat)):Nat):Int))])
def V2:G:=gG 22 [(133,V1)] (Ls [Q2D])
def QlT (x3 x4:Int)(y1:Ql):OX:=Qu (Qx V2 QvL QM0) (QM2 x3 x4 y1)
def Qd2 (kk:Int->Int->Ql->OX)(x3 x4:Int)(y1:Ql):OX:=
 let a1:=List.map Val.un y1.2.2.2.1
 let a2:=lgt Qy a1 (Int.toNat x4)
 br (ilt x4 (Qb a1)) (br (cIx a1 x4) (br (Yj Jg a2) (kk (imx x3 (dpV a2)) (Qi .i64 x4 1) y1) none) none) (some (.exit 0,VZ x3))
def QlU (x3 x4:Int)(y1:Ql):OX:=some (.exit 0,VZ ((max x3.toNat (UE ((List.map Val.un y1.2.2.2.1).drop x4.toNat)):Nat):Int))
theorem QM3 (x3 x4 y1):QlT x3 x4 y1=Qd2 QlT x3 x4 y1:=lnT (x:=Qd2 (fun x3 x4 y1=>some (.normal,QM2 x3 x4 y1)) x3 x4 y1) (by simp only [Qd2,nxA];rfl)
def QvM (p0:Ql):OV:=br (decide (0<=(0:Int)/\(0:Int)<=p0.2.2.2.1.length/\0<=(0:Int)/\(0:Int)<=100)&&Qd1 p0) (some (.t tI (Qi .i64 ((max (0:Int).toNat (UE ((List.map Val.un p0.2.2.2.1).drop (0:Int).toNat)):Nat):Int) 1),[])) none
theorem e_f133 (p0:Ql):JL V2 QlS QM1 false [.t Qy p0] []=QvM p0:=by kernel_rfl
theorem Q2E:GOk Tryz.prog V2:=Zq _ (gA (gC Q2B Q2C gN))
theorem Q2F (x3 x4:Int)(y1:Ql)(h:(decide (0<=x4/\x4<=y1.2.2.2.1.length/\0<=x3/\x3<=100)&&Qd1 y1)=true):QlT x3 x4 y1=QlU x3 x4 y1:=by
 simp only [Bd,Ba] at h
 obtain ⟨⟨h0,h1,h2,h3⟩,hc⟩:=h
 obtain ⟨k,rfl⟩:=Bm h0
 obtain ⟨m,rfl⟩:=Bm h2
 clear h2 h3
 simp only [Qd1,Yj,Bd,Ba] at hc
 obtain ⟨hc,hf⟩:=hc
 have hm:=Qvp hc
 have hl:=(UG hc).2.2.2.2.2.1
 revert m
 refine QP (List.map Val.un y1.2.2.2.1) (fun k=> ∀ m:Nat,QlT (m:Int) (k:Int) y1=QlU (m:Int) (k:Int) y1) ?_ ?_ k (by rw [BT];omega)
 ·intro m
  rw [QM3]
  simp only [Qd2,show ilt ((List.map Val.un y1.2.2.2.1).length:Int) (Qb (List.map Val.un y1.2.2.2.1))=false from Bn (by simp only [Qb];omega),Qh]
  simp only [QlU,Bb,BF,QMP,Nat.max_zero]
 ·intro k hk ih m
  rw [QM3]
  have hk2:k<y1.2.2.2.1.length:=by rw [BT] at hk;exact hk
  have hd:Yj Jg (List.map Val.un y1.2.2.2.1)[k]=true:=by rw [Yj,hm k hk,Bc (by omega)];rfl
  simp only [Qd2,show ilt (k:Int) (Qb (List.map Val.un y1.2.2.2.1))=true from Bc (by simp only [Qb];omega),QM,hk,Bu,Qd,Bb,QO (k:=k),QN (y:=Qy) hk,hd,dpV,QMR,ih]
  simp only [QlU,Bb,Bg hk,QMQ,Nat.max_assoc]
theorem Q2G:LO V2 QvL QM0 0:=QC (s:=QlR) fun x y h _ q=>by simp only [QA,QB] at q;exact (Q2F x.2.1 x.2.2.1 y.1 h).trans q
theorem Q2H:QlS.lok V2:=by
 repeat (first|exact trivial|exact Q2G|refine ⟨?_, ?_⟩)
theorem s_f133 (x:Ql)(h:Yj (Jg+1) x=true):QvM x=some (.t tI (dpV x),[]):=by
 have hin:Qd1 x=true:=h
 simp only [Yj,Bd,Ba] at h
 obtain ⟨h,hf⟩:=h
 have hd:=QhU (v:=Val.of x) h
 rw [QlM] at hd
 have hdd:decide ((0:Int)<=0/\(0:Int)<=x.2.2.2.1.length/\(0:Int)<=0/\(0:Int)<=100)=true:=Bc (by omega)
 simp only [QvM,hin,hdd,B1,Qd,Bt,Bx,UE,G9,Nat.zero_max]
 rw [Ja (by omega)]
 simp only [dpV,QlM]
 congr 2
theorem Q2I:QH Tryz.prog 133 (JL V2 QlS QM1 false):=mG Tryz.func133 (by kernel_rfl) Tryz.ntmps133 (by kernel_rfl) Q2E Q2H
end
theorem QM4: ∀ N:Nat,QH Tryz.prog 133 (QD (@V1 ⟨N⟩))
 |0=>Fk fun x=>by first|rfl|simp [Yj]
 |N+1=>by
  letI:Fuel:=⟨N⟩
  haveI:Nonempty (PLift (QH Tryz.prog 133 (QD V1))):=⟨⟨QM4 N⟩⟩
  exact Qq Q2I fun x hok=>(e_f133 x.1).trans (s_f133 x.1 hok)
def QM5:Ent:=Qm (.pr Qy .nil) (fun x=>(F6 x.1)) (fun x=>(.t tI (dpV x.1)))
theorem Q2J:QH Tryz.prog 133 (QD QM5):=Fl QM4 fun x hok=>Q2r x.1 hok
end K
set_option linter.unusedSectionVars false
namespace K
def Zl (x:Ql):List Int:=QhT (Val.of x)
def JZ (l:List Ql):List Int:=Z1 (l.map Val.of)
theorem Eg:JZ []=[]:=rfl
theorem UJ (x:Ql)(l:List Ql):JZ (x::l)=Zl x++JZ l:=rfl
theorem QaN (x:Ql):Zl x=icv .u8 x.1::(Ul (x.2.1.length+(Z1 x.2.2.2.1).length)++(x.2.1++Z1 x.2.2.2.1)):=rfl
theorem QaO (x:Ql):x.2.1.length+(Z1 x.2.2.2.1).length<=(Zl x).length:=QUM x.1 x.2.1 x.2.2.1 x.2.2.2.1
theorem QnD: ∀ (l:List Ql) (k:Nat) (hk:k<l.length),(JZ (l.take k)).length+(Zl l[k]).length<=(JZ l).length
 | [],k,hk=>by simp at hk
 |x::l,0,_=>by
  rw [List.take_zero,Eg,UJ,Bj]
  simp
 |x::l,k+1,hk=>by
  simp only [Br] at hk
  have:=QnD l k (by omega)
  simp only [List.take_succ_cons,UJ,Bj,DT]
  omega
theorem IK (n:Nat):(Ul n).length<=9:=by
 unfold Ul
 split
 ·simp
 ·rw [Br,QqO]
  have:=QhR 8 n
  omega
def Yl (n:Nat)(x:Ql):Bool:=okT n x&&decide ((Zl x).length<=100000000)
def ZH (x:Ql):Bool:=okT 12 x&&decide ((Zl x).length<=100000000)
theorem QPn (x:Ql)(h:ZH x=true): ∃ N,Yl N x=true:=⟨12,h⟩
theorem QyC:J6 Tryz.prog 134:= .inr ⟨by decide,_,Tryz.func134,by kernel_rfl,by kernel_rfl⟩
def IM [Fuel]:Ent:=Qm (.pr Qy .nil) (fun x=>(Yl Jg x.1)) (fun x=>(.t (.sl (.int .u8)) (Zl x.1)))
theorem QPo:J6 Tryz.prog 134:=QyC
section
variable [Fuel][Nonempty (PLift (QH Tryz.prog 134 (QD IM)))]
theorem QPp:QH Tryz.prog 134 (QD IM):=(Classical.choice (inferInstance:Nonempty (PLift (QH Tryz.prog 134 (QD IM))))).down
def QaP [Fuel](x:Ql):Bool:=Yl (Jg+1) x
abbrev Qfr:Sh:=⟨[(1,.ptr 1 0),(3,.ms 5),(4,.ty tI)],[(1,.box Qy),(3,.no),(5,.arr 5 (.int .u8)),(8,.no),(23,.no)]⟩
abbrev QyD:Sh:=⟨[(1,.ptr 1 0),(3,.ms 5)],[(1,.box Qy),(3,.no),(5,.arr 5 (.int .u8)),(8,.no),(23,.no)]⟩
def QnE:Fg:=Qfr.f
def Qfs:TC:=aF Tryz.f134 [(58,.nw 3 5),(58,pL 0 QnE),(931,.fg QyD.f),(30,pE [[1],[1],[],[27,5027,10027,15027],[3,5,8,23],[3,5,8,23],[],[27,31,5031,10031,15031],[3,5,8,23],[3,5,8,23,27,31,33,5033,10033,15033],[27,31,33]] (.of [0,1,2,4,5,6,8,3,7,9,10]))]
def QyE:TC:=lb 0 Qfs
def QyF:List (RV×Option Ty):=[((.t 2),some (.sl (.int .u8)))]
def QyG (x4:Int)(y1:Ql)(y5:List Int):VS:=Qfr.st ((),(),x4,()) (y1,(),y5,(),(),())
def QnF (y1:Ql)(y5:List Int):VS:=QyD.st ((),(),()) (y1,(),y5,(),(),())
def QPq:VS->Option (Bool×List (Bool×Exit×VS)):=mkL Qfr (fun x y=>(decide (0<=x.2.2.1/\x.2.2.1<=y.1.2.2.2.1.length/\y.2.2.1.length+(JZ ((List.map Val.un y.1.2.2.2.1).drop x.2.2.1.toNat)).length<=1000000000)&&QaP y.1)) (fun x y=>[(true,.exit 0,QnF (y.1) (y.2.2.1++JZ ((List.map Val.un y.1.2.2.2.1).drop x.2.2.1.toNat)))])
def IN:G:=⟨TYs,[5,27],34,EL [(134,IM),(172,QB8)],Yx,(Ls [QPq]),IL [],RL []⟩
def Qft (x4:Int)(y1:Ql)(y5:List Int):OX:=Qu (Qx IN QnE QyE) (QyG x4 y1 y5)
def QaQ (kk:Int->Ql->List Int->OX)(x4:Int)(y1:Ql)(y5:List Int):OX:=
 let a2:=List.map Val.un y1.2.2.2.1
 let a1:=lgt Qy a2 (Int.toNat x4)
 br (ilt x4 (Qb a2)) (br (cIx a2 x4) (br (Yl Jg a1) (br (Qt y5 (Zl a1) 1) (kk (Qi .i64 x4 1) y1 (y5++(Zl a1))) none) none) none) (some (.exit 0,QnF y1 y5))
def Qfu (x4:Int)(y1:Ql)(y5:List Int):OX:=some (.exit 0,QnF (y1) (y5++JZ ((List.map Val.un y1.2.2.2.1).drop x4.toNat)))
theorem QyH (x4 y1 y5):Qft x4 y1 y5=QaQ Qft x4 y1 y5:=lnT (x:=QaQ (fun x4 y1 y5=>some (.normal,QyG x4 y1 y5)) x4 y1 y5) (by simp only [QaQ,nxA];rfl)
def QnG (p0:Ql):OV:=
 let a2:=List.map Val.un p0.2.2.2.1
 let a3:=(a2.drop (0:Int).toNat)
 let a1:=(Qb ((([]:List Int)++p0.2.1)++JZ a3))
 let a4:=icv .u8 ((p0).1)
 br (Qt ([]:List Int) p0.2.1 1) (br (decide (0<=(0:Int)/\(0:Int)<=p0.2.2.2.1.length/\(([]:List Int)++p0.2.1).length+(JZ a3).length<=1000000000)&&QaP p0) (br (Qbu a1) (br (Qt ([a4]) (Gv a1) 1) (br (Qt (([a4])++(Gv a1)) ((([]:List Int)++p0.2.1)++JZ a3) 1) (some (.t (.sl (.int .u8)) ((([a4])++(Gv a1))++((([]:List Int)++p0.2.1)++JZ a3)),[])) none) none) none) none) none
theorem e_f134 (p0:Ql):JL IN Qfs QyF false [.t Qy p0] []=QnG p0:=by kernel_rfl
theorem QPr:GOk Tryz.prog IN:=Zq _ (gA (gC QPo QPp (gD QSx gN)))
theorem QPs (x4:Int)(y1:Ql)(y5:List Int)(h:(decide (0<=x4/\x4<=y1.2.2.2.1.length/\y5.length+(JZ ((List.map Val.un y1.2.2.2.1).drop x4.toNat)).length<=1000000000)&&QaP y1)=true):Qft x4 y1 y5=Qfu x4 y1 y5:=by
 simp only [Bd,Ba] at h
 obtain ⟨⟨h0,h1,h2⟩,hc⟩:=h
 obtain ⟨k,rfl⟩:=Bm h0
 simp only [QaP,Yl,Bd,Ba] at hc
 obtain ⟨hc,hf⟩:=hc
 have hm:=Qvp hc
 have hl:=(UG hc).2.2.2.2.2.1
 rw [Bb] at h2
 have hel:=QaO y1
 have hE:JZ (List.map Val.un y1.2.2.2.1)=Z1 y1.2.2.2.1:=by rw [JZ,G9]
 revert y5
 refine QP (List.map Val.un y1.2.2.2.1) (fun k=> ∀ y5:List Int,y5.length+(JZ ((List.map Val.un y1.2.2.2.1).drop k)).length<=1000000000->Qft (k:Int) y1 y5=Qfu (k:Int) y1 y5) ?_ ?_ k (by rw [BT];omega)
 ·intro y5 _
  rw [QyH]
  simp only [QaQ,show ilt ((List.map Val.un y1.2.2.2.1).length:Int) (Qb (List.map Val.un y1.2.2.2.1))=false from Bn (by simp only [Qb];omega),Qh]
  simp only [Qfu,Bb,BF,Eg,BH]
 ·intro k hk ih y5 hy
  rw [QyH]
  have hk2:k<y1.2.2.2.1.length:=by rw [BT] at hk;exact hk
  have hs:=QnD (List.map Val.un y1.2.2.2.1) k hk
  rw [hE] at hs
  rw [Bg hk,UJ,Bj] at hy
  have hd:Yl Jg (List.map Val.un y1.2.2.2.1)[k]=true:=by rw [Yl,hm k hk,Bc (by omega)];rfl
  simp only [QaQ,show ilt (k:Int) (Qb (List.map Val.un y1.2.2.2.1))=true from Bc (by simp only [Qb];omega),QM,hk,Bu,Qd,Bb,QO (k:=k),QN (y:=Qy) hk,hd]
  rw [QX (by omega) (by omega),Qd,ih _ (by rw [Bj];omega)]
  simp only [Qfu,Bb,Bg hk,UJ,BG]
theorem QPt:LO IN QnE QyE 0:=QC (s:=Qfr) fun x y h _ q=>by simp only [QA,QB] at q;exact (QPs x.2.2.1 y.1 y.2.2.1 h).trans q
theorem QPu:Qfs.lok IN:=by
 repeat (first|exact trivial|exact QPt|refine ⟨?_, ?_⟩)
theorem s_f134 (x:Ql)(h:Yl (Jg+1) x=true):QnG x=some (.t (.sl (.int .u8)) (Zl x),[]):=by
 have hin:QaP x=true:=h
 simp only [Yl,Bd,Ba] at h
 obtain ⟨h,hf⟩:=h
 have hel:=QaO x
 have hE:JZ (List.map Val.un x.2.2.2.1)=Z1 x.2.2.2.1:=by rw [JZ,G9]
 have hll:=IK (x.2.1.length+(Z1 x.2.2.2.1).length)
 simp only [QnG,hin,Db,BM,Bt,Bx,hE]
 rw [QX (by omega) (by simp only [Bv];omega),Qd,Bc ⟨by omega,by omega,by omega⟩,Qd]
 have e1:Qbu (Qb (x.2.1++Z1 x.2.2.2.1))=true:=Bc (by simp only [Qb,Bj];omega)
 have e2:Gv (Qb (x.2.1++Z1 x.2.2.2.1))=Ul (x.2.1.length+(Z1 x.2.2.2.1).length):=by simp only [Gv,Qb,Bj,Bb]
 rw [e1,Qd,e2,QX (by omega) (by simp only [Bh];omega),Qd,QX (by omega) (by simp only [Bj,Bh];omega),Qd,QaN]
 simp only [BD,Du,BM]
theorem QPv:QH Tryz.prog 134 (JL IN Qfs QyF false):=mG Tryz.func134 (by kernel_rfl) Tryz.ntmps134 (by kernel_rfl) QPr QPu
end
theorem QyI: ∀ N:Nat,QH Tryz.prog 134 (QD (@IM ⟨N⟩))
 |0=>Fk fun x=>by first|rfl|simp [Yl]
 |N+1=>by
  letI:Fuel:=⟨N⟩
  haveI:Nonempty (PLift (QH Tryz.prog 134 (QD IM))):=⟨⟨QyI N⟩⟩
  exact Qq QPv fun x hok=>(e_f134 x.1).trans (s_f134 x.1 hok)
def QyJ:Ent:=Qm (.pr Qy .nil) (fun x=>(ZH x.1)) (fun x=>(.t (.sl (.int .u8)) (Zl x.1)))
theorem QPw:QH Tryz.prog 134 (QD QyJ):=Fl QyI fun x hok=>QPn x.1 hok
def ZR (x:Ql):List Int×Int:=if 4096<(Zl x).length then ([],3) else (Zl x,0)
theorem QyK {x:Ql}(h:okT 12 x=true):igt (dpV x) 16=false:=by
 have:=QhU (v:=Val.of x) h
 exact Bn (by show ¬ ((FF (Val.of x):Int) > 16);omega)
def tc_f90:TC:=aF Tryz.f90 []
def g_f90:G:=gG 17 [(132,QMO),(133,QM5),(134,QyJ)] (fun _ _=>none)
def r_f90 (p0:Ql):OV:=br (F5 p0) (br (!(Ww p0)) (some (.tu [(.t (.sl (.int .u8)) ([]:List Int)),(.t tI 1)],[])) (br (F6 p0) (br (igt (dpV p0) 16) (some (.tu [(.t (.sl (.int .u8)) ([]:List Int)),(.t tI 3)],[])) (br (ZH p0) (br (igt (Qb (Zl p0)) 4096) (some (.tu [(.t (.sl (.int .u8)) ([]:List Int)),(.t tI 3)],[])) (some (.tu [(.t (.sl (.int .u8)) (Zl p0)),(.t tI 0)],[]))) none)) none)) none
theorem s_f90 (x)(h:ZH x=true):r_f90 x=some (.tu [.t (.sl (.int .u8)) (ZR x).1,.t tI (ZR x).2],[]):=by
 have h':=h
 simp only [ZH,Bd,Ba] at h'
 obtain ⟨h1,h2⟩:=h'
 simp only [r_f90,show F5 x=true from h1,show F6 x=true from h1,h,QyK h1,Ww,BA,Qd,Qh]
 unfold ZR
 refine Q1 (fun g=> ?_) (fun g=> ?_)
 ·simp only [igt,Qb,Ba] at g
  rw [if_pos (by omega)]
 ·simp only [igt,Qb,Bo] at g
  rw [if_neg (by omega)]
def QnH:Ent:=Qm (.pr Qy .nil) (fun x=>(ZH x.1)) (fun x=>(.tu [(.t (.sl (.int .u8)) ((ZR x.1).1)),(.t tI ((ZR x.1).2))]))
theorem QyL:EM 90 QnH:=mS g_f90 tc_f90 [((.t 2),some (.sl (.int .u8))),((.t 3),some tI)] false (gB (gC QMH Q2p (gC QMZ Q2J (gC QyC QPw gN)))) fun m=>Qq m fun x hok=>kT (s_f90 x.1 hok)
def ZX (x:Ql):List Int:=x.2.1++Z1 x.2.2.2.1
theorem QyM (x:Ql):(ZX x).length=x.2.1.length+(Z1 x.2.2.2.1).length:=Bj
theorem QPx (x:Ql)(h:ZH x=true): ∃ N,Yl N x=true:=⟨12,h⟩
def IO (b:List Int)(x:Ql):List Int:=b++Zl x
theorem QyN (b:List Int)(x:Ql):UP (b++[icv .u8 x.1]) (Qb (ZX x))++ZX x=IO b x:=by
 simp only [UP,IO,QaN,Qb,Bb,ZX,Bj,BG,BD,Du,BM]
theorem QyO:J6 Tryz.prog 249:= .inr ⟨by decide,_,Tryz.func249,by kernel_rfl,by kernel_rfl⟩
def IP [Fuel]:Ent:=Qm (.pr Qy .nil) (fun x=>(Yl Jg x.1)) (fun x=>(.t (.sl (.int .u8)) (ZX x.1)))
theorem QPy:J6 Tryz.prog 249:=QyO
section
variable [Fuel][Nonempty (PLift (QH Tryz.prog 249 (QD IP)))]
theorem QPz:QH Tryz.prog 249 (QD IP):=(Classical.choice (inferInstance:Nonempty (PLift (QH Tryz.prog 249 (QD IP))))).down
def IQ [Fuel](b:List Int)(x:Ql):Bool:=decide (b.length<=500000000)&&Yl Jg x
def QPA:TC:=(.ad [(50000,49000)] (.sq (.reg (rT Tryz.f243 0)) (.sq (.reg (rT Tryz.f243 1)) (.sq (.reg (rT Tryz.f243 2)) .rt))))
def QPB:G:=⟨TYs,[],19,EL [(249,IP),(250,Qpf)],(250::Yx),(fun _ _=>none),IL [],RL []⟩
def QyP (p0:List Int)(p1:Ql):OV:=
 let a1:=UP (p0++([(icv .u8 p1.1)])) (Qb (ZX p1))
 br (Yl Jg p1) (br (Qt p0 ([(icv .u8 p1.1)]) 1) (br (Er (p0++([(icv .u8 p1.1)])) (Qb (ZX p1))) (br (Qt a1 (ZX p1) 1) (some (.ms 50001,[.no,.arr 5 (.int .u8) (a1++(ZX p1))])) none) none) none) none
theorem QPC (b:List Int)(x:Ql)(h:IQ b x=true):QyP b x=some (.ms 50001,[.no,.arr 5 (.int .u8) (IO b x)]):=by
 simp only [IQ,Bd,Ba] at h
 obtain ⟨h1,h2⟩:=h
 have h3:=h2
 simp only [Yl,Bd,Ba] at h3
 have hel:=QaO x
 have hcl:=QyM x
 have hll:=IK (ZX x).length
 simp only [QyP,h2,Qd]
 rw [QX (by omega) (by simp only [Bh];omega),Qd,show Er (b++[icv .u8 x.1]) (Qb (ZX x))=true from Bc (by simp only [Qb,Bj,Bh];omega),Qd,QX (by omega) (by simp only [UP,Qb,Bb,Bj,Bh];omega),Qd,QyN]
def QyQ:Ent:=Uf [.ms 50000,.ty Qy] [.arr 5 (.int .u8)] (fun x y=>(IQ y.1 x.2.1)) (fun x y=>(.ms 50001)) (fun x y=>[.no,.arr 5 (.int .u8) (IO y.1 x.2.1)])
theorem QPD:EM 243 QyQ:=mS (lk:=(by repeat first|exact trivial|constructor)) QPB QPA [((.t 4),none)] true (Zq _ (gA (gC QPy QPz (gD QB0 gN)))) fun m=>Y8 m fun x y hok=>kT (QPC y.1 x.2.1 hok)
def IR [Fuel](l:List Ql):Bool:=decide (l.length<=100000/\(JZ l).length<=100000000)&&l.all (okT Jg)
abbrev Qfv:Sh:=⟨[(3,.ms 3),(12,.ty (.sl Qy)),(13,.ty tI),(14,.ty tI)],[(3,.arr 5 (.int .u8)),(20,.no),(5020,.no),(10020,.no),(15020,.no)]⟩
abbrev QyR:Sh:=⟨[(3,.ms 3)],[(3,.arr 5 (.int .u8)),(20,.no),(5020,.no),(10020,.no),(15020,.no)]⟩
def QnI:Fg:=Qfv.f
def Qfw:TC:=aF Tryz.f249 [(122,.nw 3 5),(122,pL 0 QnI),(244,.mv [(20,3)]),(1957,.fg QyR.f)]
def QyS:TC:=lb 0 Qfw
def QyT:List (RV×Option Ty):=[((.t 2),some (.sl (.int .u8)))]
def QyU (x12:List Ql)(x13 x14:Int)(y3:List Int):VS:=Qfv.st ((),x12,x13,x14,()) (y3,(),(),(),(),())
def QnJ (y3:List Int):VS:=QyR.st ((),()) (y3,(),(),(),(),())
def QPE:VS->Option (Bool×List (Bool×Exit×VS)):=mkL Qfv (fun x y=>(Qw x.2.1 x.2.2.1 x.2.2.2.1&&IR x.2.1&&decide (y.1.length+(JZ (x.2.1.drop x.2.2.2.1.toNat)).length<=200000000))) (fun x y=>[(true,.exit 0,QnJ (y.1++JZ (x.2.1.drop x.2.2.2.1.toNat)))])
def IS:G:=⟨TYs,[],23,EL [(243,QyQ)],(243::Yx),(Ls [QPE]),IL [],RL []⟩
def Qfx (x12:List Ql)(x13 x14:Int)(y3:List Int):OX:=Qu (Qx IS QnI QyS) (QyU x12 x13 x14 y3)
def QaR (kk:List Ql->Int->Int->List Int->OX)(x12:List Ql)(x13 x14:Int)(y3:List Int):OX:=
 let a1:=lgt Qy x12 (Int.toNat x14)
 br (ilt x14 x13) (br (cIx x12 x14) (br (IQ y3 a1) (kk x12 x13 (Qi .i64 x14 1) (IO y3 a1)) none) none) (some (.exit 0,QnJ y3))
def Qfy (x12:List Ql)(x13 x14:Int)(y3:List Int):OX:=some (.exit 0,QnJ (y3++JZ (x12.drop x14.toNat)))
theorem QyV (x12 x13 x14 y3):Qfx x12 x13 x14 y3=QaR Qfx x12 x13 x14 y3:=lnT (x:=QaR (fun x12 x13 x14 y3=>some (.normal,QyU x12 x13 x14 y3)) x12 x13 x14 y3) (by simp only [QaR,nxA];rfl)
def QnK (p0:Ql):OV:=
 let a1:=List.map Val.un p0.2.2.2.1
 let a2:=(a1.drop (0:Int).toNat)
 br (!p0.2.2.1) (some (.t (.sl (.int .u8)) p0.2.1,[])) (br (Qw a1 (Qb a1) (0:Int)&&IR a1&&decide (([]:List Int).length+(JZ a2).length<=200000000)) (some (.t (.sl (.int .u8)) (([]:List Int)++JZ a2),[])) none)
theorem e_f249 (p0:Ql):JL IS Qfw QyT false [.t Qy p0] []=QnK p0:=by kernel_rfl
theorem QPF:GOk Tryz.prog IS:=Zq _ (gA (gD QPD gN))
theorem QPG (x12:List Ql)(x13 x14:Int)(y3:List Int)(h:(Qw x12 x13 x14&&IR x12&&decide (y3.length+(JZ (x12.drop x14.toNat)).length<=200000000))=true):Qfx x12 x13 x14 y3=Qfy x12 x13 x14 y3:=by
 simp only [Bd,Ba] at h
 obtain ⟨⟨h0,hc⟩,h2⟩:=h
 obtain ⟨rfl,h3,k,rfl,hk⟩:=Jv h0
 clear h0
 rw [Bb] at h2
 simp only [IR,Bd,Bi,Ba] at hc
 obtain ⟨⟨hc0,hc1⟩,hc2⟩:=hc
 revert y3
 refine QP x12 (fun k=> ∀ y3:List Int,y3.length+(JZ (x12.drop k)).length<=200000000->Qfx x12 (x12.length:Int) (k:Int) y3=Qfy x12 (x12.length:Int) (k:Int) y3) ?_ ?_ k hk
 ·intro y3 _
  rw [QyV]
  simp only [QaR,Qv,BK,BP,Qh]
  simp only [Qfy,Bb,BF,Eg,BH]
 ·intro k hk ih y3 hy
  rw [QyV]
  have hx:=hc2 x12[k] (BC hk)
  have hs:=QnD x12 k hk
  rw [Bg hk,UJ,Bj] at hy
  have hd:IQ y3 x12[k]=true:=by rw [IQ,Yl,hx,Bc (show y3.length<=500000000 by omega),Bc (show (Zl x12[k]).length<=100000000 by omega)];rfl
  simp only [QaR,Qv,QM,hk,Bu,Qd,Bb,QO (k:=k),QN (y:=Qy) hk,hd,IO]
  rw [ih _ (by rw [Bj];omega)]
  simp only [Qfy,Bb,Bg hk,UJ,BG]
theorem QPH:LO IS QnI QyS 0:=QC (s:=Qfv) fun x y h _ q=>by simp only [QA,QB] at q;exact (QPG x.2.1 x.2.2.1 x.2.2.2.1 y.1 h).trans q
theorem QPI:Qfw.lok IS:=by
 repeat (first|exact trivial|exact QPH|refine ⟨?_, ?_⟩)
theorem s_f249 (x:Ql)(h:Yl (Jg+1) x=true):QnK x=some (.t (.sl (.int .u8)) (ZX x),[]):=by
 simp only [Yl,Bd,Ba] at h
 obtain ⟨h,hf⟩:=h
 obtain ⟨h1,h2,h3,h4,h5,h6,h7⟩:=UG h
 have hel:=QaO x
 have hE:JZ (List.map Val.un x.2.2.2.1)=Z1 x.2.2.2.1:=by rw [JZ,G9]
 have hu:IR (List.map Val.un x.2.2.2.1)=true:=by
  simp only [IR,Bd,Ba,BT,Bi,Dd,hE]
  refine ⟨⟨h6,by omega⟩, ?_⟩
  rintro y ⟨v,hv,rfl⟩
  rw [Qad]
  exact h7 v hv
 simp only [QnK,Jw (show (List.map Val.un x.2.2.2.1).length<=100000 by rw [BT];exact h6),hu,B1,By,Bt,Bx,hE,BM,Bv]
 cases hq:x.2.2.1 with
 |true=>
  rw [BA,Qh,Bc (by omega),Qd]
  simp only [ZX,h3 hq,BM]
 |false=>
  rw [Dy,Qd]
  simp only [ZX,h4 hq,Z1,BH]
theorem QPJ:QH Tryz.prog 249 (JL IS Qfw QyT false):=mG Tryz.func249 (by kernel_rfl) Tryz.ntmps249 (by kernel_rfl) QPF QPI
end
theorem QyW: ∀ N:Nat,QH Tryz.prog 249 (QD (@IP ⟨N⟩))
 |0=>Fk fun x=>by first|rfl|simp [Yl]
 |N+1=>by
  letI:Fuel:=⟨N⟩
  haveI:Nonempty (PLift (QH Tryz.prog 249 (QD IP))):=⟨⟨QyW N⟩⟩
  exact Qq QPJ fun x hok=>(e_f249 x.1).trans (s_f249 x.1 hok)
def QyX:Ent:=Qm (.pr Qy .nil) (fun x=>(ZH x.1)) (fun x=>(.t (.sl (.int .u8)) (ZX x.1)))
theorem QPK:QH Tryz.prog 249 (QD QyX):=Fl QyW fun x hok=>QPx x.1 hok
def QaS (x:Ql):List Int:=Zl x
def QPL:TC:=(.sq (.reg (rT Tryz.f243 0)) (.sq (.reg (rT Tryz.f243 1)) (.sq (.reg (rT Tryz.f243 2)) .rt)))
def QPM:G:=⟨TYs,[],19,EL [(249,QyX),(250,Qpf)],(250::Yx),(fun _ _=>none),IL [],RL []⟩
def QyY (p1:Ql):OV:=
 let a1:=(UP (([]:List Int)++([(icv .u8 p1.1)])) (Qb (ZX p1)))
 br (ZH p1) (br (Qt ([]:List Int) ([(icv .u8 p1.1)]) 1) (br (Er (([]:List Int)++([(icv .u8 p1.1)])) (Qb (ZX p1))) (br (Qt a1 (ZX p1) 1) (some (.ms 50000,[.arr 5 (.int .u8) (a1++(ZX p1))])) none) none) none) none
theorem QPN (x:Ql)(h:ZH x=true):QyY x=some (.ms 50000,[.arr 5 (.int .u8) (QaS x)]):=by
 have h3:=h
 simp only [ZH,Bd,Ba] at h3
 have hel:=QaO x
 have hcl:=QyM x
 have hll:=IK (ZX x).length
 simp only [QyY,h,Qd]
 rw [QX (by omega) (by simp),Qd,show Er ([]++[icv .u8 x.1]) (Qb (ZX x))=true from Bc (by simp only [Qb,Bj,Bh,Bv];omega),Qd,QX (by omega) (by simp only [UP,Qb,Bb,Bj,Bh,Bv];omega),Qd,QyN]
 rfl
def QyZ:Ent:=Wl [.nl,.ty Qy] [] (fun x y=>(ZH x.2.1)) (fun x y=>(.ms 50000)) (fun x y=>[.arr 5 (.int .u8) (QaS x.2.1)])
theorem QPO:EM 243 QyZ:=mS (lk:=(by repeat first|exact trivial|constructor)) QPM QPL [((.t 4),none)] true (Zq _ (gA (gC QyO QPK (gD QB0 gN)))) fun m=>WP (Y8 m fun x y hok=>kT (QPN x.2.1 hok))
def QPP:TC:=aF Tryz.f231 []
def g_f231:G:=gG 17 [(241,QMG),(242,QMY),(243,QyZ)] (fun _ _=>none)
def Qy0 (p0:Ql):OV:=br (F5 p0) (br (!(Ww p0)) (some (.tu [(.t (.sl (.int .u8)) ([]:List Int)),(.t tI 1)],[])) (br (F6 p0) (br (igt (dpV p0) 16) (some (.tu [(.t (.sl (.int .u8)) ([]:List Int)),(.t tI 3)],[])) (br (ZH p0) (br (igt (Qb (QaS p0)) 4096) (some (.tu [(.t (.sl (.int .u8)) ([]:List Int)),(.t tI 3)],[])) (some (.tu [(.t (.sl (.int .u8)) (QaS p0)),(.t tI 0)],[]))) none)) none)) none
theorem s_f231 (x)(h:ZH x=true):Qy0 x=some (.tu [.t (.sl (.int .u8)) (ZR x).1,.t tI (ZR x).2],[]):=by
 have h':=h
 simp only [ZH,Bd,Ba] at h'
 obtain ⟨h1,h2⟩:=h'
 simp only [Qy0,show F5 x=true from h1,show F6 x=true from h1,h,QyK h1,Ww,QaS,BA,Qd,Qh]
 unfold ZR
 refine Q1 (fun g=> ?_) (fun g=> ?_)
 ·simp only [igt,Qb,Ba] at g
  rw [if_pos (by omega)]
 ·simp only [igt,Qb,Bo] at g
  rw [if_neg (by omega)]
def Qy1:Ent:=Qm (.pr Qy .nil) (fun x=>(ZH x.1)) (fun x=>(.tu [(.t (.sl (.int .u8)) ((ZR x.1).1)),(.t tI ((ZR x.1).2))]))
theorem QPQ:EM 231 Qy1:=mS g_f231 QPP [((.t 2),some (.sl (.int .u8))),((.t 3),some tI)] false (gB (gC QMs Q2g (gC QMS Q2A (gD QPO gN)))) fun m=>Qq m fun x hok=>kT (s_f231 x.1 hok)
def ZI (l:List Ql):Ql:=(48,(([]:List Int),(true,(List.map Val.of l,()))))
def QPR:TC:=aF Tryz.f232 []
def g_f232:G:=gG 6 [(244,QwT)] (fun _ _=>none)
def Qy2 (p0:List Ql):OV:=br (Yk p0) (some (.t Qy (48,(([]:List Int),(true,((List.map Val.of (Wy p0)),())))),[])) none
theorem s_f232 (l)(h:Yk l=true):Qy2 l=some (.t Qy (ZI l),[]):=by
 simp only [Qy2,h,Qd]
 rfl
def Qy3:Ent:=Qm (.pr (.sl Qy) .nil) (fun x=>(Yk x.1)) (fun x=>(.t Qy (ZI x.1)))
theorem QPS:EM 232 Qy3:=mS g_f232 QPR [((.c 2 true 4),some Qy)] false (gB (gC QwM QN3 gN)) fun m=>Qq m fun x hok=>kT (s_f232 x.1 hok)
def tc_f91:TC:=aF Tryz.f91 []
def g_f91:G:=gG 6 [(135,Qw1)] (fun _ _=>none)
def r_f91 (p0:List Ql):OV:=br (Yk p0) (some (.t Qy (48,(([]:List Int),(true,((List.map Val.of (Wy p0)),())))),[])) none
theorem s_f91 (l)(h:Yk l=true):r_f91 l=some (.t Qy (ZI l),[]):=by
 simp only [r_f91,h,Qd]
 rfl
def Qfz:Ent:=Qm (.pr (.sl Qy) .nil) (fun x=>(Yk x.1)) (fun x=>(.t Qy (ZI x.1)))
theorem QnL:EM 91 Qfz:=mS g_f91 tc_f91 [((.c 2 true 4),some Qy)] false (gB (gC QwU QOd gN)) fun m=>Qq m fun x hok=>kT (s_f91 x.1 hok)
def Y2 (a:Int):Int:=(ofF a).1.2.1
def QNy:TC:=aF Tryz.f139 []
def g_f139:G:=gG 12 [(176,Qtp)] (fun _ _=>none)
def r_f139 (p0:Int):OV:=some (.t tI ((((ofF p0).1).2).1),[])
theorem s_f139 (a):r_f139 a=some (.t tI (Y2 a),[]):=rfl
def Qed:Ent:=Qm (.pr tI .nil) (fun x=>true) (fun x=>(.t tI (Y2 x.1)))
theorem Qmf:EM 139 Qed:=mS g_f139 QNy [((.t 2),some tI)] false (gB (gD QJC gN)) fun m=>Qq m fun x _=>kT (s_f139 x.1)
def Qwe:TC:=aF Tryz.f155 []
def Qwf:List (RV×Option Ty):=[((.t 0),some (.sl Gq))]
def Qwg:G:=gG 25 [] (fun _ _=>none)
def Qwh  : OV:=some (.t (.sl Gq) ([((ByteArray.mk #[]),(0,())),((ByteArray.mk #[109,100,53]),(1,())),((ByteArray.mk #[115,104,97,49]),(1,())),((ByteArray.mk #[115,104,97,50,53,54]),(1,())),((ByteArray.mk #[115,104,97,51,56,52]),(1,())),((ByteArray.mk #[114,115,97]),(2,())),((ByteArray.mk #[100,115,97]),(2,())),((ByteArray.mk #[101,99,100,115,97]),(2,())),((ByteArray.mk #[101,100,50,53,53,49,57]),(2,())),((ByteArray.mk #[109,108,100,115,97]),(2,())),((ByteArray.mk #[114,115,97,107,120]),(3,())),((ByteArray.mk #[100,104,101]),(3,())),((ByteArray.mk #[101,99,100,104,101]),(3,())),((ByteArray.mk #[109,108,107,101,109]),(3,())),((ByteArray.mk #[114,99,52]),(4,())),((ByteArray.mk #[100,101,115,51]),(4,())),((ByteArray.mk #[97,101,115,99,98,99]),(4,())),((ByteArray.mk #[97,101,115,103,99,109]),(4,())),((ByteArray.mk #[99,104,97,99,104,97]),(4,())),((ByteArray.mk #[104,109,97,99,109,100,53]),(5,())),((ByteArray.mk #[104,109,97,99,115,104,97,49]),(5,())),((ByteArray.mk #[104,109,97,99,115,104,97,50,53,54]),(5,())),((ByteArray.mk #[97,101,97,100]),(5,()))]),[])
theorem e_f155  : JL Qwg Qwe Qwf false [] []=Qwh  :=by kernel_rfl
def Qee:Ty.T (.sl Gq):=([((ByteArray.mk #[]),(0,())),((ByteArray.mk #[109,100,53]),(1,())),((ByteArray.mk #[115,104,97,49]),(1,())),((ByteArray.mk #[115,104,97,50,53,54]),(1,())),((ByteArray.mk #[115,104,97,51,56,52]),(1,())),((ByteArray.mk #[114,115,97]),(2,())),((ByteArray.mk #[100,115,97]),(2,())),((ByteArray.mk #[101,99,100,115,97]),(2,())),((ByteArray.mk #[101,100,50,53,53,49,57]),(2,())),((ByteArray.mk #[109,108,100,115,97]),(2,())),((ByteArray.mk #[114,115,97,107,120]),(3,())),((ByteArray.mk #[100,104,101]),(3,())),((ByteArray.mk #[101,99,100,104,101]),(3,())),((ByteArray.mk #[109,108,107,101,109]),(3,())),((ByteArray.mk #[114,99,52]),(4,())),((ByteArray.mk #[100,101,115,51]),(4,())),((ByteArray.mk #[97,101,115,99,98,99]),(4,())),((ByteArray.mk #[97,101,115,103,99,109]),(4,())),((ByteArray.mk #[99,104,97,99,104,97]),(4,())),((ByteArray.mk #[104,109,97,99,109,100,53]),(5,())),((ByteArray.mk #[104,109,97,99,115,104,97,49]),(5,())),((ByteArray.mk #[104,109,97,99,115,104,97,50,53,54]),(5,())),((ByteArray.mk #[97,101,97,100]),(5,()))])
theorem s_f155:Qwh=some (.t (.sl Gq) Qee,[]):=rfl
def Qwi:Ent:=Qm .nil (fun x=>true) (fun x=>(.t (.sl Gq) Qee))
theorem QNz:EM 155 Qwi:=mS Qwg Qwe Qwf false (gB gN) fun m=>Qq m fun x _=>(e_f155 ).trans (s_f155)
def QNA:TC:=aF Tryz.f117 []
def g_f117:G:=gG 14 [(155,Qwi)] (fun _ _=>none)
def Qwj (p0:Int):OV:=br (ilt p0 1) (some (.t tI 0,[])) (br (igt p0 22) (some (.t tI 0,[])) (br (cIx Qee p0) (some (.t tI (((lgt Gq Qee (Int.toNat p0)).2).1),[])) none))
theorem QNB {a:Int}(h1:1<=a)(h2:a<=22):a=1∨a=2∨a=3∨a=4∨a=5∨a=6∨a=7∨a=8∨a=9∨a=10∨a=11∨a=12∨a=13∨a=14∨a=15∨a=16∨a=17∨a=18∨a=19∨a=20∨a=21∨a=22:=by omega
theorem s_f117 (a):Qwj a=some (.t tI (Y2 a),[]):=by
 simp only [Qwj]
 refine Q1 (fun h1=> ?_) (fun h1=>Q1 (fun h2=> ?_) (fun h2=> ?_))
 ·have h1:a<1:=by simpa [ilt] using h1
  simp [Y2,ofF,h1,Qc0]
 ·have h2:22<a:=by simpa [igt] using h2
  simp [Y2,ofF,h2,Qc0]
 ·have h1: ¬ a<1:=by simpa [ilt] using h1
  have h2: ¬ 22<a:=by simpa [igt] using h2
  rcases QNB (a:=a) (by omega) (by omega) with rfl|rfl|rfl|rfl|rfl|rfl|rfl|rfl|rfl|rfl|rfl|rfl|rfl|rfl|rfl|rfl|rfl|rfl|rfl|rfl|rfl|rfl<;>rfl
def Qef:Ent:=Qm (.pr tI .nil) (fun x=>true) (fun x=>(.t tI (Y2 x.1)))
theorem Qmg:EM 117 Qef:=mS g_f117 QNA [((.t 2),some tI)] false (gB (gD QNz gN)) fun m=>Qq m fun x _=>kT (s_f117 x.1)
def QJ (a b:Int):Aa:=(a,(b,()))
def QNC:TC:=aF Tryz.f204 []
def g_f204:G:=gG 8 [] (fun _ _=>none)
def r_f204 (p0 p1:Int):OV:=some (.t Qe (p0,(p1,())),[])
theorem s_f204 (a b):r_f204 a b=some (.t Qe (QJ a b),[]):=rfl
def Qwk:Ent:=Qm (.pr tI (.pr tI .nil)) (fun x=>true) (fun x=>(.t Qe (QJ x.1 x.2.1)))
theorem QND:EM 204 Qwk:=mS g_f204 QNC [((.c 4 true 2),some Qe)] false (gB gN) fun m=>Qq m fun x _=>kT (s_f204 x.1 x.2.1)
def QNE:TC:=aF Tryz.f189 []
def g_f189:G:=gG 8 [] (fun _ _=>none)
def r_f189 (p0 p1:Int):OV:=some (.t Qe (p0,(p1,())),[])
theorem s_f189 (a b):r_f189 a b=some (.t Qe (QJ a b),[]):=rfl
def Qwl:Ent:=Qm (.pr tI (.pr tI .nil)) (fun x=>true) (fun x=>(.t Qe (QJ x.1 x.2.1)))
theorem QNF:EM 189 Qwl:=mS g_f189 QNE [((.c 4 true 2),some Qe)] false (gB gN) fun m=>Qq m fun x _=>kT (s_f189 x.1 x.2.1)
def Yw (c:Int)(n:ByteArray)(e s f m:Aa)(l o:Int):Ao:=(c,(n,(e,(s,(f,(m,(l,(o,()))))))))
def QNG:TC:=aF Tryz.f190 []
def g_f190:G:=gG 26 [] (fun _ _=>none)
def r_f190 (p0:Int)(p1:ByteArray)(p2 p3 p4 p5:Aa)(p6 p7:Int):OV:=some (.t Je (p0,(p1,((p2.1,(p2.2.1,())),((p3.1,(p3.2.1,())),((p4.1,(p4.2.1,())),((p5.1,(p5.2.1,())),(p6,(p7,())))))))),[])
theorem s_f190 (c n e s f m l o):r_f190 c n e s f m l o=some (.t Je (Yw c n e s f m l o),[]):=rfl
def Qwm:Ent:=Qm (.pr tI (.pr .str (.pr Qe (.pr Qe (.pr Qe (.pr Qe (.pr tI (.pr tI .nil)))))))) (fun x=>true) (fun x=>(.t Je (Yw x.1 x.2.1 x.2.2.1 x.2.2.2.1 x.2.2.2.2.1 x.2.2.2.2.2.1 x.2.2.2.2.2.2.1 x.2.2.2.2.2.2.2.1)))
theorem QNH:EM 190 Qwm:=mS g_f190 QNG [((.c 16 true 12),some Je)] false (gB gN) fun m=>Qq m fun x _=>kT (s_f190 x.1 x.2.1 x.2.2.1 x.2.2.2.1 x.2.2.2.2.1 x.2.2.2.2.2.1 x.2.2.2.2.2.2.1 x.2.2.2.2.2.2.2.1)
def Qwn:TC:=aF Tryz.f153 [(254,pE [[1],[2],[4],[9],[],[1],[2],[4],[10],[],[1],[2],[5],[10],[],[],[],[5],[10],[],[],[2],[5],[10],[],[1],[2],[6],[10],[],[],[2],[6],[10],[],[13],[2],[6],[10],[],[13],[],[],[11],[],[13],[2],[7],[12],[],[],[],[8],[12],[],[13],[2],[14],[12],[],[1],[2],[8],[12],[],[13],[3],[7],[12],[],[13],[3],[14],[12],[],[],[3],[8],[12],[],[],[]] (oN 82))]
def Qwo:List (RV×Option Ty):=[((.t 0),some (.sl Je))]
def Qwp:G:=gG 110 [(189,Qwl),(190,Qwm)] (fun _ _=>none)
def XF:Ty.T (.sl Je):=
 let a1:=(Yw 9 (ByteArray.mk #[101,99,100,104,101,45,101,99,100,115,97,45,97,101,115,50,53,54,45,115,104,97,50,53,54]) (QJ 12 256) (QJ 7 0) (QJ 16 256) (QJ 21 0) 3 3)
 let a2:=(Yw 11 (ByteArray.mk #[101,99,100,104,101,45,101,99,100,115,97,45,97,101,115,50,53,54,45,103,99,109]) (QJ 12 384) (QJ 7 0) (QJ 17 256) (QJ 22 0) 3 3)
 let a3:=(Yw 10 (ByteArray.mk #[101,99,100,104,101,45,114,115,97,45,97,101,115,49,50,56,45,103,99,109]) (QJ 12 256) (QJ 5 0) (QJ 17 128) (QJ 22 0) 3 3)
 let a4:=(Yw 8 (ByteArray.mk #[101,99,100,104,101,45,114,115,97,45,97,101,115,49,50,56,45,115,104,97]) (QJ 12 256) (QJ 5 0) (QJ 16 128) (QJ 20 0) 1 3)
 let a5:=(Yw 7 (ByteArray.mk #[100,104,101,45,114,115,97,45,97,101,115,49,50,56,45,115,104,97]) (QJ 11 2048) (QJ 5 0) (QJ 16 128) (QJ 20 0) 1 3)
 let a6:=(Yw 16 (ByteArray.mk #[109,108,107,101,109,45,97,101,115,50,53,54,45,103,99,109]) (QJ 13 768) (0,(0,())) (QJ 17 256) (QJ 22 0) 4 4)
 let a7:=(Yw 4 (ByteArray.mk #[100,104,101,45,100,115,97,45,100,101,115,51,45,115,104,97]) (QJ 11 1024) (QJ 6 0) (QJ 15 168) (QJ 20 0) 1 3)
 let a8:=(Yw 5 (ByteArray.mk #[100,104,101,45,114,115,97,45,100,101,115,51,45,115,104,97]) (QJ 11 1024) (QJ 5 0) (QJ 15 168) (QJ 20 0) 1 3)
 let a9:=(Yw 12 (ByteArray.mk #[101,99,100,104,101,45,114,115,97,45,99,104,97,99,104,97]) (QJ 12 256) (QJ 5 0) (QJ 18 0) (QJ 22 0) 3 3)
 let a10:=(Yw 13 (ByteArray.mk #[114,115,97,45,97,101,115,50,53,54,45,103,99,109]) (QJ 10 0) (QJ 5 0) (QJ 17 256) (QJ 22 0) 3 3)
 let a11:=(Yw 6 (ByteArray.mk #[114,115,97,45,97,101,115,49,50,56,45,115,104,97]) (QJ 10 0) (QJ 5 0) (QJ 16 128) (QJ 20 0) 1 3)
 let a12:=(Yw 3 (ByteArray.mk #[114,115,97,45,100,101,115,51,45,115,104,97]) (QJ 10 0) (QJ 5 0) (QJ 15 168) (QJ 20 0) 1 3)
 let a13:=(Yw 1 (ByteArray.mk #[114,115,97,45,114,99,52,45,109,100,53]) (QJ 10 0) (QJ 5 0) (QJ 14 128) (QJ 19 0) 1 2)
 let a14:=(Yw 2 (ByteArray.mk #[114,115,97,45,114,99,52,45,115,104,97]) (QJ 10 0) (QJ 5 0) (QJ 14 128) (QJ 20 0) 1 3)
 let a15:=(Yw 14 (ByteArray.mk #[97,101,115,49,50,56,45,103,99,109]) (QJ 12 256) (0,(0,())) (QJ 17 128) (QJ 22 0) 4 4)
 let a16:=(Yw 15 (ByteArray.mk #[99,104,97,99,104,97]) (QJ 12 256) (0,(0,())) (QJ 18 0) (QJ 22 0) 4 4)
 let a17:=(((a13.2).2).2)
 let a18:=(((a14.2).2).2)
 let a19:=(((a12.2).2).2)
 let a20:=(((a11.2).2).2)
 let a21:=(((a10.2).2).2)
 let a22:=(((a15.2).2).2)
 let a23:=(((a16.2).2).2)
 let a24:=(((a7.2).2).2)
 let a25:=(((a8.2).2).2)
 let a26:=(((a5.2).2).2)
 let a27:=(((a4.2).2).2)
 let a28:=(((a1.2).2).2)
 let a29:=(((a3.2).2).2)
 let a30:=(((a2.2).2).2)
 let a31:=(((a9.2).2).2)
 let a32:=(((a6.2).2).2)
 ([(a13.1,((a13.2).1,(((((a13.2).2).1).1,(((((a13.2).2).1).2).1,())),(((a17.1).1,(((a17.1).2).1,())),((((a17.2).1).1,((((a17.2).1).2).1,())),(((((a17.2).2).1).1,(((((a17.2).2).1).2).1,())),((((a17.2).2).2).1,(((((a17.2).2).2).2).1,())))))))),(a14.1,((a14.2).1,(((((a14.2).2).1).1,(((((a14.2).2).1).2).1,())),(((a18.1).1,(((a18.1).2).1,())),((((a18.2).1).1,((((a18.2).1).2).1,())),(((((a18.2).2).1).1,(((((a18.2).2).1).2).1,())),((((a18.2).2).2).1,(((((a18.2).2).2).2).1,())))))))),(a12.1,((a12.2).1,(((((a12.2).2).1).1,(((((a12.2).2).1).2).1,())),(((a19.1).1,(((a19.1).2).1,())),((((a19.2).1).1,((((a19.2).1).2).1,())),(((((a19.2).2).1).1,(((((a19.2).2).1).2).1,())),((((a19.2).2).2).1,(((((a19.2).2).2).2).1,())))))))),(a7.1,((a7.2).1,(((((a7.2).2).1).1,(((((a7.2).2).1).2).1,())),(((a24.1).1,(((a24.1).2).1,())),((((a24.2).1).1,((((a24.2).1).2).1,())),(((((a24.2).2).1).1,(((((a24.2).2).1).2).1,())),((((a24.2).2).2).1,(((((a24.2).2).2).2).1,())))))))),(a8.1,((a8.2).1,(((((a8.2).2).1).1,(((((a8.2).2).1).2).1,())),(((a25.1).1,(((a25.1).2).1,())),((((a25.2).1).1,((((a25.2).1).2).1,())),(((((a25.2).2).1).1,(((((a25.2).2).1).2).1,())),((((a25.2).2).2).1,(((((a25.2).2).2).2).1,())))))))),(a11.1,((a11.2).1,(((((a11.2).2).1).1,(((((a11.2).2).1).2).1,())),(((a20.1).1,(((a20.1).2).1,())),((((a20.2).1).1,((((a20.2).1).2).1,())),(((((a20.2).2).1).1,(((((a20.2).2).1).2).1,())),((((a20.2).2).2).1,(((((a20.2).2).2).2).1,())))))))),(a5.1,((a5.2).1,(((((a5.2).2).1).1,(((((a5.2).2).1).2).1,())),(((a26.1).1,(((a26.1).2).1,())),((((a26.2).1).1,((((a26.2).1).2).1,())),(((((a26.2).2).1).1,(((((a26.2).2).1).2).1,())),((((a26.2).2).2).1,(((((a26.2).2).2).2).1,())))))))),(a4.1,((a4.2).1,(((((a4.2).2).1).1,(((((a4.2).2).1).2).1,())),(((a27.1).1,(((a27.1).2).1,())),((((a27.2).1).1,((((a27.2).1).2).1,())),(((((a27.2).2).1).1,(((((a27.2).2).1).2).1,())),((((a27.2).2).2).1,(((((a27.2).2).2).2).1,())))))))),(a1.1,((a1.2).1,(((((a1.2).2).1).1,(((((a1.2).2).1).2).1,())),(((a28.1).1,(((a28.1).2).1,())),((((a28.2).1).1,((((a28.2).1).2).1,())),(((((a28.2).2).1).1,(((((a28.2).2).1).2).1,())),((((a28.2).2).2).1,(((((a28.2).2).2).2).1,())))))))),(a3.1,((a3.2).1,(((((a3.2).2).1).1,(((((a3.2).2).1).2).1,())),(((a29.1).1,(((a29.1).2).1,())),((((a29.2).1).1,((((a29.2).1).2).1,())),(((((a29.2).2).1).1,(((((a29.2).2).1).2).1,())),((((a29.2).2).2).1,(((((a29.2).2).2).2).1,())))))))),(a2.1,((a2.2).1,(((((a2.2).2).1).1,(((((a2.2).2).1).2).1,())),(((a30.1).1,(((a30.1).2).1,())),((((a30.2).1).1,((((a30.2).1).2).1,())),(((((a30.2).2).1).1,(((((a30.2).2).1).2).1,())),((((a30.2).2).2).1,(((((a30.2).2).2).2).1,())))))))),(a9.1,((a9.2).1,(((((a9.2).2).1).1,(((((a9.2).2).1).2).1,())),(((a31.1).1,(((a31.1).2).1,())),((((a31.2).1).1,((((a31.2).1).2).1,())),(((((a31.2).2).1).1,(((((a31.2).2).1).2).1,())),((((a31.2).2).2).1,(((((a31.2).2).2).2).1,())))))))),(a10.1,((a10.2).1,(((((a10.2).2).1).1,(((((a10.2).2).1).2).1,())),(((a21.1).1,(((a21.1).2).1,())),((((a21.2).1).1,((((a21.2).1).2).1,())),(((((a21.2).2).1).1,(((((a21.2).2).1).2).1,())),((((a21.2).2).2).1,(((((a21.2).2).2).2).1,())))))))),(a15.1,((a15.2).1,(((((a15.2).2).1).1,(((((a15.2).2).1).2).1,())),(((a22.1).1,(((a22.1).2).1,())),((((a22.2).1).1,((((a22.2).1).2).1,())),(((((a22.2).2).1).1,(((((a22.2).2).1).2).1,())),((((a22.2).2).2).1,(((((a22.2).2).2).2).1,())))))))),(a16.1,((a16.2).1,(((((a16.2).2).1).1,(((((a16.2).2).1).2).1,())),(((a23.1).1,(((a23.1).2).1,())),((((a23.2).1).1,((((a23.2).1).2).1,())),(((((a23.2).2).1).1,(((((a23.2).2).1).2).1,())),((((a23.2).2).2).1,(((((a23.2).2).2).2).1,())))))))),(a6.1,((a6.2).1,(((((a6.2).2).1).1,(((((a6.2).2).1).2).1,())),(((a32.1).1,(((a32.1).2).1,())),((((a32.2).1).1,((((a32.2).1).2).1,())),(((((a32.2).2).1).1,(((((a32.2).2).1).2).1,())),((((a32.2).2).2).1,(((((a32.2).2).2).2).1,()))))))))])
def Qwq  : OV:=some (.t (.sl Je) XF,[])
theorem e_f153  : JL Qwp Qwn Qwo false [] []=Qwq  :=by kernel_rfl
theorem s_f153:Qwq=some (.t (.sl Je) XF,[]):=rfl
def Qwr:Ent:=Qm .nil (fun x=>true) (fun x=>(.t (.sl Je) XF))
theorem QNI:EM 153 Qwr:=mS Qwp Qwn Qwo false (gB (gD QNF (gD QNH gN))) fun m=>Qq m fun x _=>(e_f153 ).trans (s_f153)
abbrev Qmh:Ao:=Ty.zero Je
def Ix (k:Nat)(l:List Ao):List Ao:=(List.range' k (16-k)).foldl (fun l i=>l.set i (((i+1:Nat):Int),(l.getD i Qmh).2)) l
abbrev Qeg:Sh:=⟨[(15,.ms 111),(113,.ty tI),(114,.ty tI)],[(111,.arr 185 Je)]⟩
abbrev Qws:Sh:=⟨[(15,.ms 111)],[(111,.arr 185 Je)]⟩
def Qmi:Fg:=Qeg.f
def Qmj:TC:=aF Tryz.f174 [(62,pE [[1],[2],[],[11],[],[1],[2],[],[12],[],[1],[2],[6],[12],[],[],[3],[6],[12],[],[],[2],[6],[12],[],[1],[2],[7],[12],[],[],[2],[7],[12],[],[14],[2],[7],[12],[],[14],[4],[],[],[],[14],[2],[8],[13],[],[],[4],[9],[13],[],[14],[2],[10],[13],[],[1],[2],[9],[13],[],[14],[5],[8],[13],[],[14],[5],[10],[13],[],[],[5],[9],[13],[],[111,5111,10111,15111],[111]] (oN 82)),(506,pL 0 Qmi),(8101,.fg Qws.f)]
def Qwt:TC:=lb 0 Qmj
def Qwu:List (RV×Option Ty):=[((.t 0),some (.sl Je))]
def Qwv (x113 x114:Int)(y111:List Ao):VS:=Qeg.st ((),x113,x114,()) (y111,())
def Qmk (y111:List Ao):VS:=Qws.st ((),()) (y111,())
def QNJ:VS->Option (Bool×List (Bool×Exit×VS)):=mkL Qeg (fun x y=>(decide (0<=x.2.2.1/\x.2.2.1<=16/\x.2.1=16/\y.1.length=16))) (fun x y=>[(true,.exit 0,Qmk (Ix x.2.2.1.toNat y.1))])
def Qeh:G:=⟨TYs,[111],125,EL [(204,Qwk)],Yx,(Ls [QNJ]),IL [],RL []⟩
def Qei (x113 x114:Int)(y111:List Ao):OX:=Qu (Qx Qeh Qmi Qwt) (Qwv x113 x114 y111)
def Qej (kk:Int->Int->List Ao->OX)(x113 x114:Int)(y111:List Ao):OX:=
 let a1:=Int.toNat x114
 br (ilt x114 x113) (br (cIx y111 x114) (br (cLd y111 a1) (kk x113 (Qi .i64 x114 1) (List.set y111 a1 ((Qi .i64 x114 1),(lgt Je y111 a1).2))) none) none) (some (.exit 0,Qmk y111))
def Qml (x113 x114:Int)(y111:List Ao):OX:=some (.exit 0,Qmk (Ix x114.toNat y111))
theorem Qww (x113 x114 y111):Qei x113 x114 y111=Qej Qei x113 x114 y111:=lnT (x:=Qej (fun x113 x114 y111=>some (.normal,Qwv x113 x114 y111)) x113 x114 y111) (by simp only [Qej,nxA];rfl)
def Qwx  : OV:=
 let a1:=((QJ 5 0).1,(((QJ 5 0).2).1,()))
 let a2:=((QJ 20 0).1,(((QJ 20 0).2).1,()))
 let a3:=((QJ 22 0).1,(((QJ 22 0).2).1,()))
 let a4:=((QJ 12 256).1,(((QJ 12 256).2).1,()))
 let a5:=((QJ 10 0).1,(((QJ 10 0).2).1,()))
 let a6:=((QJ 15 168).1,(((QJ 15 168).2).1,()))
 let a7:=((QJ 16 128).1,(((QJ 16 128).2).1,()))
 let a8:=((QJ 17 256).1,(((QJ 17 256).2).1,()))
 let a9:=(ByteArray.mk #[101,99,100,104,101,45,101,99,100,115,97,45,97,101,115,50,53,54,45,115,104,97,50,53,54])
 let a10:=(ByteArray.mk #[101,99,100,104,101,45,101,99,100,115,97,45,97,101,115,50,53,54,45,103,99,109])
 let a11:=((QJ 11 1024).1,(((QJ 11 1024).2).1,()))
 let a12:=(ByteArray.mk #[101,99,100,104,101,45,114,115,97,45,97,101,115,49,50,56,45,115,104,97])
 let a13:=(ByteArray.mk #[101,99,100,104,101,45,114,115,97,45,97,101,115,49,50,56,45,103,99,109])
 let a14:=((QJ 14 128).1,(((QJ 14 128).2).1,()))
 let a15:=((QJ 17 128).1,(((QJ 17 128).2).1,()))
 let a16:=(ByteArray.mk #[100,104,101,45,114,115,97,45,97,101,115,49,50,56,45,115,104,97])
 let a17:=((QJ 18 0).1,(((QJ 18 0).2).1,()))
 let a18:=((QJ 7 0).1,(((QJ 7 0).2).1,()))
 let a19:=(ByteArray.mk #[100,104,101,45,100,115,97,45,100,101,115,51,45,115,104,97])
 let a20:=(ByteArray.mk #[100,104,101,45,114,115,97,45,100,101,115,51,45,115,104,97])
 let a21:=(ByteArray.mk #[109,108,107,101,109,45,97,101,115,50,53,54,45,103,99,109])
 let a22:=(ByteArray.mk #[101,99,100,104,101,45,114,115,97,45,99,104,97,99,104,97])
 let a23:=(ByteArray.mk #[114,115,97,45,97,101,115,49,50,56,45,115,104,97])
 let a24:=(ByteArray.mk #[114,115,97,45,97,101,115,50,53,54,45,103,99,109])
 let a25:=(ByteArray.mk #[114,115,97,45,100,101,115,51,45,115,104,97])
 let a26:=(ByteArray.mk #[114,115,97,45,114,99,52,45,109,100,53])
 let a27:=(ByteArray.mk #[114,115,97,45,114,99,52,45,115,104,97])
 let a28:=(ByteArray.mk #[97,101,115,49,50,56,45,103,99,109])
 let a29:=((QJ 11 2048).1,(((QJ 11 2048).2).1,()))
 let a30:=((QJ 16 256).1,(((QJ 16 256).2).1,()))
 let a31:=((QJ 12 384).1,(((QJ 12 384).2).1,()))
 let a32:=((QJ 13 768).1,(((QJ 13 768).2).1,()))
 let a33:=(ByteArray.mk #[99,104,97,99,104,97])
 let a34:=((QJ 19 0).1,(((QJ 19 0).2).1,()))
 let a35:=((QJ 21 0).1,(((QJ 21 0).2).1,()))
 let a36:=((QJ 6 0).1,(((QJ 6 0).2).1,()))
 br (decide (0<=(0:Int)/\(0:Int)<=16/\(Qb ([(0,(a26,(a5,(a1,(a14,(a34,(1,(2,())))))))),(0,(a27,(a5,(a1,(a14,(a2,(1,(3,())))))))),(0,(a25,(a5,(a1,(a6,(a2,(1,(3,())))))))),(0,(a19,(a11,(a36,(a6,(a2,(1,(3,())))))))),(0,(a20,(a11,(a1,(a6,(a2,(1,(3,())))))))),(0,(a23,(a5,(a1,(a7,(a2,(1,(3,())))))))),(0,(a16,(a29,(a1,(a7,(a2,(1,(3,())))))))),(0,(a12,(a4,(a1,(a7,(a2,(1,(3,())))))))),(0,(a9,(a4,(a18,(a30,(a35,(3,(3,())))))))),(0,(a13,(a4,(a1,(a15,(a3,(3,(3,())))))))),(0,(a10,(a31,(a18,(a8,(a3,(3,(3,())))))))),(0,(a22,(a4,(a1,(a17,(a3,(3,(3,())))))))),(0,(a24,(a5,(a1,(a8,(a3,(3,(3,())))))))),(0,(a28,(a4,((0,(0,())),(a15,(a3,(4,(4,())))))))),(0,(a33,(a4,((0,(0,())),(a17,(a3,(4,(4,())))))))),(0,(a21,(a32,((0,(0,())),(a8,(a3,(4,(4,()))))))))]))=16/\([(0,(a26,(a5,(a1,(a14,(a34,(1,(2,())))))))),(0,(a27,(a5,(a1,(a14,(a2,(1,(3,())))))))),(0,(a25,(a5,(a1,(a6,(a2,(1,(3,())))))))),(0,(a19,(a11,(a36,(a6,(a2,(1,(3,())))))))),(0,(a20,(a11,(a1,(a6,(a2,(1,(3,())))))))),(0,(a23,(a5,(a1,(a7,(a2,(1,(3,())))))))),(0,(a16,(a29,(a1,(a7,(a2,(1,(3,())))))))),(0,(a12,(a4,(a1,(a7,(a2,(1,(3,())))))))),(0,(a9,(a4,(a18,(a30,(a35,(3,(3,())))))))),(0,(a13,(a4,(a1,(a15,(a3,(3,(3,())))))))),(0,(a10,(a31,(a18,(a8,(a3,(3,(3,())))))))),(0,(a22,(a4,(a1,(a17,(a3,(3,(3,())))))))),(0,(a24,(a5,(a1,(a8,(a3,(3,(3,())))))))),(0,(a28,(a4,((0,(0,())),(a15,(a3,(4,(4,())))))))),(0,(a33,(a4,((0,(0,())),(a17,(a3,(4,(4,())))))))),(0,(a21,(a32,((0,(0,())),(a8,(a3,(4,(4,()))))))))]).length=16)) (some (.t (.sl Je) (Ix (0:Int).toNat ([(0,(a26,(a5,(a1,(a14,(a34,(1,(2,())))))))),(0,(a27,(a5,(a1,(a14,(a2,(1,(3,())))))))),(0,(a25,(a5,(a1,(a6,(a2,(1,(3,())))))))),(0,(a19,(a11,(a36,(a6,(a2,(1,(3,())))))))),(0,(a20,(a11,(a1,(a6,(a2,(1,(3,())))))))),(0,(a23,(a5,(a1,(a7,(a2,(1,(3,())))))))),(0,(a16,(a29,(a1,(a7,(a2,(1,(3,())))))))),(0,(a12,(a4,(a1,(a7,(a2,(1,(3,())))))))),(0,(a9,(a4,(a18,(a30,(a35,(3,(3,())))))))),(0,(a13,(a4,(a1,(a15,(a3,(3,(3,())))))))),(0,(a10,(a31,(a18,(a8,(a3,(3,(3,())))))))),(0,(a22,(a4,(a1,(a17,(a3,(3,(3,())))))))),(0,(a24,(a5,(a1,(a8,(a3,(3,(3,())))))))),(0,(a28,(a4,((0,(0,())),(a15,(a3,(4,(4,())))))))),(0,(a33,(a4,((0,(0,())),(a17,(a3,(4,(4,())))))))),(0,(a21,(a32,((0,(0,())),(a8,(a3,(4,(4,()))))))))])),[])) none
theorem e_f174  : JL Qeh Qmj Qwu false [] []=Qwx  :=by kernel_rfl
theorem QNK (x113 x114:Int)(y111:List Ao)(h:(decide (0<=x114/\x114<=16/\x113=16/\y111.length=16))=true):Qei x113 x114 y111=Qml x113 x114 y111:=by
 simp only [Ba] at h
 obtain ⟨h1,h2,rfl,h4⟩:=h
 obtain ⟨k,rfl⟩:=Bm h1
 revert y111
 refine QC5 16 (fun k=> ∀ y111:List Ao,y111.length=16->Qei 16 (k:Int) y111=Qml 16 (k:Int) y111) ?_ ?_ k (by omega)
 ·intro y111 _
  rw [Qww]
  rfl
 ·intro k hk ih y111 hy
  rw [Qww]
  have e1:ilt (k:Int) 16=true:=Bc (by omega)
  have e2:cLd y111 k=true:=Bc (by omega)
  have e3:Ix k y111=Ix (k+1) (y111.set k (((k+1:Nat):Int),(y111.getD k Qmh).2)):=by
   have:16-k=(16-(k+1))+1:=by omega
   unfold Ix
   rw [this,Dr,DE]
  simp only [Qej,e1,Qd,QM,show decide (k<y111.length)=true from Bc (by omega),Bb,e2,QO (k:=k)]
  rw [ih _ (by rw [List.length_set];exact hy)]
  simp only [Qml,Bb,e3]
theorem QNL:LO Qeh Qmi Qwt 0:=QC (s:=Qeg) fun x y h _ q=>by simp only [QA,QB] at q;exact (QNK x.2.1 x.2.2.1 y.1 h).trans q
theorem s_f174:Qwx=some (.t (.sl Je) XF,[]):=by kernel_rfl
def Qwy:Ent:=Qm .nil (fun x=>true) (fun x=>(.t (.sl Je) XF))
theorem QNM:EM 174 Qwy:=mS (lk:=lkL (lkc QNL lkn)) Qeh Qmj Qwu false (Zq _ (gA (gD QND gN))) fun m=>Qq m fun x _=>(e_f174 ).trans (s_f174)
theorem QNN:(List.length (α:=Je.T) XF)=16:=by kernel_rfl
theorem Qwz:Qb (α:=Je.T) XF=16:=by kernel_rfl
theorem QwA {c:Int}(h:1<=c/\c<=16):cIx (α:=Je.T) XF (c-1)=true:=by
 have:=QNN
 simp only [cIx,Ba]
 omega
def QS (c:Int):Ao×Int:=if c<1∨16<c then (Qmh,8) else (lgt Je XF (c-1).toNat,0)
def QNO:TC:=aF Tryz.f137 []
def g_f137:G:=gG 20 [(174,Qwy)] (fun _ _=>none)
def QwB (p0:Int):OV:=br (ilt p0 1) (some (.tu [(.t Je (0,((ByteArray.mk #[]),((0,(0,())),((0,(0,())),((0,(0,())),((0,(0,())),(0,(0,()))))))))),(.t tI 8)],[])) (br (igt p0 (Qb XF)) (some (.tu [(.t Je (0,((ByteArray.mk #[]),((0,(0,())),((0,(0,())),((0,(0,())),((0,(0,())),(0,(0,()))))))))),(.t tI 8)],[])) (br (cIx XF (QQ .i64 p0 1)) (some (.tu [(.t Je (lgt Je XF (Int.toNat (QQ .i64 p0 1)))),(.t tI 0)],[])) none))
theorem s_f137 (c):QwB c=some (.tu [.t Je (QS c).1,.t tI (QS c).2],[]):=by
 simp only [QwB]
 unfold QS
 refine Q1 (fun h1=> ?_) (fun h1=>Q1 (fun h2=> ?_) (fun h2=> ?_))
 ·simp only [ilt,Ba] at h1
  rw [if_pos (.inl h1)]
  rfl
 ·have h2:=Bw h2
  have:=Qwz
  rw [if_pos (.inr (by omega))]
  rfl
 ·simp only [ilt,Bo] at h1
  have h2:=Dp h2
  have:=Qwz
  rw [if_neg (by omega),Zv (by omega),QwA (by omega),Qd]
def V8:Ent:=Qm (.pr tI .nil) (fun x=>true) (fun x=>(.tu [(.t Je ((QS x.1).1)),(.t tI ((QS x.1).2))]))
theorem Qek:EM 137 V8:=mS g_f137 QNO [((.c 2 true 12),some Je),((.t 3),some tI)] false (gB (gD QNM gN)) fun m=>Qq m fun x _=>kT (s_f137 x.1)
def QNP:TC:=aF Tryz.f115 []
def g_f115:G:=gG 16 [(153,Qwr)] (fun _ _=>none)
def QwC (p0:Int):OV:=br (ilt p0 1) (some (.tu [(.t Je (0,((ByteArray.mk #[]),((0,(0,())),((0,(0,())),((0,(0,())),((0,(0,())),(0,(0,()))))))))),(.t tI 8)],[])) (br (igt p0 16) (some (.tu [(.t Je (0,((ByteArray.mk #[]),((0,(0,())),((0,(0,())),((0,(0,())),((0,(0,())),(0,(0,()))))))))),(.t tI 8)],[])) (br (cIx XF (QQ .i64 p0 1)) (some (.tu [(.t Je (lgt Je XF (Int.toNat (QQ .i64 p0 1)))),(.t tI 0)],[])) none))
theorem s_f115 (c):QwC c=some (.tu [.t Je (QS c).1,.t tI (QS c).2],[]):=by
 simp only [QwC]
 unfold QS
 refine Q1 (fun h1=> ?_) (fun h1=>Q1 (fun h2=> ?_) (fun h2=> ?_))
 ·simp only [ilt,Ba] at h1
  rw [if_pos (.inl h1)]
  rfl
 ·simp only [igt,Ba] at h2
  rw [if_pos (.inr (by omega))]
  rfl
 ·simp only [ilt,Bo] at h1
  simp only [igt,Bo] at h2
  rw [if_neg (by omega),Zv (by omega),QwA (by omega),Qd]
def Iy:Ent:=Qm (.pr tI .nil) (fun x=>true) (fun x=>(.tu [(.t Je ((QS x.1).1)),(.t tI ((QS x.1).2))]))
theorem V9:EM 115 Iy:=mS g_f115 QNP [((.c 2 true 12),some Je),((.t 3),some tI)] false (gB (gD QNI gN)) fun m=>Qq m fun x _=>kT (s_f115 x.1)
abbrev Qel:Sh:=⟨[(0,.ty (.sl tI)),(1,.ty tI),(5,.ty tI)],[]⟩
abbrev QwD:Sh:=⟨[(4,.ty .bool)],[]⟩
abbrev QwE:Sh:=⟨[],[]⟩
def Qmm:Fg:=Qel.f
def QwF:TC:=aF Tryz.f85 [(26,pL 0 Qmm),(419,.fg QwE.f),(3365,.fg QwD.f)]
def QwG:TC:=lb 0 QwF
def QwH (x0:List Int)(x1 x5:Int):VS:=Qel.st (x0,x1,x5,()) ()
def Qmn (x4:Bool):VS:=QwD.st (x4,()) ()
def Qmo  : VS:=QwE.st () ()
def QNQ:VS->Option (Bool×List (Bool×Exit×VS)):=mkL Qel (fun x y=>(decide (x.1.length<=100000/\0<=x.2.2.1/\x.2.2.1<=x.1.length))) (fun x y=>[(((x.1.drop x.2.2.1.toNat).contains x.2.1),.ret,Qmn (true)),(true,.exit 0,Qmo)])
def Qmp:G:=gG 18 [] (Ls [QNQ])
def Qem (x0:List Int)(x1 x5:Int):OX:=Qu (Qx Qmp Qmm QwG) (QwH x0 x1 x5)
def Qaa (kk:List Int->Int->Int->OX)(x0:List Int)(x1 x5:Int):OX:=br (ilt x5 (Qb x0)) (br (cIx x0 x5) (br (ieq (lgt tI x0 (Int.toNat x5)) x1) (some (.ret,Qmn true)) (kk x0 x1 (Qi .i64 x5 1))) none) (some (.exit 0,Qmo))
def Qen (x0:List Int)(x1 x5:Int):OX:=br ((x0.drop x5.toNat).contains x1) (some (.ret,Qmn (true)))<|some (.exit 0,Qmo)
theorem QwI (x0 x1 x5):Qem x0 x1 x5=Qaa Qem x0 x1 x5:=lnT (x:=Qaa (fun x0 x1 x5=>some (.normal,QwH x0 x1 x5)) x0 x1 x5) (by simp only [Qaa,nxA];rfl)
def r_f85 (p0:List Int)(p1:Int):OV:=br (decide (p0.length<=100000/\0<=(0:Int)/\(0:Int)<=p0.length)) (br ((p0.drop (0:Int).toNat).contains p1) (some (.t .bool (true),[])) (some (.t .bool false,[]))) none
theorem QNR (x0:List Int)(x1 x5:Int)(h:(decide (x0.length<=100000/\0<=x5/\x5<=x0.length))=true):Qem x0 x1 x5=Qen x0 x1 x5:=by
 simp only [Ba] at h
 obtain ⟨h2,h3,h4⟩:=h
 obtain ⟨k,rfl⟩:=Bm h3
 refine QP x0 (fun k=>Qem x0 x1 (k:Int)=Qen x0 x1 (k:Int)) ?_ ?_ k (by omega)
 ·rw [QwI]
  simp [Qaa,Qen,Qv,Qb,Qh]
 ·intro k hk ih
  rw [QwI]
  simp only [Qaa,Qv,Qb,QM,hk,Bu,Qd,Bb,QO (k:=k),ih,QN (y:=tI) hk]
  simp only [Qen,Bb,Bg hk,List.contains_cons,ieq]
  have hc:(x1==x0[k])=(x0[k]==x1):=Bool.beq_comm
  rw [hc]
  cases x0[k]==x1<;>rfl
theorem QNS:LO Qmp Qmm QwG 0:=QC (s:=Qel) fun x y h _ q=>by simp only [QA,QB] at q;exact (QNR x.1 x.2.1 x.2.2.1 h).trans q
theorem s_f85 (l n)(h:Jm l n=true):r_f85 l n=some (.t .bool (Ju l n),[]):=by
 simp only [Jm,Ba] at h
 simp only [r_f85,Bt,Bx]
 rw [GA ⟨h,BY 0,by omega⟩,Qd]
 unfold Ju
 cases l.contains n<;>rfl
def Qab:Ent:=Qm (.pr (.sl tI) (.pr tI .nil)) (fun x=>(Jm x.1 x.2.1)) (fun x=>(.t .bool (Ju x.1 x.2.1)))
theorem Qac:EM 85 Qab:=mS (lk:=lkL (lkc QNS lkn)) Qmp QwF [((.t 4),some .bool)] false (gB gN) fun m=>Qq m fun x hok=>kT (s_f85 x.1 x.2.1 hok)
theorem QwJ (a b:Aa):(and (ieq a.1 b.1) (and (ieq a.2.1 b.2.1) true))=(a==b):=by
 obtain ⟨a1,a2,_⟩:=a
 obtain ⟨b1,b2,_⟩:=b
 show _=((a1==b1)&&((a2==b2)&&true))
 rfl
theorem Qje (a b:Int):ige a b= !ilt a b:=by
 simp only [ige,ilt]
 rw [Dq]
 simp
theorem Qsj (a b:Int):ile a b= !igt a b:=by
 simp only [ile,igt]
 rw [Dq]
 simp
theorem Vi (a b:Int):ine a b= !ieq a b:=rfl
theorem brB {q r:Bool}{X:OV}(h:X=some (.t .bool r,[])):br q (some (.t .bool false,[])) X=some (.t .bool (!q&&r),[]):=by
 subst h
 cases q<;>rfl
theorem brA {q r:Bool}{X:OV}(h:X=some (.t .bool r,[])):br q X (some (.t .bool false,[]))=some (.t .bool (q&&r),[]):=by
 subst h
 cases q<;>rfl
theorem br9 {q v:Bool}{n:Int}{X:OV}(h0:q=true->v=false)(hX:q=false->X=some (.t tI (bif v then 0 else n),[])):br q (some (.t tI n,[])) X=some (.t tI (bif v then 0 else n),[]):=by
 cases q with
 |true=>rw [Qd,h0 rfl];rfl
 |false=>rw [Qh,hX rfl]
open Classical in
def Ws {α:Type}(a b:α):Bool:=decide (a=b)
theorem Qsk {α:Type}(a:α):Ws a a=true:=by
 unfold Ws
 simp
theorem Qsl {α:Type}{a b:α}(h:Ws a b=true):a=b:=by
 unfold Ws at h
 simpa using h
def Zr (n:Int):Bool:= !ilt n 0&& !igt n 2147483648
def tc_f99:TC:=aF Tryz.f99 []
def g_f99:G:=gG 9 [] (fun _ _=>none)
def r_f99 (p0:Int):OV:=br (ige p0 0) (some (.t .bool (ile p0 2147483648),[])) (some (.t .bool false,[]))
theorem s_f99 (n):r_f99 n=some (.t .bool (Zr n),[]):=by
 simp only [r_f99,Qje,Qsj]
 exact brA rfl
def QcG:Ent:=Qm (.pr tI .nil) (fun x=>true) (fun x=>(.t .bool (Zr x.1)))
theorem Qjf:EM 99 QcG:=mS g_f99 tc_f99 [((.t 2),some .bool)] false (gB gN) fun m=>Qq m fun x _=>kT (s_f99 x.1)
def FN (n:Int):Bool:= !ilt n 0&& !ige n 4294967296
def QXJ:TC:=aF Tryz.f208 []
def g_f208:G:=gG 9 [] (fun _ _=>none)
def QHv (p0:Int):OV:=br (ige p0 0) (some (.t .bool (ilt p0 4294967296),[])) (some (.t .bool false,[]))
theorem s_f208 (n):QHv n=some (.t .bool (FN n),[]):=by
 simp only [QHv,FN,Qje,Bool.not_not]
 exact brA rfl
def QHw:Ent:=Qm (.pr tI .nil) (fun x=>true) (fun x=>(.t .bool (FN x.1)))
theorem QXK:EM 208 QHw:=mS g_f208 QXJ [((.t 2),some .bool)] false (gB gN) fun m=>Qq m fun x _=>kT (s_f208 x.1)
def Xd (l:List ByteArray)(k:Nat):Bool:=(List.range' k (l.length-k)).all fun j=>JF (l.getD j ByteArray.empty)&&(decide (j=0)||slt (l.getD (j-1) ByteArray.empty) (l.getD j ByteArray.empty))
theorem QHx (l:List ByteArray):Xd l l.length=true:=by
 unfold Xd
 rw [D0]
 rfl
theorem QHy {l:List ByteArray}{k:Nat}(hk:k<l.length):Xd l k=((JF l[k]&&(decide (k=0)||slt (l.getD (k-1) ByteArray.empty) l[k]))&&Xd l (k+1)):=by
 have:l.length-k=(l.length-(k+1))+1:=by omega
 unfold Xd
 rw [this,Dr,B2]
 simp only [Bp,Bl hk,BU]
def WU (l:List ByteArray):Bool:=Xd l 0&& !igt (Qb l) 8
def Xw (l:List ByteArray):Bool:=decide (l.length<=100000)&&l.all Jc
abbrev Qjg:Sh:=⟨[(0,.ty (.sl .str)),(5,.ty (.sl .str)),(6,.ty tI),(7,.ty tI)],[]⟩
abbrev QHz:Sh:=⟨[(2,.ty .bool)],[]⟩
abbrev QHA:Sh:=⟨[(0,.ty (.sl .str))],[]⟩
def Qsm:Fg:=Qjg.f
def QHB:TC:=aF Tryz.f206 [(26,pL 0 Qsm),(421,.fg QHA.f),(13517,.fg QHz.f)]
def QHC:TC:=lb 0 QHB
def QHD (x0 x5:List ByteArray)(x6 x7:Int):VS:=Qjg.st (x0,x5,x6,x7,()) ()
def Qjh (x2:Bool):VS:=QHz.st (x2,()) ()
def Qsn (x0:List ByteArray):VS:=QHA.st (x0,()) ()
def QXL:VS->Option (Bool×List (Bool×Exit×VS)):=mkL Qjg (fun x y=>(Qw x.2.1 x.2.2.1 x.2.2.2.1&&Ws x.1 x.2.1&&Xw x.2.1)) (fun x y=>[((!Xd x.2.1 x.2.2.2.1.toNat),.ret,Qjh (false)),(true,.exit 0,Qsn (x.1))])
def Qso:G:=gG 32 [(102,QbL)] (Ls [QXL])
def Qji (x0 x5:List ByteArray)(x6 x7:Int):OX:=Qu (Qx Qso Qsm QHC) (QHD x0 x5 x6 x7)
def QcH (kk:List ByteArray->List ByteArray->Int->Int->OX)(x0 x5:List ByteArray)(x6 x7:Int):OX:=
 let a1:=lgt .str x5 (Int.toNat x7)
 br (ilt x7 x6) (br (cIx x5 x7) (br (Jc a1) (br (!(JF a1)) (some (.ret,Qjh false)) (br (igt x7 0) (br (cIx x0 (QQ .i64 x7 1)) (br (!slt (lgt .str x0 (Int.toNat (QQ .i64 x7 1))) a1) (some (.ret,Qjh false)) (kk x0 x5 x6 (Qi .i64 x7 1))) none) (kk x0 x5 x6 (Qi .i64 x7 1)))) none) none) (some (.exit 0,Qsn x0))
def Qjj (x0 x5:List ByteArray)(x6 x7:Int):OX:=br (!Xd x5 x7.toNat) (some (.ret,Qjh (false)))<|some (.exit 0,Qsn (x0))
theorem QHE (x0 x5 x6 x7):Qji x0 x5 x6 x7=QcH Qji x0 x5 x6 x7:=lnT (x:=QcH (fun x0 x5 x6 x7=>some (.normal,QHD x0 x5 x6 x7)) x0 x5 x6 x7) (by simp only [QcH,nxA];rfl)
def QHF (p0:List ByteArray):OV:=br (Qw p0 (Qb p0) (0:Int)&&Ws p0 p0&&Xw p0) (br (!Xd p0 (0:Int).toNat) (some (.t .bool (false),[])) (some (.t .bool (ile (Qb (p0)) 8),[]))) none
theorem QHG {l:List ByteArray}{k:Nat}(h:0<k)(hk:k<l.length):lgt .str l (Int.toNat (QQ .i64 (k:Int) 1))=l.getD (k-1) ByteArray.empty/\cIx l (QQ .i64 (k:Int) 1)=decide (k-1<l.length)∨4611686018427387904<=k:=by
 rcases Dg k 4611686018427387904 with hb|hb
 ·left
  have e:QQ .i64 (k:Int) 1=((k-1:Nat):Int):=by rw [Zv (by omega)];omega
  rw [e,Bb,QM]
  exact ⟨rfl,rfl⟩
 ·exact .inr hb
theorem QXM (x0 x5:List ByteArray)(x6 x7:Int)(h:(Qw x5 x6 x7&&Ws x0 x5&&Xw x5)=true):Qji x0 x5 x6 x7=Qjj x0 x5 x6 x7:=by
 simp only [Bd] at h
 obtain ⟨⟨h0,hs⟩,hn⟩:=h
 have hs:=Qsl hs
 subst hs
 obtain ⟨rfl,h3,k,rfl,hk⟩:=Jv h0
 clear h0
 simp only [Xw,Bd,Bi] at hn
 refine QP x0 (fun k=>Qji x0 x0 (x0.length:Int) (k:Int)=Qjj x0 x0 (x0.length:Int) (k:Int)) ?_ ?_ k hk
 ·rw [QHE]
  simp only [QcH,Qjj,Qv,BK,BP,Qh,Bb,QHx,BA]
 ·intro k hk ih
  rw [QHE]
  have hx:=hn.2 x0[k] (BC hk)
  simp only [QcH,Qv,QM,hk,Bu,Qd,Bb,QO (k:=k),QN (y:= .str) hk,hx,ih]
  simp only [Qjj,Bb,QHy hk]
  cases hg:JF x0[k] with
  |false=>rfl
  |true=>
   simp only [BA,Qh,By]
   by_cases h0:k=0
   ·subst h0
    simp only [show igt ((0:Nat):Int) 0=false from rfl,Qh,Bu,Bool.true_or,By]
   ·rcases QHG (l:=x0) (k:=k) (by omega) hk with ⟨e1,e2⟩|hb
    ·rw [show igt (k:Int) 0=true from Bc (by omega),Qd,e2,Bc (show k-1<x0.length by omega),Qd,e1,Bn h0,De]
     cases slt (x0.getD (k-1) ByteArray.empty) x0[k]<;>rfl
    ·omega
theorem QXN:LO Qso Qsm QHC 0:=QC (s:=Qjg) fun x y h _ q=>by simp only [QA,QB] at q;exact (QXM x.1 x.2.1 x.2.2.1 x.2.2.2.1 h).trans q
theorem s_f206 (l)(h:Xw l=true):QHF l=some (.t .bool (WU l),[]):=by
 have hl:l.length<=100000:=by simp only [Xw,Bd,Ba] at h;exact h.1
 simp only [QHF,Jw hl,Qsk,h,B1,Qd,Bt,Qsj,WU]
 cases Xd l 0<;>rfl
def QHH:Ent:=Qm (.pr (.sl .str) .nil) (fun x=>(Xw x.1)) (fun x=>(.t .bool (WU x.1)))
theorem QXO:EM 206 QHH:=mS (lk:=lkL (lkc QXN lkn)) Qso QHB [((.t 2),some .bool)] false (gB (gD Qg8 gN)) fun m=>Qq m fun x hok=>kT (s_f206 x.1 hok)
def XU (u:Aa)(k:Int):Bool:=JJ u&&ieq (Y2 u.1) k
def QXP:TC:=aF Tryz.f207 []
def g_f207:G:=gG 14 [(103,IF),(139,Qed)] (fun _ _=>none)
def QHI (p0:Aa)(p1:Int):OV:=br (JJ p0) (some (.t .bool (ieq (Y2 p0.1) p1),[])) (some (.t .bool false,[]))
theorem s_f207 (u k):QHI u k=some (.t .bool (XU u k),[]):=by
 simp only [QHI]
 exact brA rfl
def QHJ:Ent:=Qm (.pr Qe (.pr tI .nil)) (fun x=>true) (fun x=>(.t .bool (XU x.1 x.2.1)))
theorem QXQ:EM 207 QHJ:=mS g_f207 QXP [((.t 4),some .bool)] false (gB (gD Qak (gD Qmf gN))) fun m=>Qq m fun x _=>kT (s_f207 x.1 x.2.1)
def E4 (u:Aa):Bool:=XU u 2
def QXR:TC:=aF Tryz.f154 []
def g_f154:G:=gG 11 [(117,Qef),(119,IG)] (fun _ _=>none)
def QHK (p0:Aa):OV:=br (JJ p0) (some (.t .bool (ieq (Y2 p0.1) 2),[])) (some (.t .bool false,[]))
theorem s_f154 (u):QHK u=some (.t .bool (E4 u),[]):=by
 simp only [QHK]
 exact brA rfl
def Qsp:Ent:=Qm (.pr Qe .nil) (fun x=>true) (fun x=>(.t .bool (E4 x.1)))
theorem QHL:EM 154 Qsp:=mS g_f154 QXR [((.t 2),some .bool)] false (gB (gD Qmg (gD Qao gN))) fun m=>Qq m fun x _=>kT (s_f154 x.1)
abbrev QL (c:Af):List ByteArray:=c.2.2.2.2.2.2.2.2.2.2.1
abbrev U7 (c:Af):Aa:=c.2.2.2.2.2.2.2.2.2.2.2.1
def JR (c:Af):Bool:=Jc c.2.1&&(Jc c.2.2.1&&Xw (QL c))
def Q5 (c:Af):Bool:=
 !ilt c.1 0&&(!igt c.1 1099511627776&&(JF c.2.1&&(JF c.2.2.1&&(WU (QL c)&&(XU c.2.2.2.1 2&&(Zr c.2.2.2.2.1&&(XU c.2.2.2.2.2.1 1&&(Zr (U7 c).1&&(FN (U7 c).2.1&&
 (!ilt c.2.2.2.2.2.2.1 0&&(!igt c.2.2.2.2.2.2.1 c.2.2.2.2.2.2.2.1&&(!igt c.2.2.2.2.2.2.2.1 40000&&(!ilt c.2.2.2.2.2.2.2.2.2.1 0&&(!igt c.2.2.2.2.2.2.2.2.2.1 8&&(c.2.2.2.2.2.2.2.2.1||ieq c.2.2.2.2.2.2.2.2.2.1 0)))))))))))))))
def QXS:TC:=aF Tryz.f177 []
def g_f177:G:=gG 91 [(99,QcG),(102,QbL),(206,QHH),(207,QHJ),(208,QHw)] (fun _ _=>none)
def QHM (p0:Af):OV:=br (ilt p0.1 0) (some (.t .bool false,[])) (br (igt p0.1 1099511627776) (some (.t .bool false,[])) (br (Jc p0.2.1) (br (!(JF p0.2.1)) (some (.t .bool false,[])) (br (Jc p0.2.2.1) (br (!(JF p0.2.2.1)) (some (.t .bool false,[])) (br (Xw p0.2.2.2.2.2.2.2.2.2.2.1) (br (!(WU p0.2.2.2.2.2.2.2.2.2.2.1)) (some (.t .bool false,[])) (br (!(XU p0.2.2.2.1 2)) (some (.t .bool false,[])) (br (!(Zr p0.2.2.2.2.1)) (some (.t .bool false,[])) (br (!(XU p0.2.2.2.2.2.1 1)) (some (.t .bool false,[])) (br (!(Zr p0.2.2.2.2.2.2.2.2.2.2.2.1.1)) (some (.t .bool false,[])) (br (!(FN p0.2.2.2.2.2.2.2.2.2.2.2.1.2.1)) (some (.t .bool false,[])) (br (ilt p0.2.2.2.2.2.2.1 0) (some (.t .bool false,[])) (br (igt p0.2.2.2.2.2.2.1 p0.2.2.2.2.2.2.2.1) (some (.t .bool false,[])) (br (igt p0.2.2.2.2.2.2.2.1 40000) (some (.t .bool false,[])) (br (ige p0.2.2.2.2.2.2.2.2.2.1 0) (br (ile p0.2.2.2.2.2.2.2.2.2.1 8) (br (p0.2.2.2.2.2.2.2.2.1) (some (.t .bool true,[])) (some (.t .bool (ieq p0.2.2.2.2.2.2.2.2.2.1 0),[]))) (some (.t .bool false,[]))) (some (.t .bool false,[])))))))))))) none)) none)) none))
theorem s_f177 (c)(h:JR c=true):QHM c=some (.t .bool (Q5 c),[]):=by
 simp only [JR,Bd] at h
 obtain ⟨h1,h2,h3⟩:=h
 simp only [QHM,h1,h2,h3,Qd,Qje,Qsj]
 refine (brB<|brB<|brB<|brB<|brB<|brB<|brB<|brB<|brB<|brB<|brB<|brB<|brB<|brA<|brA (r:=c.2.2.2.2.2.2.2.2.1||ieq c.2.2.2.2.2.2.2.2.2.1 0) ?_).trans ?_
 ·cases c.2.2.2.2.2.2.2.2.1<;>rfl
 ·simp only [Bool.not_not,Q5]
def QHN:Ent:=Qm (.pr QW .nil) (fun x=>(JR x.1)) (fun x=>(.t .bool (Q5 x.1)))
theorem QXT:EM 177 QHN:=mS g_f177 QXS [((.t 2),some .bool)] false (gB (gD Qjf (gD Qg8 (gD QXO (gD QXQ (gD QXK gN)))))) fun m=>Qq m fun x hok=>kT (s_f177 x.1 hok)
def WV (c:Af):Int:=bif Q5 c then 0 else 9
theorem QcI (c:Af):ine (WV c) 0= !Q5 c:=by
 unfold WV
 cases Q5 c<;>rfl
def QXU:TC:=aF Tryz.f140 []
def g_f140:G:=gG 6 [(177,QHN)] (fun _ _=>none)
def QHO (p0:Af):OV:=br (JR p0) (br (!(Q5 p0)) (some (.t tI 9,[])) (some (.t tI 0,[]))) none
theorem s_f140 (c)(h:JR c=true):QHO c=some (.t tI (WV c),[]):=by
 simp only [QHO,h,Qd,WV]
 cases Q5 c<;>rfl
def QHP:Ent:=Qm (.pr QW .nil) (fun x=>(JR x.1)) (fun x=>(.t tI (WV x.1)))
theorem QXV:EM 140 QHP:=mS g_f140 QXU [((.t 2),some tI)] false (gB (gD QXT gN)) fun m=>Qq m fun x hok=>kT (s_f140 x.1 hok)
abbrev Qjk:Sh:=⟨[(1,.ptr 1 0),(3,.ty tI)],[(1,.box QW)]⟩
abbrev QHQ:Sh:=⟨[(2,.ty tI)],[]⟩
abbrev QHR:Sh:=⟨[(1,.ptr 1 0)],[(1,.box QW)]⟩
def Qsq:Fg:=Qjk.f
def QHS:TC:=aF Tryz.f126 [(250,pL 0 Qsq),(4003,.fg QHR.f),(8008,pE [[1],[1],[],[],[],[],[],[],[],[],[],[1],[1],[],[],[],[],[1],[1],[],[],[],[],[],[]] (oN 25)),(32037,.fg QHQ.f)]
def QHT:TC:=lb 0 QHS
def QHU (x3:Int)(y1:Af):VS:=Qjk.st ((),x3,()) (y1,())
def Qjl (x2:Int):VS:=QHQ.st (x2,()) ()
def Qsr (y1:Af):VS:=QHR.st ((),()) (y1,())
def QXW:VS->Option (Bool×List (Bool×Exit×VS)):=mkL Qjk (fun x y=>(decide (0<=x.2.1/\x.2.1<=(QL y.1).length)&&Xw (QL y.1))) (fun x y=>[((!Xd (QL y.1) x.2.1.toNat),.ret,Qjl (9)),(true,.exit 0,Qsr (y.1))])
def Qss:G:=gG 146 [(117,Qef),(118,Qhc),(119,IG),(154,Qsp)] (Ls [QXW])
def Qjm (x3:Int)(y1:Af):OX:=Qu (Qx Qss Qsq QHT) (QHU x3 y1)
def QcJ (kk:Int->Af->OX)(x3:Int)(y1:Af):OX:=
 let a1:=lgt .str y1.2.2.2.2.2.2.2.2.2.2.1 (Int.toNat x3)
 let a2:=cIx y1.2.2.2.2.2.2.2.2.2.2.1 x3
 br (ilt x3 (Qb y1.2.2.2.2.2.2.2.2.2.2.1)) (br a2 (br (Jc a1) (br (!(JF a1)) (some (.ret,Qjl 9)) (br (igt x3 0) (br (cIx y1.2.2.2.2.2.2.2.2.2.2.1 (QQ .i64 x3 1)) (br a2 (br (!slt (lgt .str y1.2.2.2.2.2.2.2.2.2.2.1 (Int.toNat (QQ .i64 x3 1))) a1) (some (.ret,Qjl 9)) (kk (Qi .i64 x3 1) y1)) none) none) (kk (Qi .i64 x3 1) y1))) none) none) (some (.exit 0,Qsr y1))
def Qjn (x3:Int)(y1:Af):OX:=br (!Xd (QL y1) x3.toNat) (some (.ret,Qjl (9)))<|some (.exit 0,Qsr (y1))
theorem QHV (x3 y1):Qjm x3 y1=QcJ Qjm x3 y1:=lnT (x:=QcJ (fun x3 y1=>some (.normal,QHU x3 y1)) x3 y1) (by simp only [QcJ,nxA];rfl)
def Qst (p0:Af):OV:=
 let a1:=(((((((((((((p0).2).2).2).2).2).2).2).2).2).2).2).1)
 br (igt (Qb p0.2.2.2.2.2.2.2.2.2.2.1) 8) (some (.t tI 9,[])) (br (decide (0<=(0:Int)/\(0:Int)<=(QL p0).length)&&Xw (QL p0)) (br (!Xd (QL p0) (0:Int).toNat) (some (.t tI (9),[])) (br (ilt (a1.1) 0) (some (.t tI 9,[])) (br (igt (a1.1) 2147483648) (some (.t tI 9,[])) (br (ilt ((a1.2).1) 0) (some (.t tI 9,[])) (br (ige ((a1.2).1) 4294967296) (some (.t tI 9,[])) (some (.t tI 0,[]))))))) none)
def QHW (p0:Af):OV:=br (ilt p0.1 0) (some (.t tI 9,[])) (br (igt p0.1 1099511627776) (some (.t tI 9,[])) (br (Jc p0.2.1) (br (!(JF p0.2.1)) (some (.t tI 9,[])) (br (Jc p0.2.2.1) (br (!(JF p0.2.2.1)) (some (.t tI 9,[])) (br (!(E4 p0.2.2.2.1)) (some (.t tI 9,[])) (br (ilt p0.2.2.2.2.1 0) (some (.t tI 9,[])) (br (igt p0.2.2.2.2.1 2147483648) (some (.t tI 9,[])) (br (!(JJ p0.2.2.2.2.2.1)) (some (.t tI 9,[])) (br (ine (Y2 p0.2.2.2.2.2.1.1) 1) (some (.t tI 9,[])) (br (ilt p0.2.2.2.2.2.2.1 0) (some (.t tI 9,[])) (br (igt p0.2.2.2.2.2.2.1 p0.2.2.2.2.2.2.2.1) (some (.t tI 9,[])) (br (igt p0.2.2.2.2.2.2.2.1 40000) (some (.t tI 9,[])) (br (ilt p0.2.2.2.2.2.2.2.2.2.1 0) (some (.t tI 9,[])) (br (igt p0.2.2.2.2.2.2.2.2.2.1 8) (some (.t tI 9,[])) (br (!p0.2.2.2.2.2.2.2.2.1) (br (ine p0.2.2.2.2.2.2.2.2.2.1 0) (some (.t tI 9,[])) (Qst p0)) (Qst p0))))))))))))) none)) none))
theorem QXX (x3:Int)(y1:Af)(h:(decide (0<=x3/\x3<=(QL y1).length)&&Xw (QL y1))=true):Qjm x3 y1=Qjn x3 y1:=by
 simp only [Bd,Ba] at h
 obtain ⟨⟨h0,h1⟩,hn⟩:=h
 obtain ⟨k,rfl⟩:=Bm h0
 simp only [Xw,Bd,Bi,Ba] at hn
 refine QP (QL y1) (fun k=>Qjm (k:Int) y1=Qjn (k:Int) y1) ?_ ?_ k (by omega)
 ·rw [QHV]
  simp only [QcJ,Qjn,show ilt ((QL y1).length:Int) (Qb (QL y1))=false from Bn (by simp only [Qb];omega),Qh,Bb,QHx,BA]
 ·intro k hk ih
  rw [QHV]
  have hx:=hn.2 (QL y1)[k] (BC hk)
  simp only [QcJ,show ilt (k:Int) (Qb (QL y1))=true from Bc (by simp only [Qb];omega),QM,hk,Bu,Qd,Bb,QO (k:=k),QN (y:= .str) hk,hx,ih]
  simp only [Qjn,Bb,QHy hk]
  cases hg:JF (QL y1)[k] with
  |false=>rfl
  |true=>
   simp only [BA,Qh,By]
   by_cases h0:k=0
   ·subst h0
    simp only [show igt ((0:Nat):Int) 0=false from rfl,Qh,Bu,Bool.true_or,By]
   ·rcases QHG (l:=QL y1) (k:=k) (by omega) hk with ⟨e1,e2⟩|hb
    ·rw [show igt (k:Int) 0=true from Bc (by omega),Qd,e2,Bc (show k-1<(QL y1).length by omega),Qd,e1,Bn h0,De]
     cases slt ((QL y1).getD (k-1) ByteArray.empty) (QL y1)[k]<;>rfl
    ·omega
theorem QXY:LO Qss Qsq QHT 0:=QC (s:=Qjk) fun x y h _ q=>by simp only [QA,QB] at q;exact (QXX x.2.1 y.1 h).trans q
theorem s_f126 (c)(h:JR c=true):QHW c=some (.t tI (WV c),[]):=by
 simp only [JR,Bd] at h
 obtain ⟨h1,h2,h3⟩:=h
 have hd:decide ((0:Int)<=0/\(0:Int)<=(QL c).length)=true:=Bc (by omega)
 unfold WV
 simp only [QHW,Qst,h1,h2,h3,hd,B1,Qd,Bt,Vi]
 refine br9 (fun g=>by simp [Q5,g]) fun g1=>br9 (fun g=>by simp [Q5,g]) fun g2=>br9 (fun g=>by simp only [BB] at g;simp [Q5,g]) fun g3=>br9 (fun g=>by simp only [BB] at g;simp [Q5,g]) fun g4=>br9 (fun g=>by simp only [BB,E4] at g;simp [Q5,g]) fun g5=>br9 (fun g=>by simp [Q5,Zr,g]) fun g6=>br9 (fun g=>by simp [Q5,Zr,g]) fun g7=>br9 (fun g=>by simp only [BB] at g;simp [Q5,XU,g]) fun g8=>br9 (fun g=>by simp only [BB] at g;simp [Q5,XU,g]) fun g9=>br9 (fun g=>by simp [Q5,g]) fun g10=>br9 (fun g=>by simp [Q5,g]) fun g11=>br9 (fun g=>by simp [Q5,g]) fun g12=>br9 (fun g=>by simp [Q5,g]) fun g13=>br9 (fun g=>by simp [Q5,g]) fun g14=> ?_
 have tail: ∀ (hp:(c.2.2.2.2.2.2.2.2.1||ieq c.2.2.2.2.2.2.2.2.2.1 0)=true),br (igt (Qb (QL c)) 8) (some (V.t tI 9,([]:List VO))) (br (!Xd (QL c) 0) (some (V.t tI 9,[])) (br (ilt (U7 c).1 0) (some (V.t tI 9,[])) (br (igt (U7 c).1 2147483648) (some (V.t tI 9,[])) (br (ilt (U7 c).2.1 0) (some (V.t tI 9,[])) (br (ige (U7 c).2.1 4294967296) (some (V.t tI 9,[])) (some (V.t tI 0,[])))))))=some (V.t tI (bif Q5 c then 0 else 9),([]:List VO)):=by
  intro hp
  refine br9 (fun g=>by simp [Q5,WU,g]) fun g15=>br9 (fun g=>by simp only [BB] at g;simp [Q5,WU,g]) fun g16=>br9 (fun g=>by simp [Q5,Zr,g]) fun g17=>br9 (fun g=>by simp [Q5,Zr,g]) fun g18=>br9 (fun g=>by simp [Q5,FN,g]) fun g19=>br9 (fun g=>by simp [Q5,FN,g]) fun g20=> ?_
  simp only [Bool.not_eq_false'] at g3 g4 g5 g8 g9 g16
  simp only [E4] at g5
  have:Q5 c=true:=by
   simp only [Q5,WU,XU,Zr,FN,g1,g2,g3,g4,g6,g7,g8,g9,g10,g11,g12,g13,g14,g15,g16,g17,g18,g19,g20,hp,Dy,B1,By]
   simpa only [XU,Db] using g5
  rw [this]
  rfl
 cases ha:c.2.2.2.2.2.2.2.2.1 with
 |true=>
  rw [BA,Qh]
  exact tail (by rw [ha];rfl)
 |false=>
  rw [Dy,Qd]
  refine br9 (fun g=>by simp only [BB] at g;simp [Q5,ha,g]) fun g=> ?_
  exact tail (by simp only [Bool.not_eq_false'] at g;rw [g,Bool.or_true])
def Qjo:Ent:=Qm (.pr QW .nil) (fun x=>(JR x.1)) (fun x=>(.t tI (WV x.1)))
theorem Qsu:EM 126 Qjo:=mS (lk:=lkL (lkc QXY lkn)) Qss QHS [((.t 2),some tI)] false (gB (gD Qmg (gD Qp4 (gD Qao (gD QHL gN))))) fun m=>Qq m fun x hok=>kT (s_f126 x.1 hok)
theorem QJY (n:Int):(FE n).length<=8:=by
 rw [FE,QqL]
 exact Qb7 n
theorem W0 (n:Nat)(m:Int):okT (n+1) (QV m)=true:=by
 have:=QJY m
 show okV (n+1) (.mk 2 (FE m) false [])=true
 simp only [okV,List.isEmpty_nil,BW,DC,Db,Bv]
 rw [Bc (by omega)]
 rfl
theorem Qc7 (n:Nat){s:ByteArray}(h:s.size<=100000):okT (n+1) (Zd s)=true:=by
 have:=EH s
 show okV (n+1) (.mk 12 (Q4 s) false [])=true
 simp only [okV,List.isEmpty_nil,BW,DC,Db,Bv]
 rw [Bc (by omega)]
 rfl
theorem QZf (n:Nat)(b:Bool):okT (n+1) (G6 b)=true:=by cases b<;>rfl
theorem Qkf {n:Nat}{l:List Ql}(hl:l.length<=100000)(h: ∀ x∈l,okT n x=true):okT (n+1) (ZI l)=true:=by
 show okV (n+1) (.mk 48 [] true (l.map Val.of))=true
 simp only [okV,List.isEmpty_nil,B6,Db,Bv,BT,Bd,Bi,Dd]
 refine ⟨⟨⟨rfl,rfl⟩,Bc ⟨by omega,hl⟩⟩, ?_⟩
 rintro v ⟨x,hx,rfl⟩
 exact h x hx
theorem Qkg {n:Nat}{l:List Ql}(hl:l.length<=100000)(h: ∀ x∈l,okT n x=true):ZB (n+1) l=true:=by
 simp only [ZB,Bd,Ba,Bi]
 exact ⟨hl,h⟩
theorem Qc8 (x:Ql):((x.1,(x.2.1,(x.2.2.1,(List.map Val.of (List.map Val.un x.2.2.2.1),())))):Ql)=x:=by
 rw [G9]
theorem W4 (m:Int):(Zl (QV m)).length<=18:=by
 have h1:=QJY m
 have h2:=IK ((FE m).length+0)
 rw [QaN]
 simp only [QV,Z1,Br,Bj,Bv]
 omega
theorem Qkh (s:ByteArray):(Zl (Zd s)).length<=10+s.size:=by
 have h1:=EH s
 have h2:=IK ((Q4 s).length+0)
 rw [QaN]
 simp only [Zd,Z1,Br,Bj,Bv]
 omega
theorem QZg (b:Bool):(Zl (G6 b)).length<=11:=by cases b<;>decide
theorem Qki (l:List Ql):(Zl (ZI l)).length<=10+(JZ l).length:=by
 have h2:=IK (0+(Z1 (l.map Val.of)).length)
 rw [QaN]
 simp only [ZI,JZ,Br,Bj,Bv]
 omega
def XA (u:Aa):Ql:=ZI [QV u.1,QV u.2.1]
def GY (u:Aa):Bool:=JH u.1&&JH u.2.1
theorem QJZ (n:Nat)(u:Aa):okT (n+2) (XA u)=true:=
 Qkf (by simp) fun x hx=>by
  simp only [BQ,B3,Dt] at hx
  rcases hx with rfl|rfl<;>exact W0 _ _
theorem QJ0 (u:Aa):(Zl (XA u)).length<=46:=by
 have h0:=Qki [QV u.1,QV u.2.1]
 have h1:=W4 u.1
 have h2:=W4 u.2.1
 simp only [UJ,Eg,Bj,Bv] at h0
 unfold XA
 omega
theorem QZh (u:Aa):Yk [QV u.1,QV u.2.1]=true:=
 Qkg (n:=11) (by simp) fun x hx=>by
  simp only [BQ,B3,Dt] at hx
  rcases hx with rfl|rfl<;>exact W0 _ _
def QZi:TC:=aF Tryz.f199 [(6,pE [[1],[1],[],[1],[1],[],[],[],[2]] (oN 9))]
def g_f199:G:=gG 11 [(88,Qlm),(91,Qfz)] (fun _ _=>none)
def QJ1 (p0:Aa):OV:=
 let a1:=((QV p0.2.1).1,(((QV p0.2.1).2).1,((((QV p0.2.1).2).2).1,((List.map Val.of (List.map Val.un (((((QV p0.2.1).2).2).2).1))),()))))
 let a2:=((QV p0.1).1,(((QV p0.1).2).1,((((QV p0.1).2).2).1,((List.map Val.of (List.map Val.un (((((QV p0.1).2).2).2).1))),()))))
 br (JH p0.1) (br (JH p0.2.1) (br (Yk ([a2,a1])) (some (.t Qy (ZI ([a2,a1])),[])) none) none) none
theorem s_f199 (u)(h:GY u=true):QJ1 u=some (.t Qy (XA u),[]):=by
 simp only [GY,Bd] at h
 simp only [QJ1,h.1,h.2,Qc8,QZh,Qd]
 rfl
def QJ2:Ent:=Qm (.pr Qe .nil) (fun x=>(GY x.1)) (fun x=>(.t Qy (XA x.1)))
theorem QZj:EM 199 QJ2:=mS g_f199 QZi [((.c 2 true 4),some Qy)] false (gB (gD Qvc (gD QnL gN))) fun m=>Qq m fun x hok=>kT (s_f199 x.1 hok)
def U9 (c:Af):List Ql:=[QV c.1,Zd c.2.1,Zd c.2.2.1,XA c.2.2.2.1,QV c.2.2.2.2.1,XA c.2.2.2.2.2.1,QV c.2.2.2.2.2.2.1,QV c.2.2.2.2.2.2.2.1,G6 c.2.2.2.2.2.2.2.2.1,QV c.2.2.2.2.2.2.2.2.2.1,ZI ((QL c).map Zd)]
def Ga (c:Af):Ql:=ZI (U9 c)
def Vy (c:Af):Bool:=JR c&&Q5 c
theorem QJ3 {u:Aa}(h:JJ u=true):0<=u.2.1/\u.2.1<=16384/\1<=u.1/\u.1<=22:=by
 simp only [JJ,Ba] at h
 have ham: ∀ (s t:List Int),(∀ x∈s,0<=x/\x<=16384)->ZC u.2.1 s t > 0->0<=u.2.1/\u.2.1<=16384:=by
  intro s t hs hg
  unfold ZC at hg
  split at hg
  ·rename_i k hk
   have hm:u.2.1∈s:=by
    have key: ∀ (s:List Int) (k:Nat),J5 u.2.1 s=some k->u.2.1∈s:=by
     intro s
     induction s with
     |nil=>intro k hk;cases hk
     |cons a s ih=>
      intro k hk
      unfold J5 at hk
      split at hk
      ·rename_i ha
       have:=eq_of_beq ha
       rw [this];exact Df
      ·obtain ⟨j,hj,_⟩:=Bk.1 hk
       exact B8 _ (ih j hj)
    exact key s k hk
   exact hs _ hm
  ·omega
 rw [<-and_assoc]
 unfold XH at h
 repeat' split at h
 ·refine ⟨?_,by omega⟩
  unfold Fa at h
  split at h<;>omega
 ·refine ⟨?_,by omega⟩
  unfold IE at h
  split at h
  ·rename_i hc
   simp only [Ju,BR,BQ,B3,Dt] at hc
   omega
  ·omega
 ·exact ⟨ham _ _ (by simp) h,by omega⟩
 ·exact ⟨ham _ _ (by simp) h,by omega⟩
 ·exact ⟨ham _ _ (by simp) h,by omega⟩
 ·exact ⟨ham _ _ (by simp) h,by omega⟩
 ·exact ⟨ham _ _ (by simp) h,by omega⟩
 ·refine ⟨ham _ _ (by simp) h, ?_⟩
  unfold ZC at h
  split at h
  ·rename_i k hk
   unfold J5 at hk
   split at hk
   ·injection hk with hk
    subst hk
    simp only [List.getD_cons_zero,Wz] at h
    repeat' split at h
    all_goals omega
   ·cases hk
  ·omega
theorem QJ4 {u:Aa}{k:Int}(h:XU u k=true):GY u=true:=by
 simp only [XU,Bd] at h
 have:=QJ3 h.1
 simp only [GY,JH,Bd,Ba]
 omega
theorem Qkj {s:ByteArray}(h:JF s=true):s.size<=32:=by
 simp only [JF,Bd,Ba] at h
 exact h.2.2
theorem QZk {l:List ByteArray}: ∀ {k:Nat},Xd l k=true→ ∀ j (hj:j<l.length),k<=j->JF l[j]=true:=by
 intro k h j hj hk
 simp only [Xd,Bi,List.mem_range'_1,Bd] at h
 have:=(h j ⟨hk,by omega⟩).1
 simpa only [Bp,Bl hj,BU] using this
theorem QZl {l:List ByteArray}(h:WU l=true):l.length<=8∧ ∀ s∈l,s.size<=32:=by
 simp only [WU,Bd,BB,igt,Qb,Bo] at h
 refine ⟨by omega,fun s hs=> ?_⟩
 obtain ⟨j,hj,rfl⟩:=DZ.1 hs
 exact Qkj (QZk h.1 j hj (B0 _))
theorem Qkk {c:Af}(h:Q5 c=true):JH c.1=true/\c.2.1.size<=32/\c.2.2.1.size<=32/\GY c.2.2.2.1=true/\JH c.2.2.2.2.1=true/\GY c.2.2.2.2.2.1=true/\JH c.2.2.2.2.2.2.1=true/\JH c.2.2.2.2.2.2.2.1=true/\JH c.2.2.2.2.2.2.2.2.2.1=true/\(QL c).length<=8∧ ∀ s∈QL c,s.size<=32:=by
 simp only [Q5,Zr,Bd,BB,ilt,igt,Bo] at h
 obtain ⟨h1,h2,h3,h4,h5,h6,⟨h7,h7'⟩,h8,⟨h9,h9'⟩,h10,h11,h12,h13,h14,h15,h16⟩:=h
 have hn:=QZl h5
 refine ⟨Bc (by omega),Qkj h3,Qkj h4,QJ4 h6,Bc (by omega),QJ4 h8,Bc (by omega),Bc (by omega),Bc (by omega),hn.1,hn.2⟩
theorem QZm (n:Nat){l:List ByteArray}(h:l.length<=8)(hs: ∀ s∈l,s.size<=32):okT (n+2) (ZI (l.map Zd))=true:=
 Qkf (by rw [BT];omega) fun x hx=>by
  obtain ⟨s,hm,rfl⟩:=Dd.1 hx
  exact Qc7 _ (by have:=hs s hm;omega)
theorem QJ5 (n:Nat){c:Af}(h:Q5 c=true): ∀ x∈U9 c,okT (n+2) x=true:=by
 obtain ⟨h1,h2,h3,h4,h5,h6,h7,h8,h9,h10,h11⟩:=Qkk h
 intro x hx
 simp only [U9,BQ,B3,Dt] at hx
 rcases hx with rfl|rfl|rfl|rfl|rfl|rfl|rfl|rfl|rfl|rfl|rfl
 ·exact W0 _ _
 ·exact Qc7 _ (by omega)
 ·exact Qc7 _ (by omega)
 ·exact QJZ _ _
 ·exact W0 _ _
 ·exact QJZ _ _
 ·exact W0 _ _
 ·exact W0 _ _
 ·exact QZf _ _
 ·exact W0 _ _
 ·exact QZm _ h10 h11
theorem QJ6: ∀ {l:List ByteArray},(∀ s∈l,s.size<=32)->(JZ (l.map Zd)).length<=42*l.length
 | [],_=>by simp [Eg]
 |s::l,h=>by
  have h1:=h s (by simp)
  have h2:=Qkh s
  have h3:=QJ6 (l:=l) fun u hu=>h u (by simp [hu])
  rw [BO,UJ,Bj,Br]
  omega
theorem QtM {c:Af}(h:Q5 c=true):(Zl (Ga c)).length<=1000:=by
 obtain ⟨h1,h2,h3,h4,h5,h6,h7,h8,h9,h10,h11⟩:=Qkk h
 have e0:=Qki (U9 c)
 have e1:=W4 c.1
 have e2:=Qkh c.2.1
 have e3:=Qkh c.2.2.1
 have e4:=QJ0 c.2.2.2.1
 have e5:=W4 c.2.2.2.2.1
 have e6:=QJ0 c.2.2.2.2.2.1
 have e7:=W4 c.2.2.2.2.2.2.1
 have e8:=W4 c.2.2.2.2.2.2.2.1
 have e9:=QZg c.2.2.2.2.2.2.2.2.1
 have e10:=W4 c.2.2.2.2.2.2.2.2.2.1
 have e11:=Qki ((QL c).map Zd)
 have e12:=QJ6 h11
 simp only [U9,UJ,Eg,Bj,Bv] at e0
 unfold Ga
 simp only [U9]
 omega
theorem enc_ok {c:Af}(h:Q5 c=true):ZH (Ga c)=true:=by
 have:=QtM h
 simp only [ZH,Bd,Ba]
 refine ⟨Qkf (by simp [U9]) (QJ5 9 h),by omega⟩
theorem QZn {c:Af}(h:Q5 c=true):Yk ((QL c).map Zd)=true:=by
 obtain ⟨h1,h2,h3,h4,h5,h6,h7,h8,h9,h10,h11⟩:=Qkk h
 exact Qkg (n:=11) (by rw [BT];omega) fun x hx=>by
  obtain ⟨s,hm,rfl⟩:=Dd.1 hx
  exact Qc7 _ (by have:=h11 s hm;omega)
theorem QZo {c:Af}(h:Q5 c=true):Yk (U9 c)=true:=Qkg (n:=11) (by simp [U9]) (QJ5 9 h)
theorem Qc9 {s:ByteArray}(h:s.size<=32):YB s=true:=Bc (by omega)
abbrev Qkl:Sh:=⟨[(1,.ptr 1 0),(2,.ptr 2 0),(3,.ms 3),(4,.ty tI)],[(1,.box QW),(2,.box Qy),(3,.arr 164 Qy),(20,.no)]⟩
abbrev QJ7:Sh:=⟨[(1,.ptr 1 0),(2,.ptr 2 0),(3,.ms 3)],[(1,.box QW),(2,.box Qy),(3,.arr 164 Qy),(20,.no)]⟩
def QtN:Fg:=Qkl.f
def QJ8:TC:=aF Tryz.f161 [(58,.nw 3 164),(58,pL 0 QtN),(931,.fg QJ7.f),(30,pE [[1],[1],[],[1],[1],[],[1],[1],[],[1],[1],[],[1],[1],[],[1],[1],[],[1],[1],[],[1],[1],[],[1],[1],[],[1],[1],[],[3,20],[3,20,52,5052,10052,15052],[],[],[2]] (oN 35))]
def QJ9:TC:=lb 0 QJ8
def QKa (x4:Int)(y1:Af)(y2:Ql)(y3:List Ql):VS:=Qkl.st ((),(),(),x4,()) (y1,y2,y3,(),())
def QtO (y1:Af)(y2:Ql)(y3:List Ql):VS:=QJ7.st ((),(),(),()) (y1,y2,y3,(),())
def QZp:VS->Option (Bool×List (Bool×Exit×VS)):=mkL Qkl (fun x y=>(decide (0<=x.2.2.2.1/\x.2.2.2.1<=(QL y.1).length/\y.2.2.1.length<=x.2.2.2.1.toNat/\(QL y.1).length<=8)&&(QL y.1).all fun s=>decide (s.size<=32))) (fun x y=>[(true,.exit 0,QtO (y.1) (y.2.1) (y.2.2.1++((QL y.1).drop x.2.2.2.1.toNat).map Zd))])
def QtP:G:=gG 55 [(88,Qlm),(89,Qvd),(91,Qfz),(199,QJ2),(200,QL8)] (Ls [QZp])
def Qkm (x4:Int)(y1:Af)(y2:Ql)(y3:List Ql):OX:=Qu (Qx QtP QtN QJ9) (QKa x4 y1 y2 y3)
def Qda (kk:Int->Af->Ql->List Ql->OX)(x4:Int)(y1:Af)(y2:Ql)(y3:List Ql):OX:=
 let a1:=Zd (lgt .str y1.2.2.2.2.2.2.2.2.2.2.1 (Int.toNat x4))
 let a2:=((a1.2).1,(((a1.2).2).1,((List.map Val.of (List.map Val.un ((((a1.2).2).2).1))),())))
 br (ilt x4 (Qb y1.2.2.2.2.2.2.2.2.2.2.1)) (br (cIx y1.2.2.2.2.2.2.2.2.2.2.1 x4) (br (YB (lgt .str y1.2.2.2.2.2.2.2.2.2.2.1 (Int.toNat x4))) (br (Qt y3 ([(a1.1,a2)]) 64) (kk (Qi .i64 x4 1) y1 y2 (y3++([(a1.1,a2)]))) none) none) none) (some (.exit 0,QtO y1 y2 y3))
def Qkn (x4:Int)(y1:Af)(y2:Ql)(y3:List Ql):OX:=some (.exit 0,QtO (y1) (y2) (y3++((QL y1).drop x4.toNat).map Zd))
theorem QKb (x4 y1 y2 y3):Qkm x4 y1 y2 y3=Qda Qkm x4 y1 y2 y3:=lnT (x:=Qda (fun x4 y1 y2 y3=>some (.normal,QKa x4 y1 y2 y3)) x4 y1 y2 y3) (by simp only [Qda,nxA];rfl)
def QKc (p0:Af):OV:=
 let a3:=((((p0).2).2).2)
 let a1:=((a3.2).2)
 let a2:=(ZI (([]:List Ql)++((QL p0).drop (0:Int).toNat).map Zd))
 let a4:=((QV (((((a1.2).2).2).2).1)).1,(((QV (((((a1.2).2).2).2).1)).2).1,((((QV (((((a1.2).2).2).2).1)).2).2).1,((List.map Val.of (List.map Val.un (((((QV (((((a1.2).2).2).2).1)).2).2).2).1))),()))))
 let a5:=((G6 ((((a1.2).2).2).1)).1,(((G6 ((((a1.2).2).2).1)).2).1,((((G6 ((((a1.2).2).2).1)).2).2).1,((List.map Val.of (List.map Val.un (((((G6 ((((a1.2).2).2).1)).2).2).2).1))),()))))
 let a6:=((Zd ((((p0).2).2).1)).1,(((Zd ((((p0).2).2).1)).2).1,((((Zd ((((p0).2).2).1)).2).2).1,((List.map Val.of (List.map Val.un (((((Zd ((((p0).2).2).1)).2).2).2).1))),()))))
 let a7:=((QV (((a1.2).2).1)).1,(((QV (((a1.2).2).1)).2).1,((((QV (((a1.2).2).1)).2).2).1,((List.map Val.of (List.map Val.un (((((QV (((a1.2).2).1)).2).2).2).1))),()))))
 let a8:=((Zd (((p0).2).1)).1,(((Zd (((p0).2).1)).2).1,((((Zd (((p0).2).1)).2).2).1,((List.map Val.of (List.map Val.un (((((Zd (((p0).2).1)).2).2).2).1))),()))))
 let a9:=((QV ((a3.2).1)).1,(((QV ((a3.2).1)).2).1,((((QV ((a3.2).1)).2).2).1,((List.map Val.of (List.map Val.un (((((QV ((a3.2).1)).2).2).2).1))),()))))
 let a10:=((QV ((a1.2).1)).1,(((QV ((a1.2).1)).2).1,((((QV ((a1.2).1)).2).2).1,((List.map Val.of (List.map Val.un (((((QV ((a1.2).1)).2).2).2).1))),()))))
 let a11:=((QV ((p0).1)).1,(((QV ((p0).1)).2).1,((((QV ((p0).1)).2).2).1,((List.map Val.of (List.map Val.un (((((QV ((p0).1)).2).2).2).1))),()))))
 let a12:=((XA (a3.1)).1,(((XA (a3.1)).2).1,((((XA (a3.1)).2).2).1,((List.map Val.of (List.map Val.un (((((XA (a3.1)).2).2).2).1))),()))))
 let a13:=((XA (a1.1)).1,(((XA (a1.1)).2).1,((((XA (a1.1)).2).2).1,((List.map Val.of (List.map Val.un (((((XA (a1.1)).2).2).2).1))),()))))
 let a14:=((a2.2).1,(((a2.2).2).1,((List.map Val.of (List.map Val.un ((((a2.2).2).2).1))),())))
 br (decide (0<=(0:Int)/\(0:Int)<=(QL p0).length/\([]:List Ql).length<=(0:Int).toNat/\(QL p0).length<=8)&&(QL p0).all fun s=>decide (s.size<=32)) (br (JH ((p0).1)) (br (YB (((p0).2).1)) (br (YB ((((p0).2).2).1)) (br (GY (a3.1)) (br (JH ((a3.2).1)) (br (GY (a1.1)) (br (JH ((a1.2).1)) (br (JH (((a1.2).2).1)) (br (JH (((((a1.2).2).2).2).1)) (br (Yk (([]:List Ql)++((QL p0).drop (0:Int).toNat).map Zd)) (br (Yk ([a11,a8,a6,a12,a9,a13,a10,a7,a5,a4,(a2.1,a14)])) (some (.t Qy (ZI ([a11,a8,a6,a12,a9,a13,a10,a7,a5,a4,(a2.1,a14)])),[])) none) none) none) none) none) none) none) none) none) none) none) none
theorem QZq (x4:Int)(y1:Af)(y2:Ql)(y3:List Ql)(h:(decide (0<=x4/\x4<=(QL y1).length/\y3.length<=x4.toNat/\(QL y1).length<=8)&&(QL y1).all fun s=>decide (s.size<=32))=true):Qkm x4 y1 y2 y3=Qkn x4 y1 y2 y3:=by
 simp only [Bd,Ba,Bi] at h
 obtain ⟨⟨h0,h1,h2,h3⟩,hn⟩:=h
 obtain ⟨k,rfl⟩:=Bm h0
 rw [Bb] at h2
 revert y3
 refine QP (QL y1) (fun k=> ∀ y3:List Ql,y3.length<=k->Qkm (k:Int) y1 y2 y3=Qkn (k:Int) y1 y2 y3) ?_ ?_ k (by omega)
 ·intro y3 _
  rw [QKb]
  simp only [Qda,Qkn,show ilt ((QL y1).length:Int) (Qb (QL y1))=false from Bn (by simp only [Qb];omega),Qh,Bb,BF,D1,BH]
 ·intro k hk ih y3 hy
  rw [QKb]
  have hx:=hn (QL y1)[k] (BC hk)
  simp only [Qda,show ilt (k:Int) (Qb (QL y1))=true from Bc (by simp only [Qb];omega),QM,hk,Bu,Qd,Bb,QO (k:=k),QN (y:= .str) hk,Qc9 hx,Qc8]
  rw [QX (by omega) (by simp only [Bh];omega),Qd,ih _ (by simp only [Bj,Bh];omega)]
  simp only [Qkn,Bb,Bg hk,BO,BG,BD]
theorem QZr:LO QtP QtN QJ9 0:=QC (s:=Qkl) fun x y h _ q=>by simp only [QA,QB] at q;exact (QZq x.2.2.2.1 y.1 y.2.1 y.2.2.1 h).trans q
theorem s_f161 (c)(h:Vy c=true):QKc c=some (.t Qy (Ga c),[]):=by
 simp only [Vy,Bd] at h
 obtain ⟨_,hv⟩:=h
 obtain ⟨h1,h2,h3,h4,h5,h6,h7,h8,h9,h10,h11⟩:=Qkk hv
 have hc:=QZn hv
 have hp:=QZo hv
 have ha:((QL c).all fun s=>decide (s.size<=32))=true:=Bi.2 fun s hs=>Bc (h11 s hs)
 have hl:(0:Int)<=0/\(0:Int)<=(QL c).length/\([]:List Ql).length<=0/\(QL c).length<=8:=⟨by omega,by omega,by simp,h10⟩
 simp only [U9] at hp
 simp only [QKc,ha,B1,h1,Qc9 h2,Qc9 h3,h4,h5,h6,h7,h8,h9,Qd,Bt,Bx,BM,Qc8,hc,hp]
 rw [Bc hl]
 rfl
def QKd:Ent:=Qm (.pr QW .nil) (fun x=>(Vy x.1)) (fun x=>(.t Qy (Ga x.1)))
theorem QZs:EM 161 QKd:=mS (lk:=lkL (lkc QZr lkn)) QtP QJ8 [((.c 2 true 4),some Qy)] false (gB (gD Qvc (gD QL7 (gD QnL (gD QZj (gD Q1K gN)))))) fun m=>Qq m fun x hok=>kT (s_f161 x.1 hok)
def XO (c:Af):List Int×Int:=bif Q5 c then ZR (Ga c) else ([],9)
theorem QTx {c:Af}(h:Q5 c=true):XO c=(Zl (Ga c),0):=by
 have:=QtM h
 rw [XO,h,B6,ZR,if_neg (by omega)]
theorem QTy (c:Af):(XO c).1.length<=1000:=by
 cases h:Q5 c with
 |true=>
  rw [QTx h]
  exact QtM h
 |false=>
  rw [XO,h]
  simp
def QTz:TC:=aF Tryz.f127 []
def g_f127:G:=gG 12 [(90,QnH),(126,Qjo),(161,QKd)] (fun _ _=>none)
def Qp6 (p0:Af):OV:=br (JR p0) (br (ine (WV p0) 0) (some (.tu [(.t (.sl (.int .u8)) ([]:List Int)),(.t tI 9)],[])) (br (Vy p0) (br (ZH (Ga p0)) (some (.tu [(.t (.sl (.int .u8)) ((ZR (Ga p0)).1)),(.t tI ((ZR (Ga p0)).2))],[])) none) none)) none
theorem s_f127 (c)(h:JR c=true):Qp6 c=some (.tu [.t (.sl (.int .u8)) (XO c).1,.t tI (XO c).2],[]):=by
 unfold XO
 cases hv:Q5 c with
 |true=>simp only [Qp6,h,hv,QcI,enc_ok hv,show Vy c=true from by rw [Vy,h,hv];rfl,BA,Qd,Qh,B6]
 |false=>simp only [Qp6,h,hv,QcI,Dy,Qd,BW]
def QDs:Ent:=Qm (.pr QW .nil) (fun x=>(JR x.1)) (fun x=>(.tu [(.t (.sl (.int .u8)) ((XO x.1).1)),(.t tI ((XO x.1).2))]))
theorem QTA:EM 127 QDs:=mS g_f127 QTz [((.t 2),some (.sl (.int .u8))),((.t 3),some tI)] false (gB (gD QyL (gD Qsu (gD QZs gN)))) fun m=>Qq m fun x hok=>kT (s_f127 x.1 hok)
def GD (s x:Int):Int:=EC .u32 (O4 .u32 s (icv .u32 x)) 16777619
def J9 (b:List Int):Int:=icv .i64 (b.foldl GD 2166136261)
def Xs (b:List Int):Bool:=decide (b.length<=100000)
abbrev Qhd:Sh:=⟨[(3,.ty (.int .u32)),(6,.ty (.sl (.int .u8))),(7,.ty tI),(8,.ty tI)],[]⟩
abbrev Qp7:Sh:=⟨[(3,.ty (.int .u32))],[]⟩
def Qp8:Fg:=Qhd.f
def Qhe:TC:=aF Tryz.f215 [(58,pL 0 Qp8),(933,.fg Qp7.f)]
def QDt:TC:=lb 0 Qhe
def QDu:List (RV×Option Ty):=[((.t 2),some tI)]
def QDv (x3:Int)(x6:List Int)(x7 x8:Int):VS:=Qhd.st (x3,x6,x7,x8,()) ()
def OC (x3:Int):VS:=Qp7.st (x3,()) ()
def QTB:VS->Option (Bool×List (Bool×Exit×VS)):=mkL Qhd (fun x y=>(Qw x.2.1 x.2.2.1 x.2.2.2.1)) (fun x y=>[(true,.exit 0,OC ((x.2.1.drop x.2.2.2.1.toNat).foldl GD x.1))])
def OD:G:=gG 20 [] (Ls [QTB])
def Qhf (x3:Int)(x6:List Int)(x7 x8:Int):OX:=Qu (Qx OD Qp8 QDt) (QDv x3 x6 x7 x8)
def QbN (kk:Int->List Int->Int->Int->OX)(x3:Int)(x6:List Int)(x7 x8:Int):OX:=br (ilt x8 x7) (br (cIx x6 x8) (kk (EC .u32 (O4 .u32 x3 (icv .u32 (lgt (.int .u8) x6 (Int.toNat x8)))) 16777619) x6 x7 (Qi .i64 x8 1)) none) (some (.exit 0,OC x3))
def Qhg (x3:Int)(x6:List Int)(x7 x8:Int):OX:=some (.exit 0,OC ((x6.drop x8.toNat).foldl GD x3))
theorem QDw (x3 x6 x7 x8):Qhf x3 x6 x7 x8=QbN Qhf x3 x6 x7 x8:=lnT (x:=QbN (fun x3 x6 x7 x8=>some (.normal,QDv x3 x6 x7 x8)) x3 x6 x7 x8) (by simp only [QbN,nxA];rfl)
def Qp9 (p0:List Int):OV:=br (Qw p0 (Qb p0) (0:Int)) (some (.t tI (icv .i64 ((p0.drop (0:Int).toNat).foldl GD (2166136261:Int))),[])) none
theorem e_f215 (p0:List Int):JL OD Qhe QDu false [.t (.sl (.int .u8)) p0] []=Qp9 p0:=by kernel_rfl
theorem QTC:GOk Tryz.prog OD:=Zq _ (fun p hp=>by cases hp)
theorem QTD (x3:Int)(x6:List Int)(x7 x8:Int)(h:(Qw x6 x7 x8)=true):Qhf x3 x6 x7 x8=Qhg x3 x6 x7 x8:=by
 obtain ⟨rfl,h3,k,rfl,hk⟩:=Jv h
 clear h
 revert x3
 refine QP x6 (fun k=> ∀ x3:Int,Qhf x3 x6 (x6.length:Int) (k:Int)=Qhg x3 x6 (x6.length:Int) (k:Int)) ?_ ?_ k hk
 ·intro x3
  rw [QDw]
  simp only [QbN,Qhg,Qv,BK,BP,Qh,Bb,BF,List.foldl_nil]
 ·intro k hk ih x3
  rw [QDw]
  simp only [QbN,Qv,QM,hk,Bu,Qd,Bb,QO (k:=k),QN (y:= .int .u8) hk,ih]
  simp only [Qhg,Bb,Bg hk,DE,GD]
theorem QTE:LO OD Qp8 QDt 0:=QC (s:=Qhd) fun x y h _ q=>by simp only [QA,QB] at q;exact (QTD x.1 x.2.1 x.2.2.1 x.2.2.2.1 h).trans q
theorem QTF:Qhe.lok OD:=by
 repeat (first|exact trivial|exact QTE|refine ⟨?_, ?_⟩)
theorem s_f215 (b)(h:Xs b=true):Qp9 b=some (.t tI (J9 b),[]):=by
 simp only [Xs,Ba] at h
 simp only [Qp9,Jw h,Qd,Bt,Bx]
 rfl
def Qqa:Ent:=Qm (.pr (.sl (.int .u8)) .nil) (fun x=>(Xs x.1)) (fun x=>(.t tI (J9 x.1)))
theorem QTG:QH Tryz.prog 215 (QD Qqa):=Qq (R:=JL OD Qhe QDu false) (mG Tryz.func215 (by kernel_rfl) Tryz.ntmps215 (by kernel_rfl) QTC QTF) fun x hok=>(e_f215 x.1).trans (s_f215 x.1 hok)
abbrev Qhh:Sh:=⟨[(0,.ty (.sl (.int .u8))),(3,.ty (.int .u32)),(4,.ty tI)],[]⟩
def Qqb:Fg:=Qhh.f
def QDx:TC:=aF Tryz.f59 [(58,pL 0 Qqb),(931,.fg Qp7.f)]
def QDy:TC:=lb 0 QDx
def QDz (x0:List Int)(x3 x4:Int):VS:=Qhh.st (x0,x3,x4,()) ()
def QTH:VS->Option (Bool×List (Bool×Exit×VS)):=mkL Qhh (fun x y=>(UW x.1 x.2.2.1)) (fun x y=>[(true,.exit 0,OC ((x.1.drop x.2.2.1.toNat).foldl GD x.2.1))])
def Qqc:G:=gG 21 [] (Ls [QTH])
def Qhi (x0:List Int)(x3 x4:Int):OX:=Qu (Qx Qqc Qqb QDy) (QDz x0 x3 x4)
def QbO (kk:List Int->Int->Int->OX)(x0:List Int)(x3 x4:Int):OX:=br (ilt x4 (Qb x0)) (br (cIx x0 x4) (kk x0 (EC .u32 (O4 .u32 x3 (icv .u32 (lgt (.int .u8) x0 (Int.toNat x4)))) 16777619) (Qi .i64 x4 1)) none) (some (.exit 0,OC x3))
def Qhj (x0:List Int)(x3 x4:Int):OX:=some (.exit 0,OC ((x0.drop x4.toNat).foldl GD x3))
theorem QDA (x0 x3 x4):Qhi x0 x3 x4=QbO Qhi x0 x3 x4:=lnT (x:=QbO (fun x0 x3 x4=>some (.normal,QDz x0 x3 x4)) x0 x3 x4) (by simp only [QbO,nxA];rfl)
def r_f59 (p0:List Int):OV:=br (UW p0 (0:Int)) (some (.t tI (icv .i64 ((p0.drop (0:Int).toNat).foldl GD (2166136261:Int))),[])) none
theorem QTI (x0:List Int)(x3 x4:Int)(h:(UW x0 x4)=true):Qhi x0 x3 x4=Qhj x0 x3 x4:=by
 simp only [UW,Ba] at h
 obtain ⟨h0,h1,h2⟩:=h
 obtain ⟨k,rfl⟩:=Bm h0
 revert x3
 refine QP x0 (fun k=> ∀ x3:Int,Qhi x0 x3 (k:Int)=Qhj x0 x3 (k:Int)) ?_ ?_ k (by omega)
 ·intro x3
  rw [QDA]
  simp only [QbO,Qhj,show ilt (x0.length:Int) (Qb x0)=false from Bn (by simp only [Qb];omega),Qh,Bb,BF,List.foldl_nil]
 ·intro k hk ih x3
  rw [QDA]
  simp only [QbO,show ilt (k:Int) (Qb x0)=true from Bc (by simp only [Qb];omega),QM,hk,Bu,Qd,Bb,QO (k:=k),QN (y:= .int .u8) hk,ih]
  simp only [Qhj,Bb,Bg hk,DE,GD]
theorem QTJ:LO Qqc Qqb QDy 0:=QC (s:=Qhh) fun x y h _ q=>by simp only [QA,QB] at q;exact (QTI x.1 x.2.1 x.2.2.1 h).trans q
theorem s_f59 (b)(h:Xs b=true):r_f59 b=some (.t tI (J9 b),[]):=by
 simp only [Xs,Ba] at h
 simp only [r_f59,show UW b 0=true from Bc (by omega),Qd,Bt,Bx]
 rfl
def Qhk:Ent:=Qm (.pr (.sl (.int .u8)) .nil) (fun x=>(Xs x.1)) (fun x=>(.t tI (J9 x.1)))
theorem Qqd:EM 59 Qhk:=mS (lk:=lkL (lkc QTJ lkn)) Qqc QDx [((.t 2),some tI)] false (gB gN) fun m=>Qq m fun x hok=>kT (s_f59 x.1 hok)
theorem lenB_C (c:Af):Xs (XO c).1=true:=Bc (by have:=QTy c;omega)
def QTK (c:Af)(k:Int):Bool:=ieq (XO c).2 0&&(ieq (U7 c).1 k&&ieq (U7 c).2.1 (J9 (XO c).1))
def GE (c:Af)(_k:Int):Bool:=JR c
def YE (c:Af):Af:=c
def QTL:TC:=aF Tryz.f125 []
def g_f125:G:=⟨TYs,[3],9,EL [],Yx,(fun _ _=>none),IL [],RL []⟩
def QDB (p0:Af):OV:=br (Qt ([]:List ByteArray) p0.2.2.2.2.2.2.2.2.2.2.1 16) (some (.t QW (p0.1,(p0.2.1,(p0.2.2.1,((p0.2.2.2.1.1,(p0.2.2.2.1.2.1,())),(p0.2.2.2.2.1,((p0.2.2.2.2.2.1.1,(p0.2.2.2.2.2.1.2.1,())),(p0.2.2.2.2.2.2.1,(p0.2.2.2.2.2.2.2.1,(p0.2.2.2.2.2.2.2.2.1,(p0.2.2.2.2.2.2.2.2.2.1,((([]:List ByteArray)++p0.2.2.2.2.2.2.2.2.2.2.1),((p0.2.2.2.2.2.2.2.2.2.2.2.1.1,(p0.2.2.2.2.2.2.2.2.2.2.2.1.2.1,())),())))))))))))),[])) none
theorem Qqe {c:Af}(h:JR c=true):(QL c).length<=100000:=by
 simp only [JR,Xw,Bd,Ba] at h
 exact h.2.2.1
theorem s_f125 (c)(h:JR c=true):QDB c=some (.t QW (YE c),[]):=by
 have hn:c.2.2.2.2.2.2.2.2.2.2.1.length<=100000:=Qqe h
 simp only [QDB]
 rw [QX (by omega) (by simp only [Bv];omega),Qd]
 rfl
def QDC:Ent:=Qm (.pr QW .nil) (fun x=>(JR x.1)) (fun x=>(.t QW (YE x.1)))
theorem QTM:EM 125 QDC:=mS g_f125 QTL [((.c 2 true 15),some QW)] false (Zq _ (fun p hp=>by cases hp)) fun m=>Qq m fun x hok=>kT (s_f125 x.1 hok)
def sealC (c:Af)(s:Aa):Af:=(c.1,(c.2.1,(c.2.2.1,(c.2.2.2.1,(c.2.2.2.2.1,(c.2.2.2.2.2.1,(c.2.2.2.2.2.2.1,(c.2.2.2.2.2.2.2.1,(c.2.2.2.2.2.2.2.2.1,(c.2.2.2.2.2.2.2.2.2.1,(c.2.2.2.2.2.2.2.2.2.2.1,(s,()))))))))))))
def QbP (c:Af):Af:=sealC c (0,(0,()))
def Qqf (c:Af)(k:Int):Bool:= !Q5 (QbP c)||(ilt k 0||igt k 2147483648)
abbrev Qhl:Af:=Ty.zero QW
def XP (c:Af)(k:Int):Af×Int:=bif Qqf c k then (Qhl,9) else (sealC c (k,(J9 (XO (QbP c)).1,())),0)
def tc_f82:TC:=aF Tryz.f82 []
def g_f82:G:=gG 35 [(59,Qhk),(125,QDC),(126,Qjo),(127,QDs)] (fun _ _=>none)
def r_f82 (p0:Af)(p1:Int):OV:=
 let a4:=((YE p0).2)
 let a1:=((((a4.2).2).2).2)
 let a5:=(((a1.2).2).2)
 let a2:=((XO ((YE p0).1,(a4.1,((a4.2).1,(((a4.2).2).1,((((a4.2).2).2).1,(a1.1,((a1.2).1,(((a1.2).2).1,(a5.1,((a5.2).1,(((a5.2).2).1,((0,(0,())),(((a5.2).2).2).2))))))))))))).1)
 let a3:=(JR ((YE p0).1,(a4.1,((a4.2).1,(((a4.2).2).1,((((a4.2).2).2).1,(a1.1,((a1.2).1,(((a1.2).2).1,(a5.1,((a5.2).1,(((a5.2).2).1,((0,(0,())),(((a5.2).2).2).2)))))))))))))
 let a6:=ByteArray.mk #[]
 br (JR p0) (br a3 (br (ine (WV ((YE p0).1,(a4.1,((a4.2).1,(((a4.2).2).1,((((a4.2).2).2).1,(a1.1,((a1.2).1,(((a1.2).2).1,(a5.1,((a5.2).1,(((a5.2).2).1,((0,(0,())),(((a5.2).2).2).2))))))))))))) 0) (some (.tu [(.t QW (0,(a6,(a6,((0,(0,())),(0,((0,(0,())),(0,(0,(false,(0,(([]:List ByteArray),((0,(0,())),()))))))))))))),(.t tI 9)],[])) (br (ilt p1 0) (some (.tu [(.t QW (0,(a6,(a6,((0,(0,())),(0,((0,(0,())),(0,(0,(false,(0,(([]:List ByteArray),((0,(0,())),()))))))))))))),(.t tI 9)],[])) (br (igt p1 2147483648) (some (.tu [(.t QW (0,(a6,(a6,((0,(0,())),(0,((0,(0,())),(0,(0,(false,(0,(([]:List ByteArray),((0,(0,())),()))))))))))))),(.t tI 9)],[])) (br a3 (br (Xs a2) (some (.tu [(.t QW ((YE p0).1,(a4.1,((a4.2).1,(((a4.2).2).1,((((a4.2).2).2).1,(a1.1,((a1.2).1,(((a1.2).2).1,(a5.1,((a5.2).1,(((a5.2).2).1,((p1,((J9 a2),())),(((a5.2).2).2).2))))))))))))),(.t tI 0)],[])) none) none)))) none) none
theorem s_f82 (c k)(h:GE c k=true):r_f82 c k=some (.tu [.t QW (XP c k).1,.t tI (XP c k).2],[]):=by
 have h:JR c=true:=h
 have hu:JR (QbP c)=true:=h
 have e:((YE c).1,((YE c).2.1,((YE c).2.2.1,((YE c).2.2.2.1,((YE c).2.2.2.2.1,((YE c).2.2.2.2.2.1,((YE c).2.2.2.2.2.2.1,((YE c).2.2.2.2.2.2.2.1,((YE c).2.2.2.2.2.2.2.2.1,((YE c).2.2.2.2.2.2.2.2.2.1,((YE c).2.2.2.2.2.2.2.2.2.2.1,((0,(0,())),()))))))))))))=QbP c:=rfl
 simp only [r_f82,h,e,hu,QcI,lenB_C,Qd]
 unfold XP Qqf
 cases Q5 (QbP c) with
 |false=>rfl
 |true=>
  rw [BA,Qh,De]
  cases ilt k 0 with
  |true=>rfl
  |false=>
   rw [Qh,De]
   cases igt k 2147483648<;>rfl
def Qqg:Ent:=Qm (.pr QW (.pr tI .nil)) (fun x=>(GE x.1 x.2.1)) (fun x=>(.tu [(.t QW ((XP x.1 x.2.1).1)),(.t tI ((XP x.1 x.2.1).2))]))
theorem QDD:EM 82 Qqg:=mS g_f82 tc_f82 [((.c 4 true 15),some QW),((.t 5),some tI)] false (gB (gD Qqd (gD QTM (gD Qsu (gD QTA gN))))) fun m=>Qq m fun x hok=>kT (s_f82 x.1 x.2.1 hok)
def JN (l:List Af):Bool:=decide (l.length<=100000)&&l.all JR
def Qhm (key:Aa)(id:Int)(l:List Af):Bool:=ieq (Qb l) 0||(((l.getD 0 Qhl).2.2.2.1==key)&&ieq (l.getD 0 Qhl).2.2.2.2.1 id)
def Uk (key:Aa)(id:Int)(l:List Af):Bool:=JJ key&&(!ine (Y2 key.1) 2&&(Zr id&&(!igt (Qb l) 8&&(l.all Q5&&Qhm key id l))))
def Fv (_key:Aa)(_id:Int)(l:List Af):Bool:=JN l
theorem QDE (key:Aa)(id:Int)(l:List Af):br (ieq (Qb l) 0) (some (V.t .bool true,([]:List VO))) (br (cIx l 0) (br ((lgt QW l 0).2.2.2.1==key) (br (cIx l 0) (some (V.t .bool (ieq (lgt QW l 0).2.2.2.2.1 id),[])) none) (some (V.t .bool false,[]))) none)=some (V.t .bool (Qhm key id l),[]):=by
 unfold Qhm
 cases l with
 |nil=>rfl
 |cons c l=>
  have h1:ieq (Qb (c::l)) 0=false:=by
   simp only [ieq,Qb,Br,Dv]
   omega
  have h2:cIx (c::l) 0=true:=by simp only [cIx,Br,Ba];omega
  rw [h1,Qh,h2,Qd,De,Qd]
  show br (c.2.2.2.1==key) _ _=some (V.t .bool ((c.2.2.2.1==key)&&ieq c.2.2.2.2.1 id),[])
  cases c.2.2.2.1==key<;>rfl
abbrev Qhn:Sh:=⟨[(1,.ty tI),(2,.ty (.sl QW)),(3,.ptr 3 0),(28,.ty (.sl QW)),(29,.ty tI),(30,.ty tI)],[(3,.box Qe)]⟩
abbrev Qqh:Sh:=⟨[(6,.ty .bool)],[]⟩
abbrev Qqi:Sh:=⟨[(1,.ty tI),(2,.ty (.sl QW)),(3,.ptr 3 0)],[(3,.box Qe)]⟩
def Qqj:Fg:=Qhn.f
def QDF:TC:=aF Tryz.f95 [(58,pL 0 Qqj),(933,.fg Qqi.f),(29901,.fg Qqh.f),(30,pE [[],[],[],[],[],[],[],[],[3],[],[],[],[],[],[],[],[],[],[],[]] (oN 20))]
def QDG:TC:=lb 0 QDF
def QDH (x1:Int)(x2 x28:List Af)(x29 x30:Int)(y3:Aa):VS:=Qhn.st (x1,x2,(),x28,x29,x30,()) (y3,())
def OE (x6:Bool):VS:=Qqh.st (x6,()) ()
def OF (x1:Int)(x2:List Af)(y3:Aa):VS:=Qqi.st (x1,x2,(),()) (y3,())
def QTN:VS->Option (Bool×List (Bool×Exit×VS)):=mkL Qhn (fun x y=>(Qw x.2.2.2.1 x.2.2.2.2.1 x.2.2.2.2.2.1&&JN x.2.2.2.1)) (fun x y=>[((!(x.2.2.2.1.drop x.2.2.2.2.2.1.toNat).all Q5),.ret,OE (false)),(true,.exit 0,OF (x.1) (x.2.1) (y.1))])
def Qqk:G:=gG 57 [(99,QcG),(103,IF),(139,Qed),(140,QHP)] (Ls [QTN])
def Qho (x1:Int)(x2 x28:List Af)(x29 x30:Int)(y3:Aa):OX:=Qu (Qx Qqk Qqj QDG) (QDH x1 x2 x28 x29 x30 y3)
def QbQ (kk:Int->List Af->List Af->Int->Int->Aa->OX)(x1:Int)(x2 x28:List Af)(x29 x30:Int)(y3:Aa):OX:=
 let a1:=lgt QW x28 (Int.toNat x30)
 br (ilt x30 x29) (br (cIx x28 x30) (br (JR a1) (br (ine (WV a1) 0) (some (.ret,OE false)) (kk x1 x2 x28 x29 (Qi .i64 x30 1) y3)) none) none) (some (.exit 0,OF x1 x2 y3))
def Qhp (x1:Int)(x2 x28:List Af)(x29 x30:Int)(y3:Aa):OX:=br (!(x28.drop x30.toNat).all Q5) (some (.ret,OE (false)))<|some (.exit 0,OF (x1) (x2) (y3))
theorem QDI (x1 x2 x28 x29 x30 y3):Qho x1 x2 x28 x29 x30 y3=QbQ Qho x1 x2 x28 x29 x30 y3:=lnT (x:=QbQ (fun x1 x2 x28 x29 x30 y3=>some (.normal,QDH x1 x2 x28 x29 x30 y3)) x1 x2 x28 x29 x30 y3) (by simp only [QbQ,nxA];rfl)
def r_f95 (p0:Aa)(p1:Int)(p2:List Af):OV:=
 let a1:=((((lgt QW (p2) (Int.toNat 0)).2).2).2)
 br (!(JJ p0)) (some (.t .bool false,[])) (br (ine (Y2 p0.1) 2) (some (.t .bool false,[])) (br (!(Zr p1)) (some (.t .bool false,[])) (br (igt (Qb p2) 8) (some (.t .bool false,[])) (br (Qw p2 (Qb p2) (0:Int)&&JN p2) (br (!(p2.drop (0:Int).toNat).all Q5) (some (.t .bool (false),[])) (br (ieq (Qb (p2)) 0) (some (.t .bool true,[])) (br (cIx (p2) 0) (br (and (ieq ((a1.1).1) ((p0).1)) (and (ieq (((a1.1).2).1) (((p0).2).1)) true)) (br (cIx (p2) 0) (some (.t .bool (ieq ((a1.2).1) (p1)),[])) none) (some (.t .bool false,[]))) none))) none))))
theorem QTO (x1:Int)(x2 x28:List Af)(x29 x30:Int)(y3:Aa)(h:(Qw x28 x29 x30&&JN x28)=true):Qho x1 x2 x28 x29 x30 y3=Qhp x1 x2 x28 x29 x30 y3:=by
 simp only [Bd] at h
 obtain ⟨h0,hc⟩:=h
 obtain ⟨rfl,h3,k,rfl,hk⟩:=Jv h0
 clear h0
 simp only [JN,Bd,Bi] at hc
 refine QP x28 (fun k=>Qho x1 x2 x28 (x28.length:Int) (k:Int) y3=Qhp x1 x2 x28 (x28.length:Int) (k:Int) y3) ?_ ?_ k hk
 ·rw [QDI]
  simp only [QbQ,Qhp,Qv,BK,BP,Qh,Bb,BF,DC,BA]
 ·intro k hk ih
  rw [QDI]
  have hx:=hc.2 x28[k] (BC hk)
  simp only [QbQ,Qv,QM,hk,Bu,Qd,Bb,QO (k:=k),QN (y:=QW) hk,hx,QcI,ih]
  simp only [Qhp,Bb,Bg hk,B2]
  cases Q5 x28[k]<;>rfl
theorem QTP:LO Qqk Qqj QDG 0:=QC (s:=Qhn) fun x y h _ q=>by simp only [QA,QB] at q;exact (QTO x.1 x.2.1 x.2.2.2.1 x.2.2.2.2.1 x.2.2.2.2.2.1 y.1 h).trans q
theorem s_f95 (key id l)(h:Fv key id l=true):r_f95 key id l=some (.t .bool (Uk key id l),[]):=by
 have h:JN l=true:=h
 have hl:l.length<=100000:=by simp only [JN,Bd,Ba] at h;exact h.1
 simp only [r_f95,Jw hl,h,B1,Qd,Bt,Bx,QwJ]
 unfold Uk
 refine (brB<|brB<|brB<|brB<|brB (QDE key id l)).trans ?_
 simp only [Bool.not_not]
def QDJ:Ent:=Qm (.pr Qe (.pr tI (.pr (.sl QW) .nil))) (fun x=>(Fv x.1 x.2.1 x.2.2.1)) (fun x=>(.t .bool (Uk x.1 x.2.1 x.2.2.1)))
theorem ms_f95:EM 95 QDJ:=mS (lk:=lkL (lkc QTP lkn)) Qqk QDF [((.t 6),some .bool)] false (gB (gD Qjf (gD Qak (gD Qmf (gD QXV gN))))) fun m=>Qq m fun x hok=>kT (s_f95 x.1 x.2.1 x.2.2.1 hok)
abbrev Qhq:Sh:=⟨[(1,.ty tI),(2,.ty (.sl QW)),(3,.ptr 3 0),(7,.ty tI)],[(3,.box Qe)]⟩
def Qql:Fg:=Qhq.f
def QDK:TC:=aF Tryz.f116 [(58,pL 0 Qql),(931,.fg Qqi.f),(7461,.fg Qqh.f),(30,pE [[],[],[],[],[],[],[],[],[3],[],[],[],[],[],[],[],[],[],[],[]] (oN 20))]
def QDL:TC:=lb 0 QDK
def QDM (x1:Int)(x2:List Af)(x7:Int)(y3:Aa):VS:=Qhq.st (x1,x2,(),x7,()) (y3,())
def QTQ:VS->Option (Bool×List (Bool×Exit×VS)):=mkL Qhq (fun x y=>(decide (0<=x.2.2.2.1/\x.2.2.2.1<=x.2.1.length)&&JN x.2.1)) (fun x y=>[((!(x.2.1.drop x.2.2.2.1.toNat).all Q5),.ret,OE (false)),(true,.exit 0,OF (x.1) (x.2.1) (y.1))])
def Qqm:G:=gG 55 [(126,Qjo),(154,Qsp)] (Ls [QTQ])
def Qhr (x1:Int)(x2:List Af)(x7:Int)(y3:Aa):OX:=Qu (Qx Qqm Qql QDL) (QDM x1 x2 x7 y3)
def QbR (kk:Int->List Af->Int->Aa->OX)(x1:Int)(x2:List Af)(x7:Int)(y3:Aa):OX:=
 let a1:=lgt QW x2 (Int.toNat x7)
 br (ilt x7 (Qb x2)) (br (cIx x2 x7) (br (JR a1) (br (ine (WV a1) 0) (some (.ret,OE false)) (kk x1 x2 (Qi .i64 x7 1) y3)) none) none) (some (.exit 0,OF x1 x2 y3))
def Qhs (x1:Int)(x2:List Af)(x7:Int)(y3:Aa):OX:=br (!(x2.drop x7.toNat).all Q5) (some (.ret,OE (false)))<|some (.exit 0,OF (x1) (x2) (y3))
theorem QDN (x1 x2 x7 y3):Qhr x1 x2 x7 y3=QbR Qhr x1 x2 x7 y3:=lnT (x:=QbR (fun x1 x2 x7 y3=>some (.normal,QDM x1 x2 x7 y3)) x1 x2 x7 y3) (by simp only [QbR,nxA];rfl)
def QDO (p0:Aa)(p1:Int)(p2:List Af):OV:=
 let a1:=((((lgt QW (p2) (Int.toNat 0)).2).2).2)
 br (!(E4 p0)) (some (.t .bool false,[])) (br (ilt p1 0) (some (.t .bool false,[])) (br (igt p1 2147483648) (some (.t .bool false,[])) (br (igt (Qb p2) 8) (some (.t .bool false,[])) (br (decide (0<=(0:Int)/\(0:Int)<=p2.length)&&JN p2) (br (!(p2.drop (0:Int).toNat).all Q5) (some (.t .bool (false),[])) (br (ieq (Qb (p2)) 0) (some (.t .bool true,[])) (br (cIx (p2) 0) (br (and (ieq ((a1.1).1) ((p0).1)) (and (ieq (((a1.1).2).1) (((p0).2).1)) true)) (br (cIx (p2) 0) (some (.t .bool (ieq ((a1.2).1) (p1)),[])) none) (some (.t .bool false,[]))) none))) none))))
theorem QTR (x1:Int)(x2:List Af)(x7:Int)(y3:Aa)(h:(decide (0<=x7/\x7<=x2.length)&&JN x2)=true):Qhr x1 x2 x7 y3=Qhs x1 x2 x7 y3:=by
 simp only [JN,Bd,Ba,Bi] at h
 obtain ⟨⟨h0,h1⟩,h3,hc⟩:=h
 obtain ⟨k,rfl⟩:=Bm h0
 refine QP x2 (fun k=>Qhr x1 x2 (k:Int) y3=Qhs x1 x2 (k:Int) y3) ?_ ?_ k (by omega)
 ·rw [QDN]
  simp only [QbR,Qhs,show ilt (x2.length:Int) (Qb x2)=false from Bn (by simp only [Qb];omega),Qh,Bb,BF,DC,BA]
 ·intro k hk ih
  rw [QDN]
  have hx:=hc x2[k] (BC hk)
  simp only [QbR,show ilt (k:Int) (Qb x2)=true from Bc (by simp only [Qb];omega),QM,hk,Bu,Qd,Bb,QO (k:=k),QN (y:=QW) hk,hx,QcI,ih]
  simp only [Qhs,Bb,Bg hk,B2]
  cases Q5 x2[k]<;>rfl
theorem QTS:LO Qqm Qql QDL 0:=QC (s:=Qhq) fun x y h _ q=>by simp only [QA,QB] at q;exact (QTR x.1 x.2.1 x.2.2.2.1 y.1 h).trans q
theorem s_f116 (key id l)(h:Fv key id l=true):QDO key id l=some (.t .bool (Uk key id l),[]):=by
 have h:JN l=true:=h
 have hl:l.length<=100000:=by simp only [JN,Bd,Ba] at h;exact h.1
 have hd:(0:Int)<=0/\(0:Int)<=l.length:=⟨by omega,by omega⟩
 simp only [QDO,h,Bc hd,B1,Qd,Bt,Bx,QwJ]
 unfold Uk E4 XU Zr
 refine (brB<|brB<|brB<|brB<|brB (QDE key id l)).trans ?_
 simp only [Bool.not_not,Vi,Bool.and_assoc]
def QDP:Ent:=Qm (.pr Qe (.pr tI (.pr (.sl QW) .nil))) (fun x=>(Fv x.1 x.2.1 x.2.2.1)) (fun x=>(.t .bool (Uk x.1 x.2.1 x.2.2.1)))
theorem QTT:EM 116 QDP:=mS (lk:=lkL (lkc QTS lkn)) Qqm QDK [((.t 6),some .bool)] false (gB (gD Qsu (gD QHL gN))) fun m=>Qq m fun x hok=>kT (s_f116 x.1 x.2.1 x.2.2.1 hok)
end K
end Go.Proofs.YtkmobehaikjdjaaGreat
