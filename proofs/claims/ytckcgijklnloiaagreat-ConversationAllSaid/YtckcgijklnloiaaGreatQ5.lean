import Derived.Test.YtckcgijklnloiaaGreatQ4
set_option linter.unusedSimpArgs false
set_option linter.unusedVariables false
noncomputable section
set_option linter.unusedSectionVars false
namespace Go.Proofs.YtckcgijklnloiaaGreat.K
open Go.RowKit
noncomputable section
theorem QlZ {n:Nat}{x:Qm}(h:okT (n+1) x=true): ∀ k (hk:k<(List.map Val.un x.2.2.2.1).length),okT n (List.map Val.un x.2.2.2.1)[k]=true:=by
 intro k hk
 rw [List.getElem_map,QaS]
 exact (U6 h).2.2.2.2.2.2 _ (BA _)
def Wz (_x:Qm):Bool:=true
def Fn (x:Qm):Bool:=okT 12 x
theorem QLW (x:Qm)(h:Fn x=true): ∃ N,okT N x=true:=⟨12,h⟩
theorem QLX (x:Qm)(h:Fn x=true): ∃ N,okT N x=true:=⟨12,h⟩
theorem QvQ:JX Tryz.prog 219:= .inr ⟨by decide,_,Tryz.func219,by kernel_rfl,by kernel_rfl⟩
def IM [Fuel]:Ent:=Qq (.pr Qw .nil) (fun x=>(okT Jo x.1)) (fun x=>(.t .bool (Wz x.1)))
theorem QLY:JX Tryz.prog 219:=QvQ
section
variable [Fuel][Nonempty (PLift (QQ Tryz.prog 219 (QP IM)))]
theorem QLZ:QQ Tryz.prog 219 (QP IM):=(Classical.choice (inferInstance:Nonempty (PLift (QQ Tryz.prog 219 (QP IM))))).down
def Qew (_x:Qm):Bool:=false
def Qex [Fuel](x:Qm):Bool:=okT Jo x
def WA [Fuel](l:List Qm):Bool:=decide (l.length<=100000)&&l.all (okT Jo)
def QL0:TC:=aF Tryz.f233 []
def g_f233:G:=gG 6 [(219,IM)] (fun _ _=>none)
def QvR (p0:Qm):OV:=br (okT Jo p0) (some (.t .bool (!(Wz p0)),[])) none
theorem s_f233 (x:Qm)(h:Qex x=true):QvR x=some (.t .bool (Qew x),[]):=by
 simp only [QvR,show okT Jo x=true from h,Qe]
 rfl
def QvS:Ent:=Qq (.pr Qw .nil) (fun x=>(Qex x.1)) (fun x=>(.t .bool (Qew x.1)))
theorem QL1:EM 233 QvS:=mS g_f233 QL0 [((.t 2),some .bool)] false (gB (gC QLY QLZ gN)) fun m=>Qu m fun x hok=>kT (s_f233 x.1 hok)
def Ql0 (_l:List Qm):Int:= -1
abbrev Qey:Sh:=⟨[(0,.ty (.sl Qw)),(1,.cf 233),(7,.ty tI),(8,.ty tI)],[]⟩
abbrev QvT:Sh:=⟨[(4,.ty tI)],[]⟩
abbrev Qez:Sh:=⟨[],[]⟩
def Ql1:Fg:=Qey.f
def QvU:TC:=aF Tryz.f237 [(26,pL 0 Ql1),(421,.fg Qez.f),(13517,.fg QvT.f)]
def QvV:TC:=lb 0 QvU
def QvW (x0:List Qm)(x7 x8:Int):VS:=Qey.st (x0,(),x7,x8,()) ()
def Ql2 (x4:Int):VS:=QvT.st (x4,()) ()
def Ql3  : VS:=Qez.st () ()
def QL2:VS->Option (Bool×List (Bool×Exit×VS)):=mkL Qey (fun x y=>(Qz x.1 x.2.2.1 x.2.2.2.1&&WA x.1)) (fun x y=>[((false),.ret,Ql2 (x.2.2.2.1)),(true,.exit 0,Ql3)])
def Ql4:G:=gG 19 [(233,QvS)] (Ls [QL2])
def QeA (x0:List Qm)(x7 x8:Int):OX:=QB (QD Ql4 Ql1 QvV) (QvW x0 x7 x8)
def Qaz (kk:List Qm->Int->Int->OX)(x0:List Qm)(x7 x8:Int):OX:=
 let a1:=lgt Qw x0 (Int.toNat x8)
 br (ilt x8 x7) (br (cIx x0 x8) (br (Qex a1) (br (Qew a1) (some (.ret,Ql2 x8)) (kk x0 x7 (Qk .i64 x8 1))) none) none) (some (.exit 0,Ql3))
def Ql5 (x0:List Qm)(x7 x8:Int):OX:=br (false) (some (.ret,Ql2 (x8)))<|some (.exit 0,Ql3)
theorem QvX (x0:List Qm)(x7 x8:Int):QeA x0 x7 x8=Qaz QeA x0 x7 x8:=lnT (x:=Qaz (fun x0 x7 x8=>some (.normal,QvW x0 x7 x8)) x0 x7 x8) (by simp only [Qaz,nxA];rfl)
def QvY (p0:List Qm):OV:=br (Qz p0 (Qc p0) (0:Int)&&WA p0) (br (false) (some (.t tI (0:Int),[])) (some (.t tI (-1),[]))) none
theorem QL3 (x0:List Qm)(x7 x8:Int)(h:(Qz x0 x7 x8&&WA x0)=true):QeA x0 x7 x8=Ql5 x0 x7 x8:=by
 simp only [Bc] at h
 obtain ⟨h0,hc⟩:=h
 obtain ⟨rfl,h3,k,rfl,hk⟩:=Js h0
 clear h0
 simp only [WA,Bc,Bg] at hc
 refine QW x0 (fun k=>QeA x0 (x0.length:Int) (k:Int)=Ql5 x0 (x0.length:Int) (k:Int)) ?_ ?_ k hk
 ·rw [QvX]
  simp [Qaz,Ql5,QC,Qi]
 ·intro k hk ih
  rw [QvX]
  have hx:=hc.2 x0[k] (BA hk)
  simp only [Qaz,QC,QS,hk,Bu,Qe,Bb,QU (show k<4611686018427387904 by omega),QX (y:=Qw) hk,show Qex x0[k]=true from hx,Qew,Qi,ih]
  rfl
theorem QL4:LO Ql4 Ql1 QvV 0:=QN (s:=Qey) fun x y h _ q=>by simp only [QJ,QK] at q;exact (QL3 x.1 x.2.2.1 x.2.2.2.1 h).trans q
theorem QL5 (l:List Qm)(h:WA l=true):QvY l=some (.t tI (Ql0 l),[]):=by
 have hl:l.length<=100000:=by simp only [WA,Bc,Ba] at h;exact h.1
 simp only [QvY,Jy hl,h,BB,Qe,Qi]
 rfl
def QvZ:Ent:=U5 [.ty (.sl Qw),.cf 233] [] (fun x d=>(WA x.1)) (fun x d=>(.t tI (Ql0 x.1)))
theorem QL6:EM 237 QvZ:=mS (lk:=lkL (lkc QL4 lkn)) Ql4 QvU [((.t 4),some tI)] false (gB (gD QL1 gN)) fun m=>YQ m fun x d hok=>kT (QL5 x.1 hok)
def Ql6 (_l:List Qm):Bool:=false
def QL7:TC:=aF Tryz.f232 []
def QL8:G:=gG 9 [(237,QvZ)] (fun _ _=>none)
def Qv0 (p0:List Qm):OV:=br (WA p0) (some (.t .bool (ige (Ql0 p0) 0),[])) none
theorem QL9 (l:List Qm)(h:WA l=true):Qv0 l=some (.t .bool (Ql6 l),[]):=by
 simp only [Qv0,h,Qe]
 rfl
def Qv1:Ent:=U5 [.ty (.sl Qw),.cf 233] [] (fun x d=>(WA x.1)) (fun x d=>(.t .bool (Ql6 x.1)))
theorem QMa:EM 232 Qv1:=mS QL8 QL7 [((.t 4),some .bool)] false (gB (gD QL6 gN)) fun m=>YQ m fun x d hok=>kT (QL9 x.1 hok)
def Ql7:TC:=aF Tryz.f219 []
def Qv2:List (RV×Option Ty):=[((.t 2),some .bool)]
def QeB:G:=gG 41 [(231,Qvu),(232,Qv1)] (fun _ _=>none)
def Ql8 (p0:Qm):OV:=
 let a1:=List.map Val.un p0.2.2.2.1
 br (WA a1) (some (.t .bool (!(Ql6 a1)),[])) none
def Ql9 (p0:Qm):OV:=br (!p0.2.2.1) (br (igt (Qc (List.map Val.un p0.2.2.2.1)) 0) (some (.t .bool false,[])) (Ql8 p0)) (Ql8 p0)
def Qma (p0:Qm):OV:=br (!(Qar p0.1)) (some (.t .bool false,[])) (br (I4 p0.2.2.1 (ine (Iw .i64 p0.1 32) 0)) (some (.t .bool false,[])) (br (p0.2.2.1) (br (igt (Qc p0.2.1) 0) (some (.t .bool false,[])) (Ql9 p0)) (Ql9 p0)))
theorem e_f219 (p0:Qm):JR QeB Ql7 Qv2 false [.t Qw p0] []=Qma p0:=by kernel_rfl
theorem QMb:GOk Tryz.prog QeB:=Zz _ (gA (gD QLI (gD QMa gN)))
theorem QMc:Ql7.lok QeB:=by repeat (first|exact trivial|refine ⟨?_, ?_⟩)
theorem s_f219 (x:Qm)(h:okT (Jo+1) x=true):Qma x=some (.t .bool (Wz x),[]):=by
 obtain ⟨h1,h2,h3,h4,h5,h6,h7⟩:=U6 h
 have hu:WA (List.map Val.un x.2.2.2.1)=true:=by
  simp only [WA,Bc,Ba,BP,Bg,Dc]
  refine ⟨h6, ?_⟩
  rintro y ⟨v,hv,rfl⟩
  rw [QaS]
  exact h7 v hv
 have ht:Qar x.1=true:=by rcases h1 with e|e|e|e<;>rw [e]<;>rfl
 have hn:I4 x.2.2.1 (ine (Iw .i64 x.1 32) 0)=false:=by rw [h2];rcases h1 with e|e|e|e<;>rw [e]<;>rfl
 simp only [Qma,Ql9,Ql8,ht,hn,hu,BC,Qe,Qi]
 cases hq:x.2.2.1 with
 |true=>
  rw [h3 hq]
  rfl
 |false=>
  rw [h4 hq]
  rfl
theorem QMd:QQ Tryz.prog 219 (JR QeB Ql7 Qv2 false):=mG Tryz.func219 (by kernel_rfl) Tryz.ntmps219 (by kernel_rfl) QMb QMc
end
theorem Qv3: ∀ N:Nat,QQ Tryz.prog 219 (QP (@IM ⟨N⟩))
 |0=>Fq fun x=>by first|rfl|simp [okT]
 |N+1=>by
  letI:Fuel:=⟨N⟩
  haveI:Nonempty (PLift (QQ Tryz.prog 219 (QP IM))):=⟨⟨Qv3 N⟩⟩
  exact Qu QMd fun x hok=>(e_f219 x.1).trans (s_f219 x.1 hok)
def Qv4:Ent:=Qq (.pr Qw .nil) (fun x=>(Fn x.1)) (fun x=>(.t .bool (Wz x.1)))
theorem QMe:QQ Tryz.prog 219 (QP Qv4):=Fs Qv3 fun x hok=>QLW x.1 hok
theorem Qv5:JX Tryz.prog 182:= .inr ⟨by decide,_,Tryz.func182,by kernel_rfl,by kernel_rfl⟩
def IN [Fuel]:Ent:=Qq (.pr Qw .nil) (fun x=>(okT Jo x.1)) (fun x=>(.t .bool (Wz x.1)))
theorem QMf:JX Tryz.prog 182:=Qv5
section
variable [Fuel][Nonempty (PLift (QQ Tryz.prog 182 (QP IN)))]
theorem QMg:QQ Tryz.prog 182 (QP IN):=(Classical.choice (inferInstance:Nonempty (PLift (QQ Tryz.prog 182 (QP IN))))).down
def QeC [Fuel](x:Qm):Bool:=okT (Jo+1) x
abbrev QeD:Sh:=⟨[(1,.ptr 1 0),(3,.ty tI)],[(1,.box Qw)]⟩
abbrev Qv6:Sh:=⟨[(2,.ty .bool)],[]⟩
def Qmb:Fg:=QeD.f
def QeE:TC:=aF Tryz.f182 [(58,pL 0 Qmb),(931,.fg Qez.f),(7461,.fg Qv6.f)]
def Qv7:TC:=lb 0 QeE
def Qv8:List (RV×Option Ty):=[((.t 2),some .bool)]
def Qv9 (x3:Int)(y1:Qm):VS:=QeD.st ((),x3,()) (y1,())
def Qmc (x2:Bool):VS:=Qv6.st (x2,()) ()
def Qmd  : VS:=Qez.st () ()
def QMh:VS->Option (Bool×List (Bool×Exit×VS)):=mkL QeD (fun x y=>(decide (0<=x.2.1/\x.2.1<=y.1.2.2.2.1.length)&&QeC y.1)) (fun x y=>[((false),.ret,Qmc (false)),(true,.exit 0,Qmd)])
def IO:G:=gG 53 [(182,IN),(210,Qvw)] (Ls [QMh])
def QeF (x3:Int)(y1:Qm):OX:=QB (QD IO Qmb Qv7) (Qv9 x3 y1)
def QaA (kk:Int->Qm->OX)(x3:Int)(y1:Qm):OX:=
 let a1:=List.map Val.un y1.2.2.2.1
 let a2:=lgt Qw a1 (Int.toNat x3)
 br (ilt x3 (Qc a1)) (br (cIx a1 x3) (br (okT Jo a2) (br (!(Wz a2)) (some (.ret,Qmc false)) (kk (Qk .i64 x3 1) y1)) none) none) (some (.exit 0,Qmd))
def Qme (x3:Int)(y1:Qm):OX:=br (false) (some (.ret,Qmc (false)))<|some (.exit 0,Qmd)
theorem Qwa (x3:Int)(y1:Qm):QeF x3 y1=QaA QeF x3 y1:=lnT (x:=QaA (fun x3 y1=>some (.normal,Qv9 x3 y1)) x3 y1) (by simp only [QaA,nxA];rfl)
def Qmf (p0:Qm):OV:=br (decide (0<=(0:Int)/\(0:Int)<=p0.2.2.2.1.length)&&QeC p0) (br (false) (some (.t .bool (false),[])) (some (.t .bool true,[]))) none
def Qmg (p0:Qm):OV:=br (!p0.2.2.1) (br (igt (Qc (List.map Val.un p0.2.2.2.1)) 0) (some (.t .bool false,[])) (Qmf p0)) (Qmf p0)
def Qmh (p0:Qm):OV:=br (!(Qas p0.1)) (some (.t .bool false,[])) (br (cNz 32) (br (cNz 2) (br (I4 p0.2.2.1 (ieq (Ua (Ex .i64 p0.1 32) 2) 1)) (some (.t .bool false,[])) (br (p0.2.2.1) (br (igt (Qc p0.2.1) 0) (some (.t .bool false,[])) (Qmg p0)) (Qmg p0))) none) none)
theorem e_f182 (p0:Qm):JR IO QeE Qv8 false [.t Qw p0] []=Qmh p0:=by kernel_rfl
theorem QMi:GOk Tryz.prog IO:=Zz _ (gA (gC QMf QMg (gD QLK gN)))
theorem QMj (x3:Int)(y1:Qm)(h:(decide (0<=x3/\x3<=y1.2.2.2.1.length)&&QeC y1)=true):QeF x3 y1=Qme x3 y1:=by
 simp only [Bc,Ba] at h
 obtain ⟨⟨h0,h1⟩,hc⟩:=h
 obtain ⟨k,rfl⟩:=Bm h0
 have hm:=QlZ hc
 have hl:=(U6 hc).2.2.2.2.2.1
 refine QW (List.map Val.un y1.2.2.2.1) (fun k=>QeF (k:Int) y1=Qme (k:Int) y1) ?_ ?_ k (by rw [BP];omega)
 ·rw [Qwa]
  simp [QaA,Qme,ilt,Qc,Qi]
 ·intro k hk ih
  rw [Qwa]
  have hk2:k<y1.2.2.2.1.length:=by rw [BP] at hk;exact hk
  simp only [QaA,show ilt (k:Int) (Qc (List.map Val.un y1.2.2.2.1))=true from Bd (by simp only [Qc];omega),QS,hk,Bu,Qe,Bb,QU (show k<4611686018427387904 by omega),QX (y:=Qw) hk,hm k hk,Wz,BC,Qi,ih]
  rfl
theorem QMk:LO IO Qmb Qv7 0:=QN (s:=QeD) fun x y h _ q=>by simp only [QJ,QK] at q;exact (QMj x.2.1 y.1 h).trans q
theorem QMl:QeE.lok IO:=by
 repeat (first|exact trivial|exact QMk|refine ⟨?_, ?_⟩)
theorem s_f182 (x:Qm)(h:okT (Jo+1) x=true):Qmh x=some (.t .bool (Wz x),[]):=by
 obtain ⟨h1,h2,h3,h4,h5,h6,h7⟩:=U6 h
 have ht:Qas x.1=true:=by rcases h1 with e|e|e|e<;>rw [e]<;>rfl
 have hn:I4 x.2.2.1 (ieq (Ua (Ex .i64 x.1 32) 2) 1)=false:=by rw [h2];rcases h1 with e|e|e|e<;>rw [e]<;>rfl
 have hd:decide ((0:Int)<=0/\(0:Int)<=x.2.2.2.1.length)=true:=Bd (by omega)
 simp only [Qmh,Qmg,Qmf,ht,hn,hd,show QeC x=true from h,BX,show cNz 32=true from rfl,show cNz 2=true from rfl,BC,Qe,Qi]
 cases hq:x.2.2.1 with
 |true=>
  rw [h3 hq]
  rfl
 |false=>
  rw [h4 hq]
  rfl
theorem QMm:QQ Tryz.prog 182 (JR IO QeE Qv8 false):=mG Tryz.func182 (by kernel_rfl) Tryz.ntmps182 (by kernel_rfl) QMi QMl
end
theorem Qwb: ∀ N:Nat,QQ Tryz.prog 182 (QP (@IN ⟨N⟩))
 |0=>Fq fun x=>by first|rfl|simp [okT]
 |N+1=>by
  letI:Fuel:=⟨N⟩
  haveI:Nonempty (PLift (QQ Tryz.prog 182 (QP IN))):=⟨⟨Qwb N⟩⟩
  exact Qu QMm fun x hok=>(e_f182 x.1).trans (s_f182 x.1 hok)
def Qwc:Ent:=Qq (.pr Qw .nil) (fun x=>(Fn x.1)) (fun x=>(.t .bool (Wz x.1)))
theorem QMn:QQ Tryz.prog 182 (QP Qwc):=Fs Qwb fun x hok=>QLX x.1 hok
def dpV (x:Qm):Int:=(FW (Val.of x):Int)
def Yd (n:Nat)(x:Qm):Bool:=okT n x&&decide (n<=100)
def Fo (x:Qm):Bool:=okT 12 x
theorem QMo (x:Qm)(h:Fo x=true): ∃ N,Yd N x=true:=⟨12,by rw [Yd,show okT 12 x=true from h];rfl⟩
theorem QMp (x:Qm)(h:Fo x=true): ∃ N,Yd N x=true:=⟨12,by rw [Yd,show okT 12 x=true from h];rfl⟩
def Uz (l:List Qm):Nat:=Vm (l.map Val.of)
theorem Qwd:Uz []=0:=rfl
theorem Qwe (x:Qm)(l:List Qm):Uz (x::l)=max (FW (Val.of x)) (Uz l):=rfl
theorem QeG (x:Qm):FW (Val.of x)=Vm x.2.2.2.1+1:=rfl
theorem Qwf (a b:Nat):imx (a:Int) (b:Int)=((max a b:Nat):Int):=by
 unfold imx
 split<;>omega
theorem Qwg:JX Tryz.prog 220:= .inr ⟨by decide,_,Tryz.func220,by kernel_rfl,by kernel_rfl⟩
def IP [Fuel]:Ent:=Qq (.pr Qw .nil) (fun x=>(Yd Jo x.1)) (fun x=>(.t tI (dpV x.1)))
theorem QMq:JX Tryz.prog 220:=Qwg
section
variable [Fuel][Nonempty (PLift (QQ Tryz.prog 220 (QP IP)))]
theorem QMr:QQ Tryz.prog 220 (QP IP):=(Classical.choice (inferInstance:Nonempty (PLift (QQ Tryz.prog 220 (QP IP))))).down
def IQ [Fuel](l:List Qm):Bool:=decide (l.length<=100000/\Jo+1<=100)&&l.all (okT Jo)
abbrev QeH:Sh:=⟨[(3,.ty tI),(7,.ty (.sl Qw)),(8,.ty tI),(9,.ty tI)],[]⟩
abbrev Qmi:Sh:=⟨[(3,.ty tI)],[]⟩
def Qmj:Fg:=QeH.f
def QeI:TC:=aF Tryz.f220 [(58,pL 0 Qmj),(933,.fg Qmi.f)]
def Qwh:TC:=lb 0 QeI
def Qwi:List (RV×Option Ty):=[((.t 2),some tI)]
def Qwj (x3:Int)(x7:List Qm)(x8 x9:Int):VS:=QeH.st (x3,x7,x8,x9,()) ()
def IR (x3:Int):VS:=Qmi.st (x3,()) ()
def QMs:VS->Option (Bool×List (Bool×Exit×VS)):=mkL QeH (fun x y=>(Qz x.2.1 x.2.2.1 x.2.2.2.1&&IQ x.2.1&&decide (0<=x.1/\x.1<=100))) (fun x y=>[(true,.exit 0,IR ((max x.1.toNat (Uz (x.2.1.drop x.2.2.2.1.toNat)):Nat):Int))])
def IS:G:=gG 20 [(220,IP)] (Ls [QMs])
def QeJ (x3:Int)(x7:List Qm)(x8 x9:Int):OX:=QB (QD IS Qmj Qwh) (Qwj x3 x7 x8 x9)
def QaB (kk:Int->List Qm->Int->Int->OX)(x3:Int)(x7:List Qm)(x8 x9:Int):OX:=
 let a1:=lgt Qw x7 (Int.toNat x9)
 br (ilt x9 x8) (br (cIx x7 x9) (br (Yd Jo a1) (kk (imx x3 (dpV a1)) x7 x8 (Qk .i64 x9 1)) none) none) (some (.exit 0,IR x3))
def QeK (x3:Int)(x7:List Qm)(x8 x9:Int):OX:=some (.exit 0,IR ((max x3.toNat (Uz (x7.drop x9.toNat)):Nat):Int))
theorem Qwk (x3:Int)(x7:List Qm)(x8 x9:Int):QeJ x3 x7 x8 x9=QaB QeJ x3 x7 x8 x9:=lnT (x:=QaB (fun x3 x7 x8 x9=>some (.normal,Qwj x3 x7 x8 x9)) x3 x7 x8 x9) (by simp only [QaB,nxA];rfl)
def Qmk (p0:Qm):OV:=
 let a1:=List.map Val.un p0.2.2.2.1
 br (Qz a1 (Qc a1) (0:Int)&&IQ a1&&decide (0<=(0:Int)/\(0:Int)<=100)) (some (.t tI (Qk .i64 ((max (0:Int).toNat (Uz (a1.drop (0:Int).toNat)):Nat):Int) 1),[])) none
theorem e_f220 (p0:Qm):JR IS QeI Qwi false [.t Qw p0] []=Qmk p0:=by kernel_rfl
theorem QMt:GOk Tryz.prog IS:=Zz _ (gA (gC QMq QMr gN))
theorem QMu (x3:Int)(x7:List Qm)(x8 x9:Int)(h:(Qz x7 x8 x9&&IQ x7&&decide (0<=x3/\x3<=100))=true):QeJ x3 x7 x8 x9=QeK x3 x7 x8 x9:=by
 simp only [Bc,Ba] at h
 obtain ⟨⟨h0,hc⟩,h1,h2⟩:=h
 obtain ⟨rfl,h3,k,rfl,hk⟩:=Js h0
 clear h0
 obtain ⟨m,rfl⟩:=Bm h1
 clear h1 h2
 simp only [IQ,Bc,Bg,Ba] at hc
 obtain ⟨⟨hc0,hc1⟩,hc2⟩:=hc
 revert m
 refine QW x7 (fun k=> ∀ m:Nat,QeJ (m:Int) x7 (x7.length:Int) (k:Int)=QeK (m:Int) x7 (x7.length:Int) (k:Int)) ?_ ?_ k hk
 ·intro m
  rw [Qwk]
  simp [QaB,QeK,QC,Qi,Qwd]
 ·intro k hk ih m
  rw [Qwk]
  have hx:=hc2 x7[k] (BA hk)
  have hd:Yd Jo x7[k]=true:=by rw [Yd,hx,Bd (by omega)];rfl
  simp only [QaB,QC,QS,hk,Bu,Qe,Bb,QU (show k<4611686018427387904 by omega),QX (y:=Qw) hk,hd,dpV,Qwf,ih]
  simp only [QeK,Bb,Bi hk,Qwe,Nat.max_assoc]
theorem QMv:LO IS Qmj Qwh 0:=QN (s:=QeH) fun x y h _ q=>by simp only [QJ,QK] at q;exact (QMu x.1 x.2.1 x.2.2.1 x.2.2.2.1 h).trans q
theorem QMw:QeI.lok IS:=by
 repeat (first|exact trivial|exact QMv|refine ⟨?_, ?_⟩)
theorem s_f220 (x:Qm)(h:Yd (Jo+1) x=true):Qmk x=some (.t tI (dpV x),[]):=by
 simp only [Yd,Bc,Ba] at h
 obtain ⟨h,hf⟩:=h
 obtain ⟨h1,h2,h3,h4,h5,h6,h7⟩:=U6 h
 have hu:IQ (List.map Val.un x.2.2.2.1)=true:=by
  simp only [IQ,Bc,Ba,BP,Bg,Dc]
  refine ⟨⟨h6,hf⟩, ?_⟩
  rintro y ⟨v,hv,rfl⟩
  rw [QaS]
  exact h7 v hv
 have hd:=QiA (v:=Val.of x) h
 rw [QeG] at hd
 simp only [Qmk,Jy (show (List.map Val.un x.2.2.2.1).length<=100000 by rw [BP];exact h6),hu,BX,show decide ((0:Int)<=0/\(0:Int)<=100)=true from rfl,Qe,Bt,Bx,Uz,Fx,Nat.zero_max]
 rw [JK (by omega)]
 simp only [dpV,QeG]
 congr 2
theorem QMx:QQ Tryz.prog 220 (JR IS QeI Qwi false):=mG Tryz.func220 (by kernel_rfl) Tryz.ntmps220 (by kernel_rfl) QMt QMw
end
theorem Qwl: ∀ N:Nat,QQ Tryz.prog 220 (QP (@IP ⟨N⟩))
 |0=>Fq fun x=>by first|rfl|simp [Yd]
 |N+1=>by
  letI:Fuel:=⟨N⟩
  haveI:Nonempty (PLift (QQ Tryz.prog 220 (QP IP))):=⟨⟨Qwl N⟩⟩
  exact Qu QMx fun x hok=>(e_f220 x.1).trans (s_f220 x.1 hok)
def Qwm:Ent:=Qq (.pr Qw .nil) (fun x=>(Fo x.1)) (fun x=>(.t tI (dpV x.1)))
theorem QMy:QQ Tryz.prog 220 (QP Qwm):=Fs Qwl fun x hok=>QMo x.1 hok
theorem Qwn:JX Tryz.prog 183:= .inr ⟨by decide,_,Tryz.func183,by kernel_rfl,by kernel_rfl⟩
def IT [Fuel]:Ent:=Qq (.pr Qw .nil) (fun x=>(Yd Jo x.1)) (fun x=>(.t tI (dpV x.1)))
theorem QMz:JX Tryz.prog 183:=Qwn
section
variable [Fuel][Nonempty (PLift (QQ Tryz.prog 183 (QP IT)))]
theorem QMA:QQ Tryz.prog 183 (QP IT):=(Classical.choice (inferInstance:Nonempty (PLift (QQ Tryz.prog 183 (QP IT))))).down
def QaC [Fuel](x:Qm):Bool:=Yd (Jo+1) x
abbrev QeL:Sh:=⟨[(1,.ptr 1 0),(3,.ty tI),(4,.ty tI)],[(1,.box Qw)]⟩
def Qml:Fg:=QeL.f
def QeM:TC:=aF Tryz.f183 [(58,pL 0 Qml),(931,.fg Qmi.f)]
def Qwo:TC:=lb 0 QeM
def Qwp:List (RV×Option Ty):=[((.t 2),some tI)]
def Qwq (x3 x4:Int)(y1:Qm):VS:=QeL.st ((),x3,x4,()) (y1,())
def QMB:VS->Option (Bool×List (Bool×Exit×VS)):=mkL QeL (fun x y=>(decide (0<=x.2.2.1/\x.2.2.1<=y.1.2.2.2.1.length/\0<=x.2.1/\x.2.1<=100)&&QaC y.1)) (fun x y=>[(true,.exit 0,IR ((max x.2.1.toNat (Uz ((List.map Val.un y.1.2.2.2.1).drop x.2.2.1.toNat)):Nat):Int))])
def IU:G:=gG 22 [(183,IT)] (Ls [QMB])
def QeN (x3 x4:Int)(y1:Qm):OX:=QB (QD IU Qml Qwo) (Qwq x3 x4 y1)
def QaD (kk:Int->Int->Qm->OX)(x3 x4:Int)(y1:Qm):OX:=
 let a1:=List.map Val.un y1.2.2.2.1
 let a2:=lgt Qw a1 (Int.toNat x4)
 br (ilt x4 (Qc a1)) (br (cIx a1 x4) (br (Yd Jo a2) (kk (imx x3 (dpV a2)) (Qk .i64 x4 1) y1) none) none) (some (.exit 0,IR x3))
def QeO (x3 x4:Int)(y1:Qm):OX:=some (.exit 0,IR ((max x3.toNat (Uz ((List.map Val.un y1.2.2.2.1).drop x4.toNat)):Nat):Int))
theorem Qwr (x3 x4:Int)(y1:Qm):QeN x3 x4 y1=QaD QeN x3 x4 y1:=lnT (x:=QaD (fun x3 x4 y1=>some (.normal,Qwq x3 x4 y1)) x3 x4 y1) (by simp only [QaD,nxA];rfl)
def Qmm (p0:Qm):OV:=br (decide (0<=(0:Int)/\(0:Int)<=p0.2.2.2.1.length/\0<=(0:Int)/\(0:Int)<=100)&&QaC p0) (some (.t tI (Qk .i64 ((max (0:Int).toNat (Uz ((List.map Val.un p0.2.2.2.1).drop (0:Int).toNat)):Nat):Int) 1),[])) none
theorem e_f183 (p0:Qm):JR IU QeM Qwp false [.t Qw p0] []=Qmm p0:=by kernel_rfl
theorem QMC:GOk Tryz.prog IU:=Zz _ (gA (gC QMz QMA gN))
theorem QMD (x3 x4:Int)(y1:Qm)(h:(decide (0<=x4/\x4<=y1.2.2.2.1.length/\0<=x3/\x3<=100)&&QaC y1)=true):QeN x3 x4 y1=QeO x3 x4 y1:=by
 simp only [Bc,Ba] at h
 obtain ⟨⟨h0,h1,h2,h3⟩,hc⟩:=h
 obtain ⟨k,rfl⟩:=Bm h0
 obtain ⟨m,rfl⟩:=Bm h2
 clear h2 h3
 simp only [QaC,Yd,Bc,Ba] at hc
 obtain ⟨hc,hf⟩:=hc
 have hm:=QlZ hc
 have hl:=(U6 hc).2.2.2.2.2.1
 revert m
 refine QW (List.map Val.un y1.2.2.2.1) (fun k=> ∀ m:Nat,QeN (m:Int) (k:Int) y1=QeO (m:Int) (k:Int) y1) ?_ ?_ k (by rw [BP];omega)
 ·intro m
  rw [Qwr]
  simp only [QaD,show ilt ((List.map Val.un y1.2.2.2.1).length:Int) (Qc (List.map Val.un y1.2.2.2.1))=false from Bn (by simp only [Qc];omega),Qi]
  simp only [QeO,Bb,BE,Qwd,Nat.max_zero]
 ·intro k hk ih m
  rw [Qwr]
  have hk2:k<y1.2.2.2.1.length:=by rw [BP] at hk;exact hk
  have hd:Yd Jo (List.map Val.un y1.2.2.2.1)[k]=true:=by rw [Yd,hm k hk,Bd (by omega)];rfl
  simp only [QaD,show ilt (k:Int) (Qc (List.map Val.un y1.2.2.2.1))=true from Bd (by simp only [Qc];omega),QS,hk,Bu,Qe,Bb,QU (show k<4611686018427387904 by omega),QX (y:=Qw) hk,hd,dpV,Qwf,ih]
  simp only [QeO,Bb,Bi hk,Qwe,Nat.max_assoc]
theorem QME:LO IU Qml Qwo 0:=QN (s:=QeL) fun x y h _ q=>by simp only [QJ,QK] at q;exact (QMD x.2.1 x.2.2.1 y.1 h).trans q
theorem QMF:QeM.lok IU:=by
 repeat (first|exact trivial|exact QME|refine ⟨?_, ?_⟩)
theorem s_f183 (x:Qm)(h:Yd (Jo+1) x=true):Qmm x=some (.t tI (dpV x),[]):=by
 have hin:QaC x=true:=h
 simp only [Yd,Bc,Ba] at h
 obtain ⟨h,hf⟩:=h
 have hd:=QiA (v:=Val.of x) h
 rw [QeG] at hd
 have hdd:decide ((0:Int)<=0/\(0:Int)<=x.2.2.2.1.length/\(0:Int)<=0/\(0:Int)<=100)=true:=Bd (by omega)
 simp only [Qmm,hin,hdd,BX,Qe,Bt,Bx,Uz,Fx,Nat.zero_max]
 rw [JK (by omega)]
 simp only [dpV,QeG]
 congr 2
theorem QMG:QQ Tryz.prog 183 (JR IU QeM Qwp false):=mG Tryz.func183 (by kernel_rfl) Tryz.ntmps183 (by kernel_rfl) QMC QMF
end
theorem Qws: ∀ N:Nat,QQ Tryz.prog 183 (QP (@IT ⟨N⟩))
 |0=>Fq fun x=>by first|rfl|simp [Yd]
 |N+1=>by
  letI:Fuel:=⟨N⟩
  haveI:Nonempty (PLift (QQ Tryz.prog 183 (QP IT))):=⟨⟨Qws N⟩⟩
  exact Qu QMG fun x hok=>(e_f183 x.1).trans (s_f183 x.1 hok)
def Qwt:Ent:=Qq (.pr Qw .nil) (fun x=>(Fo x.1)) (fun x=>(.t tI (dpV x.1)))
theorem QMH:QQ Tryz.prog 183 (QP Qwt):=Fs Qws fun x hok=>QMp x.1 hok
end
end Go.Proofs.YtckcgijklnloiaaGreat.K
noncomputable section
set_option linter.unusedSectionVars false
namespace Go.Proofs.YtckcgijklnloiaaGreat.K
open Go.RowKit
noncomputable section
def ZK (x:Qm):List Int:=Qiz (Val.of x)
def J8 (l:List Qm):List Int:=Z8 (l.map Val.of)
theorem Vr:J8 []=[]:=rfl
theorem GZ (x:Qm)(l:List Qm):J8 (x::l)=ZK x++J8 l:=rfl
theorem QcV (x:Qm):ZK x=icv .u8 x.1::(UL (x.2.1.length+(Z8 x.2.2.2.1).length)++(x.2.1++Z8 x.2.2.2.1)):=rfl
theorem QcW (x:Qm):x.2.1.length+(Z8 x.2.2.2.1).length<=(ZK x).length:=QS9 x.1 x.2.1 x.2.2.1 x.2.2.2.1
theorem QrJ: ∀ (l:List Qm) (k:Nat) (hk:k<l.length),(J8 (l.take k)).length+(ZK l[k]).length<=(J8 l).length
 | [],k,hk=>by simp at hk
 |x::l,0,_=>by
  rw [List.take_zero,Vr,GZ,Bj]
  simp
 |x::l,k+1,hk=>by
  simp only [Bp] at hk
  have:=QrJ l k (by omega)
  simp only [List.take_succ_cons,GZ,Bj,List.getElem_cons_succ]
  omega
theorem Vs (n:Nat):(UL n).length<=9:=by
 unfold UL
 split
 ·simp
 ·rw [Bp,QqM]
  have:=Qix 8 n
  omega
def Yv (n:Nat)(x:Qm):Bool:=okT n x&&decide ((ZK x).length<=100000000)
def Yh (x:Qm):Bool:=okT 12 x&&decide ((ZK x).length<=100000000)
theorem QUe (x:Qm)(h:Yh x=true): ∃ N,Yv N x=true:=⟨12,h⟩
theorem QF2:JX Tryz.prog 184:= .inr ⟨by decide,_,Tryz.func184,by kernel_rfl,by kernel_rfl⟩
def Vt [Fuel]:Ent:=Qq (.pr Qw .nil) (fun x=>(Yv Jo x.1)) (fun x=>(.t (.sl (.int .u8)) (ZK x.1)))
theorem QUf:JX Tryz.prog 184:=QF2
section
variable [Fuel][Nonempty (PLift (QQ Tryz.prog 184 (QP Vt)))]
theorem QUg:QQ Tryz.prog 184 (QP Vt):=(Classical.choice (inferInstance:Nonempty (PLift (QQ Tryz.prog 184 (QP Vt))))).down
def QcX [Fuel](x:Qm):Bool:=Yv (Jo+1) x
abbrev Qjd:Sh:=⟨[(1,.ptr 1 0),(3,.ms 5),(4,.ty tI)],[(1,.box Qw),(3,.no),(5,.arr 5 (.int .u8)),(8,.no),(23,.no)]⟩
abbrev QF3:Sh:=⟨[(1,.ptr 1 0),(3,.ms 5)],[(1,.box Qw),(3,.no),(5,.arr 5 (.int .u8)),(8,.no),(23,.no)]⟩
def QrK:Fg:=Qjd.f
def Qje:TC:=aF Tryz.f184 [(58,.nw 3 5),(58,pL 0 QrK),(931,.fg QF3.f),(30,pD [(0,[1]),(1,[1]),(2,[]),(3,[27,5027,10027,15027]),(4,[3,5,8,23]),(5,[3,5,8,23]),(6,[]),(7,[27,31,5031,10031,15031]),(8,[3,5,8,23]),(9,[3,5,8,23,27,31,33,5033,10033,15033]),(10,[27,31,33])] (.of [0,1,2,4,5,6,8,3,7,9,10]))]
def QF4:TC:=lb 0 Qje
def QF5:List (RV×Option Ty):=[((.t 2),some (.sl (.int .u8)))]
def QF6 (x4:Int)(y1:Qm)(y5:List Int):VS:=Qjd.st ((),(),x4,()) (y1,(),y5,(),(),())
def QrL (y1:Qm)(y5:List Int):VS:=QF3.st ((),(),()) (y1,(),y5,(),(),())
def QUh:VS->Option (Bool×List (Bool×Exit×VS)):=mkL Qjd (fun x y=>(decide (0<=x.2.2.1/\x.2.2.1<=y.1.2.2.2.1.length/\y.2.2.1.length+(J8 ((List.map Val.un y.1.2.2.2.1).drop x.2.2.1.toNat)).length<=1000000000)&&QcX y.1)) (fun x y=>[(true,.exit 0,QrL (y.1) (y.2.2.1++J8 ((List.map Val.un y.1.2.2.2.1).drop x.2.2.1.toNat)))])
def Vu:G:=⟨TYs,[5,27],34,EL [(184,Vt),(211,QvP)],YD,(Ls [QUh]),IL [],RL []⟩
def Qjf (x4:Int)(y1:Qm)(y5:List Int):OX:=QB (QD Vu QrK QF4) (QF6 x4 y1 y5)
def QcY (kk:Int->Qm->List Int->OX)(x4:Int)(y1:Qm)(y5:List Int):OX:=
 let a2:=List.map Val.un y1.2.2.2.1
 let a1:=lgt Qw a2 (Int.toNat x4)
 br (ilt x4 (Qc a2)) (br (cIx a2 x4) (br (Yv Jo a1) (br (Qr y5 (ZK a1) 1) (kk (Qk .i64 x4 1) y1 (y5++(ZK a1))) none) none) none) (some (.exit 0,QrL y1 y5))
def Qjg (x4:Int)(y1:Qm)(y5:List Int):OX:=some (.exit 0,QrL (y1) (y5++J8 ((List.map Val.un y1.2.2.2.1).drop x4.toNat)))
theorem QF7 (x4:Int)(y1:Qm)(y5:List Int):Qjf x4 y1 y5=QcY Qjf x4 y1 y5:=lnT (x:=QcY (fun x4 y1 y5=>some (.normal,QF6 x4 y1 y5)) x4 y1 y5) (by simp only [QcY,nxA];rfl)
def QrM (p0:Qm):OV:=
 let a2:=List.map Val.un p0.2.2.2.1
 let a3:=(a2.drop (0:Int).toNat)
 let a1:=(Qc ((([]:List Int)++p0.2.1)++J8 a3))
 let a4:=icv .u8 ((p0).1)
 br (Qr ([]:List Int) p0.2.1 1) (br (decide (0<=(0:Int)/\(0:Int)<=p0.2.2.2.1.length/\(([]:List Int)++p0.2.1).length+(J8 a3).length<=1000000000)&&QcX p0) (br (Qax a1) (br (Qr ([a4]) (GC a1) 1) (br (Qr (([a4])++(GC a1)) ((([]:List Int)++p0.2.1)++J8 a3) 1) (some (.t (.sl (.int .u8)) ((([a4])++(GC a1))++((([]:List Int)++p0.2.1)++J8 a3)),[])) none) none) none) none) none
theorem e_f184 (p0:Qm):JR Vu Qje QF5 false [.t Qw p0] []=QrM p0:=by kernel_rfl
theorem QUi:GOk Tryz.prog Vu:=Zz _ (gA (gC QUf QUg (gD QLV gN)))
theorem QUj (x4:Int)(y1:Qm)(y5:List Int)(h:(decide (0<=x4/\x4<=y1.2.2.2.1.length/\y5.length+(J8 ((List.map Val.un y1.2.2.2.1).drop x4.toNat)).length<=1000000000)&&QcX y1)=true):Qjf x4 y1 y5=Qjg x4 y1 y5:=by
 simp only [Bc,Ba] at h
 obtain ⟨⟨h0,h1,h2⟩,hc⟩:=h
 obtain ⟨k,rfl⟩:=Bm h0
 simp only [QcX,Yv,Bc,Ba] at hc
 obtain ⟨hc,hf⟩:=hc
 have hm:=QlZ hc
 have hl:=(U6 hc).2.2.2.2.2.1
 rw [Bb] at h2
 have hel:=QcW y1
 have hE:J8 (List.map Val.un y1.2.2.2.1)=Z8 y1.2.2.2.1:=by rw [J8,Fx]
 revert y5
 refine QW (List.map Val.un y1.2.2.2.1) (fun k=> ∀ y5:List Int,y5.length+(J8 ((List.map Val.un y1.2.2.2.1).drop k)).length<=1000000000->Qjf (k:Int) y1 y5=Qjg (k:Int) y1 y5) ?_ ?_ k (by rw [BP];omega)
 ·intro y5 _
  rw [QF7]
  simp only [QcY,show ilt ((List.map Val.un y1.2.2.2.1).length:Int) (Qc (List.map Val.un y1.2.2.2.1))=false from Bn (by simp only [Qc];omega),Qi]
  simp only [Qjg,Bb,BE,Vr,BG]
 ·intro k hk ih y5 hy
  rw [QF7]
  have hk2:k<y1.2.2.2.1.length:=by rw [BP] at hk;exact hk
  have hs:=QrJ (List.map Val.un y1.2.2.2.1) k hk
  rw [hE] at hs
  rw [Bi hk,GZ,Bj] at hy
  have hd:Yv Jo (List.map Val.un y1.2.2.2.1)[k]=true:=by rw [Yv,hm k hk,Bd (by omega)];rfl
  simp only [QcY,show ilt (k:Int) (Qc (List.map Val.un y1.2.2.2.1))=true from Bd (by simp only [Qc];omega),QS,hk,Bu,Qe,Bb,QU (show k<4611686018427387904 by omega),QX (y:=Qw) hk,hd]
  rw [Q7 (by omega) (by omega),Qe,ih _ (by rw [Bj];omega)]
  simp only [Qjg,Bb,Bi hk,GZ,BF]
theorem QUk:LO Vu QrK QF4 0:=QN (s:=Qjd) fun x y h _ q=>by simp only [QJ,QK] at q;exact (QUj x.2.2.1 y.1 y.2.2.1 h).trans q
theorem QUl:Qje.lok Vu:=by
 repeat (first|exact trivial|exact QUk|refine ⟨?_, ?_⟩)
theorem s_f184 (x:Qm)(h:Yv (Jo+1) x=true):QrM x=some (.t (.sl (.int .u8)) (ZK x),[]):=by
 have hin:QcX x=true:=h
 simp only [Yv,Bc,Ba] at h
 obtain ⟨h,hf⟩:=h
 have hel:=QcW x
 have hE:J8 (List.map Val.un x.2.2.2.1)=Z8 x.2.2.2.1:=by rw [J8,Fx]
 have hll:=Vs (x.2.1.length+(Z8 x.2.2.2.1).length)
 simp only [QrM,hin,B8,BO,Bt,Bx,hE]
 rw [Q7 (by omega) (by simp only [Bw];omega),Qe,Bd ⟨by omega,by omega,by omega⟩,Qe]
 have e1:Qax (Qc (x.2.1++Z8 x.2.2.2.1))=true:=Bd (by simp only [Qc,Bj];omega)
 have e2:GC (Qc (x.2.1++Z8 x.2.2.2.1))=UL (x.2.1.length+(Z8 x.2.2.2.1).length):=by simp only [GC,Qc,Bj,Bb]
 rw [e1,Qe,e2,Q7 (by omega) (by simp only [Bh];omega),Qe,Q7 (by omega) (by simp only [Bj,Bh];omega),Qe,QcV]
 simp only [BD,Dq,BO]
theorem QUm:QQ Tryz.prog 184 (JR Vu Qje QF5 false):=mG Tryz.func184 (by kernel_rfl) Tryz.ntmps184 (by kernel_rfl) QUi QUl
end
theorem QF8: ∀ N:Nat,QQ Tryz.prog 184 (QP (@Vt ⟨N⟩))
 |0=>Fq fun x=>by first|rfl|simp [Yv]
 |N+1=>by
  letI:Fuel:=⟨N⟩
  haveI:Nonempty (PLift (QQ Tryz.prog 184 (QP Vt))):=⟨⟨QF8 N⟩⟩
  exact Qu QUm fun x hok=>(e_f184 x.1).trans (s_f184 x.1 hok)
def QF9:Ent:=Qq (.pr Qw .nil) (fun x=>(Yh x.1)) (fun x=>(.t (.sl (.int .u8)) (ZK x.1)))
theorem QUn:QQ Tryz.prog 184 (QP QF9):=Fs QF8 fun x hok=>QUe x.1 hok
def Xn (x:Qm):List Int×Int:=if 4096<(ZK x).length then ([],3) else (ZK x,0)
theorem QGa {x:Qm}(h:okT 12 x=true):igt (dpV x) 16=false:=by
 have:=QiA (v:=Val.of x) h
 exact Bn (by show ¬ ((FW (Val.of x):Int) > 16);omega)
def QUo:TC:=aF Tryz.f157 []
def g_f157:G:=gG 17 [(182,Qwc),(183,Qwt),(184,QF9)] (fun _ _=>none)
def QGb (p0:Qm):OV:=br (Fn p0) (br (!(Wz p0)) (some (.tu [(.t (.sl (.int .u8)) ([]:List Int)),(.t tI 1)],[])) (br (Fo p0) (br (igt (dpV p0) 16) (some (.tu [(.t (.sl (.int .u8)) ([]:List Int)),(.t tI 3)],[])) (br (Yh p0) (br (igt (Qc (ZK p0)) 4096) (some (.tu [(.t (.sl (.int .u8)) ([]:List Int)),(.t tI 3)],[])) (some (.tu [(.t (.sl (.int .u8)) (ZK p0)),(.t tI 0)],[]))) none)) none)) none
theorem s_f157 (x:Qm)(h:Yh x=true):QGb x=some (.tu [.t (.sl (.int .u8)) (Xn x).1,.t tI (Xn x).2],[]):=by
 have h':=h
 simp only [Yh,Bc,Ba] at h'
 obtain ⟨h1,h2⟩:=h'
 simp only [QGb,show Fn x=true from h1,show Fo x=true from h1,h,QGa h1,Wz,BC,Qe,Qi]
 unfold Xn
 refine Jp (fun g=> ?_) (fun g=> ?_)
 ·simp only [igt,Qc,Ba] at g
  rw [if_pos (by omega)]
 ·simp only [igt,Qc,Bq] at g
  rw [if_neg (by omega)]
def QGc:Ent:=Qq (.pr Qw .nil) (fun x=>(Yh x.1)) (fun x=>(.tu [(.t (.sl (.int .u8)) ((Xn x.1).1)),(.t tI ((Xn x.1).2))]))
theorem QUp:EM 157 QGc:=mS g_f157 QUo [((.t 2),some (.sl (.int .u8))),((.t 3),some tI)] false (gB (gC Qv5 QMn (gC Qwn QMH (gC QF2 QUn gN)))) fun m=>Qu m fun x hok=>kT (s_f157 x.1 hok)
def Z9 (x:Qm):List Int:=x.2.1++Z8 x.2.2.2.1
theorem QGd (x:Qm):(Z9 x).length=x.2.1.length+(Z8 x.2.2.2.1).length:=Bj
theorem QUq (x:Qm)(h:Yh x=true): ∃ N,Yv N x=true:=⟨12,h⟩
def Vv (b:List Int)(x:Qm):List Int:=b++ZK x
theorem QGe (b:List Int)(x:Qm):U0 (b++[icv .u8 x.1]) (Qc (Z9 x))++Z9 x=Vv b x:=by
 simp only [U0,Vv,QcV,Qc,Bb,Z9,Bj,BF,BD,Dq,BO]
theorem QGf:JX Tryz.prog 234:= .inr ⟨by decide,_,Tryz.func234,by kernel_rfl,by kernel_rfl⟩
def Vw [Fuel]:Ent:=Qq (.pr Qw .nil) (fun x=>(Yv Jo x.1)) (fun x=>(.t (.sl (.int .u8)) (Z9 x.1)))
theorem QUr:JX Tryz.prog 234:=QGf
section
variable [Fuel][Nonempty (PLift (QQ Tryz.prog 234 (QP Vw)))]
theorem QUs:QQ Tryz.prog 234 (QP Vw):=(Classical.choice (inferInstance:Nonempty (PLift (QQ Tryz.prog 234 (QP Vw))))).down
def Vx [Fuel](b:List Int)(x:Qm):Bool:=decide (b.length<=500000000)&&Yv Jo x
def QUt:TC:=(.ad [(50000,49000)] (.sq (.reg (rT Tryz.f221 0)) (.sq (.reg (rT Tryz.f221 1)) (.sq (.reg (rT Tryz.f221 2)) .rt))))
def QUu:G:=⟨TYs,[],19,EL [(234,Vw),(235,QlV)],(235::YD),(fun _ _=>none),IL [],RL []⟩
def QGg (p0:List Int)(p1:Qm):OV:=
 let a1:=U0 (p0++([(icv .u8 p1.1)])) (Qc (Z9 p1))
 br (Yv Jo p1) (br (Qr p0 ([(icv .u8 p1.1)]) 1) (br (Er (p0++([(icv .u8 p1.1)])) (Qc (Z9 p1))) (br (Qr a1 (Z9 p1) 1) (some (.ms 50001,[.no,.arr 5 (.int .u8) (a1++(Z9 p1))])) none) none) none) none
theorem QUv (b:List Int)(x:Qm)(h:Vx b x=true):QGg b x=some (.ms 50001,[.no,.arr 5 (.int .u8) (Vv b x)]):=by
 simp only [Vx,Bc,Ba] at h
 obtain ⟨h1,h2⟩:=h
 have h3:=h2
 simp only [Yv,Bc,Ba] at h3
 have hel:=QcW x
 have hcl:=QGd x
 have hll:=Vs (Z9 x).length
 simp only [QGg,h2,Qe]
 rw [Q7 (by omega) (by simp only [Bh];omega),Qe,show Er (b++[icv .u8 x.1]) (Qc (Z9 x))=true from Bd (by simp only [Qc,Bj,Bh];omega),Qe,Q7 (by omega) (by simp only [U0,Qc,Bb,Bj,Bh];omega),Qe,QGe]
def QGh:Ent:=UB [.ms 50000,.ty Qw] [.arr 5 (.int .u8)] (fun x y=>(Vx y.1 x.2.1)) (fun x y=>(.ms 50001)) (fun x y=>[.no,.arr 5 (.int .u8) (Vv y.1 x.2.1)])
theorem QUw:EM 221 QGh:=mS (lk:=(by repeat first|exact trivial|constructor)) QUu QUt [((.t 4),none)] true (Zz _ (gA (gC QUr QUs (gD QvH gN)))) fun m=>YR m fun x y hok=>kT (QUv y.1 x.2.1 hok)
def Vy [Fuel](l:List Qm):Bool:=decide (l.length<=100000/\(J8 l).length<=100000000)&&l.all (okT Jo)
abbrev Qjh:Sh:=⟨[(3,.ms 3),(12,.ty (.sl Qw)),(13,.ty tI),(14,.ty tI)],[(3,.arr 5 (.int .u8)),(20,.no),(5020,.no),(10020,.no),(15020,.no)]⟩
abbrev QGi:Sh:=⟨[(3,.ms 3)],[(3,.arr 5 (.int .u8)),(20,.no),(5020,.no),(10020,.no),(15020,.no)]⟩
def QrN:Fg:=Qjh.f
def Qji:TC:=aF Tryz.f234 [(122,.nw 3 5),(122,pL 0 QrN),(244,.mv [(20,3)]),(1957,.fg QGi.f)]
def QGj:TC:=lb 0 Qji
def QGk:List (RV×Option Ty):=[((.t 2),some (.sl (.int .u8)))]
def QGl (x12:List Qm)(x13 x14:Int)(y3:List Int):VS:=Qjh.st ((),x12,x13,x14,()) (y3,(),(),(),(),())
def QrO (y3:List Int):VS:=QGi.st ((),()) (y3,(),(),(),(),())
def QUx:VS->Option (Bool×List (Bool×Exit×VS)):=mkL Qjh (fun x y=>(Qz x.2.1 x.2.2.1 x.2.2.2.1&&Vy x.2.1&&decide (y.1.length+(J8 (x.2.1.drop x.2.2.2.1.toNat)).length<=200000000))) (fun x y=>[(true,.exit 0,QrO (y.1++J8 (x.2.1.drop x.2.2.2.1.toNat)))])
def Vz:G:=⟨TYs,[],23,EL [(221,QGh)],(221::YD),(Ls [QUx]),IL [],RL []⟩
def Qjj (x12:List Qm)(x13 x14:Int)(y3:List Int):OX:=QB (QD Vz QrN QGj) (QGl x12 x13 x14 y3)
def QcZ (kk:List Qm->Int->Int->List Int->OX)(x12:List Qm)(x13 x14:Int)(y3:List Int):OX:=
 let a1:=lgt Qw x12 (Int.toNat x14)
 br (ilt x14 x13) (br (cIx x12 x14) (br (Vx y3 a1) (kk x12 x13 (Qk .i64 x14 1) (Vv y3 a1)) none) none) (some (.exit 0,QrO y3))
def Qjk (x12:List Qm)(x13 x14:Int)(y3:List Int):OX:=some (.exit 0,QrO (y3++J8 (x12.drop x14.toNat)))
theorem QGm (x12:List Qm)(x13 x14:Int)(y3:List Int):Qjj x12 x13 x14 y3=QcZ Qjj x12 x13 x14 y3:=lnT (x:=QcZ (fun x12 x13 x14 y3=>some (.normal,QGl x12 x13 x14 y3)) x12 x13 x14 y3) (by simp only [QcZ,nxA];rfl)
def QrP (p0:Qm):OV:=
 let a1:=List.map Val.un p0.2.2.2.1
 let a2:=(a1.drop (0:Int).toNat)
 br (!p0.2.2.1) (some (.t (.sl (.int .u8)) p0.2.1,[])) (br (Qz a1 (Qc a1) (0:Int)&&Vy a1&&decide (([]:List Int).length+(J8 a2).length<=200000000)) (some (.t (.sl (.int .u8)) (([]:List Int)++J8 a2),[])) none)
theorem e_f234 (p0:Qm):JR Vz Qji QGk false [.t Qw p0] []=QrP p0:=by kernel_rfl
theorem QUy:GOk Tryz.prog Vz:=Zz _ (gA (gD QUw gN))
theorem QUz (x12:List Qm)(x13 x14:Int)(y3:List Int)(h:(Qz x12 x13 x14&&Vy x12&&decide (y3.length+(J8 (x12.drop x14.toNat)).length<=200000000))=true):Qjj x12 x13 x14 y3=Qjk x12 x13 x14 y3:=by
 simp only [Bc,Ba] at h
 obtain ⟨⟨h0,hc⟩,h2⟩:=h
 obtain ⟨rfl,h3,k,rfl,hk⟩:=Js h0
 clear h0
 rw [Bb] at h2
 simp only [Vy,Bc,Bg,Ba] at hc
 obtain ⟨⟨hc0,hc1⟩,hc2⟩:=hc
 revert y3
 refine QW x12 (fun k=> ∀ y3:List Int,y3.length+(J8 (x12.drop k)).length<=200000000->Qjj x12 (x12.length:Int) (k:Int) y3=Qjk x12 (x12.length:Int) (k:Int) y3) ?_ ?_ k hk
 ·intro y3 _
  rw [QGm]
  simp only [QcZ,QC,BI,BQ,Qi]
  simp only [Qjk,Bb,BE,Vr,BG]
 ·intro k hk ih y3 hy
  rw [QGm]
  have hx:=hc2 x12[k] (BA hk)
  have hs:=QrJ x12 k hk
  rw [Bi hk,GZ,Bj] at hy
  have hd:Vx y3 x12[k]=true:=by rw [Vx,Yv,hx,Bd (show y3.length<=500000000 by omega),Bd (show (ZK x12[k]).length<=100000000 by omega)];rfl
  simp only [QcZ,QC,QS,hk,Bu,Qe,Bb,QU (show k<4611686018427387904 by omega),QX (y:=Qw) hk,hd,Vv]
  rw [ih _ (by rw [Bj];omega)]
  simp only [Qjk,Bb,Bi hk,GZ,BF]
theorem QUA:LO Vz QrN QGj 0:=QN (s:=Qjh) fun x y h _ q=>by simp only [QJ,QK] at q;exact (QUz x.2.1 x.2.2.1 x.2.2.2.1 y.1 h).trans q
theorem QUB:Qji.lok Vz:=by
 repeat (first|exact trivial|exact QUA|refine ⟨?_, ?_⟩)
theorem s_f234 (x:Qm)(h:Yv (Jo+1) x=true):QrP x=some (.t (.sl (.int .u8)) (Z9 x),[]):=by
 simp only [Yv,Bc,Ba] at h
 obtain ⟨h,hf⟩:=h
 obtain ⟨h1,h2,h3,h4,h5,h6,h7⟩:=U6 h
 have hel:=QcW x
 have hE:J8 (List.map Val.un x.2.2.2.1)=Z8 x.2.2.2.1:=by rw [J8,Fx]
 have hu:Vy (List.map Val.un x.2.2.2.1)=true:=by
  simp only [Vy,Bc,Ba,BP,Bg,Dc,hE]
  refine ⟨⟨h6,by omega⟩, ?_⟩
  rintro y ⟨v,hv,rfl⟩
  rw [QaS]
  exact h7 v hv
 simp only [QrP,Jy (show (List.map Val.un x.2.2.2.1).length<=100000 by rw [BP];exact h6),hu,BX,BB,Bt,Bx,hE,BO,Bw]
 cases hq:x.2.2.1 with
 |true=>
  rw [BC,Qi,Bd (by omega),Qe]
  simp only [Z9,h3 hq,BO]
 |false=>
  rw [Dy,Qe]
  simp only [Z9,h4 hq,Z8,BG]
theorem QUC:QQ Tryz.prog 234 (JR Vz Qji QGk false):=mG Tryz.func234 (by kernel_rfl) Tryz.ntmps234 (by kernel_rfl) QUy QUB
end
theorem QGn: ∀ N:Nat,QQ Tryz.prog 234 (QP (@Vw ⟨N⟩))
 |0=>Fq fun x=>by first|rfl|simp [Yv]
 |N+1=>by
  letI:Fuel:=⟨N⟩
  haveI:Nonempty (PLift (QQ Tryz.prog 234 (QP Vw))):=⟨⟨QGn N⟩⟩
  exact Qu QUC fun x hok=>(e_f234 x.1).trans (s_f234 x.1 hok)
def QGo:Ent:=Qq (.pr Qw .nil) (fun x=>(Yh x.1)) (fun x=>(.t (.sl (.int .u8)) (Z9 x.1)))
theorem QUD:QQ Tryz.prog 234 (QP QGo):=Fs QGn fun x hok=>QUq x.1 hok
def Qc0 (x:Qm):List Int:=ZK x
def QUE:TC:=(.sq (.reg (rT Tryz.f221 0)) (.sq (.reg (rT Tryz.f221 1)) (.sq (.reg (rT Tryz.f221 2)) .rt)))
def QUF:G:=⟨TYs,[],19,EL [(234,QGo),(235,QlV)],(235::YD),(fun _ _=>none),IL [],RL []⟩
def QGp (p1:Qm):OV:=
 let a1:=(U0 (([]:List Int)++([(icv .u8 p1.1)])) (Qc (Z9 p1)))
 br (Yh p1) (br (Qr ([]:List Int) ([(icv .u8 p1.1)]) 1) (br (Er (([]:List Int)++([(icv .u8 p1.1)])) (Qc (Z9 p1))) (br (Qr a1 (Z9 p1) 1) (some (.ms 50000,[.arr 5 (.int .u8) (a1++(Z9 p1))])) none) none) none) none
theorem QUG (x:Qm)(h:Yh x=true):QGp x=some (.ms 50000,[.arr 5 (.int .u8) (Qc0 x)]):=by
 have h3:=h
 simp only [Yh,Bc,Ba] at h3
 have hel:=QcW x
 have hcl:=QGd x
 have hll:=Vs (Z9 x).length
 simp only [QGp,h,Qe]
 rw [Q7 (by omega) (by simp),Qe,show Er ([]++[icv .u8 x.1]) (Qc (Z9 x))=true from Bd (by simp only [Qc,Bj,Bh,Bw];omega),Qe,Q7 (by omega) (by simp only [U0,Qc,Bb,Bj,Bh,Bw];omega),Qe,QGe]
 rfl
def QGq:Ent:=Wb [.nl,.ty Qw] [] (fun x y=>(Yh x.2.1)) (fun x y=>(.ms 50000)) (fun x y=>[.arr 5 (.int .u8) (Qc0 x.2.1)])
theorem QUH:EM 221 QGq:=mS (lk:=(by repeat first|exact trivial|constructor)) QUF QUE [((.t 4),none)] true (Zz _ (gA (gC QGf QUD (gD QvH gN)))) fun m=>WD (YR m fun x y hok=>kT (QUG x.2.1 hok))
def QUI:TC:=aF Tryz.f201 []
def g_f201:G:=gG 17 [(219,Qv4),(220,Qwm),(221,QGq)] (fun _ _=>none)
def QGr (p0:Qm):OV:=br (Fn p0) (br (!(Wz p0)) (some (.tu [(.t (.sl (.int .u8)) ([]:List Int)),(.t tI 1)],[])) (br (Fo p0) (br (igt (dpV p0) 16) (some (.tu [(.t (.sl (.int .u8)) ([]:List Int)),(.t tI 3)],[])) (br (Yh p0) (br (igt (Qc (Qc0 p0)) 4096) (some (.tu [(.t (.sl (.int .u8)) ([]:List Int)),(.t tI 3)],[])) (some (.tu [(.t (.sl (.int .u8)) (Qc0 p0)),(.t tI 0)],[]))) none)) none)) none
theorem s_f201 (x:Qm)(h:Yh x=true):QGr x=some (.tu [.t (.sl (.int .u8)) (Xn x).1,.t tI (Xn x).2],[]):=by
 have h':=h
 simp only [Yh,Bc,Ba] at h'
 obtain ⟨h1,h2⟩:=h'
 simp only [QGr,show Fn x=true from h1,show Fo x=true from h1,h,QGa h1,Wz,Qc0,BC,Qe,Qi]
 unfold Xn
 refine Jp (fun g=> ?_) (fun g=> ?_)
 ·simp only [igt,Qc,Ba] at g
  rw [if_pos (by omega)]
 ·simp only [igt,Qc,Bq] at g
  rw [if_neg (by omega)]
def QGs:Ent:=Qq (.pr Qw .nil) (fun x=>(Yh x.1)) (fun x=>(.tu [(.t (.sl (.int .u8)) ((Xn x.1).1)),(.t tI ((Xn x.1).2))]))
theorem QUJ:EM 201 QGs:=mS g_f201 QUI [((.t 2),some (.sl (.int .u8))),((.t 3),some tI)] false (gB (gC QvQ QMe (gC Qwg QMy (gD QUH gN)))) fun m=>Qu m fun x hok=>kT (s_f201 x.1 hok)
def Yi (l:List Qm):Qm:=(48,(([]:List Int),(true,(List.map Val.of l,()))))
def QUK:TC:=aF Tryz.f223 []
def g_f223:G:=gG 6 [(236,Qxj)] (fun _ _=>none)
def QGt (p0:List Qm):OV:=br (ZZ p0) (some (.t Qw (48,(([]:List Int),(true,((List.map Val.of (Ud p0)),())))),[])) none
theorem s_f223 (l:List Qm)(h:ZZ l=true):QGt l=some (.t Qw (Yi l),[]):=by
 simp only [QGt,h,Qe]
 rfl
def Qjl:Ent:=Qq (.pr (.sl Qw) .nil) (fun x=>(ZZ x.1)) (fun x=>(.t Qw (Yi x.1)))
theorem QrQ:EM 223 Qjl:=mS g_f223 QUK [((.c 2 true 4),some Qw)] false (gB (gC Qxc QNt gN)) fun m=>Qu m fun x hok=>kT (s_f223 x.1 hok)
def QUL:TC:=aF Tryz.f227 []
def g_f227:G:=gG 5 [(223,Qjl)] (fun _ _=>none)
def QGu (p0:List Qm):OV:=br (ZZ p0) (some (.t Qw (Yi p0),[])) none
theorem s_f227 (l:List Qm)(h:ZZ l=true):QGu l=some (.t Qw (Yi l),[]):=by
 simp only [QGu,h,Qe]
def QGv:Ent:=Qq (.pr (.sl Qw) .nil) (fun x=>(ZZ x.1)) (fun x=>(.t Qw (Yi x.1)))
theorem QUM:EM 227 QGv:=mS g_f227 QUL [((.c 2 true 4),some Qw)] false (gB (gD QrQ gN)) fun m=>Qu m fun x hok=>kT (s_f227 x.1 hok)
def QUN:TC:=aF Tryz.f186 []
def g_f186:G:=gG 6 [(212,Qxr)] (fun _ _=>none)
def QGw (p0:List Qm):OV:=br (ZZ p0) (some (.t Qw (48,(([]:List Int),(true,((List.map Val.of (Ud p0)),())))),[])) none
theorem s_f186 (l:List Qm)(h:ZZ l=true):QGw l=some (.t Qw (Yi l),[]):=by
 simp only [QGw,h,Qe]
 rfl
def QrR:Ent:=Qq (.pr (.sl Qw) .nil) (fun x=>(ZZ x.1)) (fun x=>(.t Qw (Yi x.1)))
theorem QGx:EM 186 QrR:=mS g_f186 QUN [((.c 2 true 4),some Qw)] false (gB (gC Qxk QND gN)) fun m=>Qu m fun x hok=>kT (s_f186 x.1 hok)
end
end Go.Proofs.YtckcgijklnloiaaGreat.K
noncomputable section
namespace Go.Proofs.YtckcgijklnloiaaGreat.K
open Go.RowKit
noncomputable section
def ZM (a:Int):Int:=(ofF a).1.2.1
def QRv:TC:=aF Tryz.f155 []
def g_f155:G:=gG 12 [(180,QpO)] (fun _ _=>none)
def r_f155 (p0:Int):OV:=some (.t tI ((((ofF p0).1).2).1),[])
theorem s_f155 (a:Int):r_f155 a=some (.t tI (ZM a),[]):=rfl
def QhB:Ent:=Qq (.pr tI .nil) (fun x=>true) (fun x=>(.t tI (ZM x.1)))
theorem QpE:EM 155 QhB:=mS g_f155 QRv [((.t 2),some tI)] false (gB (gD QCR gN)) fun m=>Qu m fun x _=>kT (s_f155 x.1)
def QCg:TC:=aF Tryz.f110 []
def QCh:List (RV×Option Ty):=[((.t 0),some (.sl Gy))]
def QCi:G:=gG 25 [] (fun _ _=>none)
def QCj  : OV:=some (.t (.sl Gy) ([((ByteArray.mk #[]),(0,())),((ByteArray.mk #[109,100,53]),(1,())),((ByteArray.mk #[115,104,97,49]),(1,())),((ByteArray.mk #[115,104,97,50,53,54]),(1,())),((ByteArray.mk #[115,104,97,51,56,52]),(1,())),((ByteArray.mk #[114,115,97]),(2,())),((ByteArray.mk #[100,115,97]),(2,())),((ByteArray.mk #[101,99,100,115,97]),(2,())),((ByteArray.mk #[101,100,50,53,53,49,57]),(2,())),((ByteArray.mk #[109,108,100,115,97]),(2,())),((ByteArray.mk #[114,115,97,107,120]),(3,())),((ByteArray.mk #[100,104,101]),(3,())),((ByteArray.mk #[101,99,100,104,101]),(3,())),((ByteArray.mk #[109,108,107,101,109]),(3,())),((ByteArray.mk #[114,99,52]),(4,())),((ByteArray.mk #[100,101,115,51]),(4,())),((ByteArray.mk #[97,101,115,99,98,99]),(4,())),((ByteArray.mk #[97,101,115,103,99,109]),(4,())),((ByteArray.mk #[99,104,97,99,104,97]),(4,())),((ByteArray.mk #[104,109,97,99,109,100,53]),(5,())),((ByteArray.mk #[104,109,97,99,115,104,97,49]),(5,())),((ByteArray.mk #[104,109,97,99,115,104,97,50,53,54]),(5,())),((ByteArray.mk #[97,101,97,100]),(5,()))]),[])
theorem e_f110  : JR QCi QCg QCh false [] []=QCj  :=by kernel_rfl
def QhC:Ty.T (.sl Gy):=([((ByteArray.mk #[]),(0,())),((ByteArray.mk #[109,100,53]),(1,())),((ByteArray.mk #[115,104,97,49]),(1,())),((ByteArray.mk #[115,104,97,50,53,54]),(1,())),((ByteArray.mk #[115,104,97,51,56,52]),(1,())),((ByteArray.mk #[114,115,97]),(2,())),((ByteArray.mk #[100,115,97]),(2,())),((ByteArray.mk #[101,99,100,115,97]),(2,())),((ByteArray.mk #[101,100,50,53,53,49,57]),(2,())),((ByteArray.mk #[109,108,100,115,97]),(2,())),((ByteArray.mk #[114,115,97,107,120]),(3,())),((ByteArray.mk #[100,104,101]),(3,())),((ByteArray.mk #[101,99,100,104,101]),(3,())),((ByteArray.mk #[109,108,107,101,109]),(3,())),((ByteArray.mk #[114,99,52]),(4,())),((ByteArray.mk #[100,101,115,51]),(4,())),((ByteArray.mk #[97,101,115,99,98,99]),(4,())),((ByteArray.mk #[97,101,115,103,99,109]),(4,())),((ByteArray.mk #[99,104,97,99,104,97]),(4,())),((ByteArray.mk #[104,109,97,99,109,100,53]),(5,())),((ByteArray.mk #[104,109,97,99,115,104,97,49]),(5,())),((ByteArray.mk #[104,109,97,99,115,104,97,50,53,54]),(5,())),((ByteArray.mk #[97,101,97,100]),(5,()))])
theorem s_f110:QCj=some (.t (.sl Gy) QhC,[]):=rfl
def QCk:Ent:=Qq .nil (fun x=>true) (fun x=>(.t (.sl Gy) QhC))
theorem QRw:EM 110 QCk:=mS QCi QCg QCh false (gB gN) fun m=>Qu m fun x _=>(e_f110 ).trans (s_f110)
def tc_f70:TC:=aF Tryz.f70 []
def g_f70:G:=gG 14 [(110,QCk)] (fun _ _=>none)
def r_f70 (p0:Int):OV:=br (ilt p0 1) (some (.t tI 0,[])) (br (igt p0 22) (some (.t tI 0,[])) (br (cIx QhC p0) (some (.t tI (((lgt Gy QhC (Int.toNat p0)).2).1),[])) none))
theorem QRx {a:Int}(h1:1<=a)(h2:a<=22):a=1∨a=2∨a=3∨a=4∨a=5∨a=6∨a=7∨a=8∨a=9∨a=10∨a=11∨a=12∨a=13∨a=14∨a=15∨a=16∨a=17∨a=18∨a=19∨a=20∨a=21∨a=22:=by omega
theorem s_f70 (a:Int):r_f70 a=some (.t tI (ZM a),[]):=by
 simp only [r_f70]
 refine Jp (fun h1=> ?_) (fun h1=>Jp (fun h2=> ?_) (fun h2=> ?_))
 ·have h1:a<1:=by simpa [ilt] using h1
  simp [ZM,ofF,h1,ET]
 ·have h2:22<a:=by simpa [igt] using h2
  simp [ZM,ofF,h2,ET]
 ·have h1: ¬ a<1:=by simpa [ilt] using h1
  have h2: ¬ 22<a:=by simpa [igt] using h2
  rcases QRx (a:=a) (by omega) (by omega) with rfl|rfl|rfl|rfl|rfl|rfl|rfl|rfl|rfl|rfl|rfl|rfl|rfl|rfl|rfl|rfl|rfl|rfl|rfl|rfl|rfl|rfl<;>rfl
def Qb1:Ent:=Qq (.pr tI .nil) (fun x=>true) (fun x=>(.t tI (ZM x.1)))
theorem QhD:EM 70 Qb1:=mS g_f70 tc_f70 [((.t 2),some tI)] false (gB (gD QRw gN)) fun m=>Qu m fun x _=>kT (s_f70 x.1)
def QR (a b:Int):Qb:=(a,(b,()))
def QRy:TC:=aF Tryz.f159 []
def g_f159:G:=gG 8 [] (fun _ _=>none)
def r_f159 (p0 p1:Int):OV:=some (.t Qh (p0,(p1,())),[])
theorem s_f159 (a b:Int):r_f159 a b=some (.t Qh (QR a b),[]):=rfl
def QCl:Ent:=Qq (.pr tI (.pr tI .nil)) (fun x=>true) (fun x=>(.t Qh (QR x.1 x.2.1)))
theorem QRz:EM 159 QCl:=mS g_f159 QRy [((.c 4 true 2),some Qh)] false (gB gN) fun m=>Qu m fun x _=>kT (s_f159 x.1 x.2.1)
def QRA:TC:=aF Tryz.f168 []
def g_f168:G:=gG 8 [] (fun _ _=>none)
def r_f168 (p0 p1:Int):OV:=some (.t Qh (p0,(p1,())),[])
theorem s_f168 (a b:Int):r_f168 a b=some (.t Qh (QR a b),[]):=rfl
def QCm:Ent:=Qq (.pr tI (.pr tI .nil)) (fun x=>true) (fun x=>(.t Qh (QR x.1 x.2.1)))
theorem QRB:EM 168 QCm:=mS g_f168 QRA [((.c 4 true 2),some Qh)] false (gB gN) fun m=>Qu m fun x _=>kT (s_f168 x.1 x.2.1)
def YF (c:Int)(n:ByteArray)(e s f m:Qb)(l o:Int):JM:=(c,(n,(e,(s,(f,(m,(l,(o,()))))))))
def QRC:TC:=aF Tryz.f169 []
def g_f169:G:=gG 26 [] (fun _ _=>none)
def r_f169 (p0:Int)(p1:ByteArray)(p2 p3 p4 p5:Qb)(p6 p7:Int):OV:=some (.t Jn (p0,(p1,((p2.1,(p2.2.1,())),((p3.1,(p3.2.1,())),((p4.1,(p4.2.1,())),((p5.1,(p5.2.1,())),(p6,(p7,())))))))),[])
theorem s_f169 (c:Int)(n:ByteArray)(e s f m:Qb)(l o:Int):r_f169 c n e s f m l o=some (.t Jn (YF c n e s f m l o),[]):=rfl
def QCn:Ent:=Qq (.pr tI (.pr .str (.pr Qh (.pr Qh (.pr Qh (.pr Qh (.pr tI (.pr tI .nil)))))))) (fun x=>true) (fun x=>(.t Jn (YF x.1 x.2.1 x.2.2.1 x.2.2.2.1 x.2.2.2.2.1 x.2.2.2.2.2.1 x.2.2.2.2.2.2.1 x.2.2.2.2.2.2.2.1)))
theorem QRD:EM 169 QCn:=mS g_f169 QRC [((.c 16 true 12),some Jn)] false (gB gN) fun m=>Qu m fun x _=>kT (s_f169 x.1 x.2.1 x.2.2.1 x.2.2.2.1 x.2.2.2.2.1 x.2.2.2.2.2.1 x.2.2.2.2.2.2.1 x.2.2.2.2.2.2.2.1)
def QCo:TC:=aF Tryz.f144 [(254,pD [(0,[1]),(1,[2]),(2,[4]),(3,[9]),(4,[]),(5,[1]),(6,[2]),(7,[4]),(8,[10]),(9,[]),(10,[1]),(11,[2]),(12,[5]),(13,[10]),(14,[]),(15,[]),(16,[]),(17,[5]),(18,[10]),(19,[]),(20,[]),(21,[2]),(22,[5]),(23,[10]),(24,[]),(25,[1]),(26,[2]),(27,[6]),(28,[10]),(29,[]),(30,[]),(31,[2]),(32,[6]),(33,[10]),(34,[]),(35,[13]),(36,[2]),(37,[6]),(38,[10]),(39,[]),(40,[13]),(41,[]),(42,[]),(43,[11]),(44,[]),(45,[13]),(46,[2]),(47,[7]),(48,[12]),(49,[]),(50,[]),(51,[]),(52,[8]),(53,[12]),(54,[]),(55,[13]),(56,[2]),(57,[14]),(58,[12]),(59,[]),(60,[1]),(61,[2]),(62,[8]),(63,[12]),(64,[]),(65,[13]),(66,[3]),(67,[7]),(68,[12]),(69,[]),(70,[13]),(71,[3]),(72,[14]),(73,[12]),(74,[]),(75,[]),(76,[3]),(77,[8]),(78,[12]),(79,[]),(80,[]),(81,[])] (.of [0,1,2,3,4,5,6,7,8,9,10,11,12,13,14,15,16,17,18,19,20,21,22,23,24,25,26,27,28,29,30,31,32,33,34,35,36,37,38,39,40,41,42,43,44,45,46,47,48,49,50,51,52,53,54,55,56,57,58,59,60,61,62,63,64,65,66,67,68,69,70,71,72,73,74,75,76,77,78,79,80,81]))]
def QCp:List (RV×Option Ty):=[((.t 0),some (.sl Jn))]
def QCq:G:=gG 110 [(168,QCm),(169,QCn)] (fun _ _=>none)
def Wm:Ty.T (.sl Jn):=
 let a1:=(YF 9 (ByteArray.mk #[101,99,100,104,101,45,101,99,100,115,97,45,97,101,115,50,53,54,45,115,104,97,50,53,54]) (QR 12 256) (QR 7 0) (QR 16 256) (QR 21 0) 3 3)
 let a2:=(YF 11 (ByteArray.mk #[101,99,100,104,101,45,101,99,100,115,97,45,97,101,115,50,53,54,45,103,99,109]) (QR 12 384) (QR 7 0) (QR 17 256) (QR 22 0) 3 3)
 let a3:=(YF 10 (ByteArray.mk #[101,99,100,104,101,45,114,115,97,45,97,101,115,49,50,56,45,103,99,109]) (QR 12 256) (QR 5 0) (QR 17 128) (QR 22 0) 3 3)
 let a4:=(YF 8 (ByteArray.mk #[101,99,100,104,101,45,114,115,97,45,97,101,115,49,50,56,45,115,104,97]) (QR 12 256) (QR 5 0) (QR 16 128) (QR 20 0) 1 3)
 let a5:=(YF 7 (ByteArray.mk #[100,104,101,45,114,115,97,45,97,101,115,49,50,56,45,115,104,97]) (QR 11 2048) (QR 5 0) (QR 16 128) (QR 20 0) 1 3)
 let a6:=(YF 16 (ByteArray.mk #[109,108,107,101,109,45,97,101,115,50,53,54,45,103,99,109]) (QR 13 768) (0,(0,())) (QR 17 256) (QR 22 0) 4 4)
 let a7:=(YF 4 (ByteArray.mk #[100,104,101,45,100,115,97,45,100,101,115,51,45,115,104,97]) (QR 11 1024) (QR 6 0) (QR 15 168) (QR 20 0) 1 3)
 let a8:=(YF 5 (ByteArray.mk #[100,104,101,45,114,115,97,45,100,101,115,51,45,115,104,97]) (QR 11 1024) (QR 5 0) (QR 15 168) (QR 20 0) 1 3)
 let a9:=(YF 12 (ByteArray.mk #[101,99,100,104,101,45,114,115,97,45,99,104,97,99,104,97]) (QR 12 256) (QR 5 0) (QR 18 0) (QR 22 0) 3 3)
 let a10:=(YF 13 (ByteArray.mk #[114,115,97,45,97,101,115,50,53,54,45,103,99,109]) (QR 10 0) (QR 5 0) (QR 17 256) (QR 22 0) 3 3)
 let a11:=(YF 6 (ByteArray.mk #[114,115,97,45,97,101,115,49,50,56,45,115,104,97]) (QR 10 0) (QR 5 0) (QR 16 128) (QR 20 0) 1 3)
 let a12:=(YF 3 (ByteArray.mk #[114,115,97,45,100,101,115,51,45,115,104,97]) (QR 10 0) (QR 5 0) (QR 15 168) (QR 20 0) 1 3)
 let a13:=(YF 1 (ByteArray.mk #[114,115,97,45,114,99,52,45,109,100,53]) (QR 10 0) (QR 5 0) (QR 14 128) (QR 19 0) 1 2)
 let a14:=(YF 2 (ByteArray.mk #[114,115,97,45,114,99,52,45,115,104,97]) (QR 10 0) (QR 5 0) (QR 14 128) (QR 20 0) 1 3)
 let a15:=(YF 14 (ByteArray.mk #[97,101,115,49,50,56,45,103,99,109]) (QR 12 256) (0,(0,())) (QR 17 128) (QR 22 0) 4 4)
 let a16:=(YF 15 (ByteArray.mk #[99,104,97,99,104,97]) (QR 12 256) (0,(0,())) (QR 18 0) (QR 22 0) 4 4)
 let a17:=(((a13.2).2).2)
 let a18:=(((a14.2).2).2)
 let a19:=(((a12.2).2).2)
 let a20:=(((a11.2).2).2)
 let a21:=(((a10.2).2).2)
 let a22:=(((a15.2).2).2)
 let a23:=(((a16.2).2).2)
 let a24:=(((a7.2).2).2)
 let a25:=(((a8.2).2).2)
 let a26:=(((a5.2).2).2)
 let a27:=(((a4.2).2).2)
 let a28:=(((a1.2).2).2)
 let a29:=(((a3.2).2).2)
 let a30:=(((a2.2).2).2)
 let a31:=(((a9.2).2).2)
 let a32:=(((a6.2).2).2)
 ([(a13.1,((a13.2).1,(((((a13.2).2).1).1,(((((a13.2).2).1).2).1,())),(((a17.1).1,(((a17.1).2).1,())),((((a17.2).1).1,((((a17.2).1).2).1,())),(((((a17.2).2).1).1,(((((a17.2).2).1).2).1,())),((((a17.2).2).2).1,(((((a17.2).2).2).2).1,())))))))),(a14.1,((a14.2).1,(((((a14.2).2).1).1,(((((a14.2).2).1).2).1,())),(((a18.1).1,(((a18.1).2).1,())),((((a18.2).1).1,((((a18.2).1).2).1,())),(((((a18.2).2).1).1,(((((a18.2).2).1).2).1,())),((((a18.2).2).2).1,(((((a18.2).2).2).2).1,())))))))),(a12.1,((a12.2).1,(((((a12.2).2).1).1,(((((a12.2).2).1).2).1,())),(((a19.1).1,(((a19.1).2).1,())),((((a19.2).1).1,((((a19.2).1).2).1,())),(((((a19.2).2).1).1,(((((a19.2).2).1).2).1,())),((((a19.2).2).2).1,(((((a19.2).2).2).2).1,())))))))),(a7.1,((a7.2).1,(((((a7.2).2).1).1,(((((a7.2).2).1).2).1,())),(((a24.1).1,(((a24.1).2).1,())),((((a24.2).1).1,((((a24.2).1).2).1,())),(((((a24.2).2).1).1,(((((a24.2).2).1).2).1,())),((((a24.2).2).2).1,(((((a24.2).2).2).2).1,())))))))),(a8.1,((a8.2).1,(((((a8.2).2).1).1,(((((a8.2).2).1).2).1,())),(((a25.1).1,(((a25.1).2).1,())),((((a25.2).1).1,((((a25.2).1).2).1,())),(((((a25.2).2).1).1,(((((a25.2).2).1).2).1,())),((((a25.2).2).2).1,(((((a25.2).2).2).2).1,())))))))),(a11.1,((a11.2).1,(((((a11.2).2).1).1,(((((a11.2).2).1).2).1,())),(((a20.1).1,(((a20.1).2).1,())),((((a20.2).1).1,((((a20.2).1).2).1,())),(((((a20.2).2).1).1,(((((a20.2).2).1).2).1,())),((((a20.2).2).2).1,(((((a20.2).2).2).2).1,())))))))),(a5.1,((a5.2).1,(((((a5.2).2).1).1,(((((a5.2).2).1).2).1,())),(((a26.1).1,(((a26.1).2).1,())),((((a26.2).1).1,((((a26.2).1).2).1,())),(((((a26.2).2).1).1,(((((a26.2).2).1).2).1,())),((((a26.2).2).2).1,(((((a26.2).2).2).2).1,())))))))),(a4.1,((a4.2).1,(((((a4.2).2).1).1,(((((a4.2).2).1).2).1,())),(((a27.1).1,(((a27.1).2).1,())),((((a27.2).1).1,((((a27.2).1).2).1,())),(((((a27.2).2).1).1,(((((a27.2).2).1).2).1,())),((((a27.2).2).2).1,(((((a27.2).2).2).2).1,())))))))),(a1.1,((a1.2).1,(((((a1.2).2).1).1,(((((a1.2).2).1).2).1,())),(((a28.1).1,(((a28.1).2).1,())),((((a28.2).1).1,((((a28.2).1).2).1,())),(((((a28.2).2).1).1,(((((a28.2).2).1).2).1,())),((((a28.2).2).2).1,(((((a28.2).2).2).2).1,())))))))),(a3.1,((a3.2).1,(((((a3.2).2).1).1,(((((a3.2).2).1).2).1,())),(((a29.1).1,(((a29.1).2).1,())),((((a29.2).1).1,((((a29.2).1).2).1,())),(((((a29.2).2).1).1,(((((a29.2).2).1).2).1,())),((((a29.2).2).2).1,(((((a29.2).2).2).2).1,())))))))),(a2.1,((a2.2).1,(((((a2.2).2).1).1,(((((a2.2).2).1).2).1,())),(((a30.1).1,(((a30.1).2).1,())),((((a30.2).1).1,((((a30.2).1).2).1,())),(((((a30.2).2).1).1,(((((a30.2).2).1).2).1,())),((((a30.2).2).2).1,(((((a30.2).2).2).2).1,())))))))),(a9.1,((a9.2).1,(((((a9.2).2).1).1,(((((a9.2).2).1).2).1,())),(((a31.1).1,(((a31.1).2).1,())),((((a31.2).1).1,((((a31.2).1).2).1,())),(((((a31.2).2).1).1,(((((a31.2).2).1).2).1,())),((((a31.2).2).2).1,(((((a31.2).2).2).2).1,())))))))),(a10.1,((a10.2).1,(((((a10.2).2).1).1,(((((a10.2).2).1).2).1,())),(((a21.1).1,(((a21.1).2).1,())),((((a21.2).1).1,((((a21.2).1).2).1,())),(((((a21.2).2).1).1,(((((a21.2).2).1).2).1,())),((((a21.2).2).2).1,(((((a21.2).2).2).2).1,())))))))),(a15.1,((a15.2).1,(((((a15.2).2).1).1,(((((a15.2).2).1).2).1,())),(((a22.1).1,(((a22.1).2).1,())),((((a22.2).1).1,((((a22.2).1).2).1,())),(((((a22.2).2).1).1,(((((a22.2).2).1).2).1,())),((((a22.2).2).2).1,(((((a22.2).2).2).2).1,())))))))),(a16.1,((a16.2).1,(((((a16.2).2).1).1,(((((a16.2).2).1).2).1,())),(((a23.1).1,(((a23.1).2).1,())),((((a23.2).1).1,((((a23.2).1).2).1,())),(((((a23.2).2).1).1,(((((a23.2).2).1).2).1,())),((((a23.2).2).2).1,(((((a23.2).2).2).2).1,())))))))),(a6.1,((a6.2).1,(((((a6.2).2).1).1,(((((a6.2).2).1).2).1,())),(((a32.1).1,(((a32.1).2).1,())),((((a32.2).1).1,((((a32.2).1).2).1,())),(((((a32.2).2).1).1,(((((a32.2).2).1).2).1,())),((((a32.2).2).2).1,(((((a32.2).2).2).2).1,()))))))))])
def QCr  : OV:=some (.t (.sl Jn) Wm,[])
theorem e_f144  : JR QCq QCo QCp false [] []=QCr  :=by kernel_rfl
theorem s_f144:QCr=some (.t (.sl Jn) Wm,[]):=rfl
def QCs:Ent:=Qq .nil (fun x=>true) (fun x=>(.t (.sl Jn) Wm))
theorem QRE:EM 144 QCs:=mS QCq QCo QCp false (gB (gD QRB (gD QRD gN))) fun m=>Qu m fun x _=>(e_f144 ).trans (s_f144)
abbrev QpF:JM:=Ty.zero Jn
def O6 (k:Nat)(l:List JM):List JM:=(List.range' k (16-k)).foldl (fun l i=>l.set i (((i+1:Nat):Int),(l.getD i QpF).2)) l
abbrev QhE:Sh:=⟨[(15,.ms 111),(113,.ty tI),(114,.ty tI)],[(111,.arr 142 Jn)]⟩
abbrev QCt:Sh:=⟨[(15,.ms 111)],[(111,.arr 142 Jn)]⟩
def QpG:Fg:=QhE.f
def QpH:TC:=aF Tryz.f133 [(62,pD [(0,[1]),(1,[2]),(2,[]),(3,[11]),(4,[]),(5,[1]),(6,[2]),(7,[]),(8,[12]),(9,[]),(10,[1]),(11,[2]),(12,[6]),(13,[12]),(14,[]),(15,[]),(16,[3]),(17,[6]),(18,[12]),(19,[]),(20,[]),(21,[2]),(22,[6]),(23,[12]),(24,[]),(25,[1]),(26,[2]),(27,[7]),(28,[12]),(29,[]),(30,[]),(31,[2]),(32,[7]),(33,[12]),(34,[]),(35,[14]),(36,[2]),(37,[7]),(38,[12]),(39,[]),(40,[14]),(41,[4]),(42,[]),(43,[]),(44,[]),(45,[14]),(46,[2]),(47,[8]),(48,[13]),(49,[]),(50,[]),(51,[4]),(52,[9]),(53,[13]),(54,[]),(55,[14]),(56,[2]),(57,[10]),(58,[13]),(59,[]),(60,[1]),(61,[2]),(62,[9]),(63,[13]),(64,[]),(65,[14]),(66,[5]),(67,[8]),(68,[13]),(69,[]),(70,[14]),(71,[5]),(72,[10]),(73,[13]),(74,[]),(75,[]),(76,[5]),(77,[9]),(78,[13]),(79,[]),(80,[111,5111,10111,15111]),(81,[111])] (.of [0,1,2,3,4,5,6,7,8,9,10,11,12,13,14,15,16,17,18,19,20,21,22,23,24,25,26,27,28,29,30,31,32,33,34,35,36,37,38,39,40,41,42,43,44,45,46,47,48,49,50,51,52,53,54,55,56,57,58,59,60,61,62,63,64,65,66,67,68,69,70,71,72,73,74,75,76,77,78,79,80,81])),(506,pL 0 QpG),(8101,.fg QCt.f)]
def QCu:TC:=lb 0 QpH
def QCv:List (RV×Option Ty):=[((.t 0),some (.sl Jn))]
def QCw (x113 x114:Int)(y111:List JM):VS:=QhE.st ((),x113,x114,()) (y111,())
def QpI (y111:List JM):VS:=QCt.st ((),()) (y111,())
def QRF:VS->Option (Bool×List (Bool×Exit×VS)):=mkL QhE (fun x y=>(decide (0<=x.2.2.1/\x.2.2.1<=16/\x.2.1=16/\y.1.length=16))) (fun x y=>[(true,.exit 0,QpI (O6 x.2.2.1.toNat y.1))])
def QhF:G:=⟨TYs,[111],125,EL [(159,QCl)],YD,(Ls [QRF]),IL [],RL []⟩
def QhG (x113 x114:Int)(y111:List JM):OX:=QB (QD QhF QpG QCu) (QCw x113 x114 y111)
def QhH (kk:Int->Int->List JM->OX)(x113 x114:Int)(y111:List JM):OX:=
 let a1:=Int.toNat x114
 br (ilt x114 x113) (br (cIx y111 x114) (br (cLd y111 a1) (kk x113 (Qk .i64 x114 1) (List.set y111 a1 ((Qk .i64 x114 1),(lgt Jn y111 a1).2))) none) none) (some (.exit 0,QpI y111))
def QpJ (x113 x114:Int)(y111:List JM):OX:=some (.exit 0,QpI (O6 x114.toNat y111))
theorem QCx (x113 x114:Int)(y111:List JM):QhG x113 x114 y111=QhH QhG x113 x114 y111:=lnT (x:=QhH (fun x113 x114 y111=>some (.normal,QCw x113 x114 y111)) x113 x114 y111) (by simp only [QhH,nxA];rfl)
def QCy  : OV:=
 let a1:=((QR 5 0).1,(((QR 5 0).2).1,()))
 let a2:=((QR 20 0).1,(((QR 20 0).2).1,()))
 let a3:=((QR 22 0).1,(((QR 22 0).2).1,()))
 let a4:=((QR 12 256).1,(((QR 12 256).2).1,()))
 let a5:=((QR 10 0).1,(((QR 10 0).2).1,()))
 let a6:=((QR 15 168).1,(((QR 15 168).2).1,()))
 let a7:=((QR 16 128).1,(((QR 16 128).2).1,()))
 let a8:=((QR 17 256).1,(((QR 17 256).2).1,()))
 let a9:=(ByteArray.mk #[101,99,100,104,101,45,101,99,100,115,97,45,97,101,115,50,53,54,45,115,104,97,50,53,54])
 let a10:=(ByteArray.mk #[101,99,100,104,101,45,101,99,100,115,97,45,97,101,115,50,53,54,45,103,99,109])
 let a11:=((QR 11 1024).1,(((QR 11 1024).2).1,()))
 let a12:=(ByteArray.mk #[101,99,100,104,101,45,114,115,97,45,97,101,115,49,50,56,45,115,104,97])
 let a13:=(ByteArray.mk #[101,99,100,104,101,45,114,115,97,45,97,101,115,49,50,56,45,103,99,109])
 let a14:=((QR 14 128).1,(((QR 14 128).2).1,()))
 let a15:=((QR 17 128).1,(((QR 17 128).2).1,()))
 let a16:=(ByteArray.mk #[100,104,101,45,114,115,97,45,97,101,115,49,50,56,45,115,104,97])
 let a17:=((QR 18 0).1,(((QR 18 0).2).1,()))
 let a18:=((QR 7 0).1,(((QR 7 0).2).1,()))
 let a19:=(ByteArray.mk #[100,104,101,45,100,115,97,45,100,101,115,51,45,115,104,97])
 let a20:=(ByteArray.mk #[100,104,101,45,114,115,97,45,100,101,115,51,45,115,104,97])
 let a21:=(ByteArray.mk #[109,108,107,101,109,45,97,101,115,50,53,54,45,103,99,109])
 let a22:=(ByteArray.mk #[101,99,100,104,101,45,114,115,97,45,99,104,97,99,104,97])
 let a23:=(ByteArray.mk #[114,115,97,45,97,101,115,49,50,56,45,115,104,97])
 let a24:=(ByteArray.mk #[114,115,97,45,97,101,115,50,53,54,45,103,99,109])
 let a25:=(ByteArray.mk #[114,115,97,45,100,101,115,51,45,115,104,97])
 let a26:=(ByteArray.mk #[114,115,97,45,114,99,52,45,109,100,53])
 let a27:=(ByteArray.mk #[114,115,97,45,114,99,52,45,115,104,97])
 let a28:=(ByteArray.mk #[97,101,115,49,50,56,45,103,99,109])
 let a29:=((QR 11 2048).1,(((QR 11 2048).2).1,()))
 let a30:=((QR 16 256).1,(((QR 16 256).2).1,()))
 let a31:=((QR 12 384).1,(((QR 12 384).2).1,()))
 let a32:=((QR 13 768).1,(((QR 13 768).2).1,()))
 let a33:=(ByteArray.mk #[99,104,97,99,104,97])
 let a34:=((QR 19 0).1,(((QR 19 0).2).1,()))
 let a35:=((QR 21 0).1,(((QR 21 0).2).1,()))
 let a36:=((QR 6 0).1,(((QR 6 0).2).1,()))
 br (decide (0<=(0:Int)/\(0:Int)<=16/\(Qc ([(0,(a26,(a5,(a1,(a14,(a34,(1,(2,())))))))),(0,(a27,(a5,(a1,(a14,(a2,(1,(3,())))))))),(0,(a25,(a5,(a1,(a6,(a2,(1,(3,())))))))),(0,(a19,(a11,(a36,(a6,(a2,(1,(3,())))))))),(0,(a20,(a11,(a1,(a6,(a2,(1,(3,())))))))),(0,(a23,(a5,(a1,(a7,(a2,(1,(3,())))))))),(0,(a16,(a29,(a1,(a7,(a2,(1,(3,())))))))),(0,(a12,(a4,(a1,(a7,(a2,(1,(3,())))))))),(0,(a9,(a4,(a18,(a30,(a35,(3,(3,())))))))),(0,(a13,(a4,(a1,(a15,(a3,(3,(3,())))))))),(0,(a10,(a31,(a18,(a8,(a3,(3,(3,())))))))),(0,(a22,(a4,(a1,(a17,(a3,(3,(3,())))))))),(0,(a24,(a5,(a1,(a8,(a3,(3,(3,())))))))),(0,(a28,(a4,((0,(0,())),(a15,(a3,(4,(4,())))))))),(0,(a33,(a4,((0,(0,())),(a17,(a3,(4,(4,())))))))),(0,(a21,(a32,((0,(0,())),(a8,(a3,(4,(4,()))))))))]))=16/\([(0,(a26,(a5,(a1,(a14,(a34,(1,(2,())))))))),(0,(a27,(a5,(a1,(a14,(a2,(1,(3,())))))))),(0,(a25,(a5,(a1,(a6,(a2,(1,(3,())))))))),(0,(a19,(a11,(a36,(a6,(a2,(1,(3,())))))))),(0,(a20,(a11,(a1,(a6,(a2,(1,(3,())))))))),(0,(a23,(a5,(a1,(a7,(a2,(1,(3,())))))))),(0,(a16,(a29,(a1,(a7,(a2,(1,(3,())))))))),(0,(a12,(a4,(a1,(a7,(a2,(1,(3,())))))))),(0,(a9,(a4,(a18,(a30,(a35,(3,(3,())))))))),(0,(a13,(a4,(a1,(a15,(a3,(3,(3,())))))))),(0,(a10,(a31,(a18,(a8,(a3,(3,(3,())))))))),(0,(a22,(a4,(a1,(a17,(a3,(3,(3,())))))))),(0,(a24,(a5,(a1,(a8,(a3,(3,(3,())))))))),(0,(a28,(a4,((0,(0,())),(a15,(a3,(4,(4,())))))))),(0,(a33,(a4,((0,(0,())),(a17,(a3,(4,(4,())))))))),(0,(a21,(a32,((0,(0,())),(a8,(a3,(4,(4,()))))))))]).length=16)) (some (.t (.sl Jn) (O6 (0:Int).toNat ([(0,(a26,(a5,(a1,(a14,(a34,(1,(2,())))))))),(0,(a27,(a5,(a1,(a14,(a2,(1,(3,())))))))),(0,(a25,(a5,(a1,(a6,(a2,(1,(3,())))))))),(0,(a19,(a11,(a36,(a6,(a2,(1,(3,())))))))),(0,(a20,(a11,(a1,(a6,(a2,(1,(3,())))))))),(0,(a23,(a5,(a1,(a7,(a2,(1,(3,())))))))),(0,(a16,(a29,(a1,(a7,(a2,(1,(3,())))))))),(0,(a12,(a4,(a1,(a7,(a2,(1,(3,())))))))),(0,(a9,(a4,(a18,(a30,(a35,(3,(3,())))))))),(0,(a13,(a4,(a1,(a15,(a3,(3,(3,())))))))),(0,(a10,(a31,(a18,(a8,(a3,(3,(3,())))))))),(0,(a22,(a4,(a1,(a17,(a3,(3,(3,())))))))),(0,(a24,(a5,(a1,(a8,(a3,(3,(3,())))))))),(0,(a28,(a4,((0,(0,())),(a15,(a3,(4,(4,())))))))),(0,(a33,(a4,((0,(0,())),(a17,(a3,(4,(4,())))))))),(0,(a21,(a32,((0,(0,())),(a8,(a3,(4,(4,()))))))))])),[])) none
theorem e_f133  : JR QhF QpH QCv false [] []=QCy  :=by kernel_rfl
theorem QRG (x113 x114:Int)(y111:List JM)(h:(decide (0<=x114/\x114<=16/\x113=16/\y111.length=16))=true):QhG x113 x114 y111=QpJ x113 x114 y111:=by
 simp only [Ba] at h
 obtain ⟨h1,h2,rfl,h4⟩:=h
 obtain ⟨k,rfl⟩:=Bm h1
 revert y111
 refine Qz0 16 (fun k=> ∀ y111:List JM,y111.length=16->QhG 16 (k:Int) y111=QpJ 16 (k:Int) y111) ?_ ?_ k (by omega)
 ·intro y111 _
  rw [QCx]
  rfl
 ·intro k hk ih y111 hy
  rw [QCx]
  have e1:ilt (k:Int) 16=true:=Bd (by omega)
  have e2:cLd y111 k=true:=Bd (by omega)
  have e3:O6 k y111=O6 (k+1) (y111.set k (((k+1:Nat):Int),(y111.getD k QpF).2)):=by
   have:16-k=(16-(k+1))+1:=by omega
   unfold O6
   rw [this,Dd,Dz]
  simp only [QhH,e1,Qe,QS,show decide (k<y111.length)=true from Bd (by omega),Bb,e2,QU (show k<4611686018427387904 by omega)]
  rw [ih _ (by rw [List.length_set];exact hy)]
  simp only [QpJ,Bb,e3]
theorem QRH:LO QhF QpG QCu 0:=QN (s:=QhE) fun x y h _ q=>by simp only [QJ,QK] at q;exact (QRG x.2.1 x.2.2.1 y.1 h).trans q
set_option maxRecDepth 100000 in
theorem s_f133:QCy=some (.t (.sl Jn) Wm,[]):=by kernel_rfl
def QCz:Ent:=Qq .nil (fun x=>true) (fun x=>(.t (.sl Jn) Wm))
theorem QRI:EM 133 QCz:=mS (lk:=lkL (lkc QRH lkn)) QhF QpH QCv false (Zz _ (gA (gD QRz gN))) fun m=>Qu m fun x _=>(e_f133 ).trans (s_f133)
theorem QRJ:(List.length (α:=Jn.T) Wm)=16:=by kernel_rfl
theorem QCA:Qc (α:=Jn.T) Wm=16:=by kernel_rfl
theorem QCB {c:Int}(h:1<=c/\c<=16):cIx (α:=Jn.T) Wm (c-1)=true:=by
 have:=QRJ
 simp only [cIx,Ba]
 omega
def Q4 (c:Int):JM×Int:=if c<1∨16<c then (QpF,8) else (lgt Jn Wm (c-1).toNat,0)
def tc_f85:TC:=aF Tryz.f85 []
def g_f85:G:=gG 20 [(133,QCz)] (fun _ _=>none)
def r_f85 (p0:Int):OV:=br (ilt p0 1) (some (.tu [(.t Jn (0,((ByteArray.mk #[]),((0,(0,())),((0,(0,())),((0,(0,())),((0,(0,())),(0,(0,()))))))))),(.t tI 8)],[])) (br (igt p0 (Qc Wm)) (some (.tu [(.t Jn (0,((ByteArray.mk #[]),((0,(0,())),((0,(0,())),((0,(0,())),((0,(0,())),(0,(0,()))))))))),(.t tI 8)],[])) (br (cIx Wm (QT .i64 p0 1)) (some (.tu [(.t Jn (lgt Jn Wm (Int.toNat (QT .i64 p0 1)))),(.t tI 0)],[])) none))
theorem s_f85 (c:Int):r_f85 c=some (.tu [.t Jn (Q4 c).1,.t tI (Q4 c).2],[]):=by
 simp only [r_f85]
 unfold Q4
 refine Jp (fun h1=> ?_) (fun h1=>Jp (fun h2=> ?_) (fun h2=> ?_))
 ·simp only [ilt,Ba] at h1
  rw [if_pos (.inl h1)]
  rfl
 ·have h2:=Bv h2
  have:=QCA
  rw [if_pos (.inr (by omega))]
  rfl
 ·simp only [ilt,Bq] at h1
  have h2:=DN h2
  have:=QCA
  rw [if_neg (by omega),Zu (by omega),QCB (by omega),Qe]
def Qb2:Ent:=Qq (.pr tI .nil) (fun x=>true) (fun x=>(.tu [(.t Jn ((Q4 x.1).1)),(.t tI ((Q4 x.1).2))]))
theorem QhI:EM 85 Qb2:=mS g_f85 tc_f85 [((.c 2 true 12),some Jn),((.t 3),some tI)] false (gB (gD QRI gN)) fun m=>Qu m fun x _=>kT (s_f85 x.1)
def QRK:TC:=aF Tryz.f103 []
def g_f103:G:=gG 16 [(144,QCs)] (fun _ _=>none)
def QCC (p0:Int):OV:=br (ilt p0 1) (some (.tu [(.t Jn (0,((ByteArray.mk #[]),((0,(0,())),((0,(0,())),((0,(0,())),((0,(0,())),(0,(0,()))))))))),(.t tI 8)],[])) (br (igt p0 16) (some (.tu [(.t Jn (0,((ByteArray.mk #[]),((0,(0,())),((0,(0,())),((0,(0,())),((0,(0,())),(0,(0,()))))))))),(.t tI 8)],[])) (br (cIx Wm (QT .i64 p0 1)) (some (.tu [(.t Jn (lgt Jn Wm (Int.toNat (QT .i64 p0 1)))),(.t tI 0)],[])) none))
theorem s_f103 (c:Int):QCC c=some (.tu [.t Jn (Q4 c).1,.t tI (Q4 c).2],[]):=by
 simp only [QCC]
 unfold Q4
 refine Jp (fun h1=> ?_) (fun h1=>Jp (fun h2=> ?_) (fun h2=> ?_))
 ·simp only [ilt,Ba] at h1
  rw [if_pos (.inl h1)]
  rfl
 ·simp only [igt,Ba] at h2
  rw [if_pos (.inr (by omega))]
  rfl
 ·simp only [ilt,Bq] at h1
  simp only [igt,Bq] at h2
  rw [if_neg (by omega),Zu (by omega),QCB (by omega),Qe]
def O7:Ent:=Qq (.pr tI .nil) (fun x=>true) (fun x=>(.tu [(.t Jn ((Q4 x.1).1)),(.t tI ((Q4 x.1).2))]))
theorem Qb3:EM 103 O7:=mS g_f103 QRK [((.c 2 true 12),some Jn),((.t 3),some tI)] false (gB (gD QRE gN)) fun m=>Qu m fun x _=>kT (s_f103 x.1)
abbrev QhJ:Sh:=⟨[(0,.ty (.sl tI)),(1,.ty tI),(5,.ty tI)],[]⟩
abbrev QCD:Sh:=⟨[(4,.ty .bool)],[]⟩
abbrev QCE:Sh:=⟨[],[]⟩
def QpK:Fg:=QhJ.f
def QCF:TC:=aF Tryz.f104 [(26,pL 0 QpK),(419,.fg QCE.f),(3365,.fg QCD.f)]
def QCG:TC:=lb 0 QCF
def QCH (x0:List Int)(x1 x5:Int):VS:=QhJ.st (x0,x1,x5,()) ()
def QpL (x4:Bool):VS:=QCD.st (x4,()) ()
def QpM  : VS:=QCE.st () ()
def QRL:VS->Option (Bool×List (Bool×Exit×VS)):=mkL QhJ (fun x y=>(decide (x.1.length<=100000/\0<=x.2.2.1/\x.2.2.1<=x.1.length))) (fun x y=>[(((x.1.drop x.2.2.1.toNat).contains x.2.1),.ret,QpL (true)),(true,.exit 0,QpM)])
def QpN:G:=gG 18 [] (Ls [QRL])
def QhK (x0:List Int)(x1 x5:Int):OX:=QB (QD QpN QpK QCG) (QCH x0 x1 x5)
def Qb4 (kk:List Int->Int->Int->OX)(x0:List Int)(x1 x5:Int):OX:=br (ilt x5 (Qc x0)) (br (cIx x0 x5) (br (ieq (lgt tI x0 (Int.toNat x5)) x1) (some (.ret,QpL true)) (kk x0 x1 (Qk .i64 x5 1))) none) (some (.exit 0,QpM))
def QhL (x0:List Int)(x1 x5:Int):OX:=br ((x0.drop x5.toNat).contains x1) (some (.ret,QpL (true)))<|some (.exit 0,QpM)
theorem QCI (x0:List Int)(x1 x5:Int):QhK x0 x1 x5=Qb4 QhK x0 x1 x5:=lnT (x:=Qb4 (fun x0 x1 x5=>some (.normal,QCH x0 x1 x5)) x0 x1 x5) (by simp only [Qb4,nxA];rfl)
def QCJ (p0:List Int)(p1:Int):OV:=br (decide (p0.length<=100000/\0<=(0:Int)/\(0:Int)<=p0.length)) (br ((p0.drop (0:Int).toNat).contains p1) (some (.t .bool (true),[])) (some (.t .bool false,[]))) none
theorem QRM (x0:List Int)(x1 x5:Int)(h:(decide (x0.length<=100000/\0<=x5/\x5<=x0.length))=true):QhK x0 x1 x5=QhL x0 x1 x5:=by
 simp only [Ba] at h
 obtain ⟨h2,h3,h4⟩:=h
 obtain ⟨k,rfl⟩:=Bm h3
 refine QW x0 (fun k=>QhK x0 x1 (k:Int)=QhL x0 x1 (k:Int)) ?_ ?_ k (by omega)
 ·rw [QCI]
  simp [Qb4,QhL,QC,Qc,Qi]
 ·intro k hk ih
  rw [QCI]
  simp only [Qb4,QC,Qc,QS,hk,Bu,Qe,Bb,QU (show k<4611686018427387904 by omega),ih,QX (y:=tI) hk]
  simp only [QhL,Bb,Bi hk,List.contains_cons,ieq]
  have hc:(x1==x0[k])=(x0[k]==x1):=Bool.beq_comm
  rw [hc]
  cases x0[k]==x1<;>rfl
theorem QRN:LO QpN QpK QCG 0:=QN (s:=QhJ) fun x y h _ q=>by simp only [QJ,QK] at q;exact (QRM x.1 x.2.1 x.2.2.1 h).trans q
theorem s_f104 (l:List Int)(n:Int)(h:Q9 l n=true):QCJ l n=some (.t .bool (QY l n),[]):=by
 simp only [Q9,Ba] at h
 simp only [QCJ,Bt,Bx]
 rw [Oy ⟨h,B3 0,by omega⟩,Qe]
 unfold QY
 cases l.contains n<;>rfl
def Qb5:Ent:=Qq (.pr (.sl tI) (.pr tI .nil)) (fun x=>(Q9 x.1 x.2.1)) (fun x=>(.t .bool (QY x.1 x.2.1)))
theorem Qb6:EM 104 Qb5:=mS (lk:=lkL (lkc QRN lkn)) QpN QCF [((.t 4),some .bool)] false (gB gN) fun m=>Qu m fun x hok=>kT (s_f104 x.1 x.2.1 hok)
theorem QCK (a b:Qb):(and (ieq a.1 b.1) (and (ieq a.2.1 b.2.1) true))=(a==b):=by
 obtain ⟨a1,a2,_⟩:=a
 obtain ⟨b1,b2,_⟩:=b
 show _=((a1==b1)&&((a2==b2)&&true))
 rfl
end
end Go.Proofs.YtckcgijklnloiaaGreat.K
noncomputable section
namespace Go.Proofs.YtckcgijklnloiaaGreat.K
open Go.RowKit
noncomputable section
theorem Qfp (a b:Int):ige a b= !ilt a b:=by
 simp only [ige,ilt]
 rw [DQ]
 simp
theorem Qm5 (a b:Int):ile a b= !igt a b:=by
 simp only [ile,igt]
 rw [DQ]
 simp
theorem Ez (a b:Int):ine a b= !ieq a b:=rfl
theorem brB {q r:Bool}{X:OV}(h:X=some (.t .bool r,[])):br q (some (.t .bool false,[])) X=some (.t .bool (!q&&r),[]):=by
 subst h
 cases q<;>rfl
theorem brA {q r:Bool}{X:OV}(h:X=some (.t .bool r,[])):br q X (some (.t .bool false,[]))=some (.t .bool (q&&r),[]):=by
 subst h
 cases q<;>rfl
theorem br9 {q v:Bool}{n:Int}{X:OV}(h0:q=true->v=false)(hX:q=false->X=some (.t tI (bif v then 0 else n),[])):br q (some (.t tI n,[])) X=some (.t tI (bif v then 0 else n),[]):=by
 cases q with
 |true=>rw [Qe,h0 rfl];rfl
 |false=>rw [Qi,hX rfl]
open Classical in
def WF {α:Type}(a b:α):Bool:=decide (a=b)
theorem Qm6 {α:Type}(a:α):WF a a=true:=by
 unfold WF
 simp
theorem Qm7 {α:Type}{a b:α}(h:WF a b=true):a=b:=by
 unfold WF at h
 simpa using h
def JI (n:Int):Bool:= !ilt n 0&& !igt n 2147483648
def QNH:TC:=aF Tryz.f121 []
def g_f121:G:=gG 9 [] (fun _ _=>none)
def Qxy (p0:Int):OV:=br (ige p0 0) (some (.t .bool (ile p0 2147483648),[])) (some (.t .bool false,[]))
theorem s_f121 (n:Int):Qxy n=some (.t .bool (JI n),[]):=by
 simp only [Qxy,Qfp,Qm5]
 exact brA rfl
def Qfq:Ent:=Qq (.pr tI .nil) (fun x=>true) (fun x=>(.t .bool (JI x.1)))
theorem Qm8:EM 121 Qfq:=mS g_f121 QNH [((.t 2),some .bool)] false (gB gN) fun m=>Qu m fun x _=>kT (s_f121 x.1)
def Uf (n:Int):Bool:= !ilt n 0&& !ige n 4294967296
def QNI:TC:=aF Tryz.f165 []
def g_f165:G:=gG 9 [] (fun _ _=>none)
def Qxz (p0:Int):OV:=br (ige p0 0) (some (.t .bool (ilt p0 4294967296),[])) (some (.t .bool false,[]))
theorem s_f165 (n:Int):Qxz n=some (.t .bool (Uf n),[]):=by
 simp only [Qxz,Uf,Qfp,Bool.not_not]
 exact brA rfl
def QxA:Ent:=Qq (.pr tI .nil) (fun x=>true) (fun x=>(.t .bool (Uf x.1)))
theorem QNJ:EM 165 QxA:=mS g_f165 QNI [((.t 2),some .bool)] false (gB gN) fun m=>Qu m fun x _=>kT (s_f165 x.1)
def Xa (l:List ByteArray)(k:Nat):Bool:=(List.range' k (l.length-k)).all fun j=>JJ (l.getD j ByteArray.empty)&&(decide (j=0)||slt (l.getD (j-1) ByteArray.empty) (l.getD j ByteArray.empty))
theorem QxB (l:List ByteArray):Xa l l.length=true:=by
 unfold Xa
 rw [DA]
 rfl
theorem QxC {l:List ByteArray}{k:Nat}(hk:k<l.length):Xa l k=((JJ l[k]&&(decide (k=0)||slt (l.getD (k-1) ByteArray.empty) l[k]))&&Xa l (k+1)):=by
 have:l.length-k=(l.length-(k+1))+1:=by omega
 unfold Xa
 rw [this,Dd,BV]
 simp only [Bo,Bl hk,BK]
def Wd (l:List ByteArray):Bool:=Xa l 0&& !igt (Qc l) 8
def XB (l:List ByteArray):Bool:=decide (l.length<=100000)&&l.all JB
abbrev Qfr:Sh:=⟨[(0,.ty (.sl .str)),(5,.ty (.sl .str)),(6,.ty tI),(7,.ty tI)],[]⟩
abbrev QxD:Sh:=⟨[(2,.ty .bool)],[]⟩
abbrev QxE:Sh:=⟨[(0,.ty (.sl .str))],[]⟩
def Qm9:Fg:=Qfr.f
def QxF:TC:=aF Tryz.f163 [(26,pL 0 Qm9),(421,.fg QxE.f),(13517,.fg QxD.f)]
def QxG:TC:=lb 0 QxF
def QxH (x0 x5:List ByteArray)(x6 x7:Int):VS:=Qfr.st (x0,x5,x6,x7,()) ()
def Qfs (x2:Bool):VS:=QxD.st (x2,()) ()
def Qna (x0:List ByteArray):VS:=QxE.st (x0,()) ()
def QNK:VS->Option (Bool×List (Bool×Exit×VS)):=mkL Qfr (fun x y=>(Qz x.2.1 x.2.2.1 x.2.2.2.1&&WF x.1 x.2.1&&XB x.2.1)) (fun x y=>[((!Xa x.2.1 x.2.2.2.1.toNat),.ret,Qfs (false)),(true,.exit 0,Qna (x.1))])
def Qnb:G:=gG 32 [(124,Qgq)] (Ls [QNK])
def Qft (x0 x5:List ByteArray)(x6 x7:Int):OX:=QB (QD Qnb Qm9 QxG) (QxH x0 x5 x6 x7)
def Qa0 (kk:List ByteArray->List ByteArray->Int->Int->OX)(x0 x5:List ByteArray)(x6 x7:Int):OX:=
 let a1:=lgt .str x5 (Int.toNat x7)
 br (ilt x7 x6) (br (cIx x5 x7) (br (JB a1) (br (!(JJ a1)) (some (.ret,Qfs false)) (br (igt x7 0) (br (cIx x0 (QT .i64 x7 1)) (br (!slt (lgt .str x0 (Int.toNat (QT .i64 x7 1))) a1) (some (.ret,Qfs false)) (kk x0 x5 x6 (Qk .i64 x7 1))) none) (kk x0 x5 x6 (Qk .i64 x7 1)))) none) none) (some (.exit 0,Qna x0))
def Qfu (x0 x5:List ByteArray)(x6 x7:Int):OX:=br (!Xa x5 x7.toNat) (some (.ret,Qfs (false)))<|some (.exit 0,Qna (x0))
theorem QxI (x0 x5:List ByteArray)(x6 x7:Int):Qft x0 x5 x6 x7=Qa0 Qft x0 x5 x6 x7:=lnT (x:=Qa0 (fun x0 x5 x6 x7=>some (.normal,QxH x0 x5 x6 x7)) x0 x5 x6 x7) (by simp only [Qa0,nxA];rfl)
def QxJ (p0:List ByteArray):OV:=br (Qz p0 (Qc p0) (0:Int)&&WF p0 p0&&XB p0) (br (!Xa p0 (0:Int).toNat) (some (.t .bool (false),[])) (some (.t .bool (ile (Qc (p0)) 8),[]))) none
theorem QxK {l:List ByteArray}{k:Nat}(h:0<k)(hk:k<l.length):lgt .str l (Int.toNat (QT .i64 (k:Int) 1))=l.getD (k-1) ByteArray.empty/\cIx l (QT .i64 (k:Int) 1)=decide (k-1<l.length)∨4611686018427387904<=k:=by
 rcases Dj k 4611686018427387904 with hb|hb
 ·left
  have e:QT .i64 (k:Int) 1=((k-1:Nat):Int):=by rw [Zu (by omega)];omega
  rw [e,Bb,QS]
  exact ⟨rfl,rfl⟩
 ·exact .inr hb
theorem QNL (x0 x5:List ByteArray)(x6 x7:Int)(h:(Qz x5 x6 x7&&WF x0 x5&&XB x5)=true):Qft x0 x5 x6 x7=Qfu x0 x5 x6 x7:=by
 simp only [Bc] at h
 obtain ⟨⟨h0,hs⟩,hn⟩:=h
 have hs:=Qm7 hs
 subst hs
 obtain ⟨rfl,h3,k,rfl,hk⟩:=Js h0
 clear h0
 simp only [XB,Bc,Bg] at hn
 refine QW x0 (fun k=>Qft x0 x0 (x0.length:Int) (k:Int)=Qfu x0 x0 (x0.length:Int) (k:Int)) ?_ ?_ k hk
 ·rw [QxI]
  simp only [Qa0,Qfu,QC,BI,BQ,Qi,Bb,QxB,BC]
 ·intro k hk ih
  rw [QxI]
  have hx:=hn.2 x0[k] (BA hk)
  simp only [Qa0,QC,QS,hk,Bu,Qe,Bb,QU (show k<4611686018427387904 by omega),QX (y:= .str) hk,hx,ih]
  simp only [Qfu,Bb,QxC hk]
  cases hg:JJ x0[k] with
  |false=>rfl
  |true=>
   simp only [BC,Qi,BB]
   by_cases h0:k=0
   ·subst h0
    simp only [show igt ((0:Nat):Int) 0=false from rfl,Qi,Bu,Bool.true_or,BB]
   ·rcases QxK (l:=x0) (k:=k) (by omega) hk with ⟨e1,e2⟩|hb
    ·rw [show igt (k:Int) 0=true from Bd (by omega),Qe,e2,Bd (show k-1<x0.length by omega),Qe,e1,Bn h0,Di]
     cases slt (x0.getD (k-1) ByteArray.empty) x0[k]<;>rfl
    ·omega
theorem QNM:LO Qnb Qm9 QxG 0:=QN (s:=Qfr) fun x y h _ q=>by simp only [QJ,QK] at q;exact (QNL x.1 x.2.1 x.2.2.1 x.2.2.2.1 h).trans q
theorem s_f163 (l:List ByteArray)(h:XB l=true):QxJ l=some (.t .bool (Wd l),[]):=by
 have hl:l.length<=100000:=by simp only [XB,Bc,Ba] at h;exact h.1
 simp only [QxJ,Jy hl,Qm6,h,BX,Qe,Bt,Qm5,Wd]
 cases Xa l 0<;>rfl
def QxL:Ent:=Qq (.pr (.sl .str) .nil) (fun x=>(XB x.1)) (fun x=>(.t .bool (Wd x.1)))
theorem QNN:EM 163 QxL:=mS (lk:=lkL (lkc QNM lkn)) Qnb QxF [((.t 2),some .bool)] false (gB (gD Qou gN)) fun m=>Qu m fun x hok=>kT (s_f163 x.1 hok)
def J0 (u:Qb)(k:Int):Bool:=Zr u&&ieq (ZM u.1) k
def QNO:TC:=aF Tryz.f164 []
def g_f164:G:=gG 14 [(125,QiY),(155,QhB)] (fun _ _=>none)
def QxM (p0:Qb)(p1:Int):OV:=br (Zr p0) (some (.t .bool (ieq (ZM p0.1) p1),[])) (some (.t .bool false,[]))
theorem s_f164 (u:Qb)(k:Int):QxM u k=some (.t .bool (J0 u k),[]):=by
 simp only [QxM]
 exact brA rfl
def QxN:Ent:=Qq (.pr Qh (.pr tI .nil)) (fun x=>true) (fun x=>(.t .bool (J0 x.1 x.2.1)))
theorem QNP:EM 164 QxN:=mS g_f164 QNO [((.t 4),some .bool)] false (gB (gD Qri (gD QpE gN))) fun m=>Qu m fun x _=>kT (s_f164 x.1 x.2.1)
def EA (u:Qb):Bool:=J0 u 2
def QNQ:TC:=aF Tryz.f145 []
def g_f145:G:=gG 11 [(70,Qb1),(147,Qi3)] (fun _ _=>none)
def QxO (p0:Qb):OV:=br (Zr p0) (some (.t .bool (ieq (ZM p0.1) 2),[])) (some (.t .bool false,[]))
theorem s_f145 (u:Qb):QxO u=some (.t .bool (EA u),[]):=by
 simp only [QxO]
 exact brA rfl
def Qnc:Ent:=Qq (.pr Qh .nil) (fun x=>true) (fun x=>(.t .bool (EA x.1)))
theorem QxP:EM 145 Qnc:=mS g_f145 QNQ [((.t 2),some .bool)] false (gB (gD QhD (gD Qrt gN))) fun m=>Qu m fun x _=>kT (s_f145 x.1)
abbrev QO (c:Qf):List ByteArray:=c.2.2.2.2.2.2.2.2.2.2.1
abbrev Xb (c:Qf):Qb:=c.2.2.2.2.2.2.2.2.2.2.2.1
def Jr (c:Qf):Bool:=JB c.2.1&&(JB c.2.2.1&&XB (QO c))
def Q5 (c:Qf):Bool:=
 !ilt c.1 0&&(!igt c.1 1099511627776&&(JJ c.2.1&&(JJ c.2.2.1&&(Wd (QO c)&&(J0 c.2.2.2.1 2&&(JI c.2.2.2.2.1&&(J0 c.2.2.2.2.2.1 1&&(JI (Xb c).1&&(Uf (Xb c).2.1&&
 (!ilt c.2.2.2.2.2.2.1 0&&(!igt c.2.2.2.2.2.2.1 c.2.2.2.2.2.2.2.1&&(!igt c.2.2.2.2.2.2.2.1 40000&&(!ilt c.2.2.2.2.2.2.2.2.2.1 0&&(!igt c.2.2.2.2.2.2.2.2.2.1 8&&(c.2.2.2.2.2.2.2.2.1||ieq c.2.2.2.2.2.2.2.2.2.1 0)))))))))))))))
def QNR:TC:=aF Tryz.f138 []
def g_f138:G:=gG 91 [(121,Qfq),(124,Qgq),(163,QxL),(164,QxN),(165,QxA)] (fun _ _=>none)
def QxQ (p0:Qf):OV:=br (ilt p0.1 0) (some (.t .bool false,[])) (br (igt p0.1 1099511627776) (some (.t .bool false,[])) (br (JB p0.2.1) (br (!(JJ p0.2.1)) (some (.t .bool false,[])) (br (JB p0.2.2.1) (br (!(JJ p0.2.2.1)) (some (.t .bool false,[])) (br (XB p0.2.2.2.2.2.2.2.2.2.2.1) (br (!(Wd p0.2.2.2.2.2.2.2.2.2.2.1)) (some (.t .bool false,[])) (br (!(J0 p0.2.2.2.1 2)) (some (.t .bool false,[])) (br (!(JI p0.2.2.2.2.1)) (some (.t .bool false,[])) (br (!(J0 p0.2.2.2.2.2.1 1)) (some (.t .bool false,[])) (br (!(JI p0.2.2.2.2.2.2.2.2.2.2.2.1.1)) (some (.t .bool false,[])) (br (!(Uf p0.2.2.2.2.2.2.2.2.2.2.2.1.2.1)) (some (.t .bool false,[])) (br (ilt p0.2.2.2.2.2.2.1 0) (some (.t .bool false,[])) (br (igt p0.2.2.2.2.2.2.1 p0.2.2.2.2.2.2.2.1) (some (.t .bool false,[])) (br (igt p0.2.2.2.2.2.2.2.1 40000) (some (.t .bool false,[])) (br (ige p0.2.2.2.2.2.2.2.2.2.1 0) (br (ile p0.2.2.2.2.2.2.2.2.2.1 8) (br (p0.2.2.2.2.2.2.2.2.1) (some (.t .bool true,[])) (some (.t .bool (ieq p0.2.2.2.2.2.2.2.2.2.1 0),[]))) (some (.t .bool false,[]))) (some (.t .bool false,[])))))))))))) none)) none)) none))
theorem s_f138 (c:Qf)(h:Jr c=true):QxQ c=some (.t .bool (Q5 c),[]):=by
 simp only [Jr,Bc] at h
 obtain ⟨h1,h2,h3⟩:=h
 simp only [QxQ,h1,h2,h3,Qe,Qfp,Qm5]
 refine (brB<|brB<|brB<|brB<|brB<|brB<|brB<|brB<|brB<|brB<|brB<|brB<|brB<|brA<|brA (r:=c.2.2.2.2.2.2.2.2.1||ieq c.2.2.2.2.2.2.2.2.2.1 0) ?_).trans ?_
 ·cases c.2.2.2.2.2.2.2.2.1<;>rfl
 ·simp only [Bool.not_not,Q5]
def Qnd:Ent:=Qq (.pr QE .nil) (fun x=>(Jr x.1)) (fun x=>(.t .bool (Q5 x.1)))
theorem QxR:EM 138 Qnd:=mS g_f138 QNR [((.t 2),some .bool)] false (gB (gD Qm8 (gD Qou (gD QNN (gD QNP (gD QNJ gN)))))) fun m=>Qu m fun x hok=>kT (s_f138 x.1 hok)
def We (c:Qf):Int:=bif Q5 c then 0 else 9
theorem EB (c:Qf):ine (We c) 0= !Q5 c:=by
 unfold We
 cases Q5 c<;>rfl
def tc_f96:TC:=aF Tryz.f96 []
def g_f96:G:=gG 6 [(138,Qnd)] (fun _ _=>none)
def r_f96 (p0:Qf):OV:=br (Jr p0) (br (!(Q5 p0)) (some (.t tI 9,[])) (some (.t tI 0,[]))) none
theorem s_f96 (c:Qf)(h:Jr c=true):r_f96 c=some (.t tI (We c),[]):=by
 simp only [r_f96,h,Qe,We]
 cases Q5 c<;>rfl
def Qne:Ent:=Qq (.pr QE .nil) (fun x=>(Jr x.1)) (fun x=>(.t tI (We x.1)))
theorem QxS:EM 96 Qne:=mS g_f96 tc_f96 [((.t 2),some tI)] false (gB (gD QxR gN)) fun m=>Qu m fun x hok=>kT (s_f96 x.1 hok)
abbrev Qfv:Sh:=⟨[(1,.ptr 1 0),(3,.ty tI)],[(1,.box QE)]⟩
abbrev QxT:Sh:=⟨[(2,.ty tI)],[]⟩
abbrev QxU:Sh:=⟨[(1,.ptr 1 0)],[(1,.box QE)]⟩
def Qnf:Fg:=Qfv.f
def QxV:TC:=aF Tryz.f130 [(250,pL 0 Qnf),(4003,.fg QxU.f),(8008,pD [(0,[1]),(1,[1]),(2,[]),(3,[]),(4,[]),(5,[]),(6,[]),(7,[]),(8,[]),(9,[]),(10,[]),(11,[1]),(12,[1]),(13,[]),(14,[]),(15,[]),(16,[]),(17,[1]),(18,[1]),(19,[]),(20,[]),(21,[]),(22,[]),(23,[]),(24,[])] (.of [0,1,2,3,4,5,6,7,8,9,10,11,12,13,14,15,16,17,18,19,20,21,22,23,24])),(32037,.fg QxT.f)]
def QxW:TC:=lb 0 QxV
def QxX (x3:Int)(y1:Qf):VS:=Qfv.st ((),x3,()) (y1,())
def Qfw (x2:Int):VS:=QxT.st (x2,()) ()
def Qng (y1:Qf):VS:=QxU.st ((),()) (y1,())
def QNS:VS->Option (Bool×List (Bool×Exit×VS)):=mkL Qfv (fun x y=>(decide (0<=x.2.1/\x.2.1<=(QO y.1).length)&&XB (QO y.1))) (fun x y=>[((!Xa (QO y.1) x.2.1.toNat),.ret,Qfw (9)),(true,.exit 0,Qng (y.1))])
def Qnh:G:=gG 146 [(70,Qb1),(145,Qnc),(146,Qoy),(147,Qi3)] (Ls [QNS])
def Qfx (x3:Int)(y1:Qf):OX:=QB (QD Qnh Qnf QxW) (QxX x3 y1)
def Qa1 (kk:Int->Qf->OX)(x3:Int)(y1:Qf):OX:=
 let a1:=lgt .str y1.2.2.2.2.2.2.2.2.2.2.1 (Int.toNat x3)
 let a2:=cIx y1.2.2.2.2.2.2.2.2.2.2.1 x3
 br (ilt x3 (Qc y1.2.2.2.2.2.2.2.2.2.2.1)) (br a2 (br (JB a1) (br (!(JJ a1)) (some (.ret,Qfw 9)) (br (igt x3 0) (br (cIx y1.2.2.2.2.2.2.2.2.2.2.1 (QT .i64 x3 1)) (br a2 (br (!slt (lgt .str y1.2.2.2.2.2.2.2.2.2.2.1 (Int.toNat (QT .i64 x3 1))) a1) (some (.ret,Qfw 9)) (kk (Qk .i64 x3 1) y1)) none) none) (kk (Qk .i64 x3 1) y1))) none) none) (some (.exit 0,Qng y1))
def Qfy (x3:Int)(y1:Qf):OX:=br (!Xa (QO y1) x3.toNat) (some (.ret,Qfw (9)))<|some (.exit 0,Qng (y1))
theorem QxY (x3:Int)(y1:Qf):Qfx x3 y1=Qa1 Qfx x3 y1:=lnT (x:=Qa1 (fun x3 y1=>some (.normal,QxX x3 y1)) x3 y1) (by simp only [Qa1,nxA];rfl)
def Qni (p0:Qf):OV:=
 let a1:=(((((((((((((p0).2).2).2).2).2).2).2).2).2).2).2).1)
 br (igt (Qc p0.2.2.2.2.2.2.2.2.2.2.1) 8) (some (.t tI 9,[])) (br (decide (0<=(0:Int)/\(0:Int)<=(QO p0).length)&&XB (QO p0)) (br (!Xa (QO p0) (0:Int).toNat) (some (.t tI (9),[])) (br (ilt (a1.1) 0) (some (.t tI 9,[])) (br (igt (a1.1) 2147483648) (some (.t tI 9,[])) (br (ilt ((a1.2).1) 0) (some (.t tI 9,[])) (br (ige ((a1.2).1) 4294967296) (some (.t tI 9,[])) (some (.t tI 0,[]))))))) none)
def QxZ (p0:Qf):OV:=br (ilt p0.1 0) (some (.t tI 9,[])) (br (igt p0.1 1099511627776) (some (.t tI 9,[])) (br (JB p0.2.1) (br (!(JJ p0.2.1)) (some (.t tI 9,[])) (br (JB p0.2.2.1) (br (!(JJ p0.2.2.1)) (some (.t tI 9,[])) (br (!(EA p0.2.2.2.1)) (some (.t tI 9,[])) (br (ilt p0.2.2.2.2.1 0) (some (.t tI 9,[])) (br (igt p0.2.2.2.2.1 2147483648) (some (.t tI 9,[])) (br (!(Zr p0.2.2.2.2.2.1)) (some (.t tI 9,[])) (br (ine (ZM p0.2.2.2.2.2.1.1) 1) (some (.t tI 9,[])) (br (ilt p0.2.2.2.2.2.2.1 0) (some (.t tI 9,[])) (br (igt p0.2.2.2.2.2.2.1 p0.2.2.2.2.2.2.2.1) (some (.t tI 9,[])) (br (igt p0.2.2.2.2.2.2.2.1 40000) (some (.t tI 9,[])) (br (ilt p0.2.2.2.2.2.2.2.2.2.1 0) (some (.t tI 9,[])) (br (igt p0.2.2.2.2.2.2.2.2.2.1 8) (some (.t tI 9,[])) (br (!p0.2.2.2.2.2.2.2.2.1) (br (ine p0.2.2.2.2.2.2.2.2.2.1 0) (some (.t tI 9,[])) (Qni p0)) (Qni p0))))))))))))) none)) none))
theorem QNT (x3:Int)(y1:Qf)(h:(decide (0<=x3/\x3<=(QO y1).length)&&XB (QO y1))=true):Qfx x3 y1=Qfy x3 y1:=by
 simp only [Bc,Ba] at h
 obtain ⟨⟨h0,h1⟩,hn⟩:=h
 obtain ⟨k,rfl⟩:=Bm h0
 simp only [XB,Bc,Bg,Ba] at hn
 refine QW (QO y1) (fun k=>Qfx (k:Int) y1=Qfy (k:Int) y1) ?_ ?_ k (by omega)
 ·rw [QxY]
  simp only [Qa1,Qfy,show ilt ((QO y1).length:Int) (Qc (QO y1))=false from Bn (by simp only [Qc];omega),Qi,Bb,QxB,BC]
 ·intro k hk ih
  rw [QxY]
  have hx:=hn.2 (QO y1)[k] (BA hk)
  simp only [Qa1,show ilt (k:Int) (Qc (QO y1))=true from Bd (by simp only [Qc];omega),QS,hk,Bu,Qe,Bb,QU (show k<4611686018427387904 by omega),QX (y:= .str) hk,hx,ih]
  simp only [Qfy,Bb,QxC hk]
  cases hg:JJ (QO y1)[k] with
  |false=>rfl
  |true=>
   simp only [BC,Qi,BB]
   by_cases h0:k=0
   ·subst h0
    simp only [show igt ((0:Nat):Int) 0=false from rfl,Qi,Bu,Bool.true_or,BB]
   ·rcases QxK (l:=QO y1) (k:=k) (by omega) hk with ⟨e1,e2⟩|hb
    ·rw [show igt (k:Int) 0=true from Bd (by omega),Qe,e2,Bd (show k-1<(QO y1).length by omega),Qe,e1,Bn h0,Di]
     cases slt ((QO y1).getD (k-1) ByteArray.empty) (QO y1)[k]<;>rfl
    ·omega
theorem QNU:LO Qnh Qnf QxW 0:=QN (s:=Qfv) fun x y h _ q=>by simp only [QJ,QK] at q;exact (QNT x.2.1 y.1 h).trans q
theorem s_f130 (c:Qf)(h:Jr c=true):QxZ c=some (.t tI (We c),[]):=by
 simp only [Jr,Bc] at h
 obtain ⟨h1,h2,h3⟩:=h
 have hd:decide ((0:Int)<=0/\(0:Int)<=(QO c).length)=true:=Bd (by omega)
 unfold We
 simp only [QxZ,Qni,h1,h2,h3,hd,BX,Qe,Bt,Ez]
 refine br9 (fun g=>by simp [Q5,g]) fun g1=>br9 (fun g=>by simp [Q5,g]) fun g2=>br9 (fun g=>by simp only [By] at g;simp [Q5,g]) fun g3=>br9 (fun g=>by simp only [By] at g;simp [Q5,g]) fun g4=>br9 (fun g=>by simp only [By,EA] at g;simp [Q5,g]) fun g5=>br9 (fun g=>by simp [Q5,JI,g]) fun g6=>br9 (fun g=>by simp [Q5,JI,g]) fun g7=>br9 (fun g=>by simp only [By] at g;simp [Q5,J0,g]) fun g8=>br9 (fun g=>by simp only [By] at g;simp [Q5,J0,g]) fun g9=>br9 (fun g=>by simp [Q5,g]) fun g10=>br9 (fun g=>by simp [Q5,g]) fun g11=>br9 (fun g=>by simp [Q5,g]) fun g12=>br9 (fun g=>by simp [Q5,g]) fun g13=>br9 (fun g=>by simp [Q5,g]) fun g14=> ?_
 have tail: ∀ (hp:(c.2.2.2.2.2.2.2.2.1||ieq c.2.2.2.2.2.2.2.2.2.1 0)=true),br (igt (Qc (QO c)) 8) (some (V.t tI 9,([]:List VO))) (br (!Xa (QO c) 0) (some (V.t tI 9,[])) (br (ilt (Xb c).1 0) (some (V.t tI 9,[])) (br (igt (Xb c).1 2147483648) (some (V.t tI 9,[])) (br (ilt (Xb c).2.1 0) (some (V.t tI 9,[])) (br (ige (Xb c).2.1 4294967296) (some (V.t tI 9,[])) (some (V.t tI 0,[])))))))=some (V.t tI (bif Q5 c then 0 else 9),([]:List VO)):=by
  intro hp
  refine br9 (fun g=>by simp [Q5,Wd,g]) fun g15=>br9 (fun g=>by simp only [By] at g;simp [Q5,Wd,g]) fun g16=>br9 (fun g=>by simp [Q5,JI,g]) fun g17=>br9 (fun g=>by simp [Q5,JI,g]) fun g18=>br9 (fun g=>by simp [Q5,Uf,g]) fun g19=>br9 (fun g=>by simp [Q5,Uf,g]) fun g20=> ?_
  simp only [Bool.not_eq_false'] at g3 g4 g5 g8 g9 g16
  simp only [EA] at g5
  have:Q5 c=true:=by
   simp only [Q5,Wd,J0,JI,Uf,g1,g2,g3,g4,g6,g7,g8,g9,g10,g11,g12,g13,g14,g15,g16,g17,g18,g19,g20,hp,Dy,BX,BB]
   simpa only [J0,B8] using g5
  rw [this]
  rfl
 cases ha:c.2.2.2.2.2.2.2.2.1 with
 |true=>
  rw [BC,Qi]
  exact tail (by rw [ha];rfl)
 |false=>
  rw [Dy,Qe]
  refine br9 (fun g=>by simp only [By] at g;simp [Q5,ha,g]) fun g=> ?_
  exact tail (by simp only [Bool.not_eq_false'] at g;rw [g,Bool.or_true])
def Qa2:Ent:=Qq (.pr QE .nil) (fun x=>(Jr x.1)) (fun x=>(.t tI (We x.1)))
theorem Qfz:EM 130 Qa2:=mS (lk:=lkL (lkc QNU lkn)) Qnh QxV [((.t 2),some tI)] false (gB (gD QhD (gD QxP (gD QAr (gD Qrt gN))))) fun m=>Qu m fun x hok=>kT (s_f130 x.1 hok)
end
end Go.Proofs.YtckcgijklnloiaaGreat.K
noncomputable section
namespace Go.Proofs.YtckcgijklnloiaaGreat.K
open Go.RowKit
noncomputable section
theorem QEX (n:Int):(FV n).length<=8:=by
 rw [FV,QqJ]
 exact Qcx n
theorem E5 (n:Nat)(m:Int):okT (n+1) (Q0 m)=true:=by
 have:=QEX m
 show okV (n+1) (.mk 2 (FV m) false [])=true
 simp only [okV,List.isEmpty_nil,BM,Dw,B8,Bw]
 rw [Bd (by omega)]
 rfl
theorem QiO (n:Nat){s:ByteArray}(h:s.size<=100000):okT (n+1) (JC s)=true:=by
 have:=EJ s
 show okV (n+1) (.mk 12 (Jd s) false [])=true
 simp only [okV,List.isEmpty_nil,BM,Dw,B8,Bw]
 rw [Bd (by omega)]
 rfl
theorem QTq (n:Nat)(b:Bool):okT (n+1) (XK b)=true:=by cases b<;>rfl
theorem Qq1 {n:Nat}{l:List Qm}(hl:l.length<=100000)(h: ∀ x∈l,okT n x=true):okT (n+1) (Yi l)=true:=by
 show okV (n+1) (.mk 48 [] true (l.map Val.of))=true
 simp only [okV,List.isEmpty_nil,BZ,B8,Bw,BP,Bc,Bg,Dc]
 refine ⟨⟨⟨rfl,rfl⟩,Bd ⟨by omega,hl⟩⟩, ?_⟩
 rintro v ⟨x,hx,rfl⟩
 exact h x hx
theorem Qq2 {n:Nat}{l:List Qm}(hl:l.length<=100000)(h: ∀ x∈l,okT n x=true):ZL (n+1) l=true:=by
 simp only [ZL,Bc,Ba,Bg]
 exact ⟨hl,h⟩
theorem Vn (x:Qm):((x.1,(x.2.1,(x.2.2.1,(List.map Val.of (List.map Val.un x.2.2.2.1),())))):Qm)=x:=by
 rw [Fx]
theorem E6 (m:Int):(ZK (Q0 m)).length<=18:=by
 have h1:=QEX m
 have h2:=Vs ((FV m).length+0)
 rw [QcV]
 simp only [Q0,Z8,Bp,Bj,Bw]
 omega
theorem Qq3 (s:ByteArray):(ZK (JC s)).length<=10+s.size:=by
 have h1:=EJ s
 have h2:=Vs ((Jd s).length+0)
 rw [QcV]
 simp only [JC,Z8,Bp,Bj,Bw]
 omega
theorem QTr (b:Bool):(ZK (XK b)).length<=11:=by cases b<;>decide
theorem Qq4 (l:List Qm):(ZK (Yi l)).length<=10+(J8 l).length:=by
 have h2:=Vs (0+(Z8 (l.map Val.of)).length)
 rw [QcV]
 simp only [Yi,J8,Bp,Bj,Bw]
 omega
def ZJ (u:Qb):Qm:=Yi [Q0 u.1,Q0 u.2.1]
def Wo (u:Qb):Bool:=J6 u.1&&J6 u.2.1
theorem QEY (n:Nat)(u:Qb):okT (n+2) (ZJ u)=true:=
 Qq1 (by simp) fun x hx=>by
  simp only [BT,B0,Dn] at hx
  rcases hx with rfl|rfl<;>exact E5 _ _
theorem QEZ (u:Qb):(ZK (ZJ u)).length<=46:=by
 have h0:=Qq4 [Q0 u.1,Q0 u.2.1]
 have h1:=E6 u.1
 have h2:=E6 u.2.1
 simp only [GZ,Vr,Bj,Bw] at h0
 unfold ZJ
 omega
theorem QE0 (u:Qb):ZZ [Q0 u.1,Q0 u.2.1]=true:=
 Qq2 (n:=11) (by simp) fun x hx=>by
  simp only [BT,B0,Dn] at hx
  rcases hx with rfl|rfl<;>exact E5 _ _
def QTs:TC:=aF Tryz.f225 [(6,pD [(0,[1]),(1,[1]),(2,[]),(3,[1]),(4,[1]),(5,[]),(6,[]),(7,[]),(8,[2])] (.of [0,1,2,3,4,5,6,7,8]))]
def g_f225:G:=gG 11 [(223,Qjl),(224,Qpx)] (fun _ _=>none)
def QE1 (p0:Qb):OV:=
 let a1:=((Q0 p0.2.1).1,(((Q0 p0.2.1).2).1,((((Q0 p0.2.1).2).2).1,((List.map Val.of (List.map Val.un (((((Q0 p0.2.1).2).2).2).1))),()))))
 let a2:=((Q0 p0.1).1,(((Q0 p0.1).2).1,((((Q0 p0.1).2).2).1,((List.map Val.of (List.map Val.un (((((Q0 p0.1).2).2).2).1))),()))))
 br (J6 p0.1) (br (J6 p0.2.1) (br (ZZ ([a2,a1])) (some (.t Qw (Yi ([a2,a1])),[])) none) none) none
theorem s_f225 (u:Qb)(h:Wo u=true):QE1 u=some (.t Qw (ZJ u),[]):=by
 simp only [Wo,Bc] at h
 simp only [QE1,h.1,h.2,Vn,QE0,Qe]
 rfl
def QE2:Ent:=Qq (.pr Qh .nil) (fun x=>(Wo x.1)) (fun x=>(.t Qw (ZJ x.1)))
theorem QTt:EM 225 QE2:=mS g_f225 QTs [((.c 2 true 4),some Qw)] false (gB (gD QrQ (gD QB2 gN))) fun m=>Qu m fun x hok=>kT (s_f225 x.1 hok)
def QTu:TC:=aF Tryz.f188 [(6,pD [(0,[1]),(1,[1]),(2,[]),(3,[1]),(4,[1]),(5,[]),(6,[]),(7,[]),(8,[2])] (.of [0,1,2,3,4,5,6,7,8]))]
def g_f188:G:=gG 11 [(186,QrR),(187,QpD)] (fun _ _=>none)
def QE3 (p0:Qb):OV:=
 let a1:=((Q0 p0.2.1).1,(((Q0 p0.2.1).2).1,((((Q0 p0.2.1).2).2).1,((List.map Val.of (List.map Val.un (((((Q0 p0.2.1).2).2).2).1))),()))))
 let a2:=((Q0 p0.1).1,(((Q0 p0.1).2).1,((((Q0 p0.1).2).2).1,((List.map Val.of (List.map Val.un (((((Q0 p0.1).2).2).2).1))),()))))
 br (J6 p0.1) (br (J6 p0.2.1) (br (ZZ ([a2,a1])) (some (.t Qw (Yi ([a2,a1])),[])) none) none) none
theorem s_f188 (u:Qb)(h:Wo u=true):QE3 u=some (.t Qw (ZJ u),[]):=by
 simp only [Wo,Bc] at h
 simp only [QE3,h.1,h.2,Vn,QE0,Qe]
 rfl
def QE4:Ent:=Qq (.pr Qh .nil) (fun x=>(Wo x.1)) (fun x=>(.t Qw (ZJ x.1)))
theorem QTv:EM 188 QE4:=mS g_f188 QTu [((.c 2 true 4),some Qw)] false (gB (gD QGx (gD QB9 gN))) fun m=>Qu m fun x hok=>kT (s_f188 x.1 hok)
def UM (c:Qf):List Qm:=[Q0 c.1,JC c.2.1,JC c.2.2.1,ZJ c.2.2.2.1,Q0 c.2.2.2.2.1,ZJ c.2.2.2.2.2.1,Q0 c.2.2.2.2.2.2.1,Q0 c.2.2.2.2.2.2.2.1,XK c.2.2.2.2.2.2.2.2.1,Q0 c.2.2.2.2.2.2.2.2.2.1,Yi ((QO c).map JC)]
def XO (c:Qf):Qm:=Yi (UM c)
def Ur (c:Qf):Bool:=Jr c&&Q5 c
theorem QTw {u:Qb}(h:Zr u=true):0<=u.2.1/\u.2.1<=16384/\1<=u.1/\u.1<=22:=by
 simp only [Zr,Ba] at h
 have ham: ∀ (s t:List Int),(∀ x∈s,0<=x/\x<=16384)->ZN u.2.1 s t > 0->0<=u.2.1/\u.2.1<=16384:=by
  intro s t hs hg
  unfold ZN at hg
  split at hg
  ·rename_i k hk
   have hm:u.2.1∈s:=by
    have key: ∀ (s:List Int) (k:Nat),J7 u.2.1 s=some k->u.2.1∈s:=by
     intro s
     induction s with
     |nil=>intro k hk;cases hk
     |cons a s ih=>
      intro k hk
      unfold J7 at hk
      split at hk
      ·rename_i ha
       have:=eq_of_beq ha
       rw [this];exact B7
      ·obtain ⟨j,hj,_⟩:=Bk.1 hk
       exact BU _ (ih j hj)
    exact key s k hk
   exact hs _ hm
  ·omega
 rw [←and_assoc]
 unfold Wp at h
 repeat' split at h
 ·refine ⟨?_,by omega⟩
  unfold FX at h
  split at h<;>omega
 ·refine ⟨?_,by omega⟩
  unfold Vp at h
  split at h
  ·rename_i hc
   simp only [QY,BN,BT,B0,Dn] at hc
   omega
  ·omega
 ·exact ⟨ham _ _ (by simp) h,by omega⟩
 ·exact ⟨ham _ _ (by simp) h,by omega⟩
 ·exact ⟨ham _ _ (by simp) h,by omega⟩
 ·exact ⟨ham _ _ (by simp) h,by omega⟩
 ·exact ⟨ham _ _ (by simp) h,by omega⟩
 ·refine ⟨ham _ _ (by simp) h, ?_⟩
  unfold ZN at h
  split at h
  ·rename_i k hk
   unfold J7 at hk
   split at hk
   ·injection hk with hk
    subst hk
    simp only [List.getD_cons_zero,Us] at h
    repeat' split at h
    all_goals omega
   ·cases hk
  ·omega
theorem QE5 {u:Qb}{k:Int}(h:J0 u k=true):Wo u=true:=by
 simp only [J0,Bc] at h
 have:=QTw h.1
 simp only [Wo,J6,Bc,Ba]
 omega
theorem Qq5 {s:ByteArray}(h:JJ s=true):s.size<=32:=by
 simp only [JJ,Bc,Ba] at h
 exact h.2.2
theorem QTx {l:List ByteArray}: ∀ {k:Nat},Xa l k=true→ ∀ j (hj:j<l.length),k<=j->JJ l[j]=true:=by
 intro k h j hj hk
 simp only [Xa,Bg,List.mem_range'_1,Bc] at h
 have:=(h j ⟨hk,by omega⟩).1
 simpa only [Bo,Bl hj,BK] using this
theorem QTy {l:List ByteArray}(h:Wd l=true):l.length<=8∧ ∀ s∈l,s.size<=32:=by
 simp only [Wd,Bc,By,igt,Qc,Bq] at h
 refine ⟨by omega,fun s hs=> ?_⟩
 obtain ⟨j,hj,rfl⟩:=List.mem_iff_getElem.1 hs
 exact Qq5 (QTx h.1 j hj (B2 _))
theorem QcE {c:Qf}(h:Q5 c=true):J6 c.1=true/\c.2.1.size<=32/\c.2.2.1.size<=32/\Wo c.2.2.2.1=true/\J6 c.2.2.2.2.1=true/\Wo c.2.2.2.2.2.1=true/\J6 c.2.2.2.2.2.2.1=true/\J6 c.2.2.2.2.2.2.2.1=true/\J6 c.2.2.2.2.2.2.2.2.2.1=true/\(QO c).length<=8∧ ∀ s∈QO c,s.size<=32:=by
 simp only [Q5,JI,Bc,By,ilt,igt,Bq] at h
 obtain ⟨h1,h2,h3,h4,h5,h6,⟨h7,h7'⟩,h8,⟨h9,h9'⟩,h10,h11,h12,h13,h14,h15,h16⟩:=h
 have hn:=QTy h5
 refine ⟨Bd (by omega),Qq5 h3,Qq5 h4,QE5 h6,Bd (by omega),QE5 h8,Bd (by omega),Bd (by omega),Bd (by omega),hn.1,hn.2⟩
theorem QTz (n:Nat){l:List ByteArray}(h:l.length<=8)(hs: ∀ s∈l,s.size<=32):okT (n+2) (Yi (l.map JC))=true:=
 Qq1 (by rw [BP];omega) fun x hx=>by
  obtain ⟨s,hm,rfl⟩:=Dc.1 hx
  exact QiO _ (by have:=hs s hm;omega)
theorem QE6 (n:Nat){c:Qf}(h:Q5 c=true): ∀ x∈UM c,okT (n+2) x=true:=by
 obtain ⟨h1,h2,h3,h4,h5,h6,h7,h8,h9,h10,h11⟩:=QcE h
 intro x hx
 simp only [UM,BT,B0,Dn] at hx
 rcases hx with rfl|rfl|rfl|rfl|rfl|rfl|rfl|rfl|rfl|rfl|rfl
 ·exact E5 _ _
 ·exact QiO _ (by omega)
 ·exact QiO _ (by omega)
 ·exact QEY _ _
 ·exact E5 _ _
 ·exact QEY _ _
 ·exact E5 _ _
 ·exact E5 _ _
 ·exact QTq _ _
 ·exact E5 _ _
 ·exact QTz _ h10 h11
theorem QE7: ∀ {l:List ByteArray},(∀ s∈l,s.size<=32)->(J8 (l.map JC)).length<=42*l.length
 | [],_=>by simp [Vr]
 |s::l,h=>by
  have h1:=h s (by simp)
  have h2:=Qq3 s
  have h3:=QE7 (l:=l) fun u hu=>h u (by simp [hu])
  rw [BJ,GZ,Bj,Bp]
  omega
theorem Qq6 {c:Qf}(h:Q5 c=true):(ZK (XO c)).length<=1000:=by
 obtain ⟨h1,h2,h3,h4,h5,h6,h7,h8,h9,h10,h11⟩:=QcE h
 have e0:=Qq4 (UM c)
 have e1:=E6 c.1
 have e2:=Qq3 c.2.1
 have e3:=Qq3 c.2.2.1
 have e4:=QEZ c.2.2.2.1
 have e5:=E6 c.2.2.2.2.1
 have e6:=QEZ c.2.2.2.2.2.1
 have e7:=E6 c.2.2.2.2.2.2.1
 have e8:=E6 c.2.2.2.2.2.2.2.1
 have e9:=QTr c.2.2.2.2.2.2.2.2.1
 have e10:=E6 c.2.2.2.2.2.2.2.2.2.1
 have e11:=Qq4 ((QO c).map JC)
 have e12:=QE7 h11
 simp only [UM,GZ,Vr,Bj,Bw] at e0
 unfold XO
 simp only [UM]
 omega
theorem QE8 {c:Qf}(h:Q5 c=true):Yh (XO c)=true:=by
 have:=Qq6 h
 simp only [Yh,Bc,Ba]
 refine ⟨Qq1 (by simp [UM]) (QE6 9 h),by omega⟩
theorem QE9 {c:Qf}(h:Q5 c=true):ZZ ((QO c).map JC)=true:=by
 obtain ⟨h1,h2,h3,h4,h5,h6,h7,h8,h9,h10,h11⟩:=QcE h
 exact Qq2 (n:=11) (by rw [BP];omega) fun x hx=>by
  obtain ⟨s,hm,rfl⟩:=Dc.1 hx
  exact QiO _ (by have:=h11 s hm;omega)
theorem QFa {c:Qf}(h:Q5 c=true):ZZ (UM c)=true:=Qq2 (n:=11) (by simp [UM]) (QE6 9 h)
theorem Vo {s:ByteArray}(h:s.size<=32):Yq s=true:=Bd (by omega)
abbrev QiP:Sh:=⟨[(1,.ptr 1 0),(2,.ptr 2 0),(3,.ms 3),(7,.ty (.sl .str)),(8,.ty tI),(9,.ty tI)],[(1,.box QE),(2,.box Qw),(3,.arr 202 Qw),(17,.no)]⟩
abbrev QFb:Sh:=⟨[(1,.ptr 1 0),(2,.ptr 2 0),(3,.ms 3)],[(1,.box QE),(2,.box Qw),(3,.arr 202 Qw),(17,.no)]⟩
def Qq7:Fg:=QiP.f
def QFc:TC:=aF Tryz.f202 [(58,.nw 3 202),(58,pL 0 Qq7),(933,.fg QFb.f),(30,pD [(0,[1]),(1,[1]),(2,[]),(3,[1]),(4,[1]),(5,[]),(6,[1]),(7,[1]),(8,[]),(9,[1]),(10,[1]),(11,[]),(12,[1]),(13,[1]),(14,[]),(15,[1]),(16,[1]),(17,[]),(18,[1]),(19,[1]),(20,[]),(21,[1]),(22,[1]),(23,[]),(24,[1]),(25,[1]),(26,[]),(27,[1]),(28,[1]),(29,[]),(30,[3,17]),(31,[3,17,50,5050,10050,15050]),(32,[]),(33,[]),(34,[2])] (.of [0,1,2,3,4,5,6,7,8,9,10,11,12,13,14,15,16,17,18,19,20,21,22,23,24,25,26,27,28,29,30,31,32,33,34]))]
def QFd:TC:=lb 0 QFc
def QFe (x7:List ByteArray)(x8 x9:Int)(y1:Qf)(y2:Qm)(y3:List Qm):VS:=QiP.st ((),(),(),x7,x8,x9,()) (y1,y2,y3,(),())
def Qq8 (y1:Qf)(y2:Qm)(y3:List Qm):VS:=QFb.st ((),(),(),()) (y1,y2,y3,(),())
def QTA:VS->Option (Bool×List (Bool×Exit×VS)):=mkL QiP (fun x y=>(Qz x.2.2.2.1 x.2.2.2.2.1 x.2.2.2.2.2.1&&decide (y.2.2.1.length<=x.2.2.2.2.2.1.toNat/\x.2.2.2.1.length<=8)&&x.2.2.2.1.all fun s=>decide (s.size<=32))) (fun x y=>[(true,.exit 0,Qq8 (y.1) (y.2.1) (y.2.2.1++(x.2.2.2.1.drop x.2.2.2.2.2.1.toNat).map JC))])
def Qq9:G:=gG 53 [(222,QCb),(223,Qjl),(224,Qpx),(225,QE2),(226,QCe),(227,QGv)] (Ls [QTA])
def QiQ (x7:List ByteArray)(x8 x9:Int)(y1:Qf)(y2:Qm)(y3:List Qm):OX:=QB (QD Qq9 Qq7 QFd) (QFe x7 x8 x9 y1 y2 y3)
def QcF (kk:List ByteArray->Int->Int->Qf->Qm->List Qm->OX)(x7:List ByteArray)(x8 x9:Int)(y1:Qf)(y2:Qm)(y3:List Qm):OX:=
 let a1:=((JC (lgt .str x7 (Int.toNat x9))).1,(((JC (lgt .str x7 (Int.toNat x9))).2).1,((((JC (lgt .str x7 (Int.toNat x9))).2).2).1,((List.map Val.of (List.map Val.un (((((JC (lgt .str x7 (Int.toNat x9))).2).2).2).1))),()))))
 br (ilt x9 x8) (br (cIx x7 x9) (br (Yq (lgt .str x7 (Int.toNat x9))) (br (Qr y3 ([a1]) 64) (kk x7 x8 (Qk .i64 x9 1) y1 y2 (y3++([a1]))) none) none) none) (some (.exit 0,Qq8 y1 y2 y3))
def QiR (x7:List ByteArray)(x8 x9:Int)(y1:Qf)(y2:Qm)(y3:List Qm):OX:=some (.exit 0,Qq8 (y1) (y2) (y3++(x7.drop x9.toNat).map JC))
theorem QFf (x7:List ByteArray)(x8 x9:Int)(y1:Qf)(y2:Qm)(y3:List Qm):QiQ x7 x8 x9 y1 y2 y3=QcF QiQ x7 x8 x9 y1 y2 y3:=lnT (x:=QcF (fun x7 x8 x9 y1 y2 y3=>some (.normal,QFe x7 x8 x9 y1 y2 y3)) x7 x8 x9 y1 y2 y3) (by simp only [QcF,nxA];rfl)
def QFg (p0:Qf):OV:=
 let a3:=((((p0).2).2).2)
 let a1:=((a3.2).2)
 let a2:=(Yi (([]:List Qm)++(p0.2.2.2.2.2.2.2.2.2.2.1.drop (0:Int).toNat).map JC))
 let a4:=((Q0 (((((a1.2).2).2).2).1)).1,(((Q0 (((((a1.2).2).2).2).1)).2).1,((((Q0 (((((a1.2).2).2).2).1)).2).2).1,((List.map Val.of (List.map Val.un (((((Q0 (((((a1.2).2).2).2).1)).2).2).2).1))),()))))
 let a5:=((XK ((((a1.2).2).2).1)).1,(((XK ((((a1.2).2).2).1)).2).1,((((XK ((((a1.2).2).2).1)).2).2).1,((List.map Val.of (List.map Val.un (((((XK ((((a1.2).2).2).1)).2).2).2).1))),()))))
 let a6:=((JC ((((p0).2).2).1)).1,(((JC ((((p0).2).2).1)).2).1,((((JC ((((p0).2).2).1)).2).2).1,((List.map Val.of (List.map Val.un (((((JC ((((p0).2).2).1)).2).2).2).1))),()))))
 let a7:=((Q0 (((a1.2).2).1)).1,(((Q0 (((a1.2).2).1)).2).1,((((Q0 (((a1.2).2).1)).2).2).1,((List.map Val.of (List.map Val.un (((((Q0 (((a1.2).2).1)).2).2).2).1))),()))))
 let a8:=((JC (((p0).2).1)).1,(((JC (((p0).2).1)).2).1,((((JC (((p0).2).1)).2).2).1,((List.map Val.of (List.map Val.un (((((JC (((p0).2).1)).2).2).2).1))),()))))
 let a9:=((Q0 ((a3.2).1)).1,(((Q0 ((a3.2).1)).2).1,((((Q0 ((a3.2).1)).2).2).1,((List.map Val.of (List.map Val.un (((((Q0 ((a3.2).1)).2).2).2).1))),()))))
 let a10:=((Q0 ((a1.2).1)).1,(((Q0 ((a1.2).1)).2).1,((((Q0 ((a1.2).1)).2).2).1,((List.map Val.of (List.map Val.un (((((Q0 ((a1.2).1)).2).2).2).1))),()))))
 let a11:=((Q0 ((p0).1)).1,(((Q0 ((p0).1)).2).1,((((Q0 ((p0).1)).2).2).1,((List.map Val.of (List.map Val.un (((((Q0 ((p0).1)).2).2).2).1))),()))))
 let a12:=((ZJ (a3.1)).1,(((ZJ (a3.1)).2).1,((((ZJ (a3.1)).2).2).1,((List.map Val.of (List.map Val.un (((((ZJ (a3.1)).2).2).2).1))),()))))
 let a13:=((ZJ (a1.1)).1,(((ZJ (a1.1)).2).1,((((ZJ (a1.1)).2).2).1,((List.map Val.of (List.map Val.un (((((ZJ (a1.1)).2).2).2).1))),()))))
 let a14:=((a2.2).1,(((a2.2).2).1,((List.map Val.of (List.map Val.un ((((a2.2).2).2).1))),())))
 br (Qz p0.2.2.2.2.2.2.2.2.2.2.1 (Qc p0.2.2.2.2.2.2.2.2.2.2.1) (0:Int)&&decide (([]:List Qm).length<=(0:Int).toNat/\p0.2.2.2.2.2.2.2.2.2.2.1.length<=8)&&p0.2.2.2.2.2.2.2.2.2.2.1.all fun s=>decide (s.size<=32)) (br (J6 ((p0).1)) (br (Yq (((p0).2).1)) (br (Yq ((((p0).2).2).1)) (br (Wo (a3.1)) (br (J6 ((a3.2).1)) (br (Wo (a1.1)) (br (J6 ((a1.2).1)) (br (J6 (((a1.2).2).1)) (br (J6 (((((a1.2).2).2).2).1)) (br (ZZ (([]:List Qm)++(p0.2.2.2.2.2.2.2.2.2.2.1.drop (0:Int).toNat).map JC)) (br (ZZ ([a11,a8,a6,a12,a9,a13,a10,a7,a5,a4,(a2.1,a14)])) (some (.t Qw (Yi ([a11,a8,a6,a12,a9,a13,a10,a7,a5,a4,(a2.1,a14)])),[])) none) none) none) none) none) none) none) none) none) none) none) none
theorem QTB (x7:List ByteArray)(x8 x9:Int)(y1:Qf)(y2:Qm)(y3:List Qm)(h:(Qz x7 x8 x9&&decide (y3.length<=x9.toNat/\x7.length<=8)&&x7.all fun s=>decide (s.size<=32))=true):QiQ x7 x8 x9 y1 y2 y3=QiR x7 x8 x9 y1 y2 y3:=by
 simp only [Bc,Ba,Bg] at h
 obtain ⟨⟨h0,h1,h2⟩,hn⟩:=h
 obtain ⟨rfl,h3,k,rfl,hk⟩:=Js h0
 clear h0
 rw [Bb] at h1
 revert y3
 refine QW x7 (fun k=> ∀ y3:List Qm,y3.length<=k->QiQ x7 (x7.length:Int) (k:Int) y1 y2 y3=QiR x7 (x7.length:Int) (k:Int) y1 y2 y3) ?_ ?_ k hk
 ·intro y3 _
  rw [QFf]
  simp only [QcF,QiR,QC,BI,BQ,Qi,Bb,BE,Dx,BG]
 ·intro k hk ih y3 hy
  rw [QFf]
  have hx:=hn x7[k] (BA hk)
  simp only [QcF,QC,QS,hk,Bu,Qe,Bb,QU (show k<4611686018427387904 by omega),QX (y:= .str) hk,Vo hx,Vn]
  rw [Q7 (by omega) (by simp only [Bh];omega),Qe,ih _ (by simp only [Bj,Bh];omega)]
  simp only [QiR,Bb,Bi hk,BJ,BF,BD]
theorem QTC:LO Qq9 Qq7 QFd 0:=QN (s:=QiP) fun x y h _ q=>by simp only [QJ,QK] at q;exact (QTB x.2.2.2.1 x.2.2.2.2.1 x.2.2.2.2.2.1 y.1 y.2.1 y.2.2.1 h).trans q
theorem s_f202 (c:Qf)(h:Ur c=true):QFg c=some (.t Qw (XO c),[]):=by
 simp only [Ur,Bc] at h
 obtain ⟨_,hv⟩:=h
 obtain ⟨h1,h2,h3,h4,h5,h6,h7,h8,h9,h10,h11⟩:=QcE hv
 have hc:=QE9 hv
 have hp:=QFa hv
 have ha:((QO c).all fun s=>decide (s.size<=32))=true:=Bg.2 fun s hs=>Bd (h11 s hs)
 have hl:([]:List Qm).length<=0/\(QO c).length<=8:=⟨by simp,h10⟩
 simp only [UM] at hp
 simp only [QFg,Jy (show (QO c).length<=100000 by omega),ha,BX,h1,Vo h2,Vo h3,h4,h5,h6,h7,h8,h9,Qe,Bt,Bx,BO,Vn,hc,hp]
 rw [Bd hl]
 rfl
def QFh:Ent:=Qq (.pr QE .nil) (fun x=>(Ur x.1)) (fun x=>(.t Qw (XO x.1)))
theorem QTD:EM 202 QFh:=mS (lk:=lkL (lkc QTC lkn)) Qq9 QFc [((.c 2 true 4),some Qw)] false (gB (gD QRo (gD QrQ (gD QB2 (gD QTt (gD QRs (gD QUM gN))))))) fun m=>Qu m fun x hok=>kT (s_f202 x.1 hok)
abbrev QiS:Sh:=⟨[(1,.ptr 1 0),(2,.ptr 2 0),(3,.ms 3),(4,.ty tI)],[(1,.box QE),(2,.box Qw),(3,.arr 202 Qw),(20,.no)]⟩
abbrev QFi:Sh:=⟨[(1,.ptr 1 0),(2,.ptr 2 0),(3,.ms 3)],[(1,.box QE),(2,.box Qw),(3,.arr 202 Qw),(20,.no)]⟩
def Qra:Fg:=QiS.f
def QFj:TC:=aF Tryz.f158 [(58,.nw 3 202),(58,pL 0 Qra),(931,.fg QFi.f),(30,pD [(0,[1]),(1,[1]),(2,[]),(3,[1]),(4,[1]),(5,[]),(6,[1]),(7,[1]),(8,[]),(9,[1]),(10,[1]),(11,[]),(12,[1]),(13,[1]),(14,[]),(15,[1]),(16,[1]),(17,[]),(18,[1]),(19,[1]),(20,[]),(21,[1]),(22,[1]),(23,[]),(24,[1]),(25,[1]),(26,[]),(27,[1]),(28,[1]),(29,[]),(30,[3,20]),(31,[3,20,52,5052,10052,15052]),(32,[]),(33,[]),(34,[2])] (.of [0,1,2,3,4,5,6,7,8,9,10,11,12,13,14,15,16,17,18,19,20,21,22,23,24,25,26,27,28,29,30,31,32,33,34]))]
def QFk:TC:=lb 0 QFj
def QFl (x4:Int)(y1:Qf)(y2:Qm)(y3:List Qm):VS:=QiS.st ((),(),(),x4,()) (y1,y2,y3,(),())
def Qrb (y1:Qf)(y2:Qm)(y3:List Qm):VS:=QFi.st ((),(),(),()) (y1,y2,y3,(),())
def QTE:VS->Option (Bool×List (Bool×Exit×VS)):=mkL QiS (fun x y=>(decide (0<=x.2.2.2.1/\x.2.2.2.1<=(QO y.1).length/\y.2.2.1.length<=x.2.2.2.1.toNat/\(QO y.1).length<=8)&&(QO y.1).all fun s=>decide (s.size<=32))) (fun x y=>[(true,.exit 0,Qrb (y.1) (y.2.1) (y.2.2.1++((QO y.1).drop x.2.2.2.1.toNat).map JC))])
def Qrc:G:=gG 55 [(185,QCd),(186,QrR),(187,QpD),(188,QE4),(189,QCf)] (Ls [QTE])
def QiT (x4:Int)(y1:Qf)(y2:Qm)(y3:List Qm):OX:=QB (QD Qrc Qra QFk) (QFl x4 y1 y2 y3)
def QcG (kk:Int->Qf->Qm->List Qm->OX)(x4:Int)(y1:Qf)(y2:Qm)(y3:List Qm):OX:=
 let a1:=JC (lgt .str y1.2.2.2.2.2.2.2.2.2.2.1 (Int.toNat x4))
 let a2:=((a1.2).1,(((a1.2).2).1,((List.map Val.of (List.map Val.un ((((a1.2).2).2).1))),())))
 br (ilt x4 (Qc y1.2.2.2.2.2.2.2.2.2.2.1)) (br (cIx y1.2.2.2.2.2.2.2.2.2.2.1 x4) (br (Yq (lgt .str y1.2.2.2.2.2.2.2.2.2.2.1 (Int.toNat x4))) (br (Qr y3 ([(a1.1,a2)]) 64) (kk (Qk .i64 x4 1) y1 y2 (y3++([(a1.1,a2)]))) none) none) none) (some (.exit 0,Qrb y1 y2 y3))
def QiU (x4:Int)(y1:Qf)(y2:Qm)(y3:List Qm):OX:=some (.exit 0,Qrb (y1) (y2) (y3++((QO y1).drop x4.toNat).map JC))
theorem QFm (x4:Int)(y1:Qf)(y2:Qm)(y3:List Qm):QiT x4 y1 y2 y3=QcG QiT x4 y1 y2 y3:=lnT (x:=QcG (fun x4 y1 y2 y3=>some (.normal,QFl x4 y1 y2 y3)) x4 y1 y2 y3) (by simp only [QcG,nxA];rfl)
def QFn (p0:Qf):OV:=
 let a3:=((((p0).2).2).2)
 let a1:=((a3.2).2)
 let a2:=(Yi (([]:List Qm)++((QO p0).drop (0:Int).toNat).map JC))
 let a4:=((Q0 (((((a1.2).2).2).2).1)).1,(((Q0 (((((a1.2).2).2).2).1)).2).1,((((Q0 (((((a1.2).2).2).2).1)).2).2).1,((List.map Val.of (List.map Val.un (((((Q0 (((((a1.2).2).2).2).1)).2).2).2).1))),()))))
 let a5:=((XK ((((a1.2).2).2).1)).1,(((XK ((((a1.2).2).2).1)).2).1,((((XK ((((a1.2).2).2).1)).2).2).1,((List.map Val.of (List.map Val.un (((((XK ((((a1.2).2).2).1)).2).2).2).1))),()))))
 let a6:=((JC ((((p0).2).2).1)).1,(((JC ((((p0).2).2).1)).2).1,((((JC ((((p0).2).2).1)).2).2).1,((List.map Val.of (List.map Val.un (((((JC ((((p0).2).2).1)).2).2).2).1))),()))))
 let a7:=((Q0 (((a1.2).2).1)).1,(((Q0 (((a1.2).2).1)).2).1,((((Q0 (((a1.2).2).1)).2).2).1,((List.map Val.of (List.map Val.un (((((Q0 (((a1.2).2).1)).2).2).2).1))),()))))
 let a8:=((JC (((p0).2).1)).1,(((JC (((p0).2).1)).2).1,((((JC (((p0).2).1)).2).2).1,((List.map Val.of (List.map Val.un (((((JC (((p0).2).1)).2).2).2).1))),()))))
 let a9:=((Q0 ((a3.2).1)).1,(((Q0 ((a3.2).1)).2).1,((((Q0 ((a3.2).1)).2).2).1,((List.map Val.of (List.map Val.un (((((Q0 ((a3.2).1)).2).2).2).1))),()))))
 let a10:=((Q0 ((a1.2).1)).1,(((Q0 ((a1.2).1)).2).1,((((Q0 ((a1.2).1)).2).2).1,((List.map Val.of (List.map Val.un (((((Q0 ((a1.2).1)).2).2).2).1))),()))))
 let a11:=((Q0 ((p0).1)).1,(((Q0 ((p0).1)).2).1,((((Q0 ((p0).1)).2).2).1,((List.map Val.of (List.map Val.un (((((Q0 ((p0).1)).2).2).2).1))),()))))
 let a12:=((ZJ (a3.1)).1,(((ZJ (a3.1)).2).1,((((ZJ (a3.1)).2).2).1,((List.map Val.of (List.map Val.un (((((ZJ (a3.1)).2).2).2).1))),()))))
 let a13:=((ZJ (a1.1)).1,(((ZJ (a1.1)).2).1,((((ZJ (a1.1)).2).2).1,((List.map Val.of (List.map Val.un (((((ZJ (a1.1)).2).2).2).1))),()))))
 let a14:=((a2.2).1,(((a2.2).2).1,((List.map Val.of (List.map Val.un ((((a2.2).2).2).1))),())))
 br (decide (0<=(0:Int)/\(0:Int)<=(QO p0).length/\([]:List Qm).length<=(0:Int).toNat/\(QO p0).length<=8)&&(QO p0).all fun s=>decide (s.size<=32)) (br (J6 ((p0).1)) (br (Yq (((p0).2).1)) (br (Yq ((((p0).2).2).1)) (br (Wo (a3.1)) (br (J6 ((a3.2).1)) (br (Wo (a1.1)) (br (J6 ((a1.2).1)) (br (J6 (((a1.2).2).1)) (br (J6 (((((a1.2).2).2).2).1)) (br (ZZ (([]:List Qm)++((QO p0).drop (0:Int).toNat).map JC)) (br (ZZ ([a11,a8,a6,a12,a9,a13,a10,a7,a5,a4,(a2.1,a14)])) (some (.t Qw (Yi ([a11,a8,a6,a12,a9,a13,a10,a7,a5,a4,(a2.1,a14)])),[])) none) none) none) none) none) none) none) none) none) none) none) none
theorem QTF (x4:Int)(y1:Qf)(y2:Qm)(y3:List Qm)(h:(decide (0<=x4/\x4<=(QO y1).length/\y3.length<=x4.toNat/\(QO y1).length<=8)&&(QO y1).all fun s=>decide (s.size<=32))=true):QiT x4 y1 y2 y3=QiU x4 y1 y2 y3:=by
 simp only [Bc,Ba,Bg] at h
 obtain ⟨⟨h0,h1,h2,h3⟩,hn⟩:=h
 obtain ⟨k,rfl⟩:=Bm h0
 rw [Bb] at h2
 revert y3
 refine QW (QO y1) (fun k=> ∀ y3:List Qm,y3.length<=k->QiT (k:Int) y1 y2 y3=QiU (k:Int) y1 y2 y3) ?_ ?_ k (by omega)
 ·intro y3 _
  rw [QFm]
  simp only [QcG,QiU,show ilt ((QO y1).length:Int) (Qc (QO y1))=false from Bn (by simp only [Qc];omega),Qi,Bb,BE,Dx,BG]
 ·intro k hk ih y3 hy
  rw [QFm]
  have hx:=hn (QO y1)[k] (BA hk)
  simp only [QcG,show ilt (k:Int) (Qc (QO y1))=true from Bd (by simp only [Qc];omega),QS,hk,Bu,Qe,Bb,QU (show k<4611686018427387904 by omega),QX (y:= .str) hk,Vo hx,Vn]
  rw [Q7 (by omega) (by simp only [Bh];omega),Qe,ih _ (by simp only [Bj,Bh];omega)]
  simp only [QiU,Bb,Bi hk,BJ,BF,BD]
theorem QTG:LO Qrc Qra QFk 0:=QN (s:=QiS) fun x y h _ q=>by simp only [QJ,QK] at q;exact (QTF x.2.2.2.1 y.1 y.2.1 y.2.2.1 h).trans q
theorem s_f158 (c:Qf)(h:Ur c=true):QFn c=some (.t Qw (XO c),[]):=by
 simp only [Ur,Bc] at h
 obtain ⟨_,hv⟩:=h
 obtain ⟨h1,h2,h3,h4,h5,h6,h7,h8,h9,h10,h11⟩:=QcE hv
 have hc:=QE9 hv
 have hp:=QFa hv
 have ha:((QO c).all fun s=>decide (s.size<=32))=true:=Bg.2 fun s hs=>Bd (h11 s hs)
 have hl:(0:Int)<=0/\(0:Int)<=(QO c).length/\([]:List Qm).length<=0/\(QO c).length<=8:=⟨by omega,by omega,by simp,h10⟩
 simp only [UM] at hp
 simp only [QFn,ha,BX,h1,Vo h2,Vo h3,h4,h5,h6,h7,h8,h9,Qe,Bt,Bx,BO,Vn,hc,hp]
 rw [Bd hl]
 rfl
def QFo:Ent:=Qq (.pr QE .nil) (fun x=>(Ur x.1)) (fun x=>(.t Qw (XO x.1)))
theorem QTH:EM 158 QFo:=mS (lk:=lkL (lkc QTG lkn)) Qrc QFj [((.c 2 true 4),some Qw)] false (gB (gD QRq (gD QGx (gD QB9 (gD QTv (gD QRu gN)))))) fun m=>Qu m fun x hok=>kT (s_f158 x.1 hok)
end
end Go.Proofs.YtckcgijklnloiaaGreat.K
