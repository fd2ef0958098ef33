import Derived.Test.YtkmobehaikjdjaaGreatQ4
import Derived.Test.YtkmobehaikjdjaaGreatQ8
import Derived.Test.YtkmobehaikjdjaaGreatQ3
import Derived.RangeFuncCalls
import Derived.RangeFuncBound
import Derived.Shelf.RegionOpen
import Derived.OwnWalkIn
import Derived.TacticsInMore
import Derived.LoopNIn
import Derived.LoopIn
import Derived.Maps.RangeWalk
import Derived.Maps.Own
import Derived.Maps.Views
set_option maxRecDepth 100000
set_option linter.unusedSimpArgs false
set_option linter.unusedVariables false
noncomputable section
namespace Go.Proofs.YtkmobehaikjdjaaGreat
namespace K
open Go.RowKit
def YG (r:Ai):Bool:=decide (0<=r.Alg/\r.Alg<=22/\0<=r.Below/\r.Below<=16384/\0<=r.Purpose/\r.Purpose<=4/\0<=r.From/\r.From<r.To/\r.To<=40001)
def YH (k:Aa):Bool:=decide (1<=k.1/\k.1<=4/\0<=k.2.1/\k.2.1<=40000)
def Z9 (r:Ai):Bool:= !YG r
def Ya (k:Aa):Bool:= !YH k
def QU2:TC:=aF Tryz.f106 []
def g_f106:G:=gG 48 [] (fun _ _=>none)
def QE5 (p0:Ai):OV:=br (ige p0.2.1 0) (br (ile p0.2.1 22) (br (ige p0.2.2.1 0) (br (ile p0.2.2.1 16384) (br (ige p0.2.2.2.1 0) (br (ile p0.2.2.2.1 4) (br (ige p0.2.2.2.2.1 0) (br (ilt p0.2.2.2.2.1 p0.2.2.2.2.2.1) (some (.t .bool (ile p0.2.2.2.2.2.1 40001),[])) (some (.t .bool false,[]))) (some (.t .bool false,[]))) (some (.t .bool false,[]))) (some (.t .bool false,[]))) (some (.t .bool false,[]))) (some (.t .bool false,[]))) (some (.t .bool false,[]))) (some (.t .bool false,[]))
theorem s_f106 (r):QE5 r=some (.t .bool (YG r),[]):=by
 simp only [QE5]
 repeat' (refine Q1 ?_ ?_<;>intro _)
 all_goals simp only [ige,ile,ilt,Ba,Bo,Aa.Alg,Ae.Purpose,Ab.L,Ag.Purpose,Ai.Alg,Ai.Below,Ai.Purpose,Ai.From,Ai.To,Ak.p,Ak.l,Ak.o,Ak.day,Aq.outcome,Aq.uses,Af.From,Af.To,An.server,An.version,An.suites,Ar.name,Ar.kind,Al.name,Al.kind,Al.way,Al.sizes,Al.strengths] at*
 all_goals (apply Fo;unfold YG;rw [Dq];simp only [ige,ile,ilt,Ba,Aa.Alg,Ae.Purpose,Ab.L,Ag.Purpose,Ai.Alg,Ai.Below,Ai.Purpose,Ai.From,Ai.To,Ak.p,Ak.l,Ak.o,Ak.day,Aq.outcome,Aq.uses,Af.From,Af.To,An.server,An.version,An.suites,Ar.name,Ar.kind,Al.name,Al.kind,Al.way,Al.sizes,Al.strengths,BE,false_iff];omega)
def QE6:Ent:=Qm (.pr Jz .nil) (fun x=>true) (fun x=>(.t .bool (YG x.1)))
theorem QU3:EM 106 QE6:=mS g_f106 QU2 [((.t 2),some .bool)] false (gB gN) fun m=>Qq m fun x _=>kT (s_f106 x.1)
def QU4:TC:=aF Tryz.f109 []
def g_f109:G:=gG 21 [] (fun _ _=>none)
def QE7 (p0:Aa):OV:=br (ige p0.1 1) (br (ile p0.1 4) (br (ige p0.2.1 0) (some (.t .bool (ile p0.2.1 40000),[])) (some (.t .bool false,[]))) (some (.t .bool false,[]))) (some (.t .bool false,[]))
theorem s_f109 (r):QE7 r=some (.t .bool (YH r),[]):=by
 simp only [QE7]
 repeat' (refine Q1 ?_ ?_<;>intro _)
 all_goals simp only [ige,ile,ilt,Ba,Bo,Aa.Alg,Ae.Purpose,Ab.L,Ag.Purpose,Ai.Alg,Ai.Below,Ai.Purpose,Ai.From,Ai.To,Ak.p,Ak.l,Ak.o,Ak.day,Aq.outcome,Aq.uses,Af.From,Af.To,An.server,An.version,An.suites,Ar.name,Ar.kind,Al.name,Al.kind,Al.way,Al.sizes,Al.strengths] at*
 all_goals (apply Fo;unfold YH;rw [Dq];simp only [ige,ile,ilt,Ba,Aa.Alg,Ae.Purpose,Ab.L,Ag.Purpose,Ai.Alg,Ai.Below,Ai.Purpose,Ai.From,Ai.To,Ak.p,Ak.l,Ak.o,Ak.day,Aq.outcome,Aq.uses,Af.From,Af.To,An.server,An.version,An.suites,Ar.name,Ar.kind,Al.name,Al.kind,Al.way,Al.sizes,Al.strengths,BE,false_iff];omega)
def QE8:Ent:=Qm (.pr Qe .nil) (fun x=>true) (fun x=>(.t .bool (YH x.1)))
theorem QU5:EM 109 QE8:=mS g_f109 QU4 [((.t 2),some .bool)] false (gB gN) fun m=>Qq m fun x _=>kT (s_f109 x.1)
def QU6:TC:=aF Tryz.f120 []
def g_f120:G:=gG 48 [] (fun _ _=>none)
def QE9 (p0:Ai):OV:=br (ige p0.2.1 0) (br (ile p0.2.1 22) (br (ige p0.2.2.1 0) (br (ile p0.2.2.1 16384) (br (ige p0.2.2.2.1 0) (br (ile p0.2.2.2.1 4) (br (ige p0.2.2.2.2.1 0) (br (ilt p0.2.2.2.2.1 p0.2.2.2.2.2.1) (some (.t .bool (ile p0.2.2.2.2.2.1 40001),[])) (some (.t .bool false,[]))) (some (.t .bool false,[]))) (some (.t .bool false,[]))) (some (.t .bool false,[]))) (some (.t .bool false,[]))) (some (.t .bool false,[]))) (some (.t .bool false,[]))) (some (.t .bool false,[]))
theorem s_f120 (r):QE9 r=some (.t .bool (YG r),[]):=by
 simp only [QE9]
 repeat' (refine Q1 ?_ ?_<;>intro _)
 all_goals simp only [ige,ile,ilt,Ba,Bo,Aa.Alg,Ae.Purpose,Ab.L,Ag.Purpose,Ai.Alg,Ai.Below,Ai.Purpose,Ai.From,Ai.To,Ak.p,Ak.l,Ak.o,Ak.day,Aq.outcome,Aq.uses,Af.From,Af.To,An.server,An.version,An.suites,Ar.name,Ar.kind,Al.name,Al.kind,Al.way,Al.sizes,Al.strengths] at*
 all_goals (apply Fo;unfold YG;rw [Dq];simp only [ige,ile,ilt,Ba,Aa.Alg,Ae.Purpose,Ab.L,Ag.Purpose,Ai.Alg,Ai.Below,Ai.Purpose,Ai.From,Ai.To,Ak.p,Ak.l,Ak.o,Ak.day,Aq.outcome,Aq.uses,Af.From,Af.To,An.server,An.version,An.suites,Ar.name,Ar.kind,Al.name,Al.kind,Al.way,Al.sizes,Al.strengths,BE,false_iff];omega)
def QFa:Ent:=Qm (.pr Jz .nil) (fun x=>true) (fun x=>(.t .bool (YG x.1)))
theorem QU7:EM 120 QFa:=mS g_f120 QU6 [((.t 2),some .bool)] false (gB gN) fun m=>Qq m fun x _=>kT (s_f120 x.1)
def QU8:TC:=aF Tryz.f121 []
def g_f121:G:=gG 21 [] (fun _ _=>none)
def QFb (p0:Aa):OV:=br (ige p0.1 1) (br (ile p0.1 4) (br (ige p0.2.1 0) (some (.t .bool (ile p0.2.1 40000),[])) (some (.t .bool false,[]))) (some (.t .bool false,[]))) (some (.t .bool false,[]))
theorem s_f121 (r):QFb r=some (.t .bool (YH r),[]):=by
 simp only [QFb]
 repeat' (refine Q1 ?_ ?_<;>intro _)
 all_goals simp only [ige,ile,ilt,Ba,Bo,Aa.Alg,Ae.Purpose,Ab.L,Ag.Purpose,Ai.Alg,Ai.Below,Ai.Purpose,Ai.From,Ai.To,Ak.p,Ak.l,Ak.o,Ak.day,Aq.outcome,Aq.uses,Af.From,Af.To,An.server,An.version,An.suites,Ar.name,Ar.kind,Al.name,Al.kind,Al.way,Al.sizes,Al.strengths] at*
 all_goals (apply Fo;unfold YH;rw [Dq];simp only [ige,ile,ilt,Ba,Aa.Alg,Ae.Purpose,Ab.L,Ag.Purpose,Ai.Alg,Ai.Below,Ai.Purpose,Ai.From,Ai.To,Ak.p,Ak.l,Ak.o,Ak.day,Aq.outcome,Aq.uses,Af.From,Af.To,An.server,An.version,An.suites,Ar.name,Ar.kind,Al.name,Al.kind,Al.way,Al.sizes,Al.strengths,BE,false_iff];omega)
def QFc:Ent:=Qm (.pr Qe .nil) (fun x=>true) (fun x=>(.t .bool (YH x.1)))
theorem QU9:EM 121 QFc:=mS g_f121 QU8 [((.t 2),some .bool)] false (gB gN) fun m=>Qq m fun x _=>kT (s_f121 x.1)
def QVa:TC:=aF Tryz.f105 []
def g_f105:G:=gG 6 [(106,QE6)] (fun _ _=>none)
def r_f105 (p0:Ai):OV:=some (.t .bool (!(YG p0)),[])
theorem s_f105 (r):r_f105 r=some (.t .bool (Z9 r),[]):=rfl
def QFd:Ent:=Qm (.pr Jz .nil) (fun x=>true) (fun x=>(.t .bool (Z9 x.1)))
theorem QVb:EM 105 QFd:=mS g_f105 QVa [((.t 2),some .bool)] false (gB (gD QU3 gN)) fun m=>Qq m fun x _=>kT (s_f105 x.1)
def QVc:TC:=aF Tryz.f108 []
def g_f108:G:=gG 6 [(109,QE8)] (fun _ _=>none)
def r_f108 (p0:Aa):OV:=some (.t .bool (!(YH p0)),[])
theorem s_f108 (r):r_f108 r=some (.t .bool (Ya r),[]):=rfl
def QFe:Ent:=Qm (.pr Qe .nil) (fun x=>true) (fun x=>(.t .bool (Ya x.1)))
theorem QVd:EM 108 QFe:=mS g_f108 QVc [((.t 2),some .bool)] false (gB (gD QU5 gN)) fun m=>Qq m fun x _=>kT (s_f108 x.1)
def Zz {α:Type}(m:α->Bool):List α->Option Nat
 | []=>none
 |a::l=>if m a then some 0 else (Zz m l).map (· + 1)
theorem QhZ {α:Type}{m:α->Bool}: ∀ {l:List α},Zz m l=none↔l.any m=false
 | []=>by simp [Zz]
 |a::l=>by
  have ih:=QhZ (m:=m) (l:=l)
  unfold Zz
  cases h:m a with
  |true=>simp [h]
  |false=>simpa [h] using ih
theorem QFf {α:Type}{m:α->Bool}{l:List α}{k:Nat}(h:Zz m l=some k):l.any m=true:=by
 cases hq:l.any m with
 |true=>rfl
 |false=>rw [QhZ.2 hq] at h;cases h
def Z2 {α:Type}(l:List α):Bool:=decide (l.length<=100000)
def Qcb (l:List Ai):Int:=match Zz Z9 l with|some k=>(k:Int)|none=> -1
def Qcc (l:List Aa):Int:=match Zz Ya l with|some k=>(k:Int)|none=> -1
abbrev Qh0:Sh:=⟨[(0,.ty (.sl Jz)),(1,.cf 105),(7,.ty tI),(8,.ty tI)],[]⟩
abbrev QqZ:Sh:=⟨[(4,.ty tI)],[]⟩
abbrev OT:Sh:=⟨[],[]⟩
def Qq0:Fg:=Qh0.f
def QFg:TC:=aF Tryz.f143 [(26,pL 0 Qq0),(421,.fg OT.f),(13517,.fg QqZ.f)]
def QFh:TC:=lb 0 QFg
def QFi (x0:List Ai)(x7 x8:Int):VS:=Qh0.st (x0,(),x7,x8,()) ()
def OU (x4:Int):VS:=QqZ.st (x4,()) ()
def Qq1  : VS:=OT.st () ()
def QVe:VS->Option (Bool×List (Bool×Exit×VS)):=mkL Qh0 (fun x y=>(Qw x.1 x.2.2.1 x.2.2.2.1)) (fun x y=>[(((Zz Z9 (x.1.drop x.2.2.2.1.toNat)).isSome),.ret,OU (x.2.2.2.1+((Zz Z9 (x.1.drop x.2.2.2.1.toNat)).getD 0:Nat))),(true,.exit 0,Qq1)])
def Qq2:G:=gG 19 [(105,QFd)] (Ls [QVe])
def Qh1 (x0:List Ai)(x7 x8:Int):OX:=Qu (Qx Qq2 Qq0 QFh) (QFi x0 x7 x8)
def Qcd (kk:List Ai->Int->Int->OX)(x0:List Ai)(x7 x8:Int):OX:=br (ilt x8 x7) (br (cIx x0 x8) (br (Z9 (lgt Jz x0 (Int.toNat x8))) (some (.ret,OU x8)) (kk x0 x7 (Qi .i64 x8 1))) none) (some (.exit 0,Qq1))
def Qh2 (x0:List Ai)(x7 x8:Int):OX:=
 let a1:=Zz Z9 (x0.drop x8.toNat)
 br (a1.isSome) (some (.ret,OU (x8+(a1.getD 0:Nat))))<|some (.exit 0,Qq1)
theorem QFj (x0 x7 x8):Qh1 x0 x7 x8=Qcd Qh1 x0 x7 x8:=lnT (x:=Qcd (fun x0 x7 x8=>some (.normal,QFi x0 x7 x8)) x0 x7 x8) (by simp only [Qcd,nxA];rfl)
def QFk (p0:List Ai):OV:=
 let a1:=(Zz Z9 (p0.drop (0:Int).toNat))
 br (Qw p0 (Qb p0) (0:Int)) (br (a1.isSome) (some (.t tI ((0:Int)+(a1.getD 0:Nat)),[])) (some (.t tI (-1),[]))) none
theorem QVf (x0:List Ai)(x7 x8:Int)(h:(Qw x0 x7 x8)=true):Qh1 x0 x7 x8=Qh2 x0 x7 x8:=by
 obtain ⟨rfl,h3,k,rfl,hk⟩:=Jv h
 clear h
 refine QP x0 (fun k=>Qh1 x0 (x0.length:Int) (k:Int)=Qh2 x0 (x0.length:Int) (k:Int)) ?_ ?_ k hk
 ·rw [QFj]
  simp [Qcd,Qh2,Qv,Qh,Zz]
 ·intro k hk ih
  rw [QFj]
  simp only [Qcd,Qv,QM,hk,Bu,Qd,Bb,QO (k:=k),ih,QN (y:=Jz) hk]
  simp only [Qh2,Bb,Bg hk,Zz]
  cases h:Z9 x0[k] with
  |true=>simp [Qd]
  |false=>
   simp only [Qh,BE,Dc]
   cases hq:Zz Z9 (x0.drop (k+1)) with
   |none=>rfl
   |some j=>
    simp only [B4,Da,BU,Qd]
    congr 3
    omega
theorem QVg:LO Qq2 Qq0 QFh 0:=QC (s:=Qh0) fun x y h _ q=>by simp only [QA,QB] at q;exact (QVf x.1 x.2.2.1 x.2.2.2.1 h).trans q
theorem QVh (l:List Ai)(h:Z2 l=true):QFk l=some (.t tI (Qcb l),[]):=by
 simp only [Z2,Ba] at h
 simp only [QFk,Jw h,Qd,Bt,Bx,Qcb]
 cases Zz Z9 l<;>simp [Qd,Qh]
def QFl:Ent:=YA [.ty (.sl Jz),.cf 105] [] (fun x d=>(Z2 x.1)) (fun x d=>(.t tI (Qcb x.1)))
theorem QVi:EM 143 QFl:=mS (lk:=lkL (lkc QVg lkn)) Qq2 QFg [((.t 4),some tI)] false (gB (gD QVb gN)) fun m=>Yn m fun x d hok=>kT (QVh x.1 hok)
def OW (l:List Ai):Bool:=l.any Z9
def QVj:TC:=aF Tryz.f104 []
def QVk:G:=gG 9 [(143,QFl)] (fun _ _=>none)
def QFm (p0:List Ai):OV:=br (Z2 p0) (some (.t .bool (ige (Qcb p0) 0),[])) none
theorem QVl (l:List Ai)(h:Z2 l=true):QFm l=some (.t .bool (OW l),[]):=by
 simp only [QFm,h,Qd]
 congr 3
 unfold Qcb OW
 cases hq:Zz Z9 l with
 |none=>rw [QhZ.1 hq];rfl
 |some k=>rw [QFf hq];simp only [ige,Ba];omega
def QFn:Ent:=YA [.ty (.sl Jz),.cf 105] [] (fun x d=>(Z2 x.1)) (fun x d=>(.t .bool (OW x.1)))
theorem QVm:EM 104 QFn:=mS QVk QVj [((.t 4),some .bool)] false (gB (gD QVi gN)) fun m=>Yn m fun x d hok=>kT (QVl x.1 hok)
abbrev Qh3:Sh:=⟨[(0,.ty (.sl Qe)),(1,.cf 108),(7,.ty tI),(8,.ty tI)],[]⟩
def Qq3:Fg:=Qh3.f
def QFo:TC:=aF Tryz.f144 [(26,pL 0 Qq3),(421,.fg OT.f),(13517,.fg QqZ.f)]
def QFp:TC:=lb 0 QFo
def QFq (x0:List Aa)(x7 x8:Int):VS:=Qh3.st (x0,(),x7,x8,()) ()
def Qq4  : VS:=OT.st () ()
def QVn:VS->Option (Bool×List (Bool×Exit×VS)):=mkL Qh3 (fun x y=>(Qw x.1 x.2.2.1 x.2.2.2.1)) (fun x y=>[(((Zz Ya (x.1.drop x.2.2.2.1.toNat)).isSome),.ret,OU (x.2.2.2.1+((Zz Ya (x.1.drop x.2.2.2.1.toNat)).getD 0:Nat))),(true,.exit 0,Qq4)])
def Qq5:G:=gG 19 [(108,QFe)] (Ls [QVn])
def Qh4 (x0:List Aa)(x7 x8:Int):OX:=Qu (Qx Qq5 Qq3 QFp) (QFq x0 x7 x8)
def Qce (kk:List Aa->Int->Int->OX)(x0:List Aa)(x7 x8:Int):OX:=br (ilt x8 x7) (br (cIx x0 x8) (br (Ya (lgt Qe x0 (Int.toNat x8))) (some (.ret,OU x8)) (kk x0 x7 (Qi .i64 x8 1))) none) (some (.exit 0,Qq4))
def Qh5 (x0:List Aa)(x7 x8:Int):OX:=
 let a1:=Zz Ya (x0.drop x8.toNat)
 br (a1.isSome) (some (.ret,OU (x8+(a1.getD 0:Nat))))<|some (.exit 0,Qq4)
theorem QFr (x0 x7 x8):Qh4 x0 x7 x8=Qce Qh4 x0 x7 x8:=lnT (x:=Qce (fun x0 x7 x8=>some (.normal,QFq x0 x7 x8)) x0 x7 x8) (by simp only [Qce,nxA];rfl)
def QFs (p0:List Aa):OV:=
 let a1:=(Zz Ya (p0.drop (0:Int).toNat))
 br (Qw p0 (Qb p0) (0:Int)) (br (a1.isSome) (some (.t tI ((0:Int)+(a1.getD 0:Nat)),[])) (some (.t tI (-1),[]))) none
theorem QVo (x0:List Aa)(x7 x8:Int)(h:(Qw x0 x7 x8)=true):Qh4 x0 x7 x8=Qh5 x0 x7 x8:=by
 obtain ⟨rfl,h3,k,rfl,hk⟩:=Jv h
 clear h
 refine QP x0 (fun k=>Qh4 x0 (x0.length:Int) (k:Int)=Qh5 x0 (x0.length:Int) (k:Int)) ?_ ?_ k hk
 ·rw [QFr]
  simp [Qce,Qh5,Qv,Qh,Zz]
 ·intro k hk ih
  rw [QFr]
  simp only [Qce,Qv,QM,hk,Bu,Qd,Bb,QO (k:=k),ih,QN (y:=Qe) hk]
  simp only [Qh5,Bb,Bg hk,Zz]
  cases h:Ya x0[k] with
  |true=>simp [Qd]
  |false=>
   simp only [Qh,BE,Dc]
   cases hq:Zz Ya (x0.drop (k+1)) with
   |none=>rfl
   |some j=>
    simp only [B4,Da,BU,Qd]
    congr 3
    omega
theorem QVp:LO Qq5 Qq3 QFp 0:=QC (s:=Qh3) fun x y h _ q=>by simp only [QA,QB] at q;exact (QVo x.1 x.2.2.1 x.2.2.2.1 h).trans q
theorem QVq (l:List Aa)(h:Z2 l=true):QFs l=some (.t tI (Qcc l),[]):=by
 simp only [Z2,Ba] at h
 simp only [QFs,Jw h,Qd,Bt,Bx,Qcc]
 cases Zz Ya l<;>simp [Qd,Qh]
def QFt:Ent:=YA [.ty (.sl Qe),.cf 108] [] (fun x d=>(Z2 x.1)) (fun x d=>(.t tI (Qcc x.1)))
theorem QVr:EM 144 QFt:=mS (lk:=lkL (lkc QVp lkn)) Qq5 QFo [((.t 4),some tI)] false (gB (gD QVd gN)) fun m=>Yn m fun x d hok=>kT (QVq x.1 hok)
def OY (l:List Aa):Bool:=l.any Ya
def QVs:TC:=aF Tryz.f107 []
def QVt:G:=gG 9 [(144,QFt)] (fun _ _=>none)
def QFu (p0:List Aa):OV:=br (Z2 p0) (some (.t .bool (ige (Qcc p0) 0),[])) none
theorem QVu (l:List Aa)(h:Z2 l=true):QFu l=some (.t .bool (OY l),[]):=by
 simp only [QFu,h,Qd]
 congr 3
 unfold Qcc OY
 cases hq:Zz Ya l with
 |none=>rw [QhZ.1 hq];rfl
 |some k=>rw [QFf hq];simp only [ige,Ba];omega
def QFv:Ent:=YA [.ty (.sl Qe),.cf 108] [] (fun x d=>(Z2 x.1)) (fun x d=>(.t .bool (OY x.1)))
theorem QVv:EM 107 QFv:=mS QVt QVs [((.t 4),some .bool)] false (gB (gD QVr gN)) fun m=>Yn m fun x d hok=>kT (QVu x.1 hok)
theorem Qh6 {α:Type}{l:List α}:igt (Qb l) 60= !decide (l.length<=60):=by
 have:igt (Qb l) 60=decide (60<l.length):=QTl
 rw [this]
 by_cases h:l.length<=60
 ·rw [Bc h,BA,Bo];omega
 ·rw [Bn h,Dy,Ba];omega
def EQ (y:Ah):Bool:=y.1.all YG&&y.2.1.all YH&&decide (y.1.length<=60/\y.2.1.length<=60)
def YI (y:Ah):Int:=if EQ y then 0 else 25
def JP (y:Ah):Bool:=Z2 y.1&&Z2 y.2.1
def tc_f65:TC:=aF Tryz.f65 []
def g_f65:G:=gG 25 [(104,QFn),(107,QFv)] (fun _ _=>none)
def r_f65 (p0:Ah):OV:=br (Z2 p0.1) (br (OW p0.1) (some (.t tI 25,[])) (br (Z2 p0.2.1) (br (OY p0.2.1) (some (.t tI 25,[])) (br (igt (Qb p0.1) 60) (some (.t tI 25,[])) (br (igt (Qb p0.2.1) 60) (some (.t tI 25,[])) (some (.t tI 0,[]))))) none)) none
theorem s_f65 (y)(h:JP y=true):r_f65 y=some (.t tI (YI y),[]):=by
 simp only [JP,Bd] at h
 simp only [r_f65,h.1,h.2,Qd]
 have e1:OW y.1= !y.1.all YG:=by simp [OW,List.any_eq_not_all_not,Z9]
 have e2:OY y.2.1= !y.2.1.all YH:=by simp [OY,List.any_eq_not_all_not,Ya]
 rw [e1,e2]
 unfold YI EQ
 rw [Qh6,Qh6]
 by_cases h1:y.1.length<=60<;>by_cases h2:y.2.1.length<=60<;>cases y.1.all YG<;>cases y.2.1.all YH<;>simp [Qd,Qh,h1,h2]
def Qq6:Ent:=Qm (.pr Q3 .nil) (fun x=>(JP x.1)) (fun x=>(.t tI (YI x.1)))
theorem QFw:EM 65 Qq6:=mS g_f65 tc_f65 [((.t 2),some tI)] false (gB (gD QVm (gD QVv gN))) fun m=>Qq m fun x hok=>kT (s_f65 x.1 hok)
abbrev Qh7:Sh:=⟨[(1,.ptr 1 0),(3,.ty tI)],[(1,.box Q3)]⟩
abbrev Qq7:Sh:=⟨[(2,.ty tI)],[]⟩
abbrev QFx:Sh:=⟨[(1,.ptr 1 0)],[(1,.box Q3)]⟩
abbrev Qh8:Sh:=⟨[(1,.ptr 1 0),(4,.ty tI)],[(1,.box Q3)]⟩
def Qq8:Fg:=Qh7.f
def Qq9:Fg:=Qh8.f
def Qra:TC:=aF Tryz.f73 [(58,pL 0 Qq8),(931,.fg QFx.f),(7461,.fg Qq7.f),(122,pL 1 Qq9),(1955,.fg OT.f),(15653,.fg Qq7.f)]
def QFy:TC:=lb 0 Qra
def QFz:TC:=lb 1 Qra
def QFA (x3:Int)(y1:Ah):VS:=Qh7.st ((),x3,()) (y1,())
def OZ (x2:Int):VS:=Qq7.st (x2,()) ()
def Qrb (y1:Ah):VS:=QFx.st ((),()) (y1,())
def QFB (x4:Int)(y1:Ah):VS:=Qh8.st ((),x4,()) (y1,())
def Qrc  : VS:=OT.st () ()
def QVw:VS->Option (Bool×List (Bool×Exit×VS)):=mkL Qh7 (fun x y=>(decide (0<=x.2.1/\x.2.1<=y.1.1.length/\y.1.1.length<=100000))) (fun x y=>[(((y.1.1.drop x.2.1.toNat).any Z9),.ret,OZ (25)),(true,.exit 0,Qrb (y.1))])
def QVx:VS->Option (Bool×List (Bool×Exit×VS)):=mkL Qh8 (fun x y=>(decide (0<=x.2.1/\x.2.1<=y.1.2.1.length/\y.1.2.1.length<=100000))) (fun x y=>[(((y.1.2.1.drop x.2.1.toNat).any Ya),.ret,OZ (25)),(true,.exit 2,Qrc)])
def Qcf:G:=gG 43 [(120,QFa),(121,QFc)] (Ls [QVw,QVx])
def Qh9 (x3:Int)(y1:Ah):OX:=Qu (Qx Qcf Qq8 QFy) (QFA x3 y1)
def Qcg (kk:Int->Ah->OX)(x3:Int)(y1:Ah):OX:=br (ilt x3 (Qb y1.1)) (br (cIx y1.1 x3) (br (!(YG (lgt Jz y1.1 (Int.toNat x3)))) (some (.ret,OZ 25)) (kk (Qi .i64 x3 1) y1)) none) (some (.exit 0,Qrb y1))
def Qia (x3:Int)(y1:Ah):OX:=br ((y1.1.drop x3.toNat).any Z9) (some (.ret,OZ (25)))<|some (.exit 0,Qrb (y1))
theorem QFC (x3 y1):Qh9 x3 y1=Qcg Qh9 x3 y1:=lnT (x:=Qcg (fun x3 y1=>some (.normal,QFA x3 y1)) x3 y1) (by simp only [Qcg,nxA];rfl)
def Qib (x4:Int)(y1:Ah):OX:=Qu (Qx Qcf Qq9 QFz) (QFB x4 y1)
def Qch (kk:Int->Ah->OX)(x4:Int)(y1:Ah):OX:=br (ilt x4 (Qb y1.2.1)) (br (cIx y1.2.1 x4) (br (!(YH (lgt Qe y1.2.1 (Int.toNat x4)))) (some (.ret,OZ 25)) (kk (Qi .i64 x4 1) y1)) none) (some (.exit 2,Qrc))
def Qic (x4:Int)(y1:Ah):OX:=br ((y1.2.1.drop x4.toNat).any Ya) (some (.ret,OZ (25)))<|some (.exit 2,Qrc)
theorem QFD (x4 y1):Qib x4 y1=Qch Qib x4 y1:=lnT (x:=Qch (fun x4 y1=>some (.normal,QFB x4 y1)) x4 y1) (by simp only [Qch,nxA];rfl)
def r_f73 (p0:Ah):OV:=br (igt (Qb p0.1) 60) (some (.t tI 25,[])) (br (igt (Qb p0.2.1) 60) (some (.t tI 25,[])) (br (decide (0<=(0:Int)/\(0:Int)<=p0.1.length/\p0.1.length<=100000)) (br ((p0.1.drop (0:Int).toNat).any Z9) (some (.t tI (25),[])) (br (decide (0<=(0:Int)/\(0:Int)<=(p0).2.1.length/\(p0).2.1.length<=100000)) (br (((p0).2.1.drop (0:Int).toNat).any Ya) (some (.t tI (25),[])) (some (.t tI 0,[]))) none)) none))
theorem QVy (x3:Int)(y1:Ah)(h:(decide (0<=x3/\x3<=y1.1.length/\y1.1.length<=100000))=true):Qh9 x3 y1=Qia x3 y1:=by
 simp only [Ba] at h
 obtain ⟨h1,h2,h3⟩:=h
 obtain ⟨k,rfl⟩:=Bm h1
 refine QP y1.1 (fun k=>Qh9 (k:Int) y1=Qia (k:Int) y1) ?_ ?_ k (by omega)
 ·rw [QFC]
  simp [Qcg,Qia,Qv,Qb,Qh]
 ·intro k hk ih
  rw [QFC]
  simp only [Qcg,Qv,Qb,QM,hk,Bu,Qd,Bb,QO (k:=k),ih,QN (y:=Jz) hk]
  simp only [Qia,Bb,Bg hk,List.any_cons,Z9]
  cases YG y1.1[k]<;>simp [Qd,Qh]
theorem QVz (x4:Int)(y1:Ah)(h:(decide (0<=x4/\x4<=y1.2.1.length/\y1.2.1.length<=100000))=true):Qib x4 y1=Qic x4 y1:=by
 simp only [Ba] at h
 obtain ⟨h1,h2,h3⟩:=h
 obtain ⟨k,rfl⟩:=Bm h1
 refine QP y1.2.1 (fun k=>Qib (k:Int) y1=Qic (k:Int) y1) ?_ ?_ k (by omega)
 ·rw [QFD]
  simp [Qch,Qic,Qv,Qb,Qh]
 ·intro k hk ih
  rw [QFD]
  simp only [Qch,Qv,Qb,QM,hk,Bu,Qd,Bb,QO (k:=k),ih,QN (y:=Qe) hk]
  simp only [Qic,Bb,Bg hk,List.any_cons,Ya]
  cases YH y1.2.1[k]<;>simp [Qd,Qh]
theorem QVA:LO Qcf Qq8 QFy 0:=QC (s:=Qh7) fun x y h _ q=>by simp only [QA,QB] at q;exact (QVy x.2.1 y.1 h).trans q
theorem QVB:LO Qcf Qq9 QFz 1:=QC (s:=Qh8) fun x y h _ q=>by simp only [QA,QB] at q;exact (QVz x.2.1 y.1 h).trans q
theorem s_f73 (y)(h:JP y=true):r_f73 y=some (.t tI (YI y),[]):=by
 simp only [JP,Z2,Bd,Ba] at h
 have g1:decide ((0:Int)<=0/\(0:Int)<=y.1.length/\y.1.length<=100000)=true:=by simp [h.1]
 have g2:decide ((0:Int)<=0/\(0:Int)<=y.2.1.length/\y.2.1.length<=100000)=true:=by simp [h.2]
 simp only [r_f73,g1,g2,Qd,Bt,Bx]
 have e1:y.1.any Z9= !y.1.all YG:=by simp [List.any_eq_not_all_not,Z9]
 have e2:y.2.1.any Ya= !y.2.1.all YH:=by simp [List.any_eq_not_all_not,Ya]
 rw [e1,e2]
 unfold YI EQ
 rw [Qh6,Qh6]
 by_cases h1:y.1.length<=60<;>by_cases h2:y.2.1.length<=60<;>cases y.1.all YG<;>cases y.2.1.all YH<;>simp [Qd,Qh,h1,h2]
def Qrd:Ent:=Qm (.pr Q3 .nil) (fun x=>(JP x.1)) (fun x=>(.t tI (YI x.1)))
theorem QFE:EM 73 Qrd:=mS (lk:=lkL (lkc QVA (lkc QVB lkn))) Qcf Qra [((.t 2),some tI)] false (gB (gD QU7 (gD QU9 gN))) fun m=>Qq m fun x hok=>kT (s_f73 x.1 hok)
def XW {α:Type}(l:List α):List (Int×(α×Unit)):=(l.zipIdx.map fun p=>((p.2:Int),(p.1,()))).reverse
def QsG:Itr:=Fs [.ptr 50000 0] [(.sl Jz)] (.pr tI (.pr Jz .nil)) (fun d=>true) (fun d=>(XW d.1))
def QX7:TC:=aF Tryz.f212 []
def g_f212:G:=gG 4 [] (fun _ _=>none)
def r_f212 (p0:List Ai):OV:=some (.fn 230 [(.ptr 50000 0)],[.box (.t (.sl Jz) p0)])
def QH9:Ent:=UQ (.pr (.sl Jz) .nil) (fun _=>true) (fun x=> .fn 230 [.ptr 50000 0]) (fun x=>[.box (.t (.sl Jz) x.1)])
theorem QX8:EM 212 QH9:=mS g_f212 QX7 [((.t 2),none)] true (gB gN) fun m=>QgW m fun x _=>by kernel_rfl
end K
namespace K
open Go.RowKit Go.Shelf
attribute [local go_sem] Oper.semAt_some
def XI (vs:List Value)(sz:Nat):Nat->List (Array Value)
 |0=>[]
 |k+1=> #[.int .i64 (k:Int),.agg ((vs.drop (k*sz)).take sz).toArray]::XI vs sz k
theorem QOM (vs:List Value)(sz:Nat): ∀ n k,k<n->(XI vs sz n).drop k=XI vs sz (n-k)
 |0,k,h=>by omega
 |n+1,0,_=>rfl
 |n+1,k+1,h=>by
  rw [XI,List.drop_succ_cons,QOM vs sz n k (by omega)]
  congr 1
  omega
theorem w64 (m:Nat)(h:m<=maxLen):wrap64 ((m:Int)-1)=(m:Int)-1:=by
 simp only [maxLen] at h
 unfold wrap64
 omega
set_option maxHeartbeats 1000000 in
theorem QON (Bs b0 off c n:Nat)(A:Option Addr)(vs:List Value)(Xf:Nat->Nat->Prop)(w:World)(hnc:n<=c)(hcm:c<=maxLen)
  (hBs:w.cell? ⟨Bs,0,none⟩=some (.slice A n c)) (hBl:Bs<w.heap.size) (hBx: ∀ q, ¬ Xf Bs q)
  (hA:0<n->A=some ⟨b0,off,none⟩/\vs.length=n*6/\b0<w.heap.size/\(∀ j,j<vs.length→ ¬ Xf b0 (off+j))∧ ∀ j v,vs[j]? = some v->w.cell? ⟨b0,off+j,none⟩=some v):
  FV Tryz.prog 230 [.pointer (some ⟨Bs,0,none⟩)] (XI vs 6 n) Xf w:=by
 intro l J Jx W hJ hJx hK hY h0 _
 have HA:=Lib.hid hA
 clear hA
 refine callsIn_of_wp (F:=Fw none) Tryz.func230 rfl trivial ?_ rfl
 simp only [Tryz.ntmps230,List.size_toArray,Br,Bv,Nat.reduceAdd,Nat.reduceSub,Array.replicate_succ,Array.replicate_zero,List.push_toArray,List.append_toArray,BM,Du]
 have hb0:W.cell? ⟨Bs,0,none⟩=some (.slice A n c):=((hK _ W h0).2 Bs 0 hBl (hBx 0)).trans hBs
 gi_wp2
 gi_loopw [3] (fun i wr=> ∃ k:Nat,k<=n/\i= .int .i64 ((k:Int)-1)/\J (XI vs 6 k) wr)
  (fun i _=>(intOf i+1).toNat)
 case atStart=>exact ⟨n,BI _,congrArg (Value.int .i64) (w64 n (by omega)),h0⟩
 case round=>
  obtain ⟨k,hk,rfl,hJs⟩:=hrel
  have hbx:wr.cell? ⟨Bs,0,none⟩=some (.slice A n c):=((hK _ wr hJs).2 Bs 0 hBl (hBx 0)).trans hBs
  cases k with
  |zero=>
   gi_wp2
   go_end0
   exact ⟨⟨_,rfl⟩,.inl hJs⟩
  |succ q=>
   obtain ⟨rfl,hvl,hbl,hnx,hcl⟩:=HA.out (by omega)
   obtain ⟨fn,tmps,assign,body,hy,hR⟩:=hY _ _ wr hJs
   have cel: ∀ i,i<6→ ∃ v,vs[q*6+i]? = some v/\wr.cell? ⟨b0,off+(q*6+i),none⟩=some v:=by
    intro i hi
    have hlt:q*6+i<vs.length:=by omega
    exact ⟨_,Bl hlt,((hK _ wr hJs).2 b0 _ hbl (hnx _ hlt)).trans (hcl _ _ (Bl hlt))⟩
   obtain ⟨v0,e0,c0⟩:=cel 0 (by omega)
   obtain ⟨v1,e1,c1⟩:=cel 1 (by omega)
   obtain ⟨v2,e2,c2⟩:=cel 2 (by omega)
   obtain ⟨v3,e3,c3⟩:=cel 3 (by omega)
   obtain ⟨v4,e4,c4⟩:=cel 4 (by omega)
   obtain ⟨v5,e5,c5⟩:=cel 5 (by omega)
   rw [DS] at e0 c0
   rw [<-DB] at c1 c2 c3 c4 c5
   have hag:((vs.drop (q*6)).take 6)=[v0,v1,v2,v3,v4,v5]:=by
    apply List.ext_getElem?
    intro i
    rcases Dg i 6 with hi|hi
    ·rw [List.getElem?_take_of_lt hi,Dn]
     rcases i with _|_|_|_|_|_|i
     ·rw [DS,e0];rfl
     ·rw [e1];rfl
     ·rw [e2];rfl
     ·rw [e3];rfl
     ·rw [e4];rfl
     ·rw [e5];rfl
     ·omega
    ·rw [List.getElem?_take_eq_none hi,DV (by simpa using hi)]
   rw [hag] at hy
   have q1:((q+1:Nat):Int)-1=(q:Int):=by omega
   rw [q1]
   clear hnx hcl cel hY
   gi_wp2
   refine hR.mono ?_
   rintro e W3 (⟨rfl,hJ3⟩|⟨rfl,hJx3⟩)
   ·gi_wp2
    go_roundw
    case rel=>exact ⟨q,by omega,congrArg (Value.int .i64) (w64 q (by omega)),hJ3⟩
    case measure=>simp [intOf,w64 q (by omega)]
   ·gi_wp2
    refine bodyPost_ret (results_none rfl _ _ _) rfl ?_
    exact ⟨⟨_,rfl⟩,.inr hJx3⟩
theorem QmY (vs:List Value)(sz:Nat): ∀ n,(XI vs sz n).length=n
 |0=>rfl
 |n+1=>by rw [XI,Br,QmY vs sz n]
theorem QxC (vs:List Value)(sz:Nat): ∀ n i,i<n->(XI vs sz n)[i]? = some #[.int .i64 ((n-1-i:Nat):Int),.agg ((vs.drop ((n-1-i)*sz)).take sz).toArray]
 |0,i,h=>by omega
 |n+1,0,_=>by simp [XI]
 |n+1,i+1,h=>by
  rw [XI,BX,QxC vs sz n i (by omega)]
  have:n-1-i=n+1-1-(i+1):=by omega
  rw [this]
theorem QOO {α:Type}(l:List α)(i:Nat)(h:i<l.length):(XW l)[i]? = some (((l.length-1-i:Nat):Int),(l[l.length-1-i]'(by omega),())):=by
 unfold XW
 rw [List.getElem?_reverse (by simpa using h)]
 simp
theorem QOP {P:Program}{gf:FuncId}{y:Ty}{sz:Nat}(hgf:gf<1000000)(hrow:y.row=true)(hsz:y.sz=sz)(eg: ∀ args w,(callFunc gf args).run P w= .ok (.enter gf args) w)
  (hw: ∀ (Bs b0 off c n:Nat) (A:Option Addr) (vs:List Value) (Xf:Nat->Nat->Prop) (w:World),n<=c->c<=maxLen->w.cell? ⟨Bs,0,none⟩=some (.slice A n c)->Bs<w.heap.size->(∀ q, ¬ Xf Bs q)→
   (0<n->A=some ⟨b0,off,none⟩/\vs.length=n*sz/\b0<w.heap.size/\(∀ j,j<vs.length→ ¬ Xf b0 (off+j))∧ ∀ j v,vs[j]? = some v->w.cell? ⟨b0,off+j,none⟩=some v)->FV P gf [.pointer (some ⟨Bs,0,none⟩)] (XI vs sz n) Xf w):
  Iters P gf (Fs [.ptr 50000 0] [.sl y] (.pr (.int .i64) (.pr y .nil)) (fun _=>true) (fun d=>XW d.1)):=by
 refine Iters.weak hgf eg fun caps objs yr rows h X w Z lb hfin hl hc=> ?_
 unfold Fs at h
 split at h
 ·rename_i x d hx hd
  simp only [Be,Bq,true_and] at h
  cases h
  have hcaps:=Ow hx
  subst hcaps
  cases objs with
  |nil=>simp [Ym] at hd
  |cons o os=>
   cases o with
   |box cv=>
    cases os with
    |cons o2 os=>simp [Ym] at hd
    |nil=>
     simp only [Ym] at hd
     split at hd
     ·rename_i l u hl1 _
      simp only [Be] at hd
      subst hd
      have hcv:=SV.rd_mk (s:= .ty (.sl y)) (v:=cv) (x:=l) (by simpa [QbF,Ty.row] using hl1)
      subst hcv
      obtain ⟨⟨Bs,ty,us,h1,h2,h3,h4⟩,_⟩:=hl.at_ 0 _ rfl
      have h3':Cs X w Z [.sl (List.length l) (List.flatMap y.cells l)] us:=h3
      obtain ⟨uv,rfl,h5⟩:=h3'.one
      simp only [C] at h5
      obtain ⟨A,c,rfl,g1,g2,g3,g4⟩:=h5
      simp only [Fm,SV.mk,V.ds,V.d,Cs,C] at hc
      obtain ⟨p,ps,rfl,⟨b',e1,rfl⟩,rfl⟩:=hc
      have h1:Z 50000= .box Bs:=h1
      rw [h1] at e1
      injection e1 with e1
      subst e1
      have hcell:w.cell? ⟨Bs,0,none⟩=some (.slice A (List.length l) c):=by simp [World.cell?, h2]
      have hBl:=(B7.1 h2).1
      have hBx: ∀ q, ¬ (X Bs q∧ ∀ j,j<[VO.box ((SV.ty (.sl y)).mk l)].length->(Z (50000+j)).blk≠some Bs):=fun q hq=>hq.2 0 (by simp) (by rw [h1];rfl)
      rcases DW (List.length l) with h0|hp
      ·have hl0:l=[]:=BJ h0
       subst hl0
       exact ⟨XI [] sz 0,⟨rfl,fun i r v hr=>by simp [XW] at hr⟩,hw Bs 0 0 c 0 A [] _ w g1 g2 hcell hBl hBx (fun h=>absurd h (by omega))⟩
      ·obtain ⟨b0,off,vs,rfl,g5,g6⟩:=g4 hp
       have hvl:=g5.len
       rw [GM,hsz] at hvl
       refine ⟨XI vs sz (List.length l),⟨by rw [QmY];simp [XW],fun i r v hr hv=> ?_⟩,hw Bs b0 off c (List.length l) _ vs _ w g1 g2 hcell hBl hBx (fun _=>⟨rfl,hvl,g6.lt,fun j hj hx=>g6.nx j hj hx.1,fun j v hv=>g6.at_ j v hv⟩)⟩
       have hi:i<List.length l:=by
        have:=(BN.1 hv).1
        rwa [QmY] at this
       rw [QOO _ _ hi] at hr
       rw [QxC _ _ _ _ hi] at hv
       injection hr with hr
       injection hv with hv
       subst hr hv
       simp only [Ty.canon,V.ds,V.d,Cs]
       refine ⟨_,_,rfl,(by simp only [Ty.d,C];exact ⟨trivial,rfl⟩),_,_,rfl, ?_,rfl⟩
       rw [Ty.d_row _ _ hrow]
       simp only [C]
       refine ⟨_,rfl, ?_⟩
       have k1:=(g5.drop_ ((List.length l-1-i)*y.sz))
       rw [EU,Bg (by omega),BV] at k1
       have k2:=k1.take_ y.sz
       rw [List.take_left' (y.cells_len _),hsz] at k2
       exact k2
     ·cases hd
   |no=>simp [Ym] at hd
   |arr e t l=>simp [Ym] at hd
 ·cases h
theorem QOQ:Iters Tryz.prog 230 QsG:=
 QOP (y:=Jz) (sz:=6) (by decide) rfl rfl (enters_of Tryz.func230 (by kernel_rfl) rfl) QON
def IV (zs:List (Int×(Ai×Unit)))(u:Aa)(p d:Int):Option Int:=(zs.find? fun z=>Uh z.2.1 u p d).map (·.1)
def QaZ (zs:List (Int×(Ai×Unit)))(u:Aa)(p d _x:Int):Bool:=(IV zs u p d).isSome
def Qa0 (zs:List (Int×(Ai×Unit)))(u:Aa)(p d _x:Int):Int:=(IV zs u p d).getD 0
def Z6 (y:Ah)(u:Aa)(p d:Int):Int:=(IV (XW y.1) u p d).getD (-1)
abbrev QfO:Sh:=⟨[(5,.ptr 60000 0),(6,.ptr 60001 0),(7,.ptr 60002 0),(8,.ptr 60003 0)],[(60000,.box Qe),(60001,.box tI),(60002,.box tI),(60003,.bag [.ty tI])]⟩
def Ff:Fg:=QfO.f
def QfP:TC:=(.sq (.reg (rT Tryz.f186 2)) (.reg (rT Tryz.f186 3)))
def QfQ:TC:=(.bk 1 (.sq (.reg (rT Tryz.f186 4)) (.cd (.t 31) (.sq (.reg (rT Tryz.f186 5)) (.fg ⟨[],[(60000,some Qe),(60001,some tI),(60002,some tI),(60003,none)]⟩ .rt)) .sk)))
def QQe:TC:=(.sq (.reg (rT Tryz.f186 0)) (.sq (.sq (.reg (rT Tryz.f186 1)) (.bk 0 (.rf 0 Ff (.t 13) (.pr tI (.pr Jz .nil)) [14,15] [5,6,7,8] QfP QfQ))) (.sq (.reg (rT Tryz.f186 6)) .rt)))
def WJ (JT:Aa)(JU JM Zs:Int):VS:=QfO.st ((),(),(),(),()) (JT,JU,JM,(Zs,()),())
def QfR:VS->List (Ty.T (.pr tI (.pr Jz .nil)))->Option (Bool×List (Bool×Exit×VS)):=mkR QfO (fun zs x y=>true) (fun zs x y=>[((QaZ zs y.1 y.2.1 y.2.2.1 y.2.2.2.1.1),.ret,WJ (y.1) (y.2.1) (y.2.2.1) (Qa0 zs y.1 y.2.1 y.2.2.1 y.2.2.2.1.1)),(true,.normal,WJ (y.1) (y.2.1) (y.2.2.1) (y.2.2.2.1.1))])
def IW:G:=⟨TYs,[],33,EL [(212,QH9),(213,QC9)],Yx,(Ls [fun _=>none]),IL [(230,QsG)],(RL [⟨(.pr tI (.pr Jz .nil)),QfR⟩])⟩
def Qzt (z:(Int×(Ai×Unit)))(JT:Aa)(JU JM Zs:Int):OX:=br (Ft z.2.1 JT JU) (br (ile z.2.1.2.2.2.2.1 JM) (br (ilt JM z.2.1.2.2.2.2.2.1) (some (.ret,WJ JT JU JM z.1)) (some (.normal,WJ JT JU JM Zs))) (some (.normal,WJ JT JU JM Zs))) (some (.normal,WJ JT JU JM Zs))
def IX (zs:List (Int×(Ai×Unit)))(JT:Aa)(JU JM Zs:Int):OX:=X7 (UD IW Ff (.pr tI (.pr Jz .nil)) [14,15] QfP QfQ) zs (WJ JT JU JM Zs)
def Qn2 (z:(Int×(Ai×Unit)))(zs:List (Int×(Ai×Unit)))(JT:Aa)(JU JM Zs:Int):OX:=br (Ft z.2.1 JT JU) (br (ile z.2.1.2.2.2.2.1 JM) (br (ilt JM z.2.1.2.2.2.2.2.1) (some (.ret,WJ JT JU JM z.1)) (IX zs JT JU JM Zs)) (IX zs JT JU JM Zs)) (IX zs JT JU JM Zs)
def Qzu (zs:List (Int×(Ai×Unit)))(JT:Aa)(JU JM Zs:Int):OX:=br (QaZ zs JT JU JM Zs) (some (.ret,WJ (JT) (JU) (JM) (Qa0 zs JT JU JM Zs)))<|some (.normal,WJ (JT) (JU) (JM) (Zs))
theorem QQf (z:(Int×(Ai×Unit)))(JT:Aa)(JU JM Zs:Int):UD IW Ff (.pr tI (.pr Jz .nil)) [14,15] QfP QfQ z (WJ JT JU JM Zs)=Qzt z JT JU JM Zs:=by kernel_rfl
theorem QQg (JT:Aa)(JU:Int)(JM:Int)(Zs:Int):IX [] JT JU JM Zs=some (.normal,WJ JT JU JM Zs):=rfl
theorem QQh (z:(Int×(Ai×Unit)))(zs:List (Int×(Ai×Unit)))(JT:Aa)(JU JM Zs:Int):IX (z::zs) JT JU JM Zs=Qn2 z zs JT JU JM Zs:=(QCQ _ _ _ _).trans (by
 rw [QQf]
 simp only [Qzt,Qn2,Ud,UR,US,UT,UU]
 rfl)
def Qzv (p0:Ah)(p1:Aa)(p2 p3:Int):OV:=br (QaZ (XW p0.1) p1 p2 p3 0) (some (.t tI (Qa0 (XW p0.1) p1 p2 p3 0),[])) (some (.t tI (-1),[]))
theorem QQi (zs:List (Int×(Ai×Unit)))(JT:Aa)(JU JM Zs:Int)(h:true=true):IX zs JT JU JM Zs=Qzu zs JT JU JM Zs:=by
 clear h
 induction zs with
 |nil=>
  rw [QQg]
  rfl
 |cons z zs ih=>
  rw [QQh]
  simp only [Qn2,ih,Qzu,QaZ,Qa0,IV,List.find?_cons,Uh,QpR,ile,ilt,Aa.Alg,Ae.Purpose,Ab.L,Ag.Purpose,Ai.Alg,Ai.Below,Ai.Purpose,Ai.From,Ai.To,Ak.p,Ak.l,Ak.o,Ak.day,Aq.outcome,Aq.uses,Af.From,Af.To,An.server,An.version,An.suites,Ar.name,Ar.kind,Al.name,Al.kind,Al.way,Al.sizes,Al.strengths]
  cases h1:Ft z.2.1 JT JU<;>cases h2:decide (z.2.1.2.2.2.2.1<=JM)<;>cases h3:decide (JM<z.2.1.2.2.2.2.2.1)<;>simp [Qd,Qh]
theorem QQj: ∀ S (rows:List (Ty.T (.pr tI (.pr Jz .nil)))) l p,IW.R 0 (fgt Ff S) (.pr tI (.pr Jz .nil)) rows=some (true,l)->Y0 l=some p->X7 (UD IW Ff (.pr tI (.pr Jz .nil)) [14,15] QfP QfQ) rows (fgt Ff S)=some p:=by
 intro S rows l p hR hp
 rw [show IW.R 0 (fgt Ff S) (.pr tI (.pr Jz .nil)) rows=QfR (fgt Ff S) rows from RL_at (l:=[⟨(.pr tI (.pr Jz .nil)),QfR⟩]) (j:=0) (F:=QfR) rfl _ _] at hR
 refine QCP (s:=QfO) ⟨by decide,by decide⟩ (by kernel_rfl) (fun zs x y hok p hp=> ?_) S rows l p hR hp
 simp only [QA,QB] at hp
 exact (QQi zs y.1 y.2.1 y.2.2.1 y.2.2.2.1.1 (by first|rfl|simpa using hok)).trans hp
theorem s_f186 (p0 p1 p2 p3):Qzv p0 p1 p2 p3=some (.t tI (Z6 p0 p1 p2 p3),[]):=by
 simp only [Qzv,Z6,QaZ,Qa0]
 cases IV (XW p0.1) p1 p2 p3<;>simp [Qd,Qh]
def Qn3:Ent:=Qm (.pr Q3 (.pr Qe (.pr tI (.pr tI .nil)))) (fun x=>true) (fun x=>(.t tI (Z6 x.1 x.2.1 x.2.2.1 x.2.2.2.1)))
theorem Qzw:EM 186 Qn3:=mS (lk:=(by repeat first|exact trivial|exact QQj|constructor)) IW QQe [((.c 8 false 1),some tI)] false (Zq _ (gA (gD QX8 (gD QTo gN)))
 [(230,QsG)] (by
 intro p hp
 simp only [BQ,B3,Dt] at hp
 rcases hp with rfl
 ·exact QOQ)) fun m=>Qq m fun x _=>kT (s_f186 x.1 x.2.1 x.2.2.1 x.2.2.2.1)
def Z3 {α:Type}(m:α->Bool):List α->Option Nat
 | []=>none
 |a::l=>match Z3 m l with
  |some k=>some (k+1)
  |none=>if m a then some 0 else none
theorem Qrf {α:Type}{m:α->Bool}{l2:List α}: ∀ l1:List α,Z3 m (l1++l2)=match Z3 m l2 with|some k=>some (l1.length+k)|none=>Z3 m l1
 | []=>by
  simp only [BM,Bv,DY]
  cases Z3 m l2<;>rfl
 |a::l1=>by
  simp only [Du,Z3,Qrf l1,Br]
  cases Z3 m l2 with
  |none=>rfl
  |some k=>simp only [Be];omega
theorem QFI {α:Type}{m:α->Bool}: ∀ {l:List α},Z3 m l=none↔ ∀ a,a∈l->m a=false
 | []=>by simp [Z3]
 |a::l=>by
  have ih:=QFI (m:=m) (l:=l)
  simp only [Z3]
  cases h:Z3 m l with
  |some k=>
   have: ¬ ∀ a,a∈l->m a=false:=fun g=>by rw [ih.2 g] at h;cases h
   simp only [BQ,forall_eq_or_imp,reduceCtorEq,false_iff,not_and]
   exact fun _=>this
  |none=>
   have g:=ih.1 h
   cases hm:m a<;>simp_all
theorem Qrg {α:Type}{m:α->Bool}: ∀ {l:List α} {k:Nat},Z3 m l=some k↔ ∃ h:k<l.length,m l[k]=true∧ ∀ j (hj:j<l.length),k<j->m l[j]=false
 | [],k=>by simp [Z3]
 |a::l,k=>by
  have ih:= @Qrg α m l
  simp only [Z3]
  cases h:Z3 m l with
  |some i=>
   obtain ⟨h1,h2,h3⟩:=ih.1 h
   simp only [Be]
   constructor
   ·rintro rfl
    refine ⟨by simp;omega,by simpa using h2,fun j hj hk=> ?_⟩
    cases j with
    |zero=>omega
    |succ j=>simpa using h3 j (by simpa using hj) (by omega)
   ·rintro ⟨g1,g2,g3⟩
    cases k with
    |zero=>
     have:=g3 (i+1) (by simp;omega) (by omega)
     simp [h2] at this
    |succ k=>
     have g1':k<l.length:=by simpa using g1
     simp only [DT] at g2
     have:Z3 m l=some k:=ih.2 ⟨g1',g2,fun j hj hk=>by have:=g3 (j+1) (by rw [Br];omega) (by omega);rwa [DT] at this⟩
     rw [this] at h
     injection h with h
     omega
  |none=>
   have g:=QFI.1 h
   cases hm:m a with
   |true=>
    simp only [if_true,Be]
    constructor
    ·rintro rfl
     refine ⟨by simp,by simpa using hm,fun j hj hk=> ?_⟩
     cases j with
     |zero=>omega
     |succ j=>simp only [DT];exact g _ (BC _)
    ·rintro ⟨g1,g2,g3⟩
     cases k with
     |zero=>rfl
     |succ k=>
      simp only [DT] at g2
      rw [g _ (BC _)] at g2
      cases g2
   |false=>
    simp only [BE,Dc,reduceCtorEq,false_iff]
    rintro ⟨g1,g2,g3⟩
    cases k with
    |zero=>simp [hm] at g2
    |succ k=>
     simp only [DT] at g2
     rw [g _ (BC _)] at g2
     cases g2
theorem QVE {α:Type}(l:List α)(a:α):XW (l++[a])=((l.length:Int),(a,()))::XW l:=by
 unfold XW
 simp [List.zipIdx_append]
theorem QVF {α:Type}{P:List α->Prop}(h0:P [])(h1: ∀ l a,P l->P (l++[a]))(l:List α):P l:=by
 have: ∀ r:List α,P r.reverse:=by
  intro r
  induction r with
  |nil=>exact h0
  |cons a r ih=>rw [List.reverse_cons];exact h1 _ _ ih
 have h:=this l.reverse
 rwa [List.reverse_reverse] at h
theorem QVG {α:Type}{m:α->Bool}(l:List α):((XW l).find? fun z=>m z.2.1).map (·.1)=(Z3 m l).map fun k:Nat=>(k:Int):=by
 induction l using QVF with
 |h0=>rfl
 |h1 l a ih=>
  rw [QVE,List.find?_cons,Qrf]
  simp only [Z3]
  cases hm:m a
  ·simpa using ih
  ·simp
def Wn (rs:List Ai)(u:Aa)(p d:Int):Option Nat:=Z3 (fun r=>Uh r u p d) rs
theorem Qrh {y:Ah}{u:Aa}{p d:Int}:Z6 y u p d=match Wn y.1 u p d with|some k=>(k:Int)|none=> -1:=by
 unfold Z6 IV Wn
 rw [QVG (m:=fun r=>Uh r u p d)]
 cases Z3 (fun r=>Uh r u p d) y.1<;>rfl
theorem QVH {y:Ah}{u:Aa}{p d:Int}: -1<=Z6 y u p d/\Z6 y u p d<y.1.length:=by
 rw [Qrh]
 cases h:Wn y.1 u p d with
 |none=>simp only;omega
 |some k=>
  obtain ⟨h1,_⟩:=Qrg.1 h
  simp only
  omega
def allL (rs:List Ai)(u:Aa)(p d:Int):Bool:=match Wn rs u p d with
 |some k=>(rs[k]?.map fun r:Ai=>r.1).getD true
 |none=>true
def GJ (y:Ah)(u:Aa)(p d:Int):Bool:=allL y.1 u p d
def ends (rs:List Ai):List Int:=rs.flatMap fun r=>[r.2.2.2.2.1,r.2.2.2.2.2.1]
def QSy:TC:=aF Tryz.f185 []
def g_f185:G:=gG 25 [(186,Qn3)] (fun _ _=>none)
def QB9 (p0:Ah)(p1:Aa)(p2 p3:Int):OV:=
 let a1:=Z6 p0 p1 p2 p3
 br (ilt a1 0) (some (.t .bool true,[])) (br (cIx p0.1 a1) (some (.t .bool ((lgt Jz p0.1 (Int.toNat a1)).1),[])) none)
theorem QCa (y:Ah)(u:Aa)(p d:Int):GJ y u p d=(ilt (Z6 y u p d) 0||(y.1.getD (Z6 y u p d).toNat Jz.zero).1):=by
 unfold GJ allL
 have h:=Qrh (y:=y) (u:=u) (p:=p) (d:=d)
 cases hq:Wn y.1 u p d with
 |none=>
  rw [hq] at h
  simp only at h
  rw [h]
  rfl
 |some k=>
  rw [hq] at h
  simp only at h
  rw [h]
  obtain ⟨h1,_⟩:=Qrg.1 hq
  have e1:ilt (k:Int) 0=false:=by simp only [ilt,Bo];omega
  simp only [e1,De,Bb,Bl h1,B4,BU,Bp]
theorem QCb {y:Ah}{u:Aa}{p d:Int}(h:ilt (Z6 y u p d) 0=false):cIx y.1 (Z6 y u p d)=true:=by
 have h2:=QVH (y:=y) (u:=u) (p:=p) (d:=d)
 simp only [ilt,Bo] at h
 simp only [cIx,Ba]
 omega
theorem s_f185 (y u p d):QB9 y u p d=some (.t .bool (GJ y u p d),[]):=by
 simp only [QB9,QCa]
 cases h:ilt (Z6 y u p d) 0 with
 |true=>simp [Qd]
 |false=>
  rw [QCb h,Qh,Qd,De,lgt]
def QCc:Ent:=Qm (.pr Q3 (.pr Qe (.pr tI (.pr tI .nil)))) (fun x=>true) (fun x=>(.t .bool (GJ x.1 x.2.1 x.2.2.1 x.2.2.2.1)))
theorem QSz:EM 185 QCc:=mS g_f185 QSy [((.t 8),some .bool)] false (gB (gD Qzw gN)) fun m=>Qq m fun x _=>kT (s_f185 x.1 x.2.1 x.2.2.1 x.2.2.2.1)
def Xp (y:Ah)(u:Aa)(p d:Int):Int:=if EQ y=false then 25 else if JJ u=false then 7 else if p<1∨4<p∨d<0∨40000<d then 2 else 0
def Gw (y:Ah)(_u:Aa)(_p _d:Int):Bool:=JP y
def QgN (y:Ah)(_u:Aa)(_p:Int):Bool:=JP y
def QSA:TC:=aF Tryz.f184 []
def g_f184:G:=gG 34 [(65,Qq6),(103,IF)] (fun _ _=>none)
def QCd (p0:Ah)(p1:Aa)(p2 p3:Int):OV:=br (JP p0) (br (ine (YI p0) 0) (some (.t tI (YI p0),[])) (br (!(JJ p1)) (some (.t tI 7,[])) (br (ilt p2 1) (some (.t tI 2,[])) (br (igt p2 4) (some (.t tI 2,[])) (br (ilt p3 0) (some (.t tI 2,[])) (br (igt p3 40000) (some (.t tI 2,[])) (some (.t tI 0,[])))))))) none
theorem s_f184 (y u p d)(h:Gw y u p d=true):QCd y u p d=some (.t tI (Xp y u p d),[]):=by
 have h:JP y=true:=h
 simp only [QCd,h,Qd,YI,Xp]
 cases EQ y with
 |false=>rfl
 |true=>
  simp only [if_true,show ine 0 0=false from rfl,Qh,Bool.true_eq_false,Dc]
  cases JJ u with
  |false=>rfl
  |true=>
   simp only [BA,Qh,Bool.true_eq_false,Dc]
   repeat' (refine Q1 ?_ ?_<;>intro _)
   all_goals simp only [igt,ilt,Ba,Bo] at*
   all_goals first
    |rw [if_pos (by omega)]
    |rw [if_neg (by omega)]
def QCe:Ent:=Qm (.pr Q3 (.pr Qe (.pr tI (.pr tI .nil)))) (fun x=>(Gw x.1 x.2.1 x.2.2.1 x.2.2.2.1)) (fun x=>(.t tI (Xp x.1 x.2.1 x.2.2.1 x.2.2.2.1)))
theorem QSB:EM 184 QCe:=mS g_f184 QSA [((.t 8),some tI)] false (gB (gD QFw (gD Qak gN))) fun m=>Qq m fun x hok=>kT (s_f184 x.1 x.2.1 x.2.2.1 x.2.2.2.1 hok)
def ZJ (y:Ah)(u:Aa)(p d:Int):Bool×Int×Int:=if Xp y u p d=0 then (GJ y u p d,Z6 y u p d,0) else (false,0,Xp y u p d)
def QSC:TC:=aF Tryz.f150 [(14,pE [[4],[5],[],[],[],[4],[5],[],[],[],[],[],[]] (oN 13))]
def g_f150:G:=gG 30 [(184,QCe),(185,QCc),(186,Qn3)] (fun _ _=>none)
def QCf (p0:Ah)(p1:Aa)(p2 p3:Int):OV:=br (Gw p0 p1 p2 p3) (br (ine (Xp p0 p1 p2 p3) 0) (some (.tu [(.t .bool false),(.t tI 0),(.t tI (Xp p0 p1 p2 p3))],[])) (some (.tu [(.t .bool (GJ p0 p1 p2 p3)),(.t tI (Z6 p0 p1 p2 p3)),(.t tI 0)],[]))) none
theorem s_f150 (y u p d)(h:Gw y u p d=true):QCf y u p d=some (.tu [.t .bool (ZJ y u p d).1,.t tI (ZJ y u p d).2.1,.t tI (ZJ y u p d).2.2],[]):=by
 simp only [QCf,h,Qd,ZJ,QC6]
 by_cases h0:Xp y u p d=0<;>simp [h0,Qd,Qh]
def QCg:Ent:=Qm (.pr Q3 (.pr Qe (.pr tI (.pr tI .nil)))) (fun x=>(Gw x.1 x.2.1 x.2.2.1 x.2.2.2.1)) (fun x=>(.tu [(.t .bool ((ZJ x.1 x.2.1 x.2.2.1 x.2.2.2.1).1)),(.t tI (((ZJ x.1 x.2.1 x.2.2.1 x.2.2.2.1).2).1)),(.t tI (((ZJ x.1 x.2.1 x.2.2.1 x.2.2.2.1).2).2))]))
theorem QSD:EM 150 QCg:=mS g_f150 QSC [((.t 8),some .bool),((.t 9),some tI),((.t 10),some tI)] false (gB (gD QSB (gD QSz (gD Qzw gN)))) fun m=>Qq m fun x hok=>kT (s_f150 x.1 x.2.1 x.2.2.1 x.2.2.2.1 hok)
def EY (l:List Aa)(k:Nat):Bool:=Zr (ZL l k).1&&(!ilt (ZL l k).2.1 0&&(!ige (ZL l k).2.1 4294967296&&(decide (k=0)|| !ige (ZL l (k-1)).1 (ZL l k).1)))
def Yb (l:List Aa)(k:Nat):Bool:=(List.range' k (l.length-k)).all (EY l)
theorem QGp (l:List Aa):Yb l l.length=true:=by
 unfold Yb
 rw [D0]
 rfl
theorem QGq {l:List Aa}{k:Nat}(hk:k<l.length):Yb l k=(EY l k&&Yb l (k+1)):=by
 have:l.length-k=(l.length-(k+1))+1:=by omega
 unfold Yb
 rw [this,Dr,B2]
def exG (x:Ae):Bool:=JJ x.1&&(!ilt x.2.1 1&&(!igt x.2.1 4&&(JF x.2.2.1&&(!ilt x.2.2.2.1.1 0&&(!ige x.2.2.2.1.1 x.2.2.2.1.2.1&&(!igt x.2.2.2.1.2.1 40001&&(!igt (Qb x.2.2.2.2.1) 8&&Yb x.2.2.2.2.1 0)))))))
def exZ (x:Ae):Int:=bif exG x then 0 else 26
theorem Ve (x:Ae):ine (exZ x) 0= !exG x:=by
 unfold exZ
 cases exG x<;>rfl
def Jy (x:Ae):Bool:=Jc x.2.2.1
theorem QWU {M:Type}(c1 c2 c3 u:Bool)(R E:Option M):br (!c1) R (br c2 R (br c3 R (br (!u) R E)))=br (!((c1&&(!c2&&(!c3&&true)))&&u)) R E:=by
 cases c1<;>cases c2<;>cases c3<;>rfl
theorem QWV {M:Type}(c1 c2 c3 c4 u:Bool)(R E:Option M):br (!c1) R (br c2 R (br c3 R (br c4 R (br (!u) R E))))=br (!((c1&&(!c2&&(!c3&& !c4)))&&u)) R E:=by
 cases c1<;>cases c2<;>cases c3<;>cases c4<;>rfl
theorem QWW {M:Type}(a b c2 c3 u:Bool)(R E:Option M):br a R (br b R (br c2 R (br c3 R (br (!u) R E))))=br (!(((!a&& !b)&&(!c2&&(!c3&&true)))&&u)) R E:=by
 cases a<;>cases b<;>cases c2<;>cases c3<;>rfl
theorem QWX {M:Type}(a b c2 c3 c4 u:Bool)(R E:Option M):br a R (br b R (br c2 R (br c3 R (br c4 R (br (!u) R E)))))=br (!(((!a&& !b)&&(!c2&&(!c3&& !c4)))&&u)) R E:=by
 cases a<;>cases b<;>cases c2<;>cases c3<;>cases c4<;>rfl
abbrev Qiy:Sh:=⟨[(1,.ptr 1 0),(51,.ty (.sl Qe)),(52,.ty tI),(53,.ty tI)],[(1,.box QK)]⟩
abbrev QrL:Sh:=⟨[(2,.ty tI)],[]⟩
abbrev Qiz:Sh:=⟨[],[]⟩
def QrM:Fg:=Qiy.f
def QGr:TC:=aF Tryz.f68 [(122,pL 0 QrM),(1957,.fg Qiz.f),(15666,pE [[4],[4],[],[],[],[4],[4],[],[],[],[4],[4],[],[],[],[],[],[],[1],[1],[],[],[],[],[],[4],[4],[],[],[]] (oN 30)),(62669,.fg QrL.f)]
def QGs:TC:=lb 0 QGr
def QGt (x51:List Aa)(x52 x53:Int)(y1:Ae):VS:=Qiy.st ((),x51,x52,x53,()) (y1,())
def Wr (x2:Int):VS:=QrL.st (x2,()) ()
def QrN  : VS:=Qiz.st () ()
def QWY:VS->Option (Bool×List (Bool×Exit×VS)):=mkL Qiy (fun x y=>((x.2.1==y.1.2.2.2.2.1)&&Qw x.2.1 x.2.2.1 x.2.2.2.1)) (fun x y=>[((!Yb x.2.1 x.2.2.2.1.toNat),.ret,Wr (26)),(true,.exit 0,QrN)])
def QrO:G:=gG 89 [(99,QcG),(102,QbL),(103,IF)] (Ls [QWY])
def QiA (x51:List Aa)(x52 x53:Int)(y1:Ae):OX:=Qu (Qx QrO QrM QGs) (QGt x51 x52 x53 y1)
def Qct (kk:List Aa->Int->Int->Ae->OX)(x51:List Aa)(x52 x53:Int)(y1:Ae):OX:=
 let a1:=lgt Qe x51 (Int.toNat x53)
 br (ilt x53 x52) (br (cIx x51 x53) (br (!(Zr (a1.1))) (some (.ret,Wr 26)) (br (ilt ((a1.2).1) 0) (some (.ret,Wr 26)) (br (ige ((a1.2).1) 4294967296) (some (.ret,Wr 26)) (br (igt x53 0) (br (cIx y1.2.2.2.2.1 (QQ .i64 x53 1)) (br (ige ((lgt Qe y1.2.2.2.2.1 (Int.toNat (QQ .i64 x53 1))).1) (a1.1)) (some (.ret,Wr 26)) (kk x51 x52 (Qi .i64 x53 1) y1)) none) (kk x51 x52 (Qi .i64 x53 1) y1))))) none) (some (.exit 0,QrN))
def QiB (x51:List Aa)(x52 x53:Int)(y1:Ae):OX:=br (!Yb x51 x53.toNat) (some (.ret,Wr (26)))<|some (.exit 0,QrN)
theorem QGu (x51 x52 x53 y1):QiA x51 x52 x53 y1=Qct QiA x51 x52 x53 y1:=lnT (x:=Qct (fun x51 x52 x53 y1=>some (.normal,QGt x51 x52 x53 y1)) x51 x52 x53 y1) (by simp only [Qct,nxA];rfl)
def r_f68 (p0:Ae):OV:=br (!(JJ p0.1)) (some (.t tI 26,[])) (br (ilt p0.2.1 1) (some (.t tI 26,[])) (br (igt p0.2.1 4) (some (.t tI 26,[])) (br (Jc p0.2.2.1) (br (!(JF p0.2.2.1)) (some (.t tI 26,[])) (br (ilt p0.2.2.2.1.1 0) (some (.t tI 26,[])) (br (ige p0.2.2.2.1.1 p0.2.2.2.1.2.1) (some (.t tI 26,[])) (br (igt p0.2.2.2.1.2.1 40001) (some (.t tI 26,[])) (br (igt (Qb p0.2.2.2.2.1) 8) (some (.t tI 26,[])) (br ((p0.2.2.2.2.1==p0.2.2.2.2.1)&&Qw p0.2.2.2.2.1 (Qb p0.2.2.2.2.1) (0:Int)) (br (!Yb p0.2.2.2.2.1 (0:Int).toNat) (some (.t tI (26),[])) (some (.t tI 0,[]))) none)))))) none)))
theorem QWZ (x51:List Aa)(x52 x53:Int)(y1:Ae)(h:((x51==y1.2.2.2.2.1)&&Qw x51 x52 x53)=true):QiA x51 x52 x53 y1=QiB x51 x52 x53 y1:=by
 simp only [Bd,Dh] at h
 obtain ⟨hx,h0⟩:=h
 obtain ⟨rfl,h3,k,rfl,hk⟩:=Jv h0
 clear h0
 refine QP x51 (fun k=>QiA x51 (x51.length:Int) (k:Int) y1=QiB x51 (x51.length:Int) (k:Int) y1) ?_ ?_ k hk
 ·rw [QGu]
  simp only [Qct,QiB,Qv,BK,BP,Qh,Bb,QGp,BA]
 ·intro k hk ih
  rw [QGu]
  simp only [Qct,Qv,QM,hk,Bu,Qd,Bb,QO (k:=k),ih, <- hx]
  simp only [QiB,Bb,QGq hk]
  by_cases hk0:k=0
  ·subst hk0
   rw [show igt ((0:Nat):Int) 0=false from rfl]
   simp only [Qh]
   exact QWU ..
  ·rw [show igt (k:Int) 0=true from Bc (by omega),Vf (by omega) hk0]
   simp only [Qd,QM,show k-1<x51.length by omega,Bu,Bb]
   unfold EY
   rw [show decide (k=0)=false from Bn hk0,De]
   exact QWV ..
theorem QW0:LO QrO QrM QGs 0:=QC (s:=Qiy) fun x y h _ q=>by simp only [QA,QB] at q;exact (QWZ x.2.1 x.2.2.1 x.2.2.2.1 y.1 h).trans q
theorem s_f68 (x)(h:Jy x=true):r_f68 x=some (.t tI (exZ x),[]):=by
 have h:Jc x.2.2.1=true:=h
 simp only [r_f68,h,Qd,beq_self_eq_true,By,exZ,exG,Bt]
 cases g:igt (Qb x.2.2.2.2.1) 8 with
 |true=>cases JJ x.1<;>cases ilt x.2.1 1<;>cases igt x.2.1 4<;>cases JF x.2.2.1<;>cases ilt x.2.2.2.1.1 0<;>cases ige x.2.2.2.1.1 x.2.2.2.1.2.1<;>cases igt x.2.2.2.1.2.1 40001<;>rfl
 |false=>
  simp only [igt,Qb,Bo] at g
  rw [Jw (by omega)]
  cases JJ x.1<;>cases ilt x.2.1 1<;>cases igt x.2.1 4<;>cases JF x.2.2.1<;>cases ilt x.2.2.2.1.1 0<;>cases ige x.2.2.2.1.1 x.2.2.2.1.2.1<;>cases igt x.2.2.2.1.2.1 40001<;>cases Yb x.2.2.2.2.1 0<;>rfl
def QiC:Ent:=Qm (.pr QK .nil) (fun x=>(Jy x.1)) (fun x=>(.t tI (exZ x.1)))
theorem QrP:EM 68 QiC:=mS (lk:=lkL (lkc QW0 lkn)) QrO QGr [((.t 2),some tI)] false (gB (gD Qjf (gD Qg8 (gD Qak gN)))) fun m=>Qq m fun x hok=>kT (s_f68 x.1 hok)
abbrev QiD:Sh:=⟨[(1,.ptr 1 0),(3,.ty tI)],[(1,.box QK)]⟩
def QrQ:Fg:=QiD.f
def QGv:TC:=aF Tryz.f74 [(58,pL 0 QrQ),(931,.fg Qiz.f),(3730,pE [[4],[4],[],[],[4],[4],[],[],[],[4],[4],[],[],[],[4],[4],[],[],[],[],[],[],[1],[1],[],[],[],[],[],[4],[4],[],[],[]] (oN 34)),(14925,.fg QrL.f)]
def QGw:TC:=lb 0 QGv
def QGx (x3:Int)(y1:Ae):VS:=QiD.st ((),x3,()) (y1,())
def QrR  : VS:=Qiz.st () ()
def QW1:VS->Option (Bool×List (Bool×Exit×VS)):=mkL QiD (fun x y=>(decide (0<=x.2.1/\x.2.1<=y.1.2.2.2.2.1.length/\y.1.2.2.2.2.1.length<=8))) (fun x y=>[((!Yb y.1.2.2.2.2.1 x.2.1.toNat),.ret,Wr (26)),(true,.exit 0,QrR)])
def QrS:G:=gG 98 [(118,Qhc),(119,IG)] (Ls [QW1])
def QiE (x3:Int)(y1:Ae):OX:=Qu (Qx QrS QrQ QGw) (QGx x3 y1)
def Qcu (kk:Int->Ae->OX)(x3:Int)(y1:Ae):OX:=
 let a1:=lgt Qe y1.2.2.2.2.1 (Int.toNat x3)
 br (ilt x3 (Qb y1.2.2.2.2.1)) (br (cIx y1.2.2.2.2.1 x3) (br (ilt (a1.1) 0) (some (.ret,Wr 26)) (br (igt (a1.1) 2147483648) (some (.ret,Wr 26)) (br (ilt ((a1.2).1) 0) (some (.ret,Wr 26)) (br (ige ((a1.2).1) 4294967296) (some (.ret,Wr 26)) (br (igt x3 0) (br (cIx y1.2.2.2.2.1 (QQ .i64 x3 1)) (br (ige ((lgt Qe y1.2.2.2.2.1 (Int.toNat (QQ .i64 x3 1))).1) (a1.1)) (some (.ret,Wr 26)) (kk (Qi .i64 x3 1) y1)) none) (kk (Qi .i64 x3 1) y1)))))) none) (some (.exit 0,QrR))
def QiF (x3:Int)(y1:Ae):OX:=br (!Yb y1.2.2.2.2.1 x3.toNat) (some (.ret,Wr (26)))<|some (.exit 0,QrR)
theorem QGy (x3 y1):QiE x3 y1=Qcu QiE x3 y1:=lnT (x:=Qcu (fun x3 y1=>some (.normal,QGx x3 y1)) x3 y1) (by simp only [Qcu,nxA];rfl)
def r_f74 (p0:Ae):OV:=br (!(JJ p0.1)) (some (.t tI 26,[])) (br (ilt p0.2.1 1) (some (.t tI 26,[])) (br (igt p0.2.1 4) (some (.t tI 26,[])) (br (Jc p0.2.2.1) (br (!(JF p0.2.2.1)) (some (.t tI 26,[])) (br (ilt p0.2.2.2.1.1 0) (some (.t tI 26,[])) (br (ige p0.2.2.2.1.1 p0.2.2.2.1.2.1) (some (.t tI 26,[])) (br (igt p0.2.2.2.1.2.1 40001) (some (.t tI 26,[])) (br (igt (Qb p0.2.2.2.2.1) 8) (some (.t tI 26,[])) (br (decide (0<=(0:Int)/\(0:Int)<=p0.2.2.2.2.1.length/\p0.2.2.2.2.1.length<=8)) (br (!Yb p0.2.2.2.2.1 (0:Int).toNat) (some (.t tI (26),[])) (some (.t tI 0,[]))) none)))))) none)))
theorem QW2 (x3:Int)(y1:Ae)(h:(decide (0<=x3/\x3<=y1.2.2.2.2.1.length/\y1.2.2.2.2.1.length<=8))=true):QiE x3 y1=QiF x3 y1:=by
 simp only [Ba] at h
 obtain ⟨h0,h1,h2⟩:=h
 obtain ⟨k,rfl⟩:=Bm h0
 refine QP y1.2.2.2.2.1 (fun k=>QiE (k:Int) y1=QiF (k:Int) y1) ?_ ?_ k (by omega)
 ·rw [QGy]
  simp only [Qcu,QiF,Qb,Qv,BK,BP,Qh,Bb,QGp,BA]
 ·intro k hk ih
  rw [QGy]
  simp only [Qcu,Qb,Qv,QM,hk,Bu,Qd,Bb,QO (k:=k),ih]
  simp only [QiF,Bb,QGq hk]
  by_cases hk0:k=0
  ·subst hk0
   rw [show igt ((0:Nat):Int) 0=false from rfl]
   simp only [Qh]
   exact QWW ..
  ·rw [show igt (k:Int) 0=true from Bc (by omega),Vf (by omega) hk0]
   simp only [Qd,QM,show k-1<y1.2.2.2.2.1.length by omega,Bu,Bb]
   unfold EY
   rw [show decide (k=0)=false from Bn hk0,De]
   exact QWX ..
theorem QW3:LO QrS QrQ QGw 0:=QC (s:=QiD) fun x y h _ q=>by simp only [QA,QB] at q;exact (QW2 x.2.1 y.1 h).trans q
theorem s_f74 (x)(h:Jy x=true):r_f74 x=some (.t tI (exZ x),[]):=by
 have h:Jc x.2.2.1=true:=h
 simp only [r_f74,h,Qd,exZ,exG,Bt]
 cases g:igt (Qb x.2.2.2.2.1) 8 with
 |true=>cases JJ x.1<;>cases ilt x.2.1 1<;>cases igt x.2.1 4<;>cases JF x.2.2.1<;>cases ilt x.2.2.2.1.1 0<;>cases ige x.2.2.2.1.1 x.2.2.2.1.2.1<;>cases igt x.2.2.2.1.2.1 40001<;>rfl
 |false=>
  simp only [igt,Qb,Bo] at g
  rw [Bc (show (0:Int)<=0/\(0:Int)<=x.2.2.2.2.1.length/\x.2.2.2.2.1.length<=8 by omega)]
  cases JJ x.1<;>cases ilt x.2.1 1<;>cases igt x.2.1 4<;>cases JF x.2.2.1<;>cases ilt x.2.2.2.1.1 0<;>cases ige x.2.2.2.1.1 x.2.2.2.1.2.1<;>cases igt x.2.2.2.1.2.1 40001<;>cases Yb x.2.2.2.2.1 0<;>rfl
def QiG:Ent:=Qm (.pr QK .nil) (fun x=>(Jy x.1)) (fun x=>(.t tI (exZ x.1)))
theorem QrT:EM 74 QiG:=mS (lk:=lkL (lkc QW3 lkn)) QrS QGv [((.t 2),some tI)] false (gB (gD Qp4 (gD Qao gN))) fun m=>Qq m fun x hok=>kT (s_f74 x.1 hok)
def exP (x:Ae):List Ql:=[QV x.1.1,QV x.1.2.1,QV x.2.1,Zd x.2.2.1,QV x.2.2.2.1.1,QV x.2.2.2.1.2.1]
def QU (x:Ae):List Int×Int:=bif exG x then ZR (ZI (exP x)) else ([],26)
theorem EZ {x:Ae}(h:exG x=true):JH x.1.1=true/\JH x.1.2.1=true/\JH x.2.1=true/\x.2.2.1.size<=32/\JH x.2.2.2.1.1=true/\JH x.2.2.2.1.2.1=true/\x.2.2.2.2.1.length<=8/\Yb x.2.2.2.2.1 0=true:=by
 simp only [exG,Bd,BB,ilt,igt,ige,Qb,Bo] at h
 obtain ⟨h1,h2,h3,h4,h5,h6,h7,h8,h9⟩:=h
 have hb:=QJ3 h1
 exact ⟨Bc (by omega),Bc (by omega),Bc (by omega),Qkj h4,Bc (by omega),Bc (by omega),by omega,h9⟩
theorem QGz (n:Nat){x:Ae}(h:exG x=true): ∀ z∈exP x,okT (n+2) z=true:=by
 obtain ⟨h1,h2,h3,h4,h5,h6,h7,h8⟩:=EZ h
 intro z hz
 simp only [exP,BQ,B3,Dt] at hz
 rcases hz with rfl|rfl|rfl|rfl|rfl|rfl
 ·exact W0 _ _
 ·exact W0 _ _
 ·exact W0 _ _
 ·exact Qc7 _ (by omega)
 ·exact W0 _ _
 ·exact W0 _ _
theorem QrU {x:Ae}(h:exG x=true):(Zl (ZI (exP x))).length<=1000:=by
 obtain ⟨h1,h2,h3,h4,h5,h6,h7,h8⟩:=EZ h
 have e0:=Qki (exP x)
 have e1:=W4 x.1.1
 have e2:=W4 x.1.2.1
 have e3:=W4 x.2.1
 have e4:=Qkh x.2.2.1
 have e5:=W4 x.2.2.2.1.1
 have e6:=W4 x.2.2.2.1.2.1
 simp only [exP,UJ,Eg,Bj,Bv] at e0
 simp only [exP]
 omega
theorem QGA {x:Ae}(h:exG x=true):ZH (ZI (exP x))=true:=by
 have:=QrU h
 simp only [ZH,Bd,Ba]
 exact ⟨Qkf (by simp [exP]) (QGz 9 h),by omega⟩
theorem QGB {x:Ae}(h:exG x=true):Yk (exP x)=true:=Qkg (n:=11) (by simp [exP]) (QGz 9 h)
theorem QrV {x:Ae}(h:exG x=true):QU x=(Zl (ZI (exP x)),0):=by
 have:=QrU h
 rw [QU,h,B6,ZR,if_neg (by omega)]
theorem QW4 (x:Ae):ine (QU x).2 0= !exG x:=by
 cases h:exG x with
 |true=>rw [QrV h];rfl
 |false=>rw [QU,h];rfl
theorem QrW (x:Ae):Xs (QU x).1=true:=by
 cases h:exG x with
 |true=>
  rw [QrV h]
  exact Bc (show (Zl (ZI (exP x))).length<=100000 by have:=QrU h;omega)
 |false=>
  rw [QU,h]
  rfl
def QrX:TC:=aF Tryz.f214 [(14,pE [[1],[1],[1],[],[1],[1],[1],[],[1],[1],[],[1],[1],[],[1],[1],[1],[],[1],[1],[1],[],[],[],[],[],[],[],[]] (oN 29))]
def QGC:List (RV×Option Ty):=[((.t 2),some (.sl (.int .u8))),((.t 3),some tI)]
def QiH:G:=gG 37 [(68,QiC),(231,Qy1),(232,Qy3),(233,QLZ),(234,QL6)] (fun _ _=>none)
def QiI (p0:Ae):OV:=
 let a6:=((QV p0.1.1).2)
 let a4:=QV p0.1.2.1
 let a7:=((QV p0.2.1).2)
 let a5:=Zd p0.2.2.1
 let a3:=QV p0.2.2.2.1.1
 let a2:=QV p0.2.2.2.1.2.1
 let a1:=(ZI ([((QV p0.1.1).1,(a6.1,((a6.2).1,((List.map Val.of (List.map Val.un (((a6.2).2).1))),())))),(a4.1,((a4.2).1,(((a4.2).2).1,((List.map Val.of (List.map Val.un ((((a4.2).2).2).1))),())))),((QV p0.2.1).1,(a7.1,((a7.2).1,((List.map Val.of (List.map Val.un (((a7.2).2).1))),())))),(a5.1,((a5.2).1,(((a5.2).2).1,((List.map Val.of (List.map Val.un ((((a5.2).2).2).1))),())))),(a3.1,((a3.2).1,(((a3.2).2).1,((List.map Val.of (List.map Val.un ((((a3.2).2).2).1))),())))),(a2.1,((a2.2).1,(((a2.2).2).1,((List.map Val.of (List.map Val.un ((((a2.2).2).2).1))),()))))]))
 br (Jy p0) (br (ine (exZ p0) 0) (some (.tu [(.t (.sl (.int .u8)) ([]:List Int)),(.t tI (exZ p0))],[])) (br (JH p0.1.1) (br (JH p0.1.2.1) (br (JH p0.2.1) (br (YB p0.2.2.1) (br (JH p0.2.2.2.1.1) (br (JH p0.2.2.2.1.2.1) (br (Yk ([((QV p0.1.1).1,(a6.1,((a6.2).1,((List.map Val.of (List.map Val.un (((a6.2).2).1))),())))),(a4.1,((a4.2).1,(((a4.2).2).1,((List.map Val.of (List.map Val.un ((((a4.2).2).2).1))),())))),((QV p0.2.1).1,(a7.1,((a7.2).1,((List.map Val.of (List.map Val.un (((a7.2).2).1))),())))),(a5.1,((a5.2).1,(((a5.2).2).1,((List.map Val.of (List.map Val.un ((((a5.2).2).2).1))),())))),(a3.1,((a3.2).1,(((a3.2).2).1,((List.map Val.of (List.map Val.un ((((a3.2).2).2).1))),())))),(a2.1,((a2.2).1,(((a2.2).2).1,((List.map Val.of (List.map Val.un ((((a2.2).2).2).1))),()))))])) (br (ZH a1) (some (.tu [(.t (.sl (.int .u8)) ((ZR a1).1)),(.t tI ((ZR a1).2))],[])) none) none) none) none) none) none) none) none)) none
theorem e_f214 (p0:Ae):JL QiH QrX QGC false [.t QK p0] []=QiI p0:=by kernel_rfl
theorem QW5:GOk Tryz.prog QiH:=Zq _ (gA (gD QrP (gD QPQ (gD QPS (gD Q1C (gD Q1I gN))))))
theorem QW6:QrX.lok QiH:=by repeat (first|exact trivial|refine ⟨?_, ?_⟩)
theorem s_f214 (x)(h:Jy x=true):QiI x=some (.tu [.t (.sl (.int .u8)) (QU x).1,.t tI (QU x).2],[]):=by
 cases hv:exG x with
 |true=>
  obtain ⟨h1,h2,h3,h4,h5,h6,h7,h8⟩:=EZ hv
  have hp:=QGB hv
  have he:=QGA hv
  simp only [exP] at hp he
  have e:QU x=ZR (ZI (exP x)):=by rw [QU,hv,B6]
  rw [e]
  simp only [QiI,h,Ve,hv,BA,Qd,Qh,h1,h2,h3,Qc9 h4,h5,h6,Qc8,hp,he,exP]
 |false=>
  have e:QU x=([],26):=by rw [QU,hv,BW]
  have e2:exZ x=26:=by rw [exZ,hv,BW]
  rw [e]
  simp only [QiI,h,Qd,e2]
  rw [show ine 26 0=true from rfl,Qd]
def QrY:Ent:=Qm (.pr QK .nil) (fun x=>(Jy x.1)) (fun x=>(.tu [(.t (.sl (.int .u8)) ((QU x.1).1)),(.t tI ((QU x.1).2))]))
theorem QW7:QH Tryz.prog 214 (QD QrY):=Qq (R:=JL QiH QrX QGC false) (mG Tryz.func214 (by kernel_rfl) Tryz.ntmps214 (by kernel_rfl) QW5 QW6) fun x hok=>(e_f214 x.1).trans (s_f214 x.1 hok)
def tc_f58:TC:=aF Tryz.f58 [(14,pE [[1],[1],[1],[],[1],[1],[1],[],[1],[1],[],[1],[1],[],[1],[1],[1],[],[1],[1],[1],[],[],[]] (oN 24))]
def g_f58:G:=gG 39 [(74,QiG),(88,Qlm),(89,Qvd),(90,QnH),(91,Qfz)] (fun _ _=>none)
def QrZ (p0:Ae):OV:=
 let a6:=((QV p0.1.1).2)
 let a4:=QV p0.1.2.1
 let a7:=((QV p0.2.1).2)
 let a5:=Zd p0.2.2.1
 let a3:=QV p0.2.2.2.1.1
 let a2:=QV p0.2.2.2.1.2.1
 let a1:=(ZI ([((QV p0.1.1).1,(a6.1,((a6.2).1,((List.map Val.of (List.map Val.un (((a6.2).2).1))),())))),(a4.1,((a4.2).1,(((a4.2).2).1,((List.map Val.of (List.map Val.un ((((a4.2).2).2).1))),())))),((QV p0.2.1).1,(a7.1,((a7.2).1,((List.map Val.of (List.map Val.un (((a7.2).2).1))),())))),(a5.1,((a5.2).1,(((a5.2).2).1,((List.map Val.of (List.map Val.un ((((a5.2).2).2).1))),())))),(a3.1,((a3.2).1,(((a3.2).2).1,((List.map Val.of (List.map Val.un ((((a3.2).2).2).1))),())))),(a2.1,((a2.2).1,(((a2.2).2).1,((List.map Val.of (List.map Val.un ((((a2.2).2).2).1))),()))))]))
 br (Jy p0) (br (ine (exZ p0) 0) (some (.tu [(.t (.sl (.int .u8)) ([]:List Int)),(.t tI (exZ p0))],[])) (br (JH p0.1.1) (br (JH p0.1.2.1) (br (JH p0.2.1) (br (YB p0.2.2.1) (br (JH p0.2.2.2.1.1) (br (JH p0.2.2.2.1.2.1) (br (Yk ([((QV p0.1.1).1,(a6.1,((a6.2).1,((List.map Val.of (List.map Val.un (((a6.2).2).1))),())))),(a4.1,((a4.2).1,(((a4.2).2).1,((List.map Val.of (List.map Val.un ((((a4.2).2).2).1))),())))),((QV p0.2.1).1,(a7.1,((a7.2).1,((List.map Val.of (List.map Val.un (((a7.2).2).1))),())))),(a5.1,((a5.2).1,(((a5.2).2).1,((List.map Val.of (List.map Val.un ((((a5.2).2).2).1))),())))),(a3.1,((a3.2).1,(((a3.2).2).1,((List.map Val.of (List.map Val.un ((((a3.2).2).2).1))),())))),(a2.1,((a2.2).1,(((a2.2).2).1,((List.map Val.of (List.map Val.un ((((a2.2).2).2).1))),()))))])) (br (ZH a1) (some (.tu [(.t (.sl (.int .u8)) ((ZR a1).1)),(.t tI ((ZR a1).2))],[])) none) none) none) none) none) none) none) none)) none
theorem s_f58 (x)(h:Jy x=true):QrZ x=some (.tu [.t (.sl (.int .u8)) (QU x).1,.t tI (QU x).2],[]):=by
 cases hv:exG x with
 |true=>
  obtain ⟨h1,h2,h3,h4,h5,h6,h7,h8⟩:=EZ hv
  have hp:=QGB hv
  have he:=QGA hv
  simp only [exP] at hp he
  have e:QU x=ZR (ZI (exP x)):=by rw [QU,hv,B6]
  rw [e]
  simp only [QrZ,h,Ve,hv,BA,Qd,Qh,h1,h2,h3,Qc9 h4,h5,h6,Qc8,hp,he,exP]
 |false=>
  have e:QU x=([],26):=by rw [QU,hv,BW]
  have e2:exZ x=26:=by rw [exZ,hv,BW]
  rw [e]
  simp only [QrZ,h,Qd,e2]
  rw [show ine 26 0=true from rfl,Qd]
def Qr0:Ent:=Qm (.pr QK .nil) (fun x=>(Jy x.1)) (fun x=>(.tu [(.t (.sl (.int .u8)) ((QU x.1).1)),(.t tI ((QU x.1).2))]))
theorem QGD:EM 58 Qr0:=mS g_f58 tc_f58 [((.t 2),some (.sl (.int .u8))),((.t 3),some tI)] false (gB (gD QrT (gD Qvc (gD QL7 (gD QyL (gD QnL gN)))))) fun m=>Qq m fun x hok=>kT (s_f58 x.1 hok)
def Ur (x:Ae)(u:Aa)(p:Int)(s:ByteArray)(d:Int):Bool:=(and (ieq x.1.1 u.1) (and (ieq x.1.2.1 u.2.1) true))&&(ieq x.2.1 p&&(seq x.2.2.1 s&&(ile x.2.2.2.1.1 d&&ilt d x.2.2.2.1.2.1)))
def QW8:TC:=aF Tryz.f187 []
def g_f187:G:=gG 41 [] (fun _ _=>none)
def QGE (p0:Ae)(p1:Aa)(p2:Int)(p3:ByteArray)(p4:Int):OV:=br (and (ieq p0.1.1 p1.1) (and (ieq p0.1.2.1 p1.2.1) true)) (br (ieq p0.2.1 p2) (br (seq p0.2.2.1 p3) (br (ile p0.2.2.2.1.1 p4) (some (.t .bool (ilt p4 p0.2.2.2.1.2.1),[])) (some (.t .bool false,[]))) (some (.t .bool false,[]))) (some (.t .bool false,[]))) (some (.t .bool false,[]))
theorem s_f187 (x u p s d):QGE x u p s d=some (.t .bool (Ur x u p s d),[]):=by
 unfold QGE Ur
 cases (and (ieq x.1.1 u.1) (and (ieq x.1.2.1 u.2.1) true))<;>cases ieq x.2.1 p<;>cases seq x.2.2.1 s<;>cases ile x.2.2.2.1.1 d<;>rfl
def QGF:Ent:=Qm (.pr QK (.pr Qe (.pr tI (.pr .str (.pr tI .nil))))) (fun x=>true) (fun x=>(.t .bool (Ur x.1 x.2.1 x.2.2.1 x.2.2.2.1 x.2.2.2.2.1)))
theorem QW9:EM 187 QGF:=mS g_f187 QW8 [((.t 10),some .bool)] false (gB gN) fun m=>Qq m fun x _=>kT (s_f187 x.1 x.2.1 x.2.2.1 x.2.2.2.1 x.2.2.2.2.1)
def QXa:TC:=aF Tryz.f198 []
def g_f198:G:=gG 41 [] (fun _ _=>none)
def QGG (p0:Ae)(p1:Aa)(p2:Int)(p3:ByteArray)(p4:Int):OV:=br (and (ieq p0.1.1 p1.1) (and (ieq p0.1.2.1 p1.2.1) true)) (br (ieq p0.2.1 p2) (br (seq p0.2.2.1 p3) (br (ige p4 p0.2.2.2.1.1) (some (.t .bool (ilt p4 p0.2.2.2.1.2.1),[])) (some (.t .bool false,[]))) (some (.t .bool false,[]))) (some (.t .bool false,[]))) (some (.t .bool false,[]))
theorem s_f198 (x u p s d):QGG x u p s d=some (.t .bool (Ur x u p s d),[]):=by
 unfold QGG Ur
 have e:ige d x.2.2.2.1.1=ile x.2.2.2.1.1 d:=rfl
 rw [e]
 cases (and (ieq x.1.1 u.1) (and (ieq x.1.2.1 u.2.1) true))<;>cases ieq x.2.1 p<;>cases seq x.2.2.1 s<;>cases ile x.2.2.2.1.1 d<;>rfl
def QGH:Ent:=Qm (.pr QK (.pr Qe (.pr tI (.pr .str (.pr tI .nil))))) (fun x=>true) (fun x=>(.t .bool (Ur x.1 x.2.1 x.2.2.1 x.2.2.2.1 x.2.2.2.2.1)))
theorem QXb:EM 198 QGH:=mS g_f198 QXa [((.t 10),some .bool)] false (gB gN) fun m=>Qq m fun x _=>kT (s_f198 x.1 x.2.1 x.2.2.1 x.2.2.2.1 x.2.2.2.2.1)
def E0 (x:Ae)(o:Ab):Bool:=Jy x&&Jm o.1 0
def YV (b:List Int)(o:Ab)(s:Aa):Bool:=ieq s.2.1 (J9 b)&&Ju o.1 s.1
def QiJ (x:Ae)(o:Ab):Nat:=(x.2.2.2.2.1.filter (YV (QU x).1 o)).length
def Xu (x:Ae)(o:Ab):Bool:=exG x&&(!ilt o.2.1 1&&ige ((QiJ x o:Nat):Int) o.2.1)
abbrev QiK:Sh:=⟨[(2,.ptr 2 0),(3,.ptr 3 0),(5,.ty (.sl (.int .u8))),(7,.ty tI),(8,.ty tI)],[(2,.box QK),(3,.box Qn)]⟩
abbrev QGI:Sh:=⟨[(3,.ptr 3 0),(7,.ty tI)],[(3,.box Qn)]⟩
def Qr1:Fg:=QiK.f
def QGJ:TC:=aF Tryz.f197 [(250,pL 0 Qr1),(4003,.fg QGI.f),(8008,pE [[2],[2],[],[],[],[],[],[],[],[],[3],[3],[2],[2],[],[],[],[],[],[]] (oN 20))]
def QGK:TC:=lb 0 QGJ
def QGL (x5:List Int)(x7 x8:Int)(y2:Ae)(y3:Ab):VS:=QiK.st ((),(),x5,x7,x8,()) (y2,y3,())
def Qr2 (x7:Int)(y3:Ab):VS:=QGI.st ((),x7,()) (y3,())
def QXc:VS->Option (Bool×List (Bool×Exit×VS)):=mkL QiK (fun x y=>(decide (0<=x.2.2.2.2.1/\x.2.2.2.2.1<=y.1.2.2.2.2.1.length/\y.1.2.2.2.2.1.length<=8/\0<=x.2.2.2.1/\x.2.2.2.1<=x.2.2.2.2.1)&&(Xs x.2.2.1&&Jm y.2.1.1 0))) (fun x y=>[(true,.exit 0,Qr2 (x.2.2.2.1+(((y.1.2.2.2.2.1).drop x.2.2.2.2.1.toNat).filter (YV x.2.2.1 y.2.1)).length) (y.2.1))])
def Qr3:G:=gG 54 [(58,Qr0),(59,Qhk),(85,Qab)] (Ls [QXc])
def QiL (x5:List Int)(x7 x8:Int)(y2:Ae)(y3:Ab):OX:=Qu (Qx Qr3 Qr1 QGK) (QGL x5 x7 x8 y2 y3)
def Qcv (kk:List Int->Int->Int->Ae->Ab->OX)(x5:List Int)(x7 x8:Int)(y2:Ae)(y3:Ab):OX:=
 let a1:=lgt Qe y2.2.2.2.2.1 (Int.toNat x8)
 let a2:=Qi .i64 x8 1
 br (ilt x8 (Qb y2.2.2.2.2.1)) (br (cIx y2.2.2.2.2.1 x8) (br (Xs x5) (br (ieq ((a1.2).1) (J9 x5)) (br (cIx y2.2.2.2.2.1 x8) (br (Jm y3.1 (a1.1)) (br (Ju y3.1 (a1.1)) (kk x5 (Qi .i64 x7 1) a2 y2 y3) (kk x5 x7 a2 y2 y3)) none) none) (kk x5 x7 a2 y2 y3)) none) none) (some (.exit 0,Qr2 x7 y3))
def QiM (x5:List Int)(x7 x8:Int)(y2:Ae)(y3:Ab):OX:=some (.exit 0,Qr2 (x7+(((y2.2.2.2.2.1).drop x8.toNat).filter (YV x5 y3)).length) (y3))
theorem QGM (x5 x7 x8 y2 y3):QiL x5 x7 x8 y2 y3=Qcv QiL x5 x7 x8 y2 y3:=lnT (x:=Qcv (fun x5 x7 x8 y2 y3=>some (.normal,QGL x5 x7 x8 y2 y3)) x5 x7 x8 y2 y3) (by simp only [Qcv,nxA];rfl)
def QGN (p0:Ae)(p1:Ab):OV:=br (Jy p0) (br (ine ((QU p0).2) 0) (some (.t .bool false,[])) (br (ilt p1.2.1 1) (some (.t .bool false,[])) (br (decide (0<=(0:Int)/\(0:Int)<=p0.2.2.2.2.1.length/\p0.2.2.2.2.1.length<=8/\0<=(0:Int)/\(0:Int)<=(0:Int))&&(Xs ((QU p0).1)&&Jm p1.1 0)) (some (.t .bool (ige ((0:Int)+(((p0.2.2.2.2.1).drop (0:Int).toNat).filter (YV ((QU p0).1) p1)).length) (((p1).2).1)),[])) none))) none
theorem QXd (x5:List Int)(x7 x8:Int)(y2:Ae)(y3:Ab)(h:(decide (0<=x8/\x8<=y2.2.2.2.2.1.length/\y2.2.2.2.2.1.length<=8/\0<=x7/\x7<=x8)&&(Xs x5&&Jm y3.1 0))=true):QiL x5 x7 x8 y2 y3=QiM x5 x7 x8 y2 y3:=by
 simp only [Bd,Ba] at h
 obtain ⟨⟨h0,h1,h2,h3,h4⟩,h5,h6⟩:=h
 obtain ⟨k,rfl⟩:=Bm h0
 clear h0
 revert x7
 refine QP y2.2.2.2.2.1 (fun k=> ∀ x7:Int,0<=x7->x7<=(k:Int)->QiL x5 x7 (k:Int) y2 y3=QiM x5 x7 (k:Int) y2 y3) ?_ ?_ k (by omega)
 ·intro x7 _ _
  rw [QGM]
  simp only [Qcv,QiM,Qb,Qv,BK,BP,Qh,Bb,BF,List.filter_nil,Bv]
  simp
 ·intro k hk ih x7 g1 g2
  rw [QGM]
  have e6: ∀ v,Jm y3.1 v=true:=fun _=>h6
  simp only [Qcv,Qb,Qv,QM,hk,Bu,Qd,Bb,QO (k:=k),QN (y:=Qe) hk,h5,e6]
  rw [ih x7 g1 (by omega),ih (Qi .i64 x7 1) (by rw [Ja (by omega)];omega) (by rw [Ja (by omega)];omega)]
  simp only [QiM,Bb,Bg hk,Ja (show-9223372036854775808<=x7+1/\x7+1<=9223372036854775807 by omega)]
  rw [DU]
  have hv:YV x5 y3 y2.2.2.2.2.1[k]=(ieq y2.2.2.2.2.1[k].2.1 (J9 x5)&&Ju y3.1 y2.2.2.2.2.1[k].1):=rfl
  cases q1:ieq y2.2.2.2.2.1[k].2.1 (J9 x5) with
  |false=>
   rw [if_neg (by rw [hv,q1];simp)]
   rfl
  |true=>
   cases q2:Ju y3.1 y2.2.2.2.2.1[k].1 with
   |false=>
    rw [if_neg (by rw [hv,q1,q2];simp)]
    rfl
   |true=>
    rw [if_pos (by rw [hv,q1,q2];rfl)]
    simp only [Qd,Br]
    congr 3
    omega
theorem QXe:LO Qr3 Qr1 QGK 0:=QC (s:=QiK) fun x y h _ q=>by simp only [QA,QB] at q;exact (QXd x.2.2.1 x.2.2.2.1 x.2.2.2.2.1 y.1 y.2.1 h).trans q
theorem s_f197 (x o)(h:E0 x o=true):QGN x o=some (.t .bool (Xu x o),[]):=by
 obtain ⟨h1,h2⟩:=Bf.1 h
 simp only [QGN,h1,Qd,QW4,QrW,h2,Bt,Bx,B1,Db]
 unfold Xu QiJ
 cases hv:exG x with
 |false=>rfl
 |true=>
  have hl:=(EZ hv).2.2.2.2.2.2.1
  rw [Bc (show (0:Int)<=0/\(0:Int)<=x.2.2.2.2.1.length/\x.2.2.2.2.1.length<=8/\(0:Int)<=0/\(0:Int)<=0 by omega)]
  simp only [BA,Qh,Qd,By,Int.zero_add]
  cases ilt o.2.1 1<;>rfl
def QGO:Ent:=Qm (.pr QK (.pr Qn .nil)) (fun x=>(E0 x.1 x.2.1)) (fun x=>(.t .bool (Xu x.1 x.2.1)))
theorem QXf:EM 197 QGO:=mS (lk:=lkL (lkc QXe lkn)) Qr3 QGJ [((.t 4),some .bool)] false (gB (gD QGD (gD Qqd (gD Qac gN)))) fun m=>Qq m fun x hok=>kT (s_f197 x.1 x.2.1 hok)
theorem QVD {X:Nat->Nat->Prop}{w w':World}(h:Below w.heap.size w w'):Ext0 X w X w':=⟨h.size,fun b o hb hx=>⟨hx,h.cell (p:=⟨b,o,none⟩) hb⟩⟩
def Stand (w w':World):Prop:=w.heap.size<=w'.heap.size∧ ∀ b o,b<w.heap.size->w'.cell? ⟨b,o,none⟩=w.cell? ⟨b,o,none⟩
theorem Stand.below {w w':World}(h:Below w.heap.size w w'):Stand w w':=⟨h.size,fun b o hb=>h.cell (p:=⟨b,o,none⟩) hb⟩
theorem Stand.trans {a b c:World}(h:Stand a b)(k:Stand b c):Stand a c:=⟨B5 h.1 k.1,fun x o hx=>(k.2 x o (BS hx h.1)).trans (h.2 x o hx)⟩
theorem Qid {w w':World}(h:Below w.heap.size w w'):w.grownBy w' none:=⟨h.os,h.tape,h.output,h.size,fun j hj _=>h.block j hj⟩
theorem Qci {X:Nat->Nat->Prop}{w w':World}{Z:Pl}{d:D}{u:Value}(h:C X w Z d u)(k:Stand w w'):C X w' Z d u:=C.ext0 ⟨k.1,fun b o hb hx=>⟨hx,k.2 b o hb⟩⟩ _ _ (fun _ _=>rfl) h
theorem O0 {X:Nat->Nat->Prop}{w:World}{Z:Pl}:Lent X w Z []:=⟨fun j o hj=>by simp at hj,fun i j b _ hi=>by simp at hi⟩
theorem O1 {X X':Nat->Nat->Prop}{w w':World}{Z Z':Pl}{os:List VO}(h:Ends X w Z 0 X' w' Z' os):Below w.heap.size w w':=
 ⟨h.fr.os,h.fr.tape,h.fr.output,h.fr.size,fun b hb=>h.fr.keep b hb (by simp [X5])⟩
def cU (l:List Aa):List Value:=l.flatMap fun u=>[.int .i64 u.1,.int .i64 u.2.1]
theorem Qie: ∀ l:List Aa,(cU l).length=l.length*2
 | []=>rfl
 |u::l=>by
  have:=Qie l
  simp only [cU,BV,Bj,Br,Bv] at this ⊢
  omega
theorem QFH (l:List Aa): ∀ v∈cU l,v.oneCell'=true:=by
 intro v hv
 simp only [cU,DJ,BQ,B3,Dt] at hv
 obtain ⟨u,_,rfl|rfl⟩:=hv<;>rfl
theorem Qcj {X:Nat->Nat->Prop}{w:World}{Z:Pl}: ∀ {l:List Aa} {vs:List Value},Cs X w Z (l.flatMap Qe.cells) vs->vs=cU l
 | [],vs,h=>by simpa [Cs,cU] using h
 |x::l,vs,h=>by
  have h:Cs X w Z (D.v (.int .i64 x.1)::D.v (.int .i64 x.2.1)::l.flatMap Qe.cells) vs:=h
  simp only [Cs] at h
  obtain ⟨u0,r0,rfl,c0,u1,r1,rfl,c1,h2⟩:=h
  simp only [C] at c0 c1
  rw [Qcj h2,c0.1,c1.1]
  rfl
abbrev ER (o:Aa):Value:= .agg #[.int .i64 o.1,.int .i64 o.2.1]
theorem keep_c {X:Nat->Nat->Prop}{w:World}{Z:Pl}(o:Aa):C X w Z (V.t Qe o).d (ER o):=by
 simp only [V.d]
 rw [Ty.d_row Qe _ rfl]
 simp only [C]
 exact ⟨[.int .i64 o.1,.int .i64 o.2.1],rfl,_,_,rfl,⟨rfl,rfl⟩,_,_,rfl,⟨rfl,rfl⟩,rfl⟩
theorem Qif: ∀ (l:List Aa) (k:Nat) (hk:k<l.length),(cU l)[k*2]? = some (.int .i64 l[k].1)/\(cU l)[k*2+1]? = some (.int .i64 l[k].2.1)
 | [],_,h=>by simp at h
 |x::l,0,_=>⟨rfl,rfl⟩
 |x::l,k+1,h=>by
  have:=Qif l k (by simpa using h)
  have e:cU (x::l)= .int .i64 x.1:: .int .i64 x.2.1::cU l:=rfl
  rw [e,show (k+1)*2=k*2+1+1 by omega,BX,BX,BX,BX]
  exact this
end K
namespace K
open Go.RowKit Go.Maps
abbrev kI (x:Int):Lit:= .int .i64 x
theorem QsH (a b:Int):(kI a).sameKey (kI b)=decide (a=b):=by
 by_cases h:a=b
 ·subst h
  rw [Bc rfl]
  exact WideAt.sameKey_self trivial
 ·rw [Bn h]
  cases hq:(kI a).sameKey (kI b) with
  |false=>rfl
  |true=>
   have:=WideAt.sameKey_eq hq
   injection this with h1 h2
   exact absurd h2 h
def MI (D:DataW Nat)(l:List Aa):Prop:=IsMap D/\(∀ kl,has D kl=true→ ∃ s∈l,kl=kI s.1)∧ ∀ s∈l,has D (kI s.1)=true∧ ∀ z,D.atKey (kI s.1) z= .lit (.int .i64 s.2.1)
theorem MI.nil:MI (.map []) []:=⟨⟨_,rfl⟩,fun kl h=>by simp [has] at h,fun s h=>by cases h⟩
theorem MI.put {D:DataW Nat}{l:List Aa}{s:Aa}(h:MI D l)(hs: ∀ t∈l,t.1≠s.1):MI (D.put (kI s.1) (.lit (.int .i64 s.2.1))) (l++[s]):=by
 obtain ⟨h1,h2,h3⟩:=h
 refine ⟨?_,fun kl hk=> ?_,fun t ht=> ?_⟩
 ·obtain ⟨es,rfl⟩:=h1
  exact ⟨_,rfl⟩
 ·by_cases he:kl=kI s.1
  ·exact ⟨s,by simp,he⟩
  ·rw [has_put_other he] at hk
   obtain ⟨t,ht,e⟩:=h2 kl hk
   exact ⟨t,by simp [ht],e⟩
 ·rcases BL.1 ht with ht|ht
  ·have hne:kI t.1≠kI s.1:=fun e=>hs t ht (by injection e)
   obtain ⟨g1,g2⟩:=h3 t ht
   exact ⟨by rw [has_put_other hne];exact g1,fun z=>by rw [atKey_put_other hne];exact g2 z⟩
  ·rw [Dz.1 ht]
   exact ⟨has_put_same h1 (show WideAt.IsKeyLit (kI s.1) from trivial) _,fun z=>atKey_put_same h1 (show WideAt.IsKeyLit (kI s.1) from trivial) _ z⟩
def WY (p:Aa->Bool)(l:List Aa)(left:Lit->Bool):Nat:=(l.filter fun s=> !left (kI s.1)&&p s).length
theorem QIb {p:Aa->Bool}{left:Lit->Bool}{s:Aa}: ∀ {l:List Aa},(l.map fun t:Aa=>t.1).Nodup->s∈l->left (kI s.1)=true->WY p l (fun z=>left z&& !z.sameKey (kI s.1))=WY p l left+(if p s then 1 else 0)
 | [],_,h,_=>by cases h
 |t::l,hn,hm,hl=>by
  rw [BO,List.nodup_cons] at hn
  unfold WY
  rw [DU,DU]
  rcases BQ.1 hm with rfl|hm
  ·have hrest: ∀ u∈l,(!(left (kI u.1)&& !(kI u.1).sameKey (kI s.1))&&p u)=(!left (kI u.1)&&p u):=fun u hu=>by
    have:u.1≠s.1:=fun e=>hn.1 (Dd.2 ⟨u,hu,e⟩)
    rw [QsH,Bn this]
    simp
   rw [List.filter_congr hrest]
   have e1:(kI s.1).sameKey (kI s.1)=true:=by rw [QsH,Bc rfl]
   simp only [e1,hl,BA,D2,Dy,By,DK]
   cases p s<;>simp
  ·have ht:t.1≠s.1:=fun e=>hn.1 (Dd.2 ⟨s,hm,e.symm⟩)
   have ih:=QIb (p:=p) (left:=left) hn.2 hm hl
   unfold WY at ih
   have e2:(kI t.1).sameKey (kI s.1)=false:=by rw [QsH,Bn ht]
   simp only [e2,Dy,Db] at ih ⊢
   split
   ·rw [Br,Br,ih]
    omega
   ·exact ih
theorem QIc {l:List Aa}(h:Yb l 0=true){k:Nat}(hk:k<l.length):EY l k=true:=by
 simp only [Yb,Bi,List.mem_range'_1] at h
 exact h k ⟨B0 _,by omega⟩
theorem QId {l:List Aa}(h:Yb l 0=true){i:Nat}: ∀ {j:Nat} (hj:j<l.length),i<j->l[i]!.1<l[j]!.1:=by
 intro j
 induction j with
 |zero=>intro _ h;omega
 |succ j ih=>
  intro hj hij
  have hs:=QIc h hj
  simp only [EY,Bd,Dj,Ba,BB,ige,Bo] at hs
  have h4:=hs.2.2.2.resolve_left (by omega)
  have e1: ∀ n,n<l.length->ZL l n=l[n]! :=fun n hn=>by
   simp only [ZL]
   rw [Bp,Bl hn,getElem!_pos l n hn]
   rfl
  rw [Nat.add_sub_cancel,e1 j (by omega),e1 (j+1) hj] at h4
  rcases Dg i j with hlt|hge
  ·have:=ih (by omega) hlt
   omega
  ·have:i=j:=by omega
   subst this
   omega
theorem QYb {l:List Aa}(h:Yb l 0=true):(l.map fun t:Aa=>t.1).Nodup:=by
 rw [List.Nodup,List.pairwise_map,List.pairwise_iff_getElem]
 intro i j hi hj hij e
 have:=QId h hj hij
 rw [getElem!_pos l i hi,getElem!_pos l j hj] at this
 omega
theorem QYc {l:List Aa}(h:Yb l 0=true){s:Aa}(hs:s∈l):0<=s.1/\s.1<=2147483648/\0<=s.2.1/\s.2.1<4294967296:=by
 obtain ⟨k,hk,rfl⟩:=DZ.1 hs
 have h1:=QIc h hk
 have e1:ZL l k=l[k]:=by
  simp only [ZL]
  rw [Bp,Bl hk]
  rfl
 simp only [EY,Zr,e1,Bd,BB,ilt,ige,igt,Bo] at h1
 omega
theorem QYd {w w':World}{r:Nat}(hg:w.grownBy w' (some r))(h1: ∀ o,w.cell? ⟨r,o,none⟩=none)(h2: ∀ o,w'.cell? ⟨r,o,none⟩=none):Stand w w':=⟨hg.size,fun b o hb=>by
 by_cases hr:b=r
 ·subst hr
  rw [h1,h2]
 ·have:=hg.block b hb (fun e=>hr (by injection e))
  simp [World.cell?, this]⟩
theorem QIe {H:Type}{P:Program}{k:TypeId}{R:Value->Option (DataW H×List MemPlace)}{w:World}{b r n:Nat}{D:DataW H}{left:Lit->Bool}{cnt:Nat}(h:w.ranges P k R b r n D left cnt)(o:Nat):w.cell? ⟨r,o,none⟩=none:=by
 obtain ⟨es,clock,since,seen,c0,_,_,_,_,hr,_⟩:=h
 simp [World.cell?, hr]
theorem QYe {p:Aa->Bool}{l:List Aa}{left:Lit->Bool}(h: ∀ s∈l,left (kI s.1)=true):WY p l left=0:=by
 unfold WY
 rw [List.length_eq_zero_iff,List.filter_eq_nil_iff]
 intro s hs
 rw [h s hs]
 simp
theorem QYf {p:Aa->Bool}{l:List Aa}{left:Lit->Bool}(h: ∀ kl,left kl=false):WY p l left=(l.filter p).length:=by
 unfold WY
 congr 1
 exact List.filter_congr fun s _=>by rw [h];simp
theorem QYg {p:Aa->Bool}{l:List Aa}{left:Lit->Bool}:WY p l left<=l.length:=DG _ _
theorem QYh {X:Nat->Nat->Prop}{w:World}{Z:Pl}{x:Ae}{u:Value}(hfin: ∀ b q,X b q->b<w.heap.size)(hs:C X w Z (V.t QK x).d u)(h:Jy x=true):
  Calls Tryz.prog 214 #[u] w fun en w'=> ∃ X' Z' sv,en= .returned (.tuple #[sv,.int .i64 (QU x).2])/\C X' w' Z' (V.t (.sl (.int .u8)) (QU x).1).d sv/\(∀ b q,X' b q->b<w'.heap.size)/\Below w.heap.size w w':=by
 have hF:QD QrY [.t QK x] []=some (.tu [.t (.sl (.int .u8)) (QU x).1,.t tI (QU x).2],[]):=by
  unfold QrY
  exact EE (a:= .pr QK .nil) (x:=(x,())) (by simp [Ty.args,Ik]) h
 refine (Uz (by decide) (QW7 _ _ _ _ hF X w Z [u] hfin O0 ⟨u,_,rfl,hs,rfl⟩)).mono ?_
 rintro en w' ⟨u,X',Z',rfl,h1,h2⟩
 have h1:C X' w' Z' (.tu [(V.t (.sl (.int .u8)) (QU x).1).d,.v (.int .i64 (QU x).2)]) u:=h1
 simp only [C,Cs] at h1
 obtain ⟨vs,rfl,u1,us,rfl,c1,u2,us2,rfl,⟨rfl,_⟩,rfl⟩:=h1
 exact ⟨X',Z',u1,rfl,c1,h2.fin,O1 h2⟩
theorem QYi {X:Nat->Nat->Prop}{w:World}{Z:Pl}{b:List Int}{sv:Value}(hfin: ∀ b q,X b q->b<w.heap.size)(hs:C X w Z (V.t (.sl (.int .u8)) b).d sv)(h:Xs b=true):
  Calls Tryz.prog 215 #[sv] w fun en w'=>en= .returned (.int .i64 (J9 b))/\Below w.heap.size w w':=by
 have hF:QD Qqa [.t (.sl (.int .u8)) b] []=some (.t tI (J9 b),[]):=by
  unfold Qqa
  exact EE (a:= .pr (.sl (.int .u8)) .nil) (x:=(b,())) (by simp [Ty.args,Ik]) h
 refine (Uz (by decide) (QTG _ _ _ _ hF X w Z [sv] hfin O0 ⟨sv,_,rfl,hs,rfl⟩)).mono ?_
 rintro en w' ⟨u,X',Z',rfl,h1,h2⟩
 have h1:C X' w' Z' (.v (.int .i64 (J9 b))) u:=h1
 simp only [C] at h1
 obtain ⟨rfl,_⟩:=h1
 exact ⟨rfl,O1 h2⟩
theorem QYj {X:Nat->Nat->Prop}{w:World}{Z:Pl}{l:List Int}{n:Int}{sv:Value}(hfin: ∀ b q,X b q->b<w.heap.size)(hs:C X w Z (V.t (.sl tI) l).d sv)(h:Jm l 0=true):
  Calls Tryz.prog 138 #[sv,.int .i64 n] w fun en w'=>en= .returned (.bool (Ju l n))/\Below w.heap.size w w':=by
 have hF:QD Vt [.t (.sl tI) l,.t tI n] []=some (.t .bool (Ju l n),[]):=by
  unfold Vt
  exact EE (a:= .pr (.sl tI) (.pr tI .nil)) (x:=(l,(n,()))) (by simp [Ty.args,Ik]) h
 refine (Uz (by decide) (Qj2.2 _ _ _ _ hF X w Z [sv,.int .i64 n] hfin O0 ⟨sv,_,rfl,hs,.int .i64 n,_,rfl,⟨rfl,rfl⟩,rfl⟩)).mono ?_
 rintro en w' ⟨u,X',Z',rfl,h1,h2⟩
 have h1:C X' w' Z' (.v (.bool (Ju l n))) u:=h1
 simp only [C] at h1
 obtain ⟨rfl,_⟩:=h1
 exact ⟨rfl,O1 h2⟩
end K
namespace K
open Go.RowKit Go.Maps
theorem Qn0:Keyed Tryz.prog 3:=int_keyed Tryz.underlying3
set_option maxHeartbeats 4000000 in
theorem QQb {X:Nat->Nat->Prop}{w:World}{Z:Pl}{x:Ae}{o:Ab}{A:Option Addr}{cp:Nat}{kv:Value}(hfin: ∀ b q,X b q->b<w.heap.size)
  (hx:C X w Z (V.t QK x).d (.agg #[.int .i64 x.1.1,.int .i64 x.1.2.1,.int .i64 x.2.1,.string x.2.2.1,.int .i64 x.2.2.2.1.1,.int .i64 x.2.2.2.1.2.1,.slice A x.2.2.2.2.1.length cp]))
  (hsl:0<x.2.2.2.2.1.length→ ∃ b off,A=some ⟨b,off,none⟩/\b<w.heap.size∧ ∀ j v,(cU x.2.2.2.2.1)[j]? = some v->w.cell? ⟨b,off+j,none⟩=some v)
  (hk:C X w Z (V.t (.sl tI) o.1).d kv) (okv:kv.oneCell'=true) (h:E0 x o=true):
  Calls Tryz.prog 188 #[.agg #[.int .i64 x.1.1,.int .i64 x.1.2.1,.int .i64 x.2.1,.string x.2.2.1,.int .i64 x.2.2.2.1.1,.int .i64 x.2.2.2.1.2.1,.slice A x.2.2.2.2.1.length cp],.agg #[kv,.int .i64 o.2.1]] w fun en w'=>en= .returned (.bool (Xu x o))/\Below w.heap.size w w':=by
 have HX:=Lib.hid hx
 have HK:=Lib.hid hk
 have HF:=Lib.hid hfin
 have HV:=Lib.hid h
 have HSL:=Lib.hid hsl
 clear hx hk hfin h hsl
 have hmm:= @run_makeMap Tryz.prog
 generalize hn:x.2.2.2.2.1.length=n at*
 have HN:=Lib.hid hn
 clear hn
 go_enter Tryz.func188,Tryz.ntmps188
 go_wp2_with fail
 obtain ⟨Wa,ha⟩: ∃ Wa,Wa=w.alloc (.cells #[.int .i64 x.1.1,.int .i64 x.1.2.1,.int .i64 x.2.1,.string x.2.2.1,.int .i64 x.2.2.2.1.1,.int .i64 x.2.2.2.1.2.1,.slice A n cp] 29):=⟨_,rfl⟩
 obtain ⟨Wb,hb⟩: ∃ Wb,Wb=Wa.alloc (.cells #[kv,.int .i64 o.2.1] 50):=⟨_,rfl⟩
 obtain ⟨S,hS⟩: ∃ S,S=w.heap.size:=⟨_,rfl⟩
 rw [<-ha, <- hb, <- hS]
 have sa:Wa.heap.size=S+1:=by rw [ha,World.size_alloc,hS]
 have sb:Wb.heap.size=S+1+1:=by rw [hb,World.size_alloc,sa]
 have bW:Below w.heap.size w Wb:=by
  rw [hb,ha]
  have e1:=(Below.refl w.heap.size w).alloc (BI _) (.cells #[.int .i64 x.1.1,.int .i64 x.1.2.1,.int .i64 x.2.1,.string x.2.2.1,.int .i64 x.2.2.2.1.1,.int .i64 x.2.2.2.1.2.1,.slice A n cp] 29)
  exact e1.alloc e1.size _
 have kA:Go.Proofs.YtkmobehaikjdjaaGreat.Blk Wb S 29 #[.int .i64 x.1.1,.int .i64 x.1.2.1,.int .i64 x.2.1,.string x.2.2.1,.int .i64 x.2.2.2.1.1,.int .i64 x.2.2.2.1.2.1,.slice A n cp]:=by
  rw [hb];refine Go.Proofs.YtkmobehaikjdjaaGreat.Blk.alloc ?_ _;rw [ha,hS];exact Go.Proofs.YtkmobehaikjdjaaGreat.Blk.new _ _ _
 have kB:Go.Proofs.YtkmobehaikjdjaaGreat.Blk Wb (S+1) 50 #[kv,.int .i64 o.2.1]:=by
  rw [hb, <- sa];exact Go.Proofs.YtkmobehaikjdjaaGreat.Blk.new _ _ _
 have fX: ∀ b q,X b q->b<Wb.heap.size:=fun b q hq=>BS (HF.out b q hq) bW.size
 clear ha hb sa
 refine (QYh fX (Qci HX.out (Stand.below bW)) (Bf.1 HV.out).1).mono ?_
 rintro en w1 ⟨X1,Z1,sv,rfl,hc1,hf1,hb1⟩
 have b1:Below S w w1:=hS▸XR bW hb1 (by omega)
 have kA:=kA.ext hb1
 have kB:=kB.ext hb1
 have hst:Stand w w1:=(Stand.below bW).trans (Stand.below hb1)
 have hsz:=hb1.size
 have y0:=kB.cell 0
 have y1:=kB.cell 1
 have x6:=kA.cell 6
 simp only [Do,BZ,BX] at y0 y1 x6
 have HC1:=Lib.hid hc1
 have HF1:=Lib.hid hf1
 have HB1:=Lib.hid b1
 have HST:=Lib.hid hst
 have HKA:=Lib.hid kA
 have HKB:=Lib.hid kB
 have HSZ:=Lib.hid (show S+1+1<=w1.heap.size/\S=w.heap.size from ⟨by omega,hS⟩)
 clear bW fX hb1 hsz b1 hc1 hf1 hst kA kB sb hS
 cases hv:exG x with
 |false=>
  have e:(QU x).2=26:=by rw [QU,hv];rfl
  rw [e]
  clear e
  have HVV:=Lib.hid hv
  clear hv
  go_wp2_with fail
  go_ret
  refine ⟨?_,by rw [<-HSZ.out.2];exact HB1.out⟩
  unfold Xu
  rw [HVV.out]
  rfl
 |true=>
  have e:(QU x).2=0:=by rw [QrV hv]
  rw [e]
  clear e
  have HVV:=Lib.hid hv
  clear hv
  by_cases hneed:o.2.1<1
  ·have hq:decide (o.2.1<1)=true:=Bc hneed
   go_wp2_with fail
   go_ret
   refine ⟨?_,by rw [<-HSZ.out.2];exact HB1.out⟩
   unfold Xu
   rw [HVV.out,show ilt o.2.1 1=true from Bc hneed]
   rfl
  ·have hq:decide (o.2.1<1)=false:=Bn hneed
   have x6a:=fun ob=>Lib.cell?_alloc_some ob x6
   go_wp2_with fail
   clear x6a hq x6 y0 y1
   obtain ⟨bm,hbm⟩: ∃ bm,bm=w1.heap.size:=⟨_,rfl⟩
   obtain ⟨W2,hW2⟩: ∃ W2,W2=w1.alloc (.map #[] 0):=⟨_,rfl⟩
   rw [<-hbm, <- hW2]
   have b2:Below w1.heap.size w1 W2:=hW2▸(Below.refl _ _).alloc (BI _) _
   have own0:W2.ownsMap Tryz.prog 3 (plainElem (H:=Nat) Tryz.prog 3) bm 0 (.map []):=by
    rw [hW2,hbm]
    exact World.ownsMap_made w1 _ _ _
   have bl2:Below S w W2:=XR HB1.out b2 (by have:=HSZ.out;omega)
   have st2:Stand w1 W2:=Stand.below b2
   have HST2:=Lib.hid (show Stand w W2/\S+1+1<=bm from ⟨HST.out.trans st2,by rw [hbm];exact HSZ.out.1⟩)
   have HKB2:=Lib.hid (HKB.out.ext b2)
   have HC2:=Lib.hid (Qci HC1.out st2)
   have HF2:=Lib.hid (show ∀ b q,X1 b q->b<W2.heap.size from fun b q hq=>BS (HF1.out b q hq) st2.1)
   have HB2:=Lib.hid bl2
   have HOWN:=Lib.hid own0
   have HBM:=Lib.hid (show bm<W2.heap.size from own0.lt)
   clear hW2 b2 own0 bl2 st2 hbm HB1 HST HKA HKB HC1 HF1
   have hup:=(EZ HVV.out).2.2.2.2.2.2
   have HUP:=Lib.hid hup
   have hn8:n<=8:=by rw [<-HN.out];exact hup.1
   clear hup
   go_loopw [29] (fun iv wr=> ∃ (k:Nat) (D:DataW Nat),k<=n/\iv= .int .i64 k/\Stand W2 wr/\Below S w wr/\wr.ownsMap Tryz.prog 3 (plainElem Tryz.prog 3) bm k D/\MI D (x.2.2.2.2.1.take k)) (fun iv _=>n-(intOf iv).toNat)
   case atStart=>exact ⟨0,.map [],B0 _,rfl,⟨BI _,fun _ _ _=>rfl⟩,HB2.out,HOWN.out,by rw [List.take_zero];exact MI.nil⟩
   case round=>
    obtain ⟨k,D,hkn,rfl,hst,hbl,hown,hmi⟩:=hrel
    have HS3:=Lib.hid hst
    have HB3:=Lib.hid hbl
    have HM3:=Lib.hid hmi
    clear hst hbl hmi
    by_cases hlt:k<n
    ·have hkl:k<x.2.2.2.2.1.length:=by rw [HN.out];exact hlt
     obtain ⟨bb,off,rfl,hbb,hcs⟩:=HSL.out (by omega)
     obtain ⟨g0,g1⟩:=Qif _ k hkl
     obtain ⟨t,ht⟩: ∃ t,t=x.2.2.2.2.1[k]:=⟨_,rfl⟩
     rw [<-ht] at g0 g1
     have dz: ∀ j v,w.cell? ⟨bb,off+j,none⟩=some v->wr.cell? ⟨bb,off+j,none⟩=some v:=fun j v h=>((HST2.out.1.trans HS3.out).2 bb _ hbb).trans h
     have d0:=dz _ _ (hcs _ _ g0)
     have d1:=dz _ _ (hcs _ _ g1)
     rw [<-DB] at d1
     have htm:t∈x.2.2.2.2.1:=by rw [ht];exact BC hkl
     have hbd:=QYc HUP.out.2 htm
     have hw1:(Lit.int .i64 t.1).wf=true:=WalkArith.wf_i64 (by omega)
     have hw2:(Lit.int .i64 t.2.1).wf=true:=WalkArith.wf_i64 (by omega)
     have HO:=Lib.hid (show x.2.2.2.2.1[k]? = some t by rw [ht];exact Bl hkl)
     have HMK:=Lib.hid (show ∀ s∈x.2.2.2.2.1.take k,s.1≠t.1 from fun s hs=>by
      obtain ⟨j,hj,rfl⟩:=DZ.1 hs
      have hj2:j<k:=by rw [B9] at hj;omega
      have h5:=QId HUP.out.2 hkl hj2
      rw [getElem!_pos _ j (by omega),getElem!_pos _ k hkl] at h5
      rw [List.getElem_take,ht]
      omega)
     clear dz hcs g0 g1 ht hkl hbd htm
     have hkk:=keyOf_int_mk (P:=Tryz.prog) Tryz.underlying3 hw1
     have hvv:=plainElem_int (H:=Nat) (P:=Tryz.prog) Tryz.underlying3 hw2
     go_wp2_with (first
      |(at_mapUpdate;refine wpList_mapUpdate_own _ rfl _ _ _ 271 rfl 3 3 Qn0 Tryz.underlying271 _ bm k D rfl (hown.alloc _) (by simp only [maxLen];omega) _ _ (kI t.1) rfl rfl hkk _ [] hvv ?_;intro w5 hown5 hg5)
      |fail)
     have b3:Below wr.heap.size wr (wr.alloc (.cells #[.int .i64 t.1,.int .i64 t.2.1] 128)):=(Below.refl _ _).alloc (BI _) _
     have st5:Stand (wr.alloc (.cells #[.int .i64 t.1,.int .i64 t.2.1] 128)) w5:=⟨hg5.size,fun b' o' hb'=>by
      by_cases hbm:b'=bm
      ·subst hbm
       obtain ⟨es,clk,m1,_⟩:=hown.alloc (.cells #[.int .i64 t.1,.int .i64 t.2.1] 128)
       obtain ⟨es',clk',m3,_⟩:=hown5
       simp [World.cell?, m1,m3]
      ·have:=hg5.block b' hb' (fun e=>hbm (by injection e))
       simp [World.cell?, this]⟩
     have hs3:=HS3.out
     have hbl3:Below S w (wr.alloc (.cells #[.int .i64 t.1,.int .i64 t.2.1] 128)):=XR HB3.out b3 (by have:=HST2.out;have:=HBM.out;have:=hs3.1;omega)
     refine ⟨⟨k+1,_,hlt,by simp,(hs3.trans (Stand.below b3)).trans st5,Qck hbl3 hg5 (by have:=HST2.out;omega) (by have:=HST2.out;have:=HBM.out;have:=hs3.1;have:=b3.size;omega),hown5, ?_⟩,by simp [intOf];omega⟩
     have e:x.2.2.2.2.1.take (k+1)=x.2.2.2.2.1.take k++[t]:=by
      rw [List.take_add_one,HO.out]
      rfl
     rw [e]
     exact HM3.out.put HMK.out
    ·obtain rfl:k=n:=by omega
     have hlk:x.2.2.2.2.1.take k=x.2.2.2.2.1:=DD (by rw [HN.out];exact BI _)
     rw [hlk] at HM3
     clear hlk
     go_wp2_with (first
      |(at_range;refine wpList_range_own _ rfl _ 271 rfl 3 3 Qn0 Tryz.underlying271 _ bm k D rfl hown ?_;intro w0 hrg0 hg0 hs0)
      |fail)
     go_frame
     obtain ⟨rr,hrr⟩: ∃ rr,rr=wr.heap.size:=⟨_,rfl⟩
     rw [<-hrr] at hrg0 ⊢
     have hs3:=HS3.out
     have st0:Stand wr w0:=⟨by omega,fun b' o' hb'=>by
      have:=hg0.block b' hb' (fun e=>by cases e)
      simp [World.cell?, this]⟩
     have bl0:Below S w w0:=Qck HB3.out (hg0.but (some rr)) (by have:=HST2.out;have:=HBM.out;have:=hs3.1;omega) (by have:=HST2.out;have:=HBM.out;have:=hs3.1;omega)
     have HRS:=Lib.hid (show Stand W2 w0/\Below S w w0/\S<=rr from ⟨hs3.trans st0,bl0,by have:=HST2.out;have:=HBM.out;have:=hs3.1;omega⟩)
     have HRG:=Lib.hid hrg0
     clear st0 bl0 hs3 hg0 hs0 hrr hrg0 HS3 HB3 hown hkn hlt
     go_loopw [10] (fun cv w'=> ∃ (left:Lit->Bool) (cnt:Nat),cv= .int .i64 (WY (YV (QU x).1 o) x.2.2.2.2.1 left:Nat)/\w'.ranges Tryz.prog 3 (plainElem (H:=Nat) Tryz.prog 3) bm rr k D left cnt/\(∀ kl,left kl=true->has D kl=true)/\Stand W2 w'/\Below S w w') (fun _ w'=>w'.rangeLeft bm rr)
     case atStart=>exact ⟨has D,size D,by rw [QYe fun s hs=>(HM3.out.2.2 s hs).1];rfl,HRG.out,fun _ h=>h,HRS.out.1,HRS.out.2.1⟩
     case round=>
      obtain ⟨left,cnt,rfl,hrg,hsub,hst,hbl⟩:=hrel
      have HSUB:=Lib.hid hsub
      have HS4:=Lib.hid hst
      have HB4:=Lib.hid hbl
      have HRG4:=Lib.hid hrg
      have hcle:=QYg (p:=YV (QU x).1 o) (l:=x.2.2.2.2.1) (left:=left)
      rw [HN.out] at hcle
      have y1:=(hst.2 (S+1) 1 (by have:=HST2.out;have:=HBM.out;omega)).trans (HKB2.out.cell 1)
      simp only [Do,BZ,BX] at y1
      clear hsub hst hbl
      go_wp2_with (first
       |(at_next;refine wpList_next_ranges_ii _ rfl _ rfl 3 3 .i64 .i64 Qn0 Tryz.underlying3 Tryz.underlying3 bm rr k D left cnt rfl hrg ?_ ?_)
       |fail)
      ·intro _ hl0
       have hce:=QYf (p:=YV (QU x).1 o) (l:=x.2.2.2.2.1) hl0
       have HCE:=Lib.hid hce
       clear hce hl0
       generalize hqq:WY (YV (QU x).1 o) x.2.2.2.2.1 left=q at*
       have HQ:=Lib.hid hqq
       clear hqq hrg
       by_cases hge:o.2.1<=(q:Int)
       ·have hge1:decide (o.2.1<=(q:Int))=true:=Bc hge
        go_wp2_with fail
        go_ret
        refine ⟨?_,by rw [<-HSZ.out.2];exact HB4.out⟩
        unfold Xu QiJ
        rw [HVV.out, <- HCE.out,show ilt o.2.1 1=false from Bn (by omega),show ige (q:Int) o.2.1=true from Bc hge]
        rfl
       ·have hge1:decide (o.2.1<=(q:Int))=false:=Bn hge
        go_wp2_with fail
        go_ret
        refine ⟨?_,by rw [<-HSZ.out.2];exact HB4.out⟩
        unfold Xu QiJ
        rw [HVV.out, <- HCE.out,show ilt o.2.1 1=false from Bn (by omega),show ige (q:Int) o.2.1=false from Bn (show ¬ (q:Int)≥o.2.1 by omega)]
        rfl
      ·intro t' c w3 cnt1 hwx hwc hlx hat hrg1 hlt1 hg1 hs1 hen
       obtain ⟨t,htm,hte⟩:=HM3.out.2.1 _ (HSUB.out _ hlx)
       have e1:t'=t.1:=by injection hte
       have e2:c=t.2.1:=by
        have h5:=(HM3.out.2.2 t htm).2 .nil
        rw [<-hte,hat] at h5
        injection h5 with h5
        injection h5
       subst e1 e2
       have hcs:=QIb (p:=YV (QU x).1 o) (QYb HUP.out.2) htm hlx
       have st3:Stand wr w3:=QYd hg1 (QIe HRG4.out) (QIe hrg1)
       have hrr:=HRS.out.2.2
       have bl3:Below S w w3:=Qck HB4.out hg1 hrr (by have:=HST2.out;have:=HBM.out;have:=HS4.out.1;omega)
       have HS5:=Lib.hid (HS4.out.trans st3)
       have HB5:=Lib.hid bl3
       have HRG5:=Lib.hid hrg1
       have HCS:=Lib.hid hcs
       have HLT:=Lib.hid hlt1
       have HLE:=Lib.hid hrg.left_eq
       have HTM:=Lib.hid htm
       have z0:=(HS5.out.2 (S+1) 0 (by have:=HST2.out;have:=HBM.out;omega)).trans (HKB2.out.cell 0)
       simp only [Do,BZ,BX] at z0
       clear st3 hrr bl3 hcs hrg1 hrg hlt1 hat hlx hg1 hs1 hwx hwc htm hte y1
       generalize hqq:WY (YV (QU x).1 o) x.2.2.2.2.1 left=q at*
       clear hqq
       go_wp2_with fail
       refine (QYi (X:=X1) (Z:=Z1) (b:=(QU x).1) (fun b q hq=>BS (HF2.out b q hq) HS5.out.1) (Qci HC2.out HS5.out) (QrW x)).mono ?_
       rintro en w4 ⟨rfl,hb4⟩
       have z1:=(Stand.below hb4).2 (S+1) 0 (by have:=HST2.out;have:=HBM.out;have:=HS5.out.1;omega)
       rw [z0] at z1
       have HS6:=Lib.hid (HS5.out.trans (Stand.below hb4))
       have HB6:=Lib.hid (XR HB5.out hb4 (by have:=HST2.out;have:=HBM.out;have:=HS5.out.1;omega))
       have HRG6:=Lib.hid (HRG5.out.kept (Qid hb4) (by simp) (by simp))
       clear hb4 z0 hen HS5 HB5 HRG5
       by_cases hsm:t.2.1=J9 (QU x).1
       ·have hs1:(t.2.1==J9 (QU x).1)=true:=Dh.2 hsm
        have hs2:decide (t.2.1=J9 (QU x).1)=true:=Bc hsm
        have HSM:=Lib.hid hsm
        clear hsm
        generalize hsb:J9 (QU x).1=sm at*
        have HSB:=Lib.hid hsb
        clear hsb
        go_wp2_with fail
        refine (QYj (X:=X) (Z:=Z) (l:=o.1) (n:=t.1) (fun b q hq=>BS (HF.out b q hq) (B5 HST2.out.1.1 HS6.out.1)) (Qci HK.out (HST2.out.1.trans HS6.out)) (Bf.1 HV.out).2).mono ?_
        rintro en w5 ⟨rfl,hb5⟩
        have HS7:=Lib.hid (HS6.out.trans (Stand.below hb5))
        have HB7:=Lib.hid (XR HB6.out hb5 (by have:=HST2.out;have:=HBM.out;have:=HS6.out.1;omega))
        have HRG7:=Lib.hid (HRG6.out.kept (Qid hb5) (by simp) (by simp))
        clear hb5 z1 HS6 HB6 HRG6
        cases hh:Ju o.1 t.1 with
        |true=>
         have hvb:YV (QU x).1 o t=true:=by
          unfold YV
          rw [HSB.out,HSM.out,hh]
          simp [ieq]
         have HVB:=Lib.hid hvb
         clear hvb hh
         go_wp2_with fail
         refine ⟨⟨_,cnt1, ?_,HRG7.out,fun kl h=>HSUB.out kl (Bf.1 h).1,HS7.out,HB7.out⟩, ?_⟩
         ·rw [HCS.out,HVB.out]
          rfl
         ·rw [HRG7.out.left_eq,HLE.out]
          exact HLT.out
        |false=>
         have hvb:YV (QU x).1 o t=false:=by
          unfold YV
          rw [hh,D2]
         have HVB:=Lib.hid hvb
         clear hvb hh
         go_wp2_with fail
         refine ⟨⟨_,cnt1, ?_,HRG7.out,fun kl h=>HSUB.out kl (Bf.1 h).1,HS7.out,HB7.out⟩, ?_⟩
         ·rw [HCS.out,HVB.out]
          rfl
         ·rw [HRG7.out.left_eq,HLE.out]
          exact HLT.out
       ·have hs1:(t.2.1==J9 (QU x).1)=false:=Dv.2 hsm
        have hs2:decide (t.2.1=J9 (QU x).1)=false:=Bn hsm
        have hvb:YV (QU x).1 o t=false:=by
         unfold YV
         rw [show ieq t.2.1 (J9 (QU x).1)=false from hs1,DK]
        have HVB:=Lib.hid hvb
        clear hvb hsm
        generalize hsb:J9 (QU x).1=sm at*
        clear hsb
        go_wp2_with fail
        refine ⟨⟨_,cnt1, ?_,HRG6.out,fun kl h=>HSUB.out kl (Bf.1 h).1,HS6.out,HB6.out⟩, ?_⟩
        ·rw [HCS.out,HVB.out]
         rfl
        ·rw [HRG6.out.left_eq,HLE.out]
         exact HLT.out
theorem ex_val {X:Nat->Nat->Prop}{w:World}{Z:Pl}{x:Ae}{u:Value}(h:C X w Z (V.t QK x).d u):
  ∃ A cp,u= .agg #[.int .i64 x.1.1,.int .i64 x.1.2.1,.int .i64 x.2.1,.string x.2.2.1,.int .i64 x.2.2.2.1.1,.int .i64 x.2.2.2.1.2.1,.slice A x.2.2.2.2.1.length cp]∧
   (0<x.2.2.2.2.1.length→ ∃ b off,A=some ⟨b,off,none⟩/\b<w.heap.size∧ ∀ j v,(cU x.2.2.2.2.1)[j]? = some v->w.cell? ⟨b,off+j,none⟩=some v):=by
 simp only [V.d] at h
 rw [Ty.d_row QK _ rfl] at h
 simp only [C] at h
 obtain ⟨us,rfl,h⟩:=h
 have h:Cs X w Z [D.v (.int .i64 x.1.1),D.v (.int .i64 x.1.2.1),D.v (.int .i64 x.2.1),D.v (.string x.2.2.1),D.v (.int .i64 x.2.2.2.1.1),D.v (.int .i64 x.2.2.2.1.2.1),D.sl x.2.2.2.2.1.length (x.2.2.2.2.1.flatMap Qe.cells)] us:=h
 simp only [Cs,C] at h
 obtain ⟨_,_,rfl,⟨rfl,_⟩,_,_,rfl,⟨rfl,_⟩,_,_,rfl,⟨rfl,_⟩,_,_,rfl,⟨rfl,_⟩,_,_,rfl,⟨rfl,_⟩,_,_,rfl,⟨rfl,_⟩,_,_,rfl,⟨A,c,rfl,g1,g2,g3,g4⟩,rfl⟩:=h
 refine ⟨A,c,rfl,fun hp=> ?_⟩
 obtain ⟨b,off,vs,rfl,k1,k2⟩:=g4 hp
 rw [Qcj k1] at k2
 exact ⟨b,off,rfl,k2.lt,fun j v hv=>k2.at_ j v hv⟩
theorem ow_val {X:Nat->Nat->Prop}{w:World}{Z:Pl}{o:Ab}{u:Value}(h:C X w Z (V.t Qn o).d u): ∃ kv,u= .agg #[kv,.int .i64 o.2.1]/\C X w Z (V.t (.sl tI) o.1).d kv/\kv.oneCell'=true:=by
 simp only [V.d] at h
 rw [Ty.d_row Qn _ rfl] at h
 simp only [C] at h
 obtain ⟨us,rfl,h⟩:=h
 have h:Cs X w Z [(V.t (.sl tI) o.1).d,D.v (.int .i64 o.2.1)] us:=h
 simp only [Cs] at h
 obtain ⟨kv,_,rfl,c0,_,_,rfl,c1,rfl⟩:=h
 simp only [C] at c1
 obtain ⟨rfl,_⟩:=c1
 refine ⟨kv,rfl,c0, ?_⟩
 have c0:C X w Z (D.sl o.1.length (o.1.flatMap tI.cells)) kv:=c0
 simp only [C] at c0
 obtain ⟨A,c,rfl,_⟩:=c0
 rfl
def Qn1:Ent:=Qm (.pr QK (.pr Qn .nil)) (fun x=>(E0 x.1 x.2.1)) (fun x=>(.t .bool (Xu x.1 x.2.1)))
theorem QQc:J6 Tryz.prog 188:= .inr ⟨by decide,_,Tryz.func188,by kernel_rfl,by kernel_rfl⟩
theorem QQd:QH Tryz.prog 188 (QD Qn1):=by
 unfold Qn1
 refine QpJ (fun z hok X w Z vs hfin hc=> ?_)
 obtain ⟨x,o,u⟩:=z
 have hc:Cs X w Z [(V.t QK x).d,(V.t Qn o).d] vs:=hc
 simp only [Cs] at hc
 obtain ⟨xv,r0,rfl,c0,ov,r1,rfl,c1,rfl⟩:=hc
 obtain ⟨A,cp,rfl,hsl⟩:=ex_val c0
 obtain ⟨kv,rfl,hk,okv⟩:=ow_val c1
 refine (QQb hfin c0 hsl hk okv hok).mono ?_
 rintro en w' ⟨rfl,hb⟩
 refine ⟨_,rfl, ?_,hb⟩
 show C X w' Z (.v (.bool (Xu x o))) _
 simp only [C]
 exact ⟨trivial,rfl⟩
def FG (y:Ah)(_u:Aa)(_p _d:Int):Bool:=Z2 y.1
abbrev QhY:Sh:=⟨[(2,.ty tI),(3,.ty tI),(4,.ptr 4 0),(5,.ptr 5 0),(9,.ty tI)],[(4,.box Q3),(5,.box Qe)]⟩
abbrev QEQ:Sh:=⟨[(8,.ty tI)],[]⟩
abbrev QER:Sh:=⟨[],[]⟩
def QqT:Fg:=QhY.f
def QES:TC:=aF Tryz.f196 [(26,pL 0 QqT),(419,.fg QER.f),(840,pE [[4],[4],[],[],[],[5],[],[],[]] (oN 9)),(3365,.fg QEQ.f)]
def QET:TC:=lb 0 QES
def QEU (x2 x3 x9:Int)(y4:Ah)(y5:Aa):VS:=QhY.st (x2,x3,(),(),x9,()) (y4,y5,())
def QqU (x8:Int):VS:=QEQ.st (x8,()) ()
def QqV  : VS:=QER.st () ()
def QUQ:VS->Option (Bool×List (Bool×Exit×VS)):=mkL QhY (fun x y=>(decide (-1<=x.2.2.2.2.1/\x.2.2.2.2.1<y.1.1.length/\y.1.1.length<=100000))) (fun x y=>[(((Wn (y.1.1.take (x.2.2.2.2.1+1).toNat) y.2.1 x.1 x.2.1).isSome),.ret,QqU ((Wn (y.1.1.take (x.2.2.2.2.1+1).toNat) y.2.1 x.1 x.2.1).getD 0:Nat)),(true,.exit 0,QqV)])
def QqW:G:=gG 28 [(216,QDb)] (Ls [QUQ])
def QqX (x2 x3 x9:Int)(y4:Ah)(y5:Aa):OX:=Qu (Qx QqW QqT QET) (QEU x2 x3 x9 y4 y5)
def Qca (kk:Int->Int->Int->Ah->Aa->OX)(x2 x3 x9:Int)(y4:Ah)(y5:Aa):OX:=br (ige x9 0) (br (cIx y4.1 x9) (br (Uh (lgt Jz y4.1 (Int.toNat x9)) y5 x2 x3) (some (.ret,QqU x9)) (kk x2 x3 (QQ .i64 x9 1) y4 y5)) none) (some (.exit 0,QqV))
def QEV (x2 x3 x9:Int)(y4:Ah)(y5:Aa):OX:=
 let a1:=Wn (y4.1.take (x9+1).toNat) y5 x2 x3
 br (a1.isSome) (some (.ret,QqU (a1.getD 0:Nat)))<|some (.exit 0,QqV)
theorem QEW (x2 x3 x9 y4 y5):QqX x2 x3 x9 y4 y5=Qca QqX x2 x3 x9 y4 y5:=lnT (x:=Qca (fun x2 x3 x9 y4 y5=>some (.normal,QEU x2 x3 x9 y4 y5)) x2 x3 x9 y4 y5) (by simp only [Qca,nxA];rfl)
def QEX (p0:Ah)(p1:Aa)(p2 p3:Int):OV:=
 let a1:=QQ .i64 (Qb p0.1) 1
 let a2:=Wn (p0.1.take (a1+1).toNat) p1 p2 p3
 br (decide (-1<=a1/\a1<p0.1.length/\p0.1.length<=100000)) (br (a2.isSome) (some (.t tI (a2.getD 0:Nat),[])) (some (.t tI (-1),[]))) none
theorem QUR {α:Type}{l:List α}{k:Nat}(h:k<l.length):l.take (k+1)=l.take k++[l[k]]:=List.take_succ_eq_append_getElem h
theorem QUS {l:List Ai}{k:Nat}(h:k<l.length){u:Aa}{p d:Int}:Wn (l.take (k+1)) u p d=if Uh l[k] u p d then some k else Wn (l.take k) u p d:=by
 rw [QUR h]
 unfold Wn
 rw [Qrf]
 simp only [Z3]
 have e:(l.take k).length=k:=by simp;omega
 rw [e]
 split<;>rename_i hq
 ·split at hq
  ·rename_i hm
   injection hq with hq
   subst hq
   rw [if_pos hm]
   rfl
  ·cases hq
 ·split at hq
  ·cases hq
  ·rename_i hm
   rw [if_neg hm]
theorem QUT (x2 x3 x9:Int)(y4:Ah)(y5:Aa)(h:(decide (-1<=x9/\x9<y4.1.length/\y4.1.length<=100000))=true):QqX x2 x3 x9 y4 y5=QEV x2 x3 x9 y4 y5:=by
 simp only [Ba] at h
 obtain ⟨h1,h2,h3⟩:=h
 obtain ⟨k,hk⟩: ∃ k:Nat,x9=(k:Int)-1:=⟨(x9+1).toNat,by omega⟩
 subst hk
 have h4:k<=y4.1.length:=by omega
 clear h1 h2
 induction k with
 |zero=>
  rw [QEW]
  have e1:ige (((0:Nat):Int)-1) 0=false:=rfl
  simp only [Qca,e1,Qh]
  rfl
 |succ k ih=>
  rw [QEW]
  have e1:ige (((k+1:Nat):Int)-1) 0=true:=by simp only [ige,Ba];omega
  have e2:(((k+1:Nat):Int)-1)=(k:Int):=by omega
  have e3:QQ .i64 (k:Int) 1=(k:Int)-1:=Zv (by omega)
  have hk:k<y4.1.length:=by omega
  rw [e2] at e1 ⊢
  simp only [Qca,e1,e3,Qd,QM,hk,Bu,Bb,QN (y:=Jz) hk,ih (by omega)]
  have e4:((k:Int)+1).toNat=k+1:=by omega
  have e5:((k:Int)-1+1).toNat=k:=by omega
  simp only [QEV,e4,e5,QUS hk]
  cases hm:Uh y4.1[k] y5 x2 x3 with
  |true=>rfl
  |false=>rfl
theorem QUU:LO QqW QqT QET 0:=QC (s:=QhY) fun x y h _ q=>by simp only [QA,QB] at q;exact (QUT x.1 x.2.1 x.2.2.2.2.1 y.1 y.2.1 h).trans q
theorem s_f196 (y u p d)(h:FG y u p d=true):QEX y u p d=some (.t tI (Z6 y u p d),[]):=by
 have h:Z2 y.1=true:=h
 simp only [Z2,Ba] at h
 have e1:QQ .i64 (Qb y.1) 1=(y.1.length:Int)-1:=Zv (by unfold Qb;omega)
 have e2:((y.1.length:Int)-1+1).toNat=y.1.length:=by omega
 simp only [QEX,e1,e2,List.take_length]
 rw [GA ⟨by omega,by omega,h⟩,Qd,Qrh]
 cases Wn y.1 u p d<;>rfl
def QqY:Ent:=Qm (.pr Q3 (.pr Qe (.pr tI (.pr tI .nil)))) (fun x=>(FG x.1 x.2.1 x.2.2.1 x.2.2.2.1)) (fun x=>(.t tI (Z6 x.1 x.2.1 x.2.2.1 x.2.2.2.1)))
theorem QEY:EM 196 QqY:=mS (lk:=lkL (lkc QUU lkn)) QqW QES [((.t 8),some tI)] false (gB (gD QTq gN)) fun m=>Qq m fun x hok=>kT (s_f196 x.1 x.2.1 x.2.2.1 x.2.2.2.1 hok)
def QUV:TC:=aF Tryz.f195 []
def g_f195:G:=gG 25 [(196,QqY)] (fun _ _=>none)
def QEZ (p0:Ah)(p1:Aa)(p2 p3:Int):OV:=
 let a1:=Z6 p0 p1 p2 p3
 br (FG p0 p1 p2 p3) (br (ilt a1 0) (some (.t .bool true,[])) (br (cIx p0.1 a1) (some (.t .bool ((lgt Jz p0.1 (Int.toNat a1)).1),[])) none)) none
theorem s_f195 (y u p d)(h:FG y u p d=true):QEZ y u p d=some (.t .bool (GJ y u p d),[]):=by
 simp only [QEZ,h,Qd,QCa]
 cases h:ilt (Z6 y u p d) 0 with
 |true=>simp [Qd]
 |false=>rw [QCb h,Qh,Qd,De,lgt]
def QE0:Ent:=Qm (.pr Q3 (.pr Qe (.pr tI (.pr tI .nil)))) (fun x=>(FG x.1 x.2.1 x.2.2.1 x.2.2.2.1)) (fun x=>(.t .bool (GJ x.1 x.2.1 x.2.2.1 x.2.2.2.1)))
theorem QUW:EM 195 QE0:=mS g_f195 QUV [((.t 8),some .bool)] false (gB (gD QEY gN)) fun m=>Qq m fun x hok=>kT (s_f195 x.1 x.2.1 x.2.2.1 x.2.2.2.1 hok)
def OS (y:Ah)(u:Aa)(p:Int):Int:=Xp y u p 0
def QUX:TC:=aF Tryz.f194 []
def g_f194:G:=gG 22 [(73,Qrd),(119,IG)] (fun _ _=>none)
def QE1 (p0:Ah)(p1:Aa)(p2:Int):OV:=br (JP p0) (br (ine (YI p0) 0) (some (.t tI (YI p0),[])) (br (!(JJ p1)) (some (.t tI 7,[])) (br (ilt p2 1) (some (.t tI 2,[])) (br (igt p2 4) (some (.t tI 2,[])) (some (.t tI 0,[])))))) none
theorem s_f194 (y u p)(h:QgN y u p=true):QE1 y u p=some (.t tI (OS y u p),[]):=by
 have h:JP y=true:=h
 simp only [QE1,h,Qd,YI,OS,Xp]
 cases EQ y with
 |false=>rfl
 |true=>
  simp only [if_true,show ine 0 0=false from rfl,Qh,Bool.true_eq_false,Dc]
  cases JJ u with
  |false=>rfl
  |true=>
   simp only [BA,Qh,Bool.true_eq_false,Dc]
   repeat' (refine Q1 ?_ ?_<;>intro _)
   all_goals simp only [igt,ilt,Ba,Bo] at*
   all_goals first
    |rw [if_pos (by omega)]
    |rw [if_neg (by omega)]
def QE2:Ent:=Qm (.pr Q3 (.pr Qe (.pr tI .nil))) (fun x=>(QgN x.1 x.2.1 x.2.2.1)) (fun x=>(.t tI (OS x.1 x.2.1 x.2.2.1)))
theorem QUY:EM 194 QE2:=mS g_f194 QUX [((.t 6),some tI)] false (gB (gD QFE (gD Qao gN))) fun m=>Qq m fun x hok=>kT (s_f194 x.1 x.2.1 x.2.2.1 hok)
def QUZ:TC:=aF Tryz.f158 [(30,pE [[4],[5],[],[],[],[4],[5],[],[],[],[],[],[]] (oN 13))]
def g_f158:G:=gG 35 [(194,QE2),(195,QE0),(196,QqY)] (fun _ _=>none)
def QE3 (p0:Ah)(p1:Aa)(p2 p3:Int):OV:=br (QgN p0 p1 p2) (br (ine (OS p0 p1 p2) 0) (some (.tu [(.t .bool false),(.t tI 0),(.t tI (OS p0 p1 p2))],[])) (br (ilt p3 0) (some (.tu [(.t .bool false),(.t tI 0),(.t tI 2)],[])) (br (igt p3 40000) (some (.tu [(.t .bool false),(.t tI 0),(.t tI 2)],[])) (br (FG p0 p1 p2 p3) (br (FG p0 p1 p2 p3) (some (.tu [(.t .bool (GJ p0 p1 p2 p3)),(.t tI (Z6 p0 p1 p2 p3)),(.t tI 0)],[])) none) none)))) none
theorem QU0 {y:Ah}{u:Aa}{p d:Int}:Xp y u p d=if Xp y u p 0≠0 then Xp y u p 0 else if d<0∨40000<d then 2 else 0:=by
 unfold Xp
 cases EQ y<;>cases JJ u<;>simp only [Bool.true_eq_false,if_true,Dc]<;>try rfl
 repeat' split
 all_goals first|rfl|omega
theorem s_f158 (y u p d)(h:Gw y u p d=true):QE3 y u p d=some (.tu [.t .bool (ZJ y u p d).1,.t tI (ZJ y u p d).2.1,.t tI (ZJ y u p d).2.2],[]):=by
 have h3:QgN y u p=true:=h
 have h5:FG y u p d=true:=by
  have h:JP y=true:=h
  simp only [JP,Bd] at h
  exact h.1
 simp only [QE3,h3,h5,Qd,ZJ,OS,QC6]
 rw [QU0 (d:=d)]
 by_cases h0:Xp y u p 0=0
 ·simp only [h0,ne_eq,not_true_eq_false,BP,Qh,Dc]
  repeat' (refine Q1 ?_ ?_<;>intro _)
  all_goals simp only [igt,ilt,Ba,Bo] at*
  all_goals first
   |rw [if_pos (show d<0∨40000<d by omega)];rfl
   |rw [if_neg (show ¬ (d<0∨40000<d) by omega)];rfl
 ·simp [h0,Qd]
def QE4:Ent:=Qm (.pr Q3 (.pr Qe (.pr tI (.pr tI .nil)))) (fun x=>(Gw x.1 x.2.1 x.2.2.1 x.2.2.2.1)) (fun x=>(.tu [(.t .bool ((ZJ x.1 x.2.1 x.2.2.1 x.2.2.2.1).1)),(.t tI (((ZJ x.1 x.2.1 x.2.2.1 x.2.2.2.1).2).1)),(.t tI (((ZJ x.1 x.2.1 x.2.2.1 x.2.2.2.1).2).2))]))
theorem QU1:EM 158 QE4:=mS g_f158 QUZ [((.t 8),some .bool),((.t 9),some tI),((.t 10),some tI)] false (gB (gD QUY (gD QUW (gD QEY gN)))) fun m=>Qq m fun x hok=>kT (s_f158 x.1 x.2.1 x.2.2.1 x.2.2.2.1 hok)
end K
end Go.Proofs.YtkmobehaikjdjaaGreat
