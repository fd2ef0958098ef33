import Derived.Test.YtmjnnemhoeolgaaGreatQ5
import Derived.Test.YtmjnnemhoeolgaaGreatQ3
import Derived.Test.YtmjnnemhoeolgaaGreatQ4
import Derived.RangeFuncCalls
import Derived.RangeFuncBound
import Derived.Shelf.RegionOpen
import Derived.OwnWalkIn
import Derived.TacticsInMore
import Derived.LoopNIn
import Derived.LoopIn
set_option linter.unusedSimpArgs false
set_option linter.unusedVariables false
noncomputable section
namespace Go.Proofs.YtmjnnemhoeolgaaGreat.K
open Go.RowKit
noncomputable section
theorem Qer {c:Int}(h:ieq (QB c).2 0=true):1<=c/\c<=16:=by
 unfold QB at h
 split at h
 ·simp [ieq] at h
 ·omega
theorem Qmk {l:List Int}(h:ZW l=true): ∀ (k:Nat) (hk:k<l.length),(1<=l[k]/\l[k]<=16)∧ ¬ l[k]∈l.take k:=by
 intro k hk
 simp only [ZW,YS,Bf,Dw,Bb,Bu] at h
 obtain ⟨h1,h2⟩:=h k ⟨by omega,by omega⟩
 simp only [Bk,Bh hk,BH] at h1 h2
 refine ⟨Qer h1,fun hm=> ?_⟩
 simp only [QR] at h2
 rw [BI.2 hm] at h2
 cases h2
theorem Qx1 {l:List Int}(h:ZW l=true):l.Nodup:=by
 have h2:=Qmk h
 rw [List.nodup_iff_pairwise_ne,List.pairwise_iff_getElem]
 intro i j hi hj hij he
 refine (h2 j hj).2 ?_
 rw [←he]
 exact List.mem_iff_getElem.2 ⟨i,by rw [Db];omega,by rw [List.getElem_take]⟩
theorem Qx2 {l:List Int}(h:ZW l=true):l.length<=16:=by
 have h1:=Qx1 h
 have h2:=Qmk h
 have h3:l ⊆ [1,2,3,4,5,6,7,8,9,10,11,12,13,14,15,16]:=by
  intro x hx
  obtain ⟨k,hk,rfl⟩:=List.mem_iff_getElem.1 hx
  have:=(h2 k hk).1
  simp only [B5,Do,or_false]
  omega
 exact h1.length_le_of_subset h3
abbrev Qq (e:Endpoint):List Int:=e.2.2.2.1
abbrev Qp (e:Endpoint):List Identity:=e.2.2.2.2.2.1
abbrev Q7 (e:Endpoint):List Int:=e.2.2.2.2.2.2.1
abbrev Ja (e:Endpoint):List Int:=e.2.2.2.2.2.2.2.1
def Wy (x:Identity):Bool:=Xo x.1 x.2.1 x.2.2.1
def Jo (x:Identity):Bool:=Js x.2.2.1
def QS (e:Endpoint):Bool:=Jg e.1&&decide ((Qq e).length<=100000/\(Qp e).length<=100000/\(Q7 e).length<=100000/\(Ja e).length<=100000)&&(Qp e).all Jo
def QN (e:Endpoint):Bool:=
 Wl e.1&&(!ilt e.2.1 1&&(!igt e.2.1 e.2.2.1&&(!igt e.2.2.1 4&&(ZW (Qq e)&&(!igt (Qa (Qp e)) 4&&(!igt (Qa (Q7 e)) 16&&(Xs (Q7 e)&&(Xs (Ja e)&&((Qp e).all Wy&&((Q7 e).all Zf&&(Ja e).all Wm))))))))))
def JZ (e:Endpoint):Int:=bif QN e then 0 else 19
theorem QLU (e:Endpoint):ieq (JZ e) 0=QN e:=by
 unfold JZ
 cases QN e<;>rfl
theorem Gm (e:Endpoint):ine (JZ e) 0= !QN e:=by
 unfold JZ
 cases QN e<;>rfl
abbrev Qes:Sh:=⟨[(1,.ptr 1 0),(56,.ty (.sl QV)),(57,.ty tI),(58,.ty tI)],[(1,.box Qo)]⟩
abbrev E9:Sh:=⟨[(2,.ty tI)],[]⟩
abbrev Vw:Sh:=⟨[(1,.ptr 1 0)],[(1,.box Qo)]⟩
def Qml:Fg:=Qes.f
def Qx3:TC:=aF Tryz.f46 [(122,pL 0 Qml),(1957,.fg Vw.f),(62669,.fg E9.f),(252,pD [(0,[1]),(1,[1]),(2,[]),(3,[74,5074,10074,15074]),(4,[74,75,5074,5075,10074,10075,15074,15075]),(5,[]),(6,[1]),(7,[1]),(8,[]),(9,[80,5080,10080,15080]),(10,[80,81,5080,5081,10080,10081,15080,15081]),(11,[])] (.of [0,1,2,3,4,5,6,7,8,9,10,11]))]
def Qx4:TC:=lb 0 Qx3
def Qx5 (x56:List Identity)(x57 x58:Int)(y1:Endpoint):VS:=Qes.st ((),x56,x57,x58,()) (y1,())
def Z3 (x2:Int):VS:=E9.st (x2,()) ()
def XX (y1:Endpoint):VS:=Vw.st ((),()) (y1,())
def QLV:VS->Option (Bool×List (Bool×Exit×VS)):=mkL Qes (fun x y=>(QA x.2.1 x.2.2.1 x.2.2.2.1&&x.2.1.all Jo)) (fun x y=>[((!(x.2.1.drop x.2.2.2.1.toNat).all Wy),.ret,Z3 (19)),(true,.exit 0,XX (y.1))])
def Qmm:G:=gG 83 [(76,Qtx),(77,QtR),(78,QtH),(79,QqY),(80,Qt8),(80,Qup),(82,Qt3),(82,Quk)] (Ls [QLV])
def Qet (x56:List Identity)(x57 x58:Int)(y1:Endpoint):OX:=Qr (Qv Qmm Qml Qx4) (Qx5 x56 x57 x58 y1)
def Vx (kk:List Identity->Int->Int->Endpoint->OX)(x56:List Identity)(x57 x58:Int)(y1:Endpoint):OX:=
 let a1:=lgt QV x56 (Int.toNat x58)
 br (ilt x58 x57) (br (cIx x56 x58) (br (U4 (a1.1) ((a1.2).1) (((a1.2).2).1)) (br (!(Xo (a1.1) ((a1.2).1) (((a1.2).2).1))) (some (.ret,Z3 19)) (kk x56 x57 (Qg .i64 x58 1) y1)) none) none) (some (.exit 0,XX y1))
def Qeu (x56:List Identity)(x57 x58:Int)(y1:Endpoint):OX:=br (!(x56.drop x58.toNat).all Wy) (some (.ret,Z3 (19)))<|some (.exit 0,XX (y1))
theorem Qx6 (x56:List Identity)(x57 x58:Int)(y1:Endpoint):Qet x56 x57 x58 y1=Vx Qet x56 x57 x58 y1:=lnT (x:=Vx (fun x56 x57 x58 y1=>some (.normal,Qx5 x56 x57 x58 y1)) x56 x57 x58 y1) (by simp only [Vx,nxA];rfl)
def r_f46 (p0:Endpoint):OV:=
 let a1:=(((((((p0).2).2).2).2).2).2)
 br (Jg p0.1) (br (!(Wl p0.1)) (some (.t tI 19,[])) (br (ilt p0.2.1 1) (some (.t tI 19,[])) (br (igt p0.2.1 p0.2.2.1) (some (.t tI 19,[])) (br (igt p0.2.2.1 4) (some (.t tI 19,[])) (br (J7 p0.2.2.2.1) (br (!(ZW p0.2.2.2.1)) (some (.t tI 19,[])) (br (igt (Qa p0.2.2.2.2.2.1) 4) (some (.t tI 19,[])) (br (igt (Qa p0.2.2.2.2.2.2.1) 16) (some (.t tI 19,[])) (br (J7 p0.2.2.2.2.2.2.1) (br (!(Xs p0.2.2.2.2.2.2.1)) (some (.t tI 19,[])) (br (J7 p0.2.2.2.2.2.2.2.1) (br (!(Xs p0.2.2.2.2.2.2.2.1)) (some (.t tI 19,[])) (br (QA p0.2.2.2.2.2.1 (Qa p0.2.2.2.2.2.1) (0:Int)&&p0.2.2.2.2.2.1.all Jo) (br (!(p0.2.2.2.2.2.1.drop (0:Int).toNat).all Wy) (some (.t tI (19),[])) (br (J7 (a1.1)) (br (GX (a1.1)) (some (.t tI 19,[])) (br (J7 ((a1.2).1)) (br (GY ((a1.2).1)) (some (.t tI 19,[])) (some (.t tI 0,[]))) none)) none)) none)) none)) none)))) none))))) none
theorem QLW (x56:List Identity)(x57 x58:Int)(y1:Endpoint)(h:(QA x56 x57 x58&&x56.all Jo)=true):Qet x56 x57 x58 y1=Qeu x56 x57 x58 y1:=by
 simp only [Bb,Bf] at h
 obtain ⟨h0,hc⟩:=h
 obtain ⟨rfl,h3,k,rfl,hk⟩:=JB h0
 clear h0
 refine QP x56 (fun k=>Qet x56 (x56.length:Int) (k:Int) y1=Qeu x56 (x56.length:Int) (k:Int) y1) ?_ ?_ k hk
 ·rw [Qx6]
  simp only [Vx,Qeu,Qz,BT,B0,Qf,Bc,BK,Dy,BC]
 ·intro k hk ih
  rw [Qx6]
  have hx:U4 x56[k].1 x56[k].2.1 x56[k].2.2.1=true:=hc x56[k] (Bw hk)
  simp only [Vx,Qz,QJ,hk,Bt,Qb,Bc,QO (show k<4611686018427387904 by omega),QL (y:=QV) hk,hx,ih]
  simp only [Qeu,Bc,Bi hk,BW,Wy]
  cases Xo x56[k].1 x56[k].2.1 x56[k].2.2.1<;>rfl
theorem QLX:LO Qmm Qml Qx4 0:=QH (s:=Qes) fun x y h _ q=>by simp only [QE,QF] at q;exact (QLW x.2.1 x.2.2.1 x.2.2.2.1 y.1 h).trans q
theorem s_f46 (e:Endpoint)(h:QS e=true):r_f46 e=some (.t tI (JZ e),[]):=by
 simp only [QS,Bb,Ba] at h
 obtain ⟨⟨h1,h2,h3,h4,h5⟩,h6⟩:=h
 have q2:J7 (Qq e)=true:=Be h2
 have q4:J7 (Q7 e)=true:=Be h4
 have q5:J7 (Ja e)=true:=Be h5
 unfold JZ
 simp only [r_f46,h1,q2,q4,q5,JC h3,h6,BZ,Qb,Br,By,GX,GY]
 refine br9 (fun g=>by simp only [Bu] at g;simp [QN,g]) fun g1=>br9 (fun g=>by simp [QN,g]) fun g2=>br9 (fun g=>by simp [QN,g]) fun g3=>br9 (fun g=>by simp [QN,g]) fun g4=>br9 (fun g=>by simp only [Bu] at g;simp [QN,g]) fun g5=>br9 (fun g=>by simp [QN,g]) fun g6=>br9 (fun g=>by simp [QN,g]) fun g7=>br9 (fun g=>by simp only [Bu] at g;simp [QN,g]) fun g8=>br9 (fun g=>by simp only [Bu] at g;simp [QN,g]) fun g9=>br9 (fun g=>by simp only [Bu] at g;simp [QN,g]) fun g10=>br9 (fun g=>by simp only [Bu] at g;simp [QN,g]) fun g11=>br9 (fun g=>by simp only [Bu] at g;simp [QN,g]) fun g12=> ?_
 simp only [Bool.not_eq_false'] at g1 g5 g8 g9 g10 g11 g12
 have:QN e=true:=by
  simp only [QN,g1,g2,g3,g4,g5,g6,g7,g8,g9,g10,g11,g12,Dx,BZ]
 rw [this]
 rfl
def Qev:Ent:=Qi (.pr Qo .nil) (fun x=>(QS x.1)) (fun x=>(.t tI (JZ x.1)))
theorem Qmn:EM 46 Qev:=mS (lk:=lkL (lkc QLX lkn)) Qmm Qx3 [((.t 2),some tI)] false (gB (gD ms_f76 (gD ms_f77 (gD ms_f78 (gD ms_f79 (gD QIf (gD QIv (gD QIc (gD QIs gN))))))))) fun m=>Qm m fun x hok=>kT (s_f46 x.1 hok)
abbrev Qew:Sh:=⟨[(1,.ptr 1 0),(3,.ty tI)],[(1,.box Qo)]⟩
abbrev Qex:Sh:=⟨[(1,.ptr 1 0),(6,.ty tI)],[(1,.box Qo)]⟩
abbrev Qey:Sh:=⟨[(1,.ptr 1 0),(7,.ty tI)],[(1,.box Qo)]⟩
abbrev Qez:Sh:=⟨[(1,.ptr 1 0),(8,.ty tI)],[(1,.box Qo)]⟩
abbrev Qx7:Sh:=⟨[],[]⟩
def Qmo:Fg:=Qew.f
def Qmp:Fg:=Qex.f
def Qmq:Fg:=Qey.f
def Qmr:Fg:=Qez.f
def Vy:TC:=aF Tryz.f61 [(58,pL 0 Qmo),(931,.fg Vw.f),(3730,pD [(0,[]),(1,[]),(2,[]),(3,[1]),(4,[1]),(5,[]),(6,[]),(7,[1]),(8,[1]),(9,[]),(10,[]),(11,[]),(12,[]),(13,[])] (.of [0,1,2,3,4,5,6,7,8,9,10,11,12,13])),(14925,.fg E9.f),(122,pL 1 Qmp),(1955,.fg Vw.f),(3912,pD [(0,[1]),(1,[1]),(2,[]),(3,[]),(4,[]),(5,[]),(6,[1]),(7,[1]),(8,[]),(9,[]),(10,[]),(11,[]),(12,[1]),(13,[1]),(14,[]),(15,[]),(16,[]),(17,[]),(18,[]),(19,[])] (.of [0,1,2,3,4,5,6,7,8,9,10,11,12,13,14,15,16,17,18,19])),(15653,.fg E9.f),(250,pL 2 Qmq),(4003,.fg Vw.f),(8008,pD [(0,[1]),(1,[1]),(2,[]),(3,[]),(4,[]),(5,[]),(6,[]),(7,[1]),(8,[1]),(9,[]),(10,[]),(11,[]),(12,[]),(13,[]),(14,[]),(15,[]),(16,[]),(17,[]),(18,[1]),(19,[1]),(20,[]),(21,[]),(22,[]),(23,[]),(24,[1]),(25,[1]),(26,[]),(27,[]),(28,[]),(29,[]),(30,[]),(31,[])] (.of [0,1,2,3,4,5,6,7,8,9,10,11,12,13,14,15,16,17,18,19,20,21,22,23,24,25,26,27,28,29,30,31])),(32037,.fg E9.f),(506,pL 3 Qmr),(8099,.fg Qx7.f),(16200,pD [(0,[1]),(1,[1]),(2,[]),(3,[]),(4,[]),(5,[]),(6,[]),(7,[]),(8,[]),(9,[]),(10,[]),(11,[1]),(12,[1]),(13,[]),(14,[]),(15,[]),(16,[]),(17,[1]),(18,[1]),(19,[]),(20,[]),(21,[]),(22,[]),(23,[]),(24,[])] (.of [0,1,2,3,4,5,6,7,8,9,10,11,12,13,14,15,16,17,18,19,20,21,22,23,24])),(64805,.fg E9.f)]
def Qx8:TC:=lb 0 Vy
def Qx9:TC:=lb 1 Vy
def Qya:TC:=lb 2 Vy
def Qyb:TC:=lb 3 Vy
def Qyc (x3:Int)(y1:Endpoint):VS:=Qew.st ((),x3,()) (y1,())
def Qyd (x6:Int)(y1:Endpoint):VS:=Qex.st ((),x6,()) (y1,())
def Qye (x7:Int)(y1:Endpoint):VS:=Qey.st ((),x7,()) (y1,())
def Qyf (x8:Int)(y1:Endpoint):VS:=Qez.st ((),x8,()) (y1,())
def Qms  : VS:=Qx7.st () ()
def QLY:VS->Option (Bool×List (Bool×Exit×VS)):=mkL Qew (fun x y=>(decide (0<=x.2.1/\x.2.1<=(Qq y.1).length/\(Qq y.1).length<=100000))) (fun x y=>[((!YS (Qq y.1) x.2.1.toNat),.ret,Z3 (19)),(true,.exit 0,XX (y.1))])
def QLZ:VS->Option (Bool×List (Bool×Exit×VS)):=mkL Qex (fun x y=>(decide (0<=x.2.1/\x.2.1<=(Qp y.1).length/\(Qp y.1).length<=100000)&&(Qp y.1).all Jo)) (fun x y=>[((!((Qp y.1).drop x.2.1.toNat).all Wy),.ret,Z3 (19)),(true,.exit 2,XX (y.1))])
def QL0:VS->Option (Bool×List (Bool×Exit×VS)):=mkL Qey (fun x y=>(decide (0<=x.2.1/\x.2.1<=(Q7 y.1).length/\(Q7 y.1).length<=100000))) (fun x y=>[((!(((Q7 y.1).drop x.2.1.toNat).all Zf&&YE (Q7 y.1) x.2.1.toNat)),.ret,Z3 (19)),(true,.exit 4,XX (y.1))])
def QL1:VS->Option (Bool×List (Bool×Exit×VS)):=mkL Qez (fun x y=>(decide (0<=x.2.1/\x.2.1<=(Ja y.1).length/\(Ja y.1).length<=100000))) (fun x y=>[((!(((Ja y.1).drop x.2.1.toNat).all Wm&&YE (Ja y.1) x.2.1.toNat)),.ret,Z3 (19)),(true,.exit 6,Qms)])
def UF:G:=gG 176 [(64,IJ),(98,QtC),(99,Qaq),(100,Qq4),(101,Qgb)] (Ls [QLY,QLZ,QL0,QL1])
def QeA (x3:Int)(y1:Endpoint):OX:=Qr (Qv UF Qmo Qx8) (Qyc x3 y1)
def Vz (kk:Int->Endpoint->OX)(x3:Int)(y1:Endpoint):OX:=
 let a1:=lgt tI y1.2.2.2.1 (Int.toNat x3)
 br (ilt x3 (Qa y1.2.2.2.1)) (br (cIx y1.2.2.2.1 x3) (br (ine ((QB a1).2) 0) (some (.ret,Z3 19)) (br (cSl y1.2.2.2.1 0 x3 ((List.length y1.2.2.2.1:Nat):Int)) (br (cIx y1.2.2.2.1 x3) (br (Jc (lsl y1.2.2.2.1 0 x3) a1) (br (QR (lsl y1.2.2.2.1 0 x3) a1) (some (.ret,Z3 19)) (kk (Qg .i64 x3 1) y1)) none) none) none)) none) (some (.exit 0,XX y1))
def QeB (x3:Int)(y1:Endpoint):OX:=br (!YS (Qq y1) x3.toNat) (some (.ret,Z3 (19)))<|some (.exit 0,XX (y1))
theorem Qyg (x3:Int)(y1:Endpoint):QeA x3 y1=Vz QeA x3 y1:=lnT (x:=Vz (fun x3 y1=>some (.normal,Qyc x3 y1)) x3 y1) (by simp only [Vz,nxA];rfl)
def QeC (x6:Int)(y1:Endpoint):OX:=Qr (Qv UF Qmp Qx9) (Qyd x6 y1)
def VA (kk:Int->Endpoint->OX)(x6:Int)(y1:Endpoint):OX:=
 let a1:=lgt QV y1.2.2.2.2.2.1 (Int.toNat x6)
 let a2:=cIx y1.2.2.2.2.2.1 x6
 br (ilt x6 (Qa y1.2.2.2.2.2.1)) (br a2 (br a2 (br a2 (br (U4 (a1.1) ((a1.2).1) (((a1.2).2).1)) (br (!(Xo (a1.1) ((a1.2).1) (((a1.2).2).1))) (some (.ret,Z3 19)) (kk (Qg .i64 x6 1) y1)) none) none) none) none) (some (.exit 2,XX y1))
def QeD (x6:Int)(y1:Endpoint):OX:=br (!((Qp y1).drop x6.toNat).all Wy) (some (.ret,Z3 (19)))<|some (.exit 2,XX (y1))
theorem Qyh (x6:Int)(y1:Endpoint):QeC x6 y1=VA QeC x6 y1:=lnT (x:=VA (fun x6 y1=>some (.normal,Qyd x6 y1)) x6 y1) (by simp only [VA,nxA];rfl)
def QeE (x7:Int)(y1:Endpoint):OX:=Qr (Qv UF Qmq Qya) (Qye x7 y1)
def VB (kk:Int->Endpoint->OX)(x7:Int)(y1:Endpoint):OX:=
 let a1:=lgt tI y1.2.2.2.2.2.2.1 (Int.toNat x7)
 let a2:=cIx y1.2.2.2.2.2.2.1 x7
 br (ilt x7 (Qa y1.2.2.2.2.2.2.1)) (br a2 (br (ilt a1 0) (some (.ret,Z3 19)) (br a2 (br (igt a1 2147483648) (some (.ret,Z3 19)) (br (igt x7 0) (br (cIx y1.2.2.2.2.2.2.1 (QY .i64 x7 1)) (br a2 (br (ige (lgt tI y1.2.2.2.2.2.2.1 (Int.toNat (QY .i64 x7 1))) a1) (some (.ret,Z3 19)) (kk (Qg .i64 x7 1) y1)) none) none) (kk (Qg .i64 x7 1) y1))) none)) none) (some (.exit 4,XX y1))
def QeF (x7:Int)(y1:Endpoint):OX:=br (!(((Q7 y1).drop x7.toNat).all Zf&&YE (Q7 y1) x7.toNat)) (some (.ret,Z3 (19)))<|some (.exit 4,XX (y1))
theorem Qyi (x7:Int)(y1:Endpoint):QeE x7 y1=VB QeE x7 y1:=lnT (x:=VB (fun x7 y1=>some (.normal,Qye x7 y1)) x7 y1) (by simp only [VB,nxA];rfl)
def QeG (x8:Int)(y1:Endpoint):OX:=Qr (Qv UF Qmr Qyb) (Qyf x8 y1)
def VC (kk:Int->Endpoint->OX)(x8:Int)(y1:Endpoint):OX:=
 let a1:=lgt tI y1.2.2.2.2.2.2.2.1 (Int.toNat x8)
 let a2:=cIx y1.2.2.2.2.2.2.2.1 x8
 br (ilt x8 (Qa y1.2.2.2.2.2.2.2.1)) (br a2 (br (ine (Yw a1) 1) (some (.ret,Z3 19)) (br (igt x8 0) (br (cIx y1.2.2.2.2.2.2.2.1 (QY .i64 x8 1)) (br a2 (br (ige (lgt tI y1.2.2.2.2.2.2.2.1 (Int.toNat (QY .i64 x8 1))) a1) (some (.ret,Z3 19)) (kk (Qg .i64 x8 1) y1)) none) none) (kk (Qg .i64 x8 1) y1))) none) (some (.exit 6,Qms))
def QeH (x8:Int)(y1:Endpoint):OX:=br (!(((Ja y1).drop x8.toNat).all Wm&&YE (Ja y1) x8.toNat)) (some (.ret,Z3 (19)))<|some (.exit 6,Qms)
theorem Qyj (x8:Int)(y1:Endpoint):QeG x8 y1=VC QeG x8 y1:=lnT (x:=VC (fun x8 y1=>some (.normal,Qyf x8 y1)) x8 y1) (by simp only [VC,nxA];rfl)
def r_f61 (p0:Endpoint):OV:=br (Jg p0.1) (br (!(Wl p0.1)) (some (.t tI 19,[])) (br (ilt p0.2.1 1) (some (.t tI 19,[])) (br (igt p0.2.1 p0.2.2.1) (some (.t tI 19,[])) (br (igt p0.2.2.1 4) (some (.t tI 19,[])) (br (igt (Qa p0.2.2.2.1) 16) (some (.t tI 19,[])) (br (igt (Qa p0.2.2.2.2.2.1) 4) (some (.t tI 19,[])) (br (igt (Qa p0.2.2.2.2.2.2.1) 16) (some (.t tI 19,[])) (br (decide (0<=(0:Int)/\(0:Int)<=(Qq p0).length/\(Qq p0).length<=100000)) (br (!YS (Qq p0) (0:Int).toNat) (some (.t tI (19),[])) (br (decide (0<=(0:Int)/\(0:Int)<=(Qp (p0)).length/\(Qp (p0)).length<=100000)&&(Qp (p0)).all Jo) (br (!((Qp (p0)).drop (0:Int).toNat).all Wy) (some (.t tI (19),[])) (br (decide (0<=(0:Int)/\(0:Int)<=(Q7 (p0)).length/\(Q7 (p0)).length<=100000)) (br (!(((Q7 (p0)).drop (0:Int).toNat).all Zf&&YE (Q7 (p0)) (0:Int).toNat)) (some (.t tI (19),[])) (br (decide (0<=(0:Int)/\(0:Int)<=(Ja (p0)).length/\(Ja (p0)).length<=100000)) (br (!(((Ja (p0)).drop (0:Int).toNat).all Wm&&YE (Ja (p0)) (0:Int).toNat)) (some (.t tI (19),[])) (some (.t tI 0,[]))) none)) none)) none)) none)))))))) none
theorem QL2 (x3:Int)(y1:Endpoint)(h:(decide (0<=x3/\x3<=(Qq y1).length/\(Qq y1).length<=100000))=true):QeA x3 y1=QeB x3 y1:=by
 simp only [Ba] at h
 obtain ⟨h0,h1,h2⟩:=h
 obtain ⟨k,rfl⟩:=Bo h0
 refine QP (Qq y1) (fun k=>QeA (k:Int) y1=QeB (k:Int) y1) ?_ ?_ k (by omega)
 ·rw [Qyg]
  simp only [Vz,QeB,show ilt ((Qq y1).length:Int) (Qa (Qq y1))=false from Bl (by simp only [Qa];omega),Qf,Bc,QtJ,BC]
 ·intro k hk ih
  rw [Qyg]
  have hi:Jc ((Qq y1).take k) (Qq y1)[k]=true:=Be (by rw [Db];omega)
  simp only [Vz,show ilt (k:Int) (Qa (Qq y1))=true from Be (by simp only [Qa];omega),QJ,hk,Bt,Qb,Bc,QO (show k<4611686018427387904 by omega),QL (y:=tI) hk,ih,QtL,QtM (show k<=(Qq y1).length by omega),hi,Fv]
  simp only [QeB,Bc,QtK hk]
  cases ieq (QB (Qq y1)[k]).2 0<;>cases QR ((Qq y1).take k) (Qq y1)[k]<;>rfl
theorem QL3 (x6:Int)(y1:Endpoint)(h:(decide (0<=x6/\x6<=(Qp y1).length/\(Qp y1).length<=100000)&&(Qp y1).all Jo)=true):QeC x6 y1=QeD x6 y1:=by
 simp only [Bb,Ba,Bf] at h
 obtain ⟨⟨h0,h1,h2⟩,hc⟩:=h
 obtain ⟨k,rfl⟩:=Bo h0
 refine QP (Qp y1) (fun k=>QeC (k:Int) y1=QeD (k:Int) y1) ?_ ?_ k (by omega)
 ·rw [Qyh]
  simp only [VA,QeD,show ilt ((Qp y1).length:Int) (Qa (Qp y1))=false from Bl (by simp only [Qa];omega),Qf,Bc,BK,Dy,BC]
 ·intro k hk ih
  rw [Qyh]
  have hx:U4 (Qp y1)[k].1 (Qp y1)[k].2.1 (Qp y1)[k].2.2.1=true:=hc (Qp y1)[k] (Bw hk)
  simp only [VA,show ilt (k:Int) (Qa (Qp y1))=true from Be (by simp only [Qa];omega),QJ,hk,Bt,Qb,Bc,QO (show k<4611686018427387904 by omega),QL (y:=QV) hk,hx,ih]
  simp only [QeD,Bc,Bi hk,BW,Wy]
  cases Xo (Qp y1)[k].1 (Qp y1)[k].2.1 (Qp y1)[k].2.2.1<;>rfl
theorem QL4 (x7:Int)(y1:Endpoint)(h:(decide (0<=x7/\x7<=(Q7 y1).length/\(Q7 y1).length<=100000))=true):QeE x7 y1=QeF x7 y1:=by
 simp only [Ba] at h
 obtain ⟨h0,h1,h2⟩:=h
 obtain ⟨k,rfl⟩:=Bo h0
 refine QP (Q7 y1) (fun k=>QeE (k:Int) y1=QeF (k:Int) y1) ?_ ?_ k (by omega)
 ·rw [Qyi]
  simp only [VB,QeF,show ilt ((Q7 y1).length:Int) (Qa (Q7 y1))=false from Bl (by simp only [Qa];omega),Qf,Bc,BK,Dy,QjT,BZ,BC]
 ·intro k hk ih
  rw [Qyi]
  simp only [VB,show ilt (k:Int) (Qa (Q7 y1))=true from Be (by simp only [Qa];omega),QJ,hk,Bt,Qb,Bc,QO (show k<4611686018427387904 by omega),QL (y:=tI) hk,ih,QjV hk (show k<4611686018427387904 by omega)]
  simp only [QeF,Bc,QjU hk,Bi hk,BW,Zf]
  cases ilt (Q7 y1)[k] 0<;>cases igt (Q7 y1)[k] 2147483648<;>cases decide (k=0)||ilt ((Q7 y1).getD (k-1) 0) (Q7 y1)[k]<;>simp [Qb,Qf]
theorem QL5 (x8:Int)(y1:Endpoint)(h:(decide (0<=x8/\x8<=(Ja y1).length/\(Ja y1).length<=100000))=true):QeG x8 y1=QeH x8 y1:=by
 simp only [Ba] at h
 obtain ⟨h0,h1,h2⟩:=h
 obtain ⟨k,rfl⟩:=Bo h0
 refine QP (Ja y1) (fun k=>QeG (k:Int) y1=QeH (k:Int) y1) ?_ ?_ k (by omega)
 ·rw [Qyj]
  simp only [VC,QeH,show ilt ((Ja y1).length:Int) (Qa (Ja y1))=false from Bl (by simp only [Qa];omega),Qf,Bc,BK,Dy,QjT,BZ,BC]
 ·intro k hk ih
  rw [Qyj]
  simp only [VC,show ilt (k:Int) (Qa (Ja y1))=true from Be (by simp only [Qa];omega),QJ,hk,Bt,Qb,Bc,QO (show k<4611686018427387904 by omega),QL (y:=tI) hk,ih,QjV hk (show k<4611686018427387904 by omega),Fv]
  simp only [QeH,Bc,QjU hk,Bi hk,BW,Wm]
  cases ieq (Yw (Ja y1)[k]) 1<;>cases decide (k=0)||ilt ((Ja y1).getD (k-1) 0) (Ja y1)[k]<;>simp [Qb,Qf]
theorem QL6:LO UF Qmo Qx8 0:=QH (s:=Qew) fun x y h _ q=>by simp only [QE,QF] at q;exact (QL2 x.2.1 y.1 h).trans q
theorem QL7:LO UF Qmp Qx9 1:=QH (s:=Qex) fun x y h _ q=>by simp only [QE,QF] at q;exact (QL3 x.2.1 y.1 h).trans q
theorem QL8:LO UF Qmq Qya 2:=QH (s:=Qey) fun x y h _ q=>by simp only [QE,QF] at q;exact (QL4 x.2.1 y.1 h).trans q
theorem QL9:LO UF Qmr Qyb 3:=QH (s:=Qez) fun x y h _ q=>by simp only [QE,QF] at q;exact (QL5 x.2.1 y.1 h).trans q
theorem s_f61 (e:Endpoint)(h:QS e=true):r_f61 e=some (.t tI (JZ e),[]):=by
 simp only [QS,Bb,Ba] at h
 obtain ⟨⟨h1,h2,h3,h4,h5⟩,h6⟩:=h
 have q2:decide ((0:Int)<=0/\(0:Int)<=(Qq e).length/\(Qq e).length<=100000)=true:=Be (by omega)
 have q3:decide ((0:Int)<=0/\(0:Int)<=(Qp e).length/\(Qp e).length<=100000)=true:=Be (by omega)
 have q4:decide ((0:Int)<=0/\(0:Int)<=(Q7 e).length/\(Q7 e).length<=100000)=true:=Be (by omega)
 have q5:decide ((0:Int)<=0/\(0:Int)<=(Ja e).length/\(Ja e).length<=100000)=true:=Be (by omega)
 unfold JZ
 simp only [r_f61,h1,q2,q3,q4,q5,h6,BZ,Qb,Br,By]
 refine br9 (fun g=>by simp only [Bu] at g;simp [QN,g]) fun g1=>br9 (fun g=>by simp [QN,g]) fun g2=>br9 (fun g=>by simp [QN,g]) fun g3=>br9 (fun g=>by simp [QN,g]) fun g4=>br9 (fun g=> ?_) fun g5=>br9 (fun g=>by simp [QN,g]) fun g6=>br9 (fun g=>by simp [QN,g]) fun g7=>br9 (fun g=>by simp only [Bu] at g;have:ZW (Qq e)=false:=g;simp [QN,this]) fun g8=>br9 (fun g=>by simp only [Bu] at g;simp [QN,g]) fun g9=>br9 (fun g=> ?_) fun g10=>br9 (fun g=> ?_) fun g11=> ?_
 ·have:ZW (Qq e)=false:=by
   cases hs:ZW (Qq e) with
   |false=>rfl
   |true=>
    have h16:e.2.2.2.1.length<=16:=Qx2 hs
    simp only [igt,Qa,Ba] at g
    omega
  simp [QN,this]
 ·simp only [Bu,Bool.and_eq_false_iff] at g
  rcases g with g|g
  ·simp [QN,g]
  ·have:Xs (Q7 e)=false:=g
   simp [QN,this]
 ·simp only [Bu,Bool.and_eq_false_iff] at g
  rcases g with g|g
  ·simp [QN,g]
  ·have:Xs (Ja e)=false:=g
   simp [QN,this]
 simp only [Bool.not_eq_false',Bb] at g1 g8 g9 g10 g11
 have k1:ZW (Qq e)=true:=g8
 have k2:Xs (Q7 e)=true:=g10.2
 have k3:Xs (Ja e)=true:=g11.2
 have:QN e=true:=by
  simp only [QN,g1,g2,g3,g4,k1,g6,g7,k2,k3,g9,g10.1,g11.1,Dx,BZ]
 rw [this]
 rfl
def Fm:Ent:=Qi (.pr Qo .nil) (fun x=>(QS x.1)) (fun x=>(.t tI (JZ x.1)))
theorem Ia:EM 61 Fm:=mS (lk:=lkL (lkc QL6 (lkc QL7 (lkc QL8 (lkc QL9 lkn))))) UF Vy [((.t 2),some tI)] false (gB (gD Qao (gD ms_f98 (gD Qgl (gD QFK (gD Qor gN)))))) fun m=>Qm m fun x hok=>kT (s_f61 x.1 hok)
end
end Go.Proofs.YtmjnnemhoeolgaaGreat.K
noncomputable section
namespace Go.Proofs.YtmjnnemhoeolgaaGreat.K
open Go.RowKit
def Eh (b:Ty):VO->VO
 |.box (.ag [.t b' x])=>if b'=b/\b'.row=false then .box (.t b' x) else .box (.ag [.t b' x])
 |o=>o
def Gd:List Ty->List VO->List VO
 |b::bs,o::os=>Eh b o::Gd bs os
 |_,os=>os
def Ei (l:List SV)(bs:List Ty)(ok:SVt l->Xv bs->Bool)(F:SVt l->Xv bs->V):Ent:=fun args objs=>Ye l bs ok F args (Gd bs objs)
section
variable {P:Program}{X:Nat->Nat->Prop}{w:World}{σ:Pl}
theorem QHC {b:Ty}{o:VO}{k:Nat}(h:OAt X w σ k o):OAt X w σ k (Eh b o):=by
 unfold Eh
 split
 ·rename_i b' x
  split
  ·rename_i hq
   obtain ⟨g,ty,vs,h1,h2,h3,h4⟩:=h
   refine ⟨g,ty,vs,h1,h2, ?_,h4⟩
   have e1:(V.ag [.t b' x]).d.cells=[b'.d x]:=rfl
   have e2:(V.t b' x).d.cells=[b'.d x]:=by
    show (b'.d x).cells=_
    rw [Ty.d_cells,Ty.d_one b' x hq.2]
   rw [e2, ← e1]
   exact h3
  ·exact h
 ·exact h
theorem QHD {b:Ty}{o:VO}(h:o≠ .no):Eh b o≠ .no:=by
 unfold Eh
 split
 ·split<;>simp
 ·exact h
theorem Qco: ∀ (bs:List Ty) (os:List VO),(Gd bs os).length=os.length
 | [],os=>rfl
 |b::bs,[]=>rfl
 |b::bs,o::os=>by rw [Gd,Bv,Bv,Qco bs os]
theorem Qtl: ∀ (bs:List Ty) (os:List VO) (j:Nat) (o:VO),(Gd bs os)[j]? = some o→ ∃ o',os[j]? = some o'/\(o=o'∨ ∃ b,o=Eh b o')
 | [],os,j,o,h=>⟨o,h,.inl rfl⟩
 |b::bs,[],j,o,h=>⟨o,h,.inl rfl⟩
 |b::bs,o1::os,0,o,h=>by
  simp only [Gd,B6,Bd] at h
  exact ⟨o1,rfl,.inr ⟨b,h.symm⟩⟩
 |b::bs,o1::os,j+1,o,h=>by
  simp only [Gd,BY] at h
  obtain ⟨o',h1,h2⟩:=Qtl bs os j o h
  exact ⟨o',by rw [BY];exact h1,h2⟩
theorem Oz {f:FuncId}{l:List SV}{bs:List Ty}{ok:SVt l->Xv bs->Bool}{F:SVt l->Xv bs->V}(hM:QI P f (QG (Ye l bs ok F))):QI P f (QG (Ei l bs ok F)):=by
 intro args objs r os hF X w σ vs hfin hl hc
 have:=hM args (Gd bs objs) r os hF X w σ vs hfin ⟨fun j o hj=>by
  obtain ⟨o',h1,h2⟩:=Qtl bs objs j o hj
  obtain ⟨g1,g2⟩:=hl.at_ j o' h1
  rcases h2 with rfl|⟨b,rfl⟩
  ·exact ⟨g1,g2⟩
  ·exact ⟨QHC g1,QHD g2⟩,fun i j b hij hi hj=>hl.apart i j b hij (by rwa [Qco] at hi) (by rwa [Qco] at hj)⟩ hc
 rw [Qco] at this
 exact this
end
end Go.Proofs.YtmjnnemhoeolgaaGreat.K
noncomputable section
namespace Go.Proofs.YtmjnnemhoeolgaaGreat.K
open Go.RowKit
noncomputable section
theorem QjG {l:List Certificate}(h:Js l=true){k:Nat}(hk:k<l.length):JA l[k]=true:=by
 simp only [Js,Bb,Bf] at h
 exact h.2 _ (Bw hk)
theorem OA {l:List Certificate}(h:Js l=true):l.length<=100000:=by
 simp only [Js,Bb,Ba] at h
 exact h.1
abbrev cAt (l:List Certificate)(k:Nat):Certificate:=l.getD k Qbs
theorem QjH {l:List Certificate}{k:Nat}(hk:k<l.length):cAt l k=l[k]:=by
 simp only [cAt,Bk,Bh hk,BH]
theorem Qtm {l:List Certificate}(h:Js l=true){k:Nat}(hk:k<l.length):JA (cAt l k)=true:=by
 rw [QjH hk]
 exact QjG h hk
def Ej (l:List Certificate)(i:Int):Bool:= !ilt i 0&&(!ige i (Qa l)&&(ieq i 0||((cAt l i.toNat).2.2.2.2.2.2.2.2.1&&ige (cAt l i.toNat).2.2.2.2.2.2.2.2.2.1 (i-1))))
def Ek (l:List Certificate)(_i:Int):Bool:=decide (l.length<=100000)
theorem QHE (l:List Certificate)(i:Int)(h:Ek l i=true):br (ilt i 0) (some (V.t .bool false,([]:List VO))) (br (ige i (Qa l)) (some (V.t .bool false,[])) (br (ieq i 0) (some (V.t .bool true,[])) (br (cIx l i) (br (lgt QQ l (Int.toNat i)).2.2.2.2.2.2.2.2.1 (br (cIx l i) (some (V.t .bool (ige (lgt QQ l (Int.toNat i)).2.2.2.2.2.2.2.2.2.1 (QY .i64 i 1)),[])) none) (some (V.t .bool false,[]))) none)))=some (V.t .bool (Ej l i),[]):=by
 simp only [Ek,Ba] at h
 unfold Ej
 cases hi:ilt i 0 with
 |true=>rfl
 |false=>
  have hn:=Dn hi
  rw [Qf,Dx,BA]
  cases h1:ige i (Qa l) with
  |true=>rfl
  |false=>
   have h2:=Dn h1
   rw [Qf,Dx,BA]
   cases h0:ieq i 0 with
   |true=>rfl
   |false=>
    have hl:Qa l<=100000:=by simp only [Qa];omega
    have hc:cIx l i=true:=Be ⟨by omega,by simp only [Qa] at h2;omega⟩
    rw [Qf,Da,hc,Qb,Yc (by omega)]
    exact brA rfl
def QHF:TC:=aF Tryz.f180 []
def g_f180:G:=gG 32 [] (fun _ _=>none)
def Qtn (p0:List Certificate)(p1:Int):OV:=
 let a1:=(((((((((lgt QQ p0 (Int.toNat p1)).2).2).2).2).2).2).2).2)
 br (ilt p1 0) (some (.t .bool false,[])) (br (ige p1 (Qa p0)) (some (.t .bool false,[])) (br (ieq p1 0) (some (.t .bool true,[])) (br (cIx p0 p1) (br (a1.1) (br (cIx p0 p1) (some (.t .bool (ige ((a1.2).1) (QY .i64 p1 1)),[])) none) (some (.t .bool false,[]))) none)))
theorem s_f180 (l:List Certificate)(i:Int)(h:Ek l i=true):Qtn l i=some (.t .bool (Ej l i),[]):=by
 simp only [Qtn]
 exact QHE l i h
def Qto:Ent:=Qi (.pr (.sl QQ) (.pr tI .nil)) (fun x=>(Ek x.1 x.2.1)) (fun x=>(.t .bool (Ej x.1 x.2.1)))
theorem QHG:EM 180 Qto:=mS g_f180 QHF [((.t 4),some .bool)] false (gB gN) fun m=>Qm m fun x hok=>kT (s_f180 x.1 x.2.1 hok)
def QjI (l:List Certificate)(k:Nat):Int:=if k+1<l.length then (cAt l (k+1)).2.2.2.2.1 else (YY (cAt l k)).1
theorem add1N {k:Nat}(h:k<4611686018427387904):Int.toNat (Qg .i64 (k:Int) 1)=k+1:=by rw [QO h];rfl
def Qcp (l:List Certificate)(e:Int)(k:Nat):Bool:=
 bif ieq e 11 then decide (k+1<l.length)&&sne (cAt l k).2.1 (cAt l (k+1)).2.2.1
 else bif ieq e 15 then !Ej l k else !FZ (cAt l k) (QjI l k)
def failUp (l:List Certificate)(e:Int)(k:Nat):Bool:=(List.range' k (l.length-k)).any (Qcp l e)
def XM (l:List Certificate)(e:Int):Bool:=failUp l e 0
def OB (c:Certificate)(h:List Int)(d e:Int):Bool:=bif ieq e 13 then ilt d c.2.2.2.2.2.2.1||ige d c.2.2.2.2.2.2.2.1 else !QR h c.2.2.2.2.2.1.1
def QjJ (c:Certificate):Bool:= !Q0 c
def QjK (l:List Certificate):Bool:=l.any QjJ
def El (l:List Certificate)(d0:List Int)(d1:Int)(d2:Int):Bool:=l.any (fun c=>OB c d0 d1 d2)
end
end Go.Proofs.YtmjnnemhoeolgaaGreat.K
noncomputable section
namespace Go.Proofs.YtmjnnemhoeolgaaGreat.K
open Go.RowKit
noncomputable section
abbrev Qoc (l:List Certificate):Certificate:=cAt l (l.length-1)
def V6 (l:List Certificate)(a h:List Int)(d:Int)(n:ByteArray):Int:=
 if l.length=0 then 4 else if 8<l.length then 3 else
 bif QjK l then 9 else bif !WQ (Qw (cAt l 0)) n then 14 else bif El l h d 13 then 13 else bif El l h d 7 then 7 else
 bif XM l 11 then 11 else bif XM l 15 then 15 else bif XM l 10 then 10 else bif !QR a (YY (Qoc l)).1 then 12 else 0
def IC (l:List Certificate)(a h:List Int)(_d:Int)(_n:ByteArray):Bool:=Js l&&decide (a.length<=100000/\h.length<=100000)
theorem QPm {l:List Certificate}(h:Js l=true){k:Nat}(hk:k<l.length):(Qw (cAt l k)).length<=100000:=Qbr (Qtm h hk)
def ID (l:List ByteArray)(_v:ByteArray):Bool:=decide (l.length<=100000)
abbrev QfT:Sh:=⟨[(0,.ty (.sl .str)),(1,.ty .str),(5,.ty tI)],[]⟩
abbrev QBb:Sh:=⟨[(4,.ty .bool)],[]⟩
abbrev QfU:Sh:=⟨[],[]⟩
def Qod:Fg:=QfT.f
def QBc:TC:=aF Tryz.f179 [(26,pL 0 Qod),(419,.fg QfU.f),(3365,.fg QBb.f)]
def QBd:TC:=lb 0 QBc
def QBe (x0:List ByteArray)(x1:ByteArray)(x5:Int):VS:=QfT.st (x0,x1,x5,()) ()
def Qoe (x4:Bool):VS:=QBb.st (x4,()) ()
def Qof  : VS:=QfU.st () ()
def QPn:VS->Option (Bool×List (Bool×Exit×VS)):=mkL QfT (fun x y=>(YR x.1 x.2.2.1)) (fun x y=>[(((x.1.drop x.2.2.1.toNat).any (seq x.2.1)),.ret,Qoe (true)),(true,.exit 0,Qof)])
def Qog:G:=gG 18 [] (Ls [QPn])
def QfV (x0:List ByteArray)(x1:ByteArray)(x5:Int):OX:=Qr (Qv Qog Qod QBd) (QBe x0 x1 x5)
def V7 (kk:List ByteArray->ByteArray->Int->OX)(x0:List ByteArray)(x1:ByteArray)(x5:Int):OX:=br (ilt x5 (Qa x0)) (br (cIx x0 x5) (br (seq (lgt .str x0 (Int.toNat x5)) x1) (some (.ret,Qoe true)) (kk x0 x1 (Qg .i64 x5 1))) none) (some (.exit 0,Qof))
def QfW (x0:List ByteArray)(x1:ByteArray)(x5:Int):OX:=br ((x0.drop x5.toNat).any (seq x1)) (some (.ret,Qoe (true)))<|some (.exit 0,Qof)
theorem QBf (x0:List ByteArray)(x1:ByteArray)(x5:Int):QfV x0 x1 x5=V7 QfV x0 x1 x5:=lnT (x:=V7 (fun x0 x1 x5=>some (.normal,QBe x0 x1 x5)) x0 x1 x5) (by simp only [V7,nxA];rfl)
def QBg (p0:List ByteArray)(p1:ByteArray):OV:=br (YR p0 (0:Int)) (br ((p0.drop (0:Int).toNat).any (seq p1)) (some (.t .bool (true),[])) (some (.t .bool false,[]))) none
theorem QPo (x0:List ByteArray)(x1:ByteArray)(x5:Int)(h:(YR x0 x5)=true):QfV x0 x1 x5=QfW x0 x1 x5:=by
 simp only [YR,Ba] at h
 obtain ⟨h0,h1,h2⟩:=h
 obtain ⟨k,rfl⟩:=Bo h0
 refine QP x0 (fun k=>QfV x0 x1 (k:Int)=QfW x0 x1 (k:Int)) ?_ ?_ k (by omega)
 ·rw [QBf]
  simp only [V7,QfW,show ilt (x0.length:Int) (Qa x0)=false from Bl (by simp only [Qa];omega),Qf,Bc,BK,List.any_nil]
 ·intro k hk ih
  rw [QBf]
  have hc:seq x0[k] x1=seq x1 x0[k]:=Bool.beq_comm
  simp only [V7,show ilt (k:Int) (Qa x0)=true from Be (by simp only [Qa];omega),QJ,hk,Bt,Qb,Bc,QO (show k<4611686018427387904 by omega),QL (y:= .str) hk,ih,hc]
  simp only [QfW,Bc,Bi hk,List.any_cons]
  cases seq x1 x0[k]<;>rfl
theorem QPp:LO Qog Qod QBd 0:=QH (s:=QfT) fun x y h _ q=>by simp only [QE,QF] at q;exact (QPo x.1 x.2.1 x.2.2.1 h).trans q
theorem s_f179 (l:List ByteArray)(v:ByteArray)(h:ID l v=true):QBg l v=some (.t .bool (WQ l v),[]):=by
 simp only [ID,Ba] at h
 simp only [QBg,show YR l 0=true from Be (by omega),Qb,Br,By]
 unfold WQ
 cases l.any (seq v)<;>rfl
def QBh:Ent:=Qi (.pr (.sl .str) (.pr .str .nil)) (fun x=>(ID x.1 x.2.1)) (fun x=>(.t .bool (WQ x.1 x.2.1)))
theorem QPq:EM 179 QBh:=mS (lk:=lkL (lkc QPp lkn)) Qog QBc [((.t 4),some .bool)] false (gB gN) fun m=>Qm m fun x hok=>kT (s_f179 x.1 x.2.1 hok)
def IE (e:Int)(l:List Certificate)(a h:List Int)(d:Int)(n:ByteArray)(k:Nat):Bool:=
 bif ieq e 9 then QjJ (cAt l k) else bif ieq e 14 then ieq (k:Int) 0&& !WQ (Qw (cAt l k)) n else bif ieq e 13 then OB (cAt l k) h d 13 else bif ieq e 7 then OB (cAt l k) h d 7 else
 bif ieq e 11 then Qcp l 11 k else bif ieq e 15 then Qcp l 15 k else bif ieq e 10 then Qcp l 10 k else decide (k+1=l.length)&& !QR a (YY (cAt l k)).1
def V8 (e:Int)(l:List Certificate)(i:Int)(a h:List Int)(d:Int)(n:ByteArray):Bool:=IE e l a h d n i.toNat
def IF (_e:Int)(l:List Certificate)(i:Int)(a h:List Int)(_d:Int)(_n:ByteArray):Bool:=Js l&&decide (0<=i/\i<l.length/\a.length<=100000/\h.length<=100000)
def QPr:TC:=aF Tryz.f142 [(120828,pD [(0,[]),(1,[]),(2,[]),(3,[15]),(4,[15]),(5,[]),(6,[]),(7,[]),(8,[]),(9,[]),(10,[]),(11,[]),(12,[]),(13,[])] (.of [0,1,2,3,4,5,6,7,8,9,10,11,12,13])),(3866618,pD [(0,[15]),(1,[]),(2,[]),(3,[]),(4,[]),(5,[]),(6,[]),(7,[]),(8,[]),(9,[])] (.of [0,1,2,3,4,5,6,7,8,9]))]
def g_f142:G:=gG 111 [(99,Qaq),(113,Qax),(179,QBh),(180,Qto),(181,QqO)] (fun _ _=>none)
def QBi (p0:Int)(p1:List Certificate)(p2:Int)(p3 p4:List Int)(p5:Int)(p6:ByteArray):OV:=
 let a1:=lgt QQ p1 (Int.toNat p2)
 let a5:=(((((a1.2).2).2).2).2)
 let a2:=(((((a5.2).2).2).2).2)
 let a3:=(((lgt QQ p1 (Int.toNat (Qg .i64 p2 1))).2).2)
 let a4:=ieq p2 (QY .i64 (Qa p1) 1)
 let a6:=(((a2.2).1).1)
 let a7:=cIx p1 (Qg .i64 p2 1)
 br (cIx p1 p2) (br (ieq p0 9) (br (JA a1) (some (.t .bool (ine (XG a1) 0),[])) none) (br (ieq p0 14) (br (ieq p2 0) (br (ID (a2.1) p6) (some (.t .bool (!(WQ (a2.1) p6)),[])) none) (some (.t .bool false,[]))) (br (ieq p0 13) (br (ilt p5 ((a5.2).1)) (some (.t .bool true,[])) (some (.t .bool (ige p5 (((a5.2).2).1)),[]))) (br (ieq p0 7) (br (Jc p4 ((a5.1).1)) (some (.t .bool (!(QR p4 ((a5.1).1))),[])) none) (br (ieq p0 11) (br (!a4) (br a7 (some (.t .bool (sne ((a1.2).1) (a3.1)),[])) none) (some (.t .bool false,[]))) (br (ieq p0 15) (br (Ek p1 p2) (some (.t .bool (!(Ej p1 p2)),[])) none) (br (ieq p0 10) (br a4 (br (U3 a1 a6) (some (.t .bool (!(FZ a1 a6)),[])) none) (br a7 (br (U3 a1 (((a3.2).2).1)) (some (.t .bool (!(FZ a1 (((a3.2).2).1))),[])) none) none)) (br a4 (br (Jc p3 a6) (some (.t .bool (!(QR p3 a6)),[])) none) (some (.t .bool false,[])))))))))) none
theorem s_f142 (e:Int)(l:List Certificate)(i:Int)(a h:List Int)(d:Int)(n:ByteArray)(hok:IF e l i a h d n=true):QBi e l i a h d n=some (.t .bool (V8 e l i a h d n),[]):=by
 simp only [IF,Bb,Ba] at hok
 obtain ⟨hc,h1,h2,ha,hh⟩:=hok
 obtain ⟨k,rfl⟩:=Bo h1
 have hl:=OA hc
 have hk:k<l.length:=by omega
 have c1:cIx l (k:Int)=true:=by rw [QJ];exact Be hk
 have c2:JA (cAt l k)=true:=Qtm hc hk
 have c3:ID (Qw (cAt l k)) n=true:=Be (QPm hc hk)
 have c4: ∀ v,Jc h v=true:=fun v=>Be hh
 have c5: ∀ v,Jc a v=true:=fun v=>Be ha
 have c6:Ek l (k:Int)=true:=Be hl
 have c7:ieq (k:Int) (QY .i64 (Qa l) 1)=decide (k+1=l.length):=by
  rw [Yc (by simp only [Qa];omega)]
  simp only [ieq,Qa]
  rw [Dq,Dc,Ba]
  omega
 have c8: ∀ q,U3 (cAt l k) q=true:=fun q=>c2
 simp only [QBi,c1,c2,c4,c5,c6,c7,c8,Qb,Bc,show lgt QQ l k=cAt l k from rfl,IO,add1N (show k<4611686018427387904 by omega),QO (show k<4611686018427387904 by omega),QJ]
 rw [show (ID (cAt l k).2.2.2.2.2.2.2.2.2.2.1 n)=true from c3,Qb]
 unfold V8 IE
 rw [Bc]
 cases ieq e 9 with
 |true=>rfl
 |false=>
  rw [Qf,BM]
  cases ieq e 14 with
  |true=>
   rw [Qb,B2]
   exact brA rfl
  |false=>
   rw [Qf,BM]
   cases ieq e 13 with
   |true=>
    rw [Qb,B2]
    show br (ilt d _) _ _=some (V.t .bool (ilt d (cAt l k).2.2.2.2.2.2.1||ige d (cAt l k).2.2.2.2.2.2.2.1),[])
    cases ilt d (cAt l k).2.2.2.2.2.2.1<;>rfl
   |false=>
    rw [Qf,BM]
    cases ieq e 7 with
    |true=>rfl
    |false=>
     rw [Qf,BM]
     cases ieq e 11 with
     |true=>
      rw [Qb,B2]
      show _=some (V.t .bool (decide (k+1<l.length)&&sne (cAt l k).2.1 (cAt l (k+1)).2.2.1),[])
      by_cases hk2:k+1<l.length
      ·rw [Bl (show ¬ k+1=l.length by omega),Be hk2,Dx,Qb,Qb,BA]
      ·rw [Be (show k+1=l.length by omega),Bl hk2,BC,Qf,DH]
     |false=>
      rw [Qf,BM]
      cases ieq e 15 with
      |true=>rfl
      |false=>
       rw [Qf,BM]
       cases ieq e 10 with
       |true=>
        rw [Qb,B2]
        show _=some (V.t .bool (!FZ (cAt l k) (QjI l k)),[])
        unfold QjI
        by_cases hk2:k+1<l.length
        ·rw [Bl (show ¬ k+1=l.length by omega),Be hk2,Qf,Qb,if_pos hk2]
        ·rw [Be (show k+1=l.length by omega),Qb,if_neg hk2]
       |false=>
        rw [Qf,BM]
        exact brA rfl
def QBj:Ent:=Qi (.pr tI (.pr (.sl QQ) (.pr tI (.pr (.sl tI) (.pr (.sl tI) (.pr tI (.pr .str .nil))))))) (fun x=>(IF x.1 x.2.1 x.2.2.1 x.2.2.2.1 x.2.2.2.2.1 x.2.2.2.2.2.1 x.2.2.2.2.2.2.1)) (fun x=>(.t .bool (V8 x.1 x.2.1 x.2.2.1 x.2.2.2.1 x.2.2.2.2.1 x.2.2.2.2.2.1 x.2.2.2.2.2.2.1)))
theorem QPs:EM 142 QBj:=mS g_f142 QPr [((.t 14),some .bool)] false (gB (gD Qgl (gD QgJ (gD QPq (gD QHG (gD QFB gN)))))) fun m=>Qm m fun x hok=>kT (s_f142 x.1 x.2.1 x.2.2.1 x.2.2.2.1 x.2.2.2.2.1 x.2.2.2.2.2.1 x.2.2.2.2.2.2.1 hok)
def ZR (e:Int)(l:List Certificate)(a h:List Int)(d:Int)(n:ByteArray)(k:Nat):Bool:=(List.range' k (l.length-k)).any (IE e l a h d n)
def Gt (l:List Certificate)(a h:List Int)(d:Int)(n:ByteArray)(es:List Int):Option Int:=es.find? fun e=>ZR e l a h d n 0
theorem QPt (e:Int)(l:List Certificate)(a h:List Int)(d:Int)(n:ByteArray):ZR e l a h d n l.length=false:=by
 unfold ZR
 rw [DV]
 rfl
theorem QPu {e:Int}{l:List Certificate}{a h:List Int}{d:Int}{n:ByteArray}{k:Nat}(hk:k<l.length):ZR e l a h d n k=(IE e l a h d n k||ZR e l a h d n (k+1)):=by
 have:l.length-k=(l.length-(k+1))+1:=by omega
 unfold ZR
 rw [this,Dr,List.any_cons]
def X7 (l:List Certificate)(a h es:List Int):Bool:=Js l&&decide (a.length<=100000/\h.length<=100000/\es.length<=100)
abbrev QfX:Sh:=⟨[(0,.ty (.sl QQ)),(1,.ty (.sl tI)),(2,.ty (.sl tI)),(3,.ty tI),(4,.ty .str),(11,.ty (.sl tI)),(12,.ty tI),(13,.ty tI)],[]⟩
abbrev QBk:Sh:=⟨[(10,.ty tI)],[]⟩
abbrev V9:Sh:=⟨[(0,.ty (.sl QQ)),(1,.ty (.sl tI)),(2,.ty (.sl tI)),(3,.ty tI),(4,.ty .str),(11,.ty (.sl tI)),(12,.ty tI)],[]⟩
def Qoh:Fg:=QfX.f
def Qoi:Fg:=V9.f
def Qoj:TC:=aF Tryz.f104 [(250,pL 1 Qoi),(4003,.fg QfU.f),(16018,pL 0 Qoh),(256291,.fg V9.f),(2050341,.fg QBk.f)]
def QBl:TC:=lb 0 Qoj
def QBm:TC:=lb 1 Qoj
def QBn (x0:List Certificate)(x1 x2:List Int)(x3:Int)(x4:ByteArray)(x11:List Int)(x12 x13:Int):VS:=QfX.st (x0,x1,x2,x3,x4,x11,x12,x13,()) ()
def IG (x10:Int):VS:=QBk.st (x10,()) ()
def Qaa (x0:List Certificate)(x1 x2:List Int)(x3:Int)(x4:ByteArray)(x11:List Int)(x12:Int):VS:=V9.st (x0,x1,x2,x3,x4,x11,x12,()) ()
def Qok  : VS:=QfU.st () ()
def QPv:VS->Option (Bool×List (Bool×Exit×VS)):=mkL QfX (fun x y=>(X7 x.1 x.2.1 x.2.2.1 x.2.2.2.2.2.1&&decide (0<=x.2.2.2.2.2.2.2.1/\x.2.2.2.2.2.2.2.1<=x.1.length/\0<=x.2.2.2.2.2.2.1/\x.2.2.2.2.2.2.1<x.2.2.2.2.2.1.length))) (fun x y=>[((ZR (x.2.2.2.2.2.1.getD x.2.2.2.2.2.2.1.toNat 0) x.1 x.2.1 x.2.2.1 x.2.2.2.1 x.2.2.2.2.1 x.2.2.2.2.2.2.2.1.toNat),.ret,IG (x.2.2.2.2.2.1.getD x.2.2.2.2.2.2.1.toNat 0)),(true,.exit 2,Qaa (x.1) (x.2.1) (x.2.2.1) (x.2.2.2.1) (x.2.2.2.2.1) (x.2.2.2.2.2.1) (x.2.2.2.2.2.2.1))])
def QPw:VS->Option (Bool×List (Bool×Exit×VS)):=mkL V9 (fun x y=>(X7 x.1 x.2.1 x.2.2.1 x.2.2.2.2.2.1&&decide (0<=x.2.2.2.2.2.2.1/\x.2.2.2.2.2.2.1<=x.2.2.2.2.2.1.length))) (fun x y=>[(((Gt x.1 x.2.1 x.2.2.1 x.2.2.2.1 x.2.2.2.2.1 (x.2.2.2.2.2.1.drop x.2.2.2.2.2.2.1.toNat)).isSome),.ret,IG ((Gt x.1 x.2.1 x.2.2.1 x.2.2.2.1 x.2.2.2.2.1 (x.2.2.2.2.2.1.drop x.2.2.2.2.2.2.1.toNat)).getD 0)),(true,.exit 0,Qok)])
def Qab:G:=gG 48 [(142,QBj)] (Ls [QPv,QPw])
def QfY (x0:List Certificate)(x1 x2:List Int)(x3:Int)(x4:ByteArray)(x11:List Int)(x12 x13:Int):OX:=Qr (Qv Qab Qoh QBl) (QBn x0 x1 x2 x3 x4 x11 x12 x13)
def Qac (kk:List Certificate->List Int->List Int->Int->ByteArray->List Int->Int->Int->OX)(x0:List Certificate)(x1 x2:List Int)(x3:Int)(x4:ByteArray)(x11:List Int)(x12 x13:Int):OX:=
 let a1:=lgt tI x11 (Int.toNat x12)
 br (ilt x13 (Qa x0)) (br (cIx x11 x12) (br (IF a1 x0 x13 x1 x2 x3 x4) (br (V8 a1 x0 x13 x1 x2 x3 x4) (br (cIx x11 x12) (some (.ret,IG a1)) none) (kk x0 x1 x2 x3 x4 x11 x12 (Qg .i64 x13 1))) none) none) (some (.exit 2,Qaa x0 x1 x2 x3 x4 x11 x12))
def QfZ (x0:List Certificate)(x1 x2:List Int)(x3:Int)(x4:ByteArray)(x11:List Int)(x12 x13:Int):OX:=br (ZR (x11.getD x12.toNat 0) x0 x1 x2 x3 x4 x13.toNat) (some (.ret,IG (x11.getD x12.toNat 0)))<|some (.exit 2,Qaa (x0) (x1) (x2) (x3) (x4) (x11) (x12))
theorem QBo (x0:List Certificate)(x1 x2:List Int)(x3:Int)(x4:ByteArray)(x11:List Int)(x12 x13:Int):QfY x0 x1 x2 x3 x4 x11 x12 x13=Qac QfY x0 x1 x2 x3 x4 x11 x12 x13:=lnT (x:=Qac (fun x0 x1 x2 x3 x4 x11 x12 x13=>some (.normal,QBn x0 x1 x2 x3 x4 x11 x12 x13)) x0 x1 x2 x3 x4 x11 x12 x13) (by simp only [Qac,nxA];rfl)
def Qf0 (x0:List Certificate)(x1 x2:List Int)(x3:Int)(x4:ByteArray)(x11:List Int)(x12:Int):OX:=Qr (Qv Qab Qoi QBm) (Qaa x0 x1 x2 x3 x4 x11 x12)
def Qad (kk:List Certificate->List Int->List Int->Int->ByteArray->List Int->Int->OX)(x0:List Certificate)(x1 x2:List Int)(x3:Int)(x4:ByteArray)(x11:List Int)(x12:Int):OX:=br (ilt x12 (Qa x11)) (br (X7 x0 x1 x2 x11&&decide (0<=(0:Int)/\(0:Int)<=x0.length/\0<=x12/\x12<x11.length)) (br (ZR (x11.getD x12.toNat 0) x0 x1 x2 x3 x4 (0:Int).toNat) (some (.ret,IG (x11.getD x12.toNat 0))) (kk (x0) (x1) (x2) (x3) (x4) (x11) (Qg .i64 (x12) 1))) none) (some (.exit 0,Qok))
def Qf1 (x0:List Certificate)(x1 x2:List Int)(x3:Int)(x4:ByteArray)(x11:List Int)(x12:Int):OX:=
 let a1:=Gt x0 x1 x2 x3 x4 (x11.drop x12.toNat)
 br (a1.isSome) (some (.ret,IG (a1.getD 0)))<|some (.exit 0,Qok)
theorem QBp (x0:List Certificate)(x1 x2:List Int)(x3:Int)(x4:ByteArray)(x11:List Int)(x12:Int):Qf0 x0 x1 x2 x3 x4 x11 x12=Qad Qf0 x0 x1 x2 x3 x4 x11 x12:=lnT (x:=Qad (fun x0 x1 x2 x3 x4 x11 x12=>some (.normal,Qaa x0 x1 x2 x3 x4 x11 x12)) x0 x1 x2 x3 x4 x11 x12) (by simp only [Qad,nxA];rfl)
def Qf2 (p0:List Certificate)(p1 p2:List Int)(p3:Int)(p4:ByteArray):OV:=
 let a1:=(Gt p0 p1 p2 p3 p4 (([9,14,13,7,11,15,10,12]).drop (0:Int).toNat))
 br (ieq (Qa p0) 0) (some (.t tI 4,[])) (br (igt (Qa p0) 8) (some (.t tI 3,[])) (br (X7 p0 p1 p2 ([9,14,13,7,11,15,10,12])&&decide (0<=(0:Int)/\(0:Int)<=([9,14,13,7,11,15,10,12]).length)) (br (a1.isSome) (some (.t tI (a1.getD 0),[])) (some (.t tI 0,[]))) none))
theorem QPx (x0:List Certificate)(x1 x2:List Int)(x3:Int)(x4:ByteArray)(x11:List Int)(x12 x13:Int)(h:(X7 x0 x1 x2 x11&&decide (0<=x13/\x13<=x0.length/\0<=x12/\x12<x11.length))=true):QfY x0 x1 x2 x3 x4 x11 x12 x13=QfZ x0 x1 x2 x3 x4 x11 x12 x13:=by
 simp only [X7,Bb,Ba] at h
 obtain ⟨⟨hc,ha,hh,he⟩,h0,h1,h2,h3⟩:=h
 obtain ⟨k,rfl⟩:=Bo h0
 obtain ⟨j,rfl⟩:=Bo h2
 have hl:=OA hc
 have hj:j<x11.length:=by omega
 refine QP x0 (fun k=>QfY x0 x1 x2 x3 x4 x11 (j:Int) (k:Int)=QfZ x0 x1 x2 x3 x4 x11 (j:Int) (k:Int)) ?_ ?_ k (by omega)
 ·rw [QBo]
  simp only [Qac,QfZ,show ilt (x0.length:Int) (Qa x0)=false from Bl (by simp only [Qa];omega),Qf,Bc,QPt]
 ·intro k hk ih
  rw [QBo]
  have hw: ∀ e,IF e x0 (k:Int) x1 x2 x3 x4=true:=fun e=>by
   simp only [IF,Bb,Ba]
   exact ⟨hc,by omega,by omega,ha,hh⟩
  simp only [Qac,show ilt (k:Int) (Qa x0)=true from Be (by simp only [Qa];omega),QJ,hj,Bt,Qb,Bc,QO (show k<4611686018427387904 by omega),hw,ih,V8]
  simp only [QfZ,Bc,QPu hk]
  show br (IE (x11.getD j 0) x0 x1 x2 x3 x4 k) _ _=_
  cases IE (x11.getD j 0) x0 x1 x2 x3 x4 k<;>rfl
theorem QPy (x0:List Certificate)(x1 x2:List Int)(x3:Int)(x4:ByteArray)(x11:List Int)(x12:Int)(h:(X7 x0 x1 x2 x11&&decide (0<=x12/\x12<=x11.length))=true):Qf0 x0 x1 x2 x3 x4 x11 x12=Qf1 x0 x1 x2 x3 x4 x11 x12:=by
 simp only [X7,Bb,Ba] at h
 obtain ⟨⟨hc,ha,hh,he⟩,h0,h1⟩:=h
 obtain ⟨k,rfl⟩:=Bo h0
 have hw:X7 x0 x1 x2 x11=true:=by
  simp only [X7,Bb,Ba]
  exact ⟨hc,ha,hh,he⟩
 refine QP x11 (fun k=>Qf0 x0 x1 x2 x3 x4 x11 (k:Int)=Qf1 x0 x1 x2 x3 x4 x11 (k:Int)) ?_ ?_ k (by omega)
 ·rw [QBp]
  simp only [Qad,Qf1,show ilt (x11.length:Int) (Qa x11)=false from Bl (by simp only [Qa];omega),Qf,Bc,BK]
  rfl
 ·intro k hk ih
  rw [QBp]
  have hd:decide ((0:Int)<=0/\(0:Int)<=x0.length/\(0:Int)<=(k:Int)/\(k:Int)<x11.length)=true:=Be (by omega)
  have hg:x11.getD k 0=x11[k]:=by simp only [Bk,Bh hk,BH]
  simp only [Qad,show ilt (k:Int) (Qa x11)=true from Be (by simp only [Qa];omega),hw,hd,BZ,Qb,Bc,Br,QO (show k<4611686018427387904 by omega),ih,hg]
  simp only [Qf1,Bc,Bi hk,Gt,List.find?_cons]
  cases ZR x11[k] x0 x1 x2 x3 x4 0<;>rfl
theorem QPz:LO Qab Qoh QBl 0:=QH (s:=QfX) fun x y h _ q=>by simp only [QE,QF] at q;exact (QPx x.1 x.2.1 x.2.2.1 x.2.2.2.1 x.2.2.2.2.1 x.2.2.2.2.2.1 x.2.2.2.2.2.2.1 x.2.2.2.2.2.2.2.1 h).trans q
theorem QPA:LO Qab Qoi QBm 1:=QH (s:=V9) fun x y h _ q=>by simp only [QE,QF] at q;exact (QPy x.1 x.2.1 x.2.2.1 x.2.2.2.1 x.2.2.2.2.1 x.2.2.2.2.2.1 x.2.2.2.2.2.2.1 h).trans q
theorem Qol (l:List Certificate)(p:Certificate->Bool): ∀ k,k<=l.length->(List.range' k (l.length-k)).any (fun j=>p (cAt l j))=(l.drop k).any p:=by
 refine QP l _ ?_ ?_
 ·rw [DV,BK];rfl
 ·intro k hk ih
  have:l.length-k=(l.length-(k+1))+1:=by omega
  rw [this,Dr,List.any_cons,ih,Bi hk,List.any_cons,QjH hk]
theorem QBq (n m:Nat)(hm:m<n)(q:Nat->Bool)(p:Nat->Bool)(hp: ∀ k,k<n->p k=true->k=m)(hm2:p m=true):(List.range' 0 n).any (fun k=>p k&&q k)=q m:=by
 rw [Dq,DF]
 constructor
 ·rintro ⟨k,hk,h⟩
  rw [Dw] at hk
  rw [Bb] at h
  rw [←hp k (by omega) h.1]
  exact h.2
 ·intro h
  exact ⟨m,Dw.2 ⟨by omega,by omega⟩,by rw [hm2,h];rfl⟩
theorem s_f104 (l:List Certificate)(a h:List Int)(d:Int)(n:ByteArray)(hok:IC l a h d n=true):Qf2 l a h d n=some (.t tI (V6 l a h d n),[]):=by
 simp only [IC,Bb,Ba] at hok
 obtain ⟨hc,ha,hh⟩:=hok
 have hl:=OA hc
 unfold V6
 by_cases h0:l.length=0
 ·simp only [Qf2,show ieq (Qa l) 0=true from Dc.2 (by simp only [Qa];omega),Qb,if_pos h0]
 by_cases h8:8<l.length
 ·simp only [Qf2,show ieq (Qa l) 0=false from DJ.2 (by simp only [Qa];omega),Qf,show igt (Qa l) 8=true from Be (by simp only [Qa];omega),Qb,if_neg h0,if_pos h8]
 have hw:X7 l a h [9,14,13,7,11,15,10,12]=true:=by
  simp only [X7,Bb,Ba]
  exact ⟨hc,ha,hh,by simp⟩
 have w9:ZR 9 l a h d n 0=QjK l:=Qol l QjJ 0 (BX _)
 have w14:ZR 14 l a h d n 0= !WQ (Qw (cAt l 0)) n:=by
  unfold ZR
  exact QBq l.length 0 (by omega) (fun k=> !WQ (Qw (cAt l k)) n) (fun k=>ieq (k:Int) 0) (fun k _ hk=>by simp only [ieq,Dc] at hk;omega) rfl
 have w13:ZR 13 l a h d n 0=El l h d 13:=Qol l (fun c=>OB c h d 13) 0 (BX _)
 have w7:ZR 7 l a h d n 0=El l h d 7:=Qol l (fun c=>OB c h d 7) 0 (BX _)
 have w11:ZR 11 l a h d n 0=XM l 11:=rfl
 have w15:ZR 15 l a h d n 0=XM l 15:=rfl
 have w10:ZR 10 l a h d n 0=XM l 10:=rfl
 have w12:ZR 12 l a h d n 0= !QR a (YY (Qoc l)).1:=by
  unfold ZR
  exact QBq l.length (l.length-1) (by omega) (fun k=> !QR a (YY (cAt l k)).1) (fun k=>decide (k+1=l.length)) (fun k _ hk=>by simp only [Ba] at hk;omega) (Be (by omega))
 simp only [Qf2,show ieq (Qa l) 0=false from DJ.2 (by simp only [Qa];omega),Qf,show igt (Qa l) 8=false from Bl (by simp only [Qa];omega),if_neg h0,if_neg h8,hw,BA,Br,By]
 refine Eq.trans (b:=br (Gt l a h d n [9,14,13,7,11,15,10,12]).isSome (some (V.t tI ((Gt l a h d n [9,14,13,7,11,15,10,12]).getD 0),[])) (some (V.t tI 0,[]))) rfl ?_
 simp only [Gt,List.find?_cons,List.find?_nil,w9,w14,w13,w7,w11,w15,w10,w12]
 cases QjK l with
 |true=>rfl
 |false=>
  cases WQ (Qw (cAt l 0)) n with
  |false=>rfl
  |true=>
   cases El l h d 13 with
   |true=>rfl
   |false=>
    cases El l h d 7 with
    |true=>rfl
    |false=>
     cases XM l 11 with
     |true=>rfl
     |false=>
      cases XM l 15 with
      |true=>rfl
      |false=>
       cases XM l 10 with
       |true=>rfl
       |false=>cases QR a (YY (Qoc l)).1<;>rfl
def QBr:Ent:=Qi (.pr (.sl QQ) (.pr (.sl tI) (.pr (.sl tI) (.pr tI (.pr .str .nil))))) (fun x=>(IC x.1 x.2.1 x.2.2.1 x.2.2.2.1 x.2.2.2.2.1)) (fun x=>(.t tI (V6 x.1 x.2.1 x.2.2.1 x.2.2.2.1 x.2.2.2.2.1)))
theorem QPB:EM 104 QBr:=mS (lk:=lkL (lkc QPA (lkc QPz lkn))) Qab Qoj [((.t 10),some tI)] false (gB (gD QPs gN)) fun m=>Qm m fun x hok=>kT (s_f104 x.1 x.2.1 x.2.2.1 x.2.2.2.1 x.2.2.2.2.1 hok)
end
end Go.Proofs.YtmjnnemhoeolgaaGreat.K
noncomputable section
namespace Go.Proofs.YtmjnnemhoeolgaaGreat.K
open Go.RowKit
noncomputable section
theorem brOr {β:Type}{a b:Bool}{X Y:Option β}:br a X (br b X Y)=br (a||b) X Y:=by cases a<;>cases b<;>rfl
def Zb (x:Identity)(s:Suite):Bool:=ieq s.2.2.2.1.1 0||ieq x.1.1 s.2.2.2.1.1
def QMG:TC:=aF Tryz.f173 []
def g_f173:G:=gG 17 [] (fun _ _=>none)
def QyL (p0:Identity)(d0:Suite):OV:=br (ieq d0.2.2.2.1.1 0) (some (.t .bool true,[.box (.t Q8 d0)])) (some (.t .bool (ieq p0.1.1 d0.2.2.2.1.1),[.box (.t Q8 d0)]))
theorem s_f173 (x:Identity)(s:Suite):QyL x s=some (.t .bool (Zb x s),[.box (.t Q8 s)]):=by
 simp only [QyL]
 unfold Zb
 cases ieq s.2.2.2.1.1 0<;>rfl
def QyM:Ent:=Ei [.ty QV,.ptr 50000 0] [Q8] (fun x d=>true) (fun x d=>(.t .bool (Zb x.1 d.1)))
theorem QMH:EM 173 QyM:=mS g_f173 QMG [((.t 3),some .bool)] false (gB gN) fun m=>Oz (ZZ m fun x d _=>kT (s_f173 x.1 d.1))
def QeO (l:List Identity)(_s:Suite):Bool:=decide (l.length<=100000)
def XZ (l:List Identity)(s:Suite):Int:=match Qs (fun x=>Zb x s) l with|some k=>(k:Int)|none=> -1
abbrev QeP:Sh:=⟨[(0,.ty (.sl QV)),(1,.fn 173 [(50000,0)]),(7,.ty tI),(8,.ty tI)],[(50000,.box Q8)]⟩
abbrev QyN:Sh:=⟨[(4,.ty tI)],[(50000,.box Q8)]⟩
abbrev QyO:Sh:=⟨[],[(50000,.box Q8)]⟩
def QmN:Fg:=QeP.f
def QyP:TC:=aF Tryz.f172 [(26,pL 0 QmN),(421,.fg QyO.f),(13517,.fg QyN.f)]
def QyQ:TC:=lb 0 QyP
def QyR (x0:List Identity)(x7 x8:Int)(Qc:Suite):VS:=QeP.st (x0,(),x7,x8,()) (Qc,())
def QmO (x4:Int)(Qc:Suite):VS:=QyN.st (x4,()) (Qc,())
def QmP (Qc:Suite):VS:=QyO.st () (Qc,())
def QMI:VS->Option (Bool×List (Bool×Exit×VS)):=mkL QeP (fun x y=>(QA x.1 x.2.2.1 x.2.2.2.1)) (fun x y=>[(((Qs (fun x=>Zb x y.1) (x.1.drop x.2.2.2.1.toNat)).isSome),.ret,QmO (x.2.2.2.1+((Qs (fun x=>Zb x y.1) (x.1.drop x.2.2.2.1.toNat)).getD 0:Nat)) (y.1)),(true,.exit 0,QmP (y.1))])
def QmQ:G:=gG 19 [(173,QyM)] (Ls [QMI])
def QeQ (x0:List Identity)(x7 x8:Int)(Qc:Suite):OX:=Qr (Qv QmQ QmN QyQ) (QyR x0 x7 x8 Qc)
def VG (kk:List Identity->Int->Int->Suite->OX)(x0:List Identity)(x7 x8:Int)(Qc:Suite):OX:=br (ilt x8 x7) (br (cIx x0 x8) (br (Zb (lgt QV x0 (Int.toNat x8)) Qc) (some (.ret,QmO x8 Qc)) (kk x0 x7 (Qg .i64 x8 1) Qc)) none) (some (.exit 0,QmP Qc))
def QeR (x0:List Identity)(x7 x8:Int)(Qc:Suite):OX:=br ((Qs (fun x=>Zb x Qc) (x0.drop x8.toNat)).isSome) (some (.ret,QmO (x8+((Qs (fun x=>Zb x Qc) (x0.drop x8.toNat)).getD 0:Nat)) (Qc)))<|some (.exit 0,QmP (Qc))
theorem QyS (x0:List Identity)(x7 x8:Int)(Qc:Suite):QeQ x0 x7 x8 Qc=VG QeQ x0 x7 x8 Qc:=lnT (x:=VG (fun x0 x7 x8 Qc=>some (.normal,QyR x0 x7 x8 Qc)) x0 x7 x8 Qc) (by simp only [VG,nxA];rfl)
def QyT (p0:List Identity)(d0:Suite):OV:=
 let a1:=(p0.drop (0:Int).toNat)
 br (QA p0 (Qa p0) (0:Int)) (br ((Qs (fun x=>Zb x d0) a1).isSome) (some (.t tI ((0:Int)+((Qs (fun x=>Zb x d0) a1).getD 0:Nat)),[.box (.t Q8 (d0))])) (some (.t tI (-1),[.box (.t Q8 (d0))]))) none
theorem QMJ (x0:List Identity)(x7 x8:Int)(Qc:Suite)(h:(QA x0 x7 x8)=true):QeQ x0 x7 x8 Qc=QeR x0 x7 x8 Qc:=by
 obtain ⟨rfl,h3,k,rfl,hk⟩:=JB h
 clear h
 refine QP x0 (fun k=>QeQ x0 (x0.length:Int) (k:Int) Qc=QeR x0 (x0.length:Int) (k:Int) Qc) ?_ ?_ k hk
 ·rw [QyS]
  simp [VG,QeR,Qz,Qf,Qs]
 ·intro k hk ih
  rw [QyS]
  simp only [VG,Qz,QJ,hk,Bt,Qb,Bc,QO (show k<4611686018427387904 by omega),ih,QL (y:=QV) hk]
  simp only [QeR,Bc,Bi hk,Qs]
  cases h:(Zb x0[k] Qc) with
  |true=>simp [Qb]
  |false=>
   simp only [Qf,BF,Dd]
   cases hq:Qs (fun x=>Zb x Qc) (x0.drop (k+1)) with
   |none=>rfl
   |some j=>
    simp only [B3,B7,BH,Qb]
    congr 3
    omega
theorem QMK:LO QmQ QmN QyQ 0:=QH (s:=QeP) fun x y h _ q=>by simp only [QE,QF] at q;exact (QMJ x.1 x.2.2.1 x.2.2.2.1 y.1 h).trans q
theorem QML (l:List Identity)(s:Suite)(h:QeO l s=true):QyT l s=some (.t tI (XZ l s),[.box (.t Q8 s)]):=by
 have hl:l.length<=100000:=Bx h
 simp only [QyT,JC hl,Qb,Br,By,XZ]
 cases Qs (fun x=>Zb x s) l<;>simp [Qb,Qf]
def QyU:Ent:=Ei [.ty (.sl QV),.fn 173 [(50000,0)]] [Q8] (fun x d=>(QeO x.1 d.1)) (fun x d=>(.t tI (XZ x.1 d.1)))
theorem QMM:EM 172 QyU:=mS (lk:=lkL (lkc QMK lkn)) QmQ QyP [((.t 4),some tI)] false (gB (gD QMH gN)) fun m=>Oz (ZZ m fun x d hok=>kT (QML x.1 d.1 hok))
def Jp (e:Endpoint)(c:Int):Int×Bool:=bif ine (QB c).2 0 then (-1,false) else (XZ (Qp e) (QB c).1,ige (XZ (Qp e) (QB c).1) 0)
def Zk (e:Endpoint)(_c:Int):Bool:=decide ((Qp e).length<=100000)
def QMN:TC:=aF Tryz.f136 []
def g_f136:G:=gG 23 [(124,Qan),(172,QyU)] (fun _ _=>none)
def QyV (p0:Endpoint)(p1:Int):OV:=
 let a1:=XZ p0.2.2.2.2.2.1 ((QB p1).1)
 br (ine ((QB p1).2) 0) (some (.tu [(.t tI (-1)),(.t .bool false)],[])) (br (QeO p0.2.2.2.2.2.1 ((QB p1).1)) (some (.tu [(.t tI a1),(.t .bool (ige a1 0))],[])) none)
theorem s_f136 (e:Endpoint)(c:Int)(h:Zk e c=true):QyV e c=some (.tu [.t tI (Jp e c).1,.t .bool (Jp e c).2],[]):=by
 have hk:QeO (Qp e) (QB c).1=true:=h
 simp only [QyV,hk,Qb]
 unfold Jp
 cases ine (QB c).2 0<;>rfl
def QmR:Ent:=Qi (.pr Qo (.pr tI .nil)) (fun x=>(Zk x.1 x.2.1)) (fun x=>(.tu [(.t tI ((Jp x.1 x.2.1).1)),(.t .bool ((Jp x.1 x.2.1).2))]))
theorem QyW:EM 136 QmR:=mS g_f136 QMN [((.t 4),some tI),((.t 5),some .bool)] false (gB (gD Qgh (gD QMM gN))) fun m=>Qm m fun x hok=>kT (s_f136 x.1 x.2.1 hok)
abbrev QeS:Sh:=⟨[(2,.ptr 2 0),(6,.ptr 6 0),(8,.ty tI)],[(2,.box Qo),(6,.box Q8)]⟩
abbrev QyX:Sh:=⟨[(4,.ty tI),(5,.ty .bool)],[]⟩
abbrev QyY:Sh:=⟨[],[]⟩
def QmS:Fg:=QeS.f
def QyZ:TC:=aF Tryz.f103 [(122,pL 0 QmS),(1955,.fg QyY.f),(3912,pD [(0,[6]),(1,[6]),(2,[6]),(3,[]),(4,[]),(5,[2]),(6,[2]),(7,[]),(8,[]),(9,[]),(10,[]),(11,[]),(12,[6]),(13,[6]),(14,[6]),(15,[]),(16,[])] (.of [0,1,2,3,4,5,6,7,8,9,10,11,12,13,14,15,16])),(15653,.fg QyX.f)]
def Qy0:TC:=lb 0 QyZ
def Qy1 (x8:Int)(y2:Endpoint)(y6:Suite):VS:=QeS.st ((),(),x8,()) (y2,y6,())
def QeT (x4:Int)(x5:Bool):VS:=QyX.st (x4,x5,()) ()
def QmT  : VS:=QyY.st () ()
def QMO:VS->Option (Bool×List (Bool×Exit×VS)):=mkL QeS (fun x y=>(Zk y.1 0&&decide (0<=x.2.2.1/\x.2.2.1<=(Qp y.1).length))) (fun x y=>[(((Qs (fun x=>Zb x y.2.1) ((Qp y.1).drop x.2.2.1.toNat)).isSome),.ret,QeT (x.2.2.1+((Qs (fun x=>Zb x y.2.1) ((Qp y.1).drop x.2.2.1.toNat)).getD 0:Nat)) (true)),(true,.exit 0,QmT)])
def QmU:G:=gG 41 [(64,IJ)] (Ls [QMO])
def QeU (x8:Int)(y2:Endpoint)(y6:Suite):OX:=Qr (Qv QmU QmS Qy0) (Qy1 x8 y2 y6)
def VH (kk:Int->Endpoint->Suite->OX)(x8:Int)(y2:Endpoint)(y6:Suite):OX:=br (ilt x8 (Qa y2.2.2.2.2.2.1)) (br (ieq y6.2.2.2.1.1 0) (some (.ret,QeT x8 true)) (br (cIx y2.2.2.2.2.2.1 x8) (br (ieq (((lgt QV y2.2.2.2.2.2.1 (Int.toNat x8)).1).1) y6.2.2.2.1.1) (some (.ret,QeT x8 true)) (kk (Qg .i64 x8 1) y2 y6)) none)) (some (.exit 0,QmT))
def QeV (x8:Int)(y2:Endpoint)(y6:Suite):OX:=
 let a1:=((Qp y2).drop x8.toNat)
 br ((Qs (fun x=>Zb x y6) a1).isSome) (some (.ret,QeT (x8+((Qs (fun x=>Zb x y6) a1).getD 0:Nat)) (true)))<|some (.exit 0,QmT)
theorem Qy2 (x8:Int)(y2:Endpoint)(y6:Suite):QeU x8 y2 y6=VH QeU x8 y2 y6:=lnT (x:=VH (fun x8 y2 y6=>some (.normal,Qy1 x8 y2 y6)) x8 y2 y6) (by simp only [VH,nxA];rfl)
def Qy3 (p0:Endpoint)(p1:Int):OV:=br (ine ((QB p1).2) 0) (some (.tu [(.t tI (-1)),(.t .bool false)],[])) (br (Zk p0 0&&decide (0<=(0:Int)/\(0:Int)<=(Qp p0).length)) (br ((Qs (fun x=>Zb x ((QB p1).1)) ((Qp p0).drop (0:Int).toNat)).isSome) (some (.tu [(.t tI ((0:Int)+((Qs (fun x=>Zb x ((QB p1).1)) ((Qp p0).drop (0:Int).toNat)).getD 0:Nat))),(.t .bool (true))],[])) (some (.tu [(.t tI (-1)),(.t .bool false)],[]))) none)
theorem QMP (x8:Int)(y2:Endpoint)(y6:Suite)(h:(Zk y2 0&&decide (0<=x8/\x8<=(Qp y2).length))=true):QeU x8 y2 y6=QeV x8 y2 y6:=by
 simp only [Zk,Bb,Ba] at h
 obtain ⟨hl,h0,h1⟩:=h
 obtain ⟨k,rfl⟩:=Bo h0
 refine QP (Qp y2) (fun k=>QeU (k:Int) y2 y6=QeV (k:Int) y2 y6) ?_ ?_ k (by omega)
 ·rw [Qy2]
  simp only [VH,show ilt ((Qp y2).length:Int) (Qa (Qp y2))=false from Bl (by simp only [Qa];omega),Qf,QeV,Bc,BK,Qs]
  rfl
 ·intro k hk ih
  rw [Qy2]
  simp only [VH,show ilt (k:Int) (Qa (Qp y2))=true from Be (by simp only [Qa];omega),QJ,hk,Bt,Qb,Bc,QO (show k<4611686018427387904 by omega),QL (y:=QV) hk,ih]
  simp only [QeV,Bc,Bi hk,Qs]
  rw [brOr]
  show br (Zb (Qp y2)[k] y6) _ _=_
  cases h:Zb (Qp y2)[k] y6 with
  |true=>simp [Qb]
  |false=>
   simp only [Qf,BF,Dd]
   cases hq:Qs (fun x=>Zb x y6) ((Qp y2).drop (k+1)) with
   |none=>rfl
   |some j=>
    simp only [B3,B7,BH,Qb]
    congr 3
    omega
theorem QMQ:LO QmU QmS Qy0 0:=QH (s:=QeS) fun x y h _ q=>by simp only [QE,QF] at q;exact (QMP x.2.2.1 y.1 y.2.1 h).trans q
theorem s_f103 (e:Endpoint)(c:Int)(h:Zk e c=true):Qy3 e c=some (.tu [.t tI (Jp e c).1,.t .bool (Jp e c).2],[]):=by
 have hd:decide ((0:Int)<=0/\(0:Int)<=(Qp e).length)=true:=Be (by omega)
 have hk:Zk e 0=true:=h
 simp only [Qy3,hk,hd,BZ,Qb,Br,By]
 unfold Jp XZ
 cases ine (QB c).2 0 with
 |true=>rfl
 |false=>
  rw [Qf,BM]
  cases Qs (fun x=>Zb x (QB c).1) (Qp e) with
  |none=>rfl
  |some k=>
   have:ige (k:Int) 0=true:=Be (by omega)
   simp [Qb,this]
def QeW:Ent:=Qi (.pr Qo (.pr tI .nil)) (fun x=>(Zk x.1 x.2.1)) (fun x=>(.tu [(.t tI ((Jp x.1 x.2.1).1)),(.t .bool ((Jp x.1 x.2.1).2))]))
theorem QmV:EM 103 QeW:=mS (lk:=lkL (lkc QMQ lkn)) QmU QyZ [((.t 4),some tI),((.t 5),some .bool)] false (gB (gD Qao gN)) fun m=>Qm m fun x hok=>kT (s_f103 x.1 x.2.1 hok)
def UG (e:Endpoint)(o:List Int):Bool:=decide ((Qp e).length<=100000/\(Qq e).length<=100000/\o.length<=100000)
def JL (e:Endpoint)(o:List Int)(v c:Int):Bool:=
 ieq (QB c).2 0&&(ige v (QB c).1.2.2.2.2.2.2.1&&(ige (QB c).1.2.2.2.2.2.2.2.1 v&&(QR o c&&(QR (Qq e) c&&(Jp e c).2))))
def VI (e:Endpoint)(o:List Int)(_v _c:Int):Bool:=UG e o
abbrev tkE (t:Talk):Endpoint:=t.1
abbrev tkV (t:Talk):Int:=t.2.1
abbrev tkO (t:Talk):List Int:=t.2.2.1
def Gp (t:Talk)(c:Int):Bool:=JL (tkE t) (tkO t) (tkV t) c
def UH (t:Talk)(_c:Int):Bool:=UG (tkE t) (tkO t)
def QMR:TC:=aF Tryz.f135 []
def g_f135:G:=gG 53 [(124,Qan),(125,QbX),(136,QmR)] (fun _ _=>none)
def Qy4 (p0:Talk)(p1:Int):OV:=
 let a1:=((((((((QB p1).1).2).2).2).2).2).2)
 br (ine ((QB p1).2) 0) (some (.t .bool false,[])) (br (ilt p0.2.1 (a1.1)) (some (.t .bool false,[])) (br (igt p0.2.1 ((a1.2).1)) (some (.t .bool false,[])) (br (Jc p0.2.2.1 p1) (br (!(QR p0.2.2.1 p1)) (some (.t .bool false,[])) (br (Jc p0.1.2.2.2.1 p1) (br (!(QR p0.1.2.2.2.1 p1)) (some (.t .bool false,[])) (br (Zk p0.1 p1) (some (.t .bool ((Jp p0.1 p1).2),[])) none)) none)) none)))
theorem Ig (a b:Int):ine a b= !ieq a b:=rfl
theorem Qy5 (a b:Int):ilt a b= !ige a b:=by simp only [ilt,ige];by_cases h:a<b<;>simp [h]<;>omega
theorem s_f135 (t:Talk)(c:Int)(h:UH t c=true):Qy4 t c=some (.t .bool (Gp t c),[]):=by
 simp only [UH,UG,Ba] at h
 have c1:Jc t.2.2.1 c=true:=Be h.2.2
 have c2:Jc t.1.2.2.2.1 c=true:=Be h.2.1
 have c3:Zk t.1 c=true:=Be h.1
 simp only [Qy4,c1,c2,c3,Qb,Ig,Qy5]
 show _=some (V.t .bool (JL t.1 t.2.2.1 t.2.1 c),[])
 unfold JL
 cases ieq (QB c).2 0 with
 |false=>rfl
 |true=>
  cases ige t.2.1 (QB c).1.2.2.2.2.2.2.1 with
  |false=>rfl
  |true=>
   cases ige (QB c).1.2.2.2.2.2.2.2.1 t.2.1 with
   |false=>rfl
   |true=>
    cases QR t.2.2.1 c with
    |false=>rfl
    |true=>cases QR t.1.2.2.2.1 c<;>rfl
def QmW:Ent:=Qi (.pr Qal (.pr tI .nil)) (fun x=>(UH x.1 x.2.1)) (fun x=>(.t .bool (Gp x.1 x.2.1)))
theorem Qy6:EM 135 QmW:=mS g_f135 QMR [((.t 4),some .bool)] false (gB (gD Qgh (gD QiI (gD QyW gN)))) fun m=>Qm m fun x hok=>kT (s_f135 x.1 x.2.1 hok)
def QMS:TC:=aF Tryz.f102 []
def g_f102:G:=gG 52 [(64,IJ),(99,Qaq),(103,QeW)] (fun _ _=>none)
def Qy7 (p0:Endpoint)(p1:List Int)(p2 p3:Int):OV:=
 let a1:=((((((((QB p3).1).2).2).2).2).2).2)
 br (ine ((QB p3).2) 0) (some (.t .bool false,[])) (br (Jc p1 p3) (br (!(QR p1 p3)) (some (.t .bool false,[])) (br (Jc p0.2.2.2.1 p3) (br (!(QR p0.2.2.2.1 p3)) (some (.t .bool false,[])) (br (ilt p2 (a1.1)) (some (.t .bool false,[])) (br (igt p2 ((a1.2).1)) (some (.t .bool false,[])) (br (Zk p0 p3) (some (.t .bool ((Jp p0 p3).2),[])) none)))) none)) none)
theorem s_f102 (e:Endpoint)(o:List Int)(v c:Int)(h:VI e o v c=true):Qy7 e o v c=some (.t .bool (JL e o v c),[]):=by
 simp only [VI,UG,Ba] at h
 have c1:Jc o c=true:=Be h.2.2
 have c2:Jc e.2.2.2.1 c=true:=Be h.2.1
 have c3:Zk e c=true:=Be h.1
 simp only [Qy7,c1,c2,c3,Qb,Ig,Qy5]
 unfold JL
 cases ieq (QB c).2 0<;>cases ige v (QB c).1.2.2.2.2.2.2.1<;>cases ige (QB c).1.2.2.2.2.2.2.2.1 v<;>cases QR o c<;>cases QR e.2.2.2.1 c<;>rfl
def Qy8:Ent:=Qi (.pr Qo (.pr (.sl tI) (.pr tI (.pr tI .nil)))) (fun x=>(VI x.1 x.2.1 x.2.2.1 x.2.2.2.1)) (fun x=>(.t .bool (JL x.1 x.2.1 x.2.2.1 x.2.2.2.1)))
theorem QMT:EM 102 Qy8:=mS g_f102 QMS [((.t 8),some .bool)] false (gB (gD Qao (gD Qgl (gD QmV gN)))) fun m=>Qm m fun x hok=>kT (s_f102 x.1 x.2.1 x.2.2.1 x.2.2.2.1 hok)
def XB (c s:Endpoint):Bool:=QN c&&QN s
def WW (c s:Endpoint):Bool:=QS c&&QS s
def QMU:TC:=aF Tryz.f132 []
def g_f132:G:=gG 13 [(46,Qev)] (fun _ _=>none)
def Qy9 (p0 p1:Endpoint):OV:=br (QS p0) (br (ieq (JZ p0) 0) (br (QS p1) (some (.t .bool (ieq (JZ p1) 0),[])) none) (some (.t .bool false,[]))) none
theorem s_f132 (c s:Endpoint)(h:WW c s=true):Qy9 c s=some (.t .bool (XB c s),[]):=by
 simp only [WW,Bb] at h
 simp only [Qy9,h.1,h.2,Qb,QLU]
 unfold XB
 cases QN c<;>rfl
def Qza:Ent:=Qi (.pr Qo (.pr Qo .nil)) (fun x=>(WW x.1 x.2.1)) (fun x=>(.t .bool (XB x.1 x.2.1)))
theorem QMV:EM 132 Qza:=mS g_f132 QMU [((.t 4),some .bool)] false (gB (gD Qmn gN)) fun m=>Qm m fun x hok=>kT (s_f132 x.1 x.2.1 hok)
end
end Go.Proofs.YtmjnnemhoeolgaaGreat.K
noncomputable section
namespace Go.Proofs.YtmjnnemhoeolgaaGreat.K
open Go.RowKit
noncomputable section
def okPos (l:List Int)(t:Talk):Bool:=decide (l.length<=100000)&&UG (tkE t) (tkO t)
abbrev QKC:Sh:=⟨[(0,.ty (.sl tI)),(1,.bf 135 Qal),(7,.ty tI),(8,.ty tI)],[]⟩
abbrev QKD:Sh:=⟨[(4,.ty tI)],[]⟩
def QKE (x4:Int):VS:=QKD.st (x4,()) ()
abbrev QKF:Sh:=⟨[],[]⟩
def QKG  : VS:=QKF.st () ()
def QKH:VS->Option (Bool×List (Bool×Exit×VS)):=mkL QKC (fun x y=>(QA x.1 x.2.2.1 x.2.2.2.1&&okPos x.1 x.2.1)) (fun x y=>[(((Qs (Gp x.2.1) (x.1.drop x.2.2.2.1.toNat)).isSome),.ret,QKE (x.2.2.2.1+((Qs (Gp x.2.1) (x.1.drop x.2.2.2.1.toNat)).getD 0:Nat))),(true,.exit 0,QKG)])
def QKI:G:=gG 19 [(135,QmW)] (Ls [QKH])
theorem QTf:GOk Tryz.prog QKI:=ZX _ (gA (gD Qy6 gN))
abbrev zK:Keep:=(0,(0,()))
abbrev Qln (s:Endpoint)(x:Int):List Certificate:=(lgt QV (Qp s) (Jp s x).1.toNat).2.2.1
def QdK (c s:Endpoint)(d x:Int):Int:=V6 (Qln s x) (Q7 c) (Ja c) d s.1
def Qlo (c s:Endpoint)(v d x:Int):Keep×Int:=bif ine (QdK c s d x) 0 then (zK,29) else ((v,(x,())),0)
def XS (c s:Endpoint)(v d:Int)(o l:List Int):Keep×Int:=match Qs (JL s o v) l with|none=>(zK,28)|some k=>Qlo c s v d (l.getD k 0)
abbrev Ff (s:Endpoint)(o:List Int):List Int:=bif s.2.2.2.2.1 then Qq s else o
def JY (c s:Endpoint)(d m:Int)(o:List Int):Keep×Int:=
 bif !XB c s then (zK,19) else bif ilt d 0 then (zK,2) else bif igt d 40000 then (zK,2) else bif ilt m 1 then (zK,2) else bif igt m 4 then (zK,2) else
 bif ilt (imn m s.2.2.1) c.2.1 then (zK,27) else bif ilt (imn m s.2.2.1) s.2.1 then (zK,27) else XS c s (imn m s.2.2.1) d o (Ff s o)
def Xz (c s:Endpoint)(_d _m:Int)(o:List Int):Bool:=WW c s&&decide (o.length<=100000)
theorem XT {e:Endpoint}(h:QS e=true):Jg e.1=true/\(Qq e).length<=100000/\(Qp e).length<=100000/\(Q7 e).length<=100000/\(Ja e).length<=100000/\(Qp e).all Jo=true:=by
 simp only [QS,Bb,Ba] at h
 exact ⟨h.1.1,h.1.2.1,h.1.2.2.1,h.1.2.2.2.1,h.1.2.2.2.2,h.2⟩
theorem Qwp {e:Endpoint}{c:Int}(h:(Jp e c).2=true): ∃ k,(Jp e c).1=((k:Nat):Int)/\k<(Qp e).length:=by
 unfold Jp XZ at h ⊢
 cases hi:ine (QB c).2 0 with
 |true=>rw [hi] at h;cases h
 |false=>
  rw [hi] at h
  cases hq:Qs (fun x=>Zb x (QB c).1) (Qp e) with
  |none=>rw [hq] at h;cases h
  |some k=>exact ⟨k,rfl,(E4 hq).1⟩
theorem Qwq {e:Endpoint}{o:List Int}{v c:Int}(h:JL e o v c=true):(Jp e c).2=true:=by
 simp only [JL,Bb] at h
 exact h.2.2.2.2.2
theorem QKJ {c s:Endpoint}{d v x:Int}{o:List Int}(hc:QS c=true)(hs:QS s=true)(h:JL s o v x=true):cIx (Qp s) (Jp s x).1=true/\IC (Qln s x) (Q7 c) (Ja c) d s.1=true:=by
 obtain ⟨k,hk,hl⟩:=Qwp (Qwq h)
 obtain ⟨_,_,_,h4,h5,_⟩:=XT hc
 have h6:=(XT hs).2.2.2.2.2
 unfold Qln
 rw [hk,QJ,Bc,QL (y:=QV) hl]
 refine ⟨Be hl, ?_⟩
 have:=Bf.1 h6 _ (Bw hl)
 simp only [IC,Bb,Ba]
 exact ⟨this,h4,h5⟩
theorem QKK {e:Endpoint}{o l:List Int}{v:Int}{k:Nat}(h:Qs (JL e o v) l=some k):k<l.length/\JL e o v (l.getD k 0)=true:=by
 obtain ⟨q,h1⟩:=E4 h
 refine ⟨q, ?_⟩
 rw [Bk,Bh q,BH]
 exact h1
theorem eEta (p1:Endpoint):(p1.1,(p1.2.1,(p1.2.2.1,(p1.2.2.2.1,(p1.2.2.2.2.1,(p1.2.2.2.2.2.1,(p1.2.2.2.2.2.2.1,(p1.2.2.2.2.2.2.2.1,(p1.2.2.2.2.2.2.2.2.1,())))))))))=p1:=rfl
def Va (p:Keep×Int):OV:=some (.tu [.t Qd p.1,.t tI p.2],[])
theorem brT {a:Bool}{X Y:OV}{x y:Keep×Int}(hx:X=Va x)(hy:Y=Va y):br a X Y=Va (bif a then x else y):=by
 cases a
 ·exact hy
 ·exact hx
abbrev Vb:Sh:=⟨[(2,.ty tI),(4,.ty (.sl tI)),(5,.ptr 5 0),(6,.ptr 6 0),(10,.ptr 10 0),(12,.ty tI),(13,.ty (.sl tI)),(14,.ty tI)],[(5,.box Qo),(6,.box Qo),(10,.box Qd)]⟩
abbrev Qlp:Sh:=⟨[(10,.ptr 10 0),(11,.ty tI)],[(10,.box Qd)]⟩
abbrev Qwr:Sh:=⟨[(10,.ptr 10 0)],[(10,.box Qd)]⟩
def Qlq:Fg:=Vb.f
def Qws:TC:=aF Tryz.f62 [(2042,pL 0 Qlq),(32675,.fg Qwr.f),(130704,pD [(0,[6]),(1,[]),(2,[]),(3,[]),(4,[]),(5,[]),(6,[]),(7,[]),(8,[])] (.of [0,1,2,3,4,5,6,7,8])),(261410,.fg Vb.f),(130706,pD [(0,[6]),(1,[]),(2,[]),(3,[]),(4,[]),(5,[]),(6,[]),(7,[]),(8,[]),(9,[]),(10,[])] (.of [0,1,2,3,4,5,6,7,8,9,10])),(522828,pD [(0,[6]),(1,[6]),(2,[]),(3,[]),(4,[]),(5,[]),(6,[5]),(7,[5]),(8,[5]),(9,[5]),(10,[]),(11,[6]),(12,[6]),(13,[]),(14,[])] (.of [0,1,2,3,4,5,6,7,8,9,10,11,12,13,14])),(2091317,.fg Qlp.f),(522831,.fg Qlp.f)]
def Qwt:TC:=lb 0 Qws
def Qwu (x2:Int)(x4:List Int)(x12:Int)(x13:List Int)(x14:Int)(y5 y6:Endpoint)(y10:Keep):VS:=Vb.st (x2,x4,(),(),(),x12,x13,x14,()) (y5,y6,y10,())
def QdL (x11:Int)(y10:Keep):VS:=Qlp.st ((),x11,()) (y10,())
def Qlr (y10:Keep):VS:=Qwr.st ((),()) (y10,())
def QKL:VS->Option (Bool×List (Bool×Exit×VS)):=mkL Vb (fun x y=>(Xz y.1 y.2.1 0 0 x.2.1&&decide (0<=x.2.2.2.2.2.2.2.1/\x.2.2.2.2.2.2.2.1<=x.2.2.2.2.2.2.1.length/\x.2.2.2.2.2.2.1.length<=100000))) (fun x y=>[(((Qs (JL y.2.1 x.2.1 x.2.2.2.2.2.1) (x.2.2.2.2.2.2.1.drop x.2.2.2.2.2.2.2.1.toNat)).isSome),.ret,QdL ((XS y.1 y.2.1 x.2.2.2.2.2.1 x.1 x.2.1 (x.2.2.2.2.2.2.1.drop x.2.2.2.2.2.2.2.1.toNat)).2) ((XS y.1 y.2.1 x.2.2.2.2.2.1 x.1 x.2.1 (x.2.2.2.2.2.2.1.drop x.2.2.2.2.2.2.2.1.toNat)).1)),(true,.exit 0,Qlr (y.2.2.1))])
def Qls:G:=gG 108 [(61,Fm),(102,Qy8),(103,QeW),(104,QBr)] (Ls [QKL])
def QdM (x2:Int)(x4:List Int)(x12:Int)(x13:List Int)(x14:Int)(y5 y6:Endpoint)(y10:Keep):OX:=Qr (Qv Qls Qlq Qwt) (Qwu x2 x4 x12 x13 x14 y5 y6 y10)
def Vc (kk:Int->List Int->Int->List Int->Int->Endpoint->Endpoint->Keep->OX)(x2:Int)(x4:List Int)(x12:Int)(x13:List Int)(x14:Int)(y5 y6:Endpoint)(y10:Keep):OX:=
 let a1:=lgt tI x13 (Int.toNat x14)
 let a2:=((((lgt QV y6.2.2.2.2.2.1 (Int.toNat ((Jp y6 a1).1))).2).2).1)
 br (ilt x14 (Qa x13)) (br (cIx x13 x14) (br (VI y6 x4 x12 a1) (br (!(JL y6 x4 x12 a1)) (kk x2 x4 x12 x13 (Qg .i64 x14 1) y5 y6 y10) (br (cIx x13 x14) (br (Zk y6 a1) (br (cIx y6.2.2.2.2.2.1 ((Jp y6 a1).1)) (br (IC a2 y5.2.2.2.2.2.2.1 y5.2.2.2.2.2.2.2.1 x2 y6.1) (br (ine (V6 a2 y5.2.2.2.2.2.2.1 y5.2.2.2.2.2.2.2.1 x2 y6.1) 0) (some (.ret,QdL 29 (0,(0,())))) (br (cIx x13 x14) (some (.ret,QdL 0 (x12,(a1,())))) none)) none) none) none) none)) none) none) (some (.exit 0,Qlr y10))
def QdN (x2:Int)(x4:List Int)(x12:Int)(x13:List Int)(x14:Int)(y5 y6:Endpoint)(y10:Keep):OX:=
 let a1:=XS y5 y6 x12 x2 x4 (x13.drop x14.toNat)
 br ((Qs (JL y6 x4 x12) (x13.drop x14.toNat)).isSome) (some (.ret,QdL (a1.2) (a1.1)))<|some (.exit 0,Qlr (y10))
theorem Qwv (x2:Int)(x4:List Int)(x12:Int)(x13:List Int)(x14:Int)(y5 y6:Endpoint)(y10:Keep):QdM x2 x4 x12 x13 x14 y5 y6 y10=Vc QdM x2 x4 x12 x13 x14 y5 y6 y10:=lnT (x:=Vc (fun x2 x4 x12 x13 x14 y5 y6 y10=>some (.normal,Qwu x2 x4 x12 x13 x14 y5 y6 y10)) x2 x4 x12 x13 x14 y5 y6 y10) (by simp only [Vc,nxA];rfl)
def r_f62 (p0 p1:Endpoint)(p2 p3:Int)(p4:List Int):OV:=
 let a1:=imn p3 p1.2.2.1
 let a2:=(p1.2.2.2.1.drop (0:Int).toNat)
 let a3:=(XS p0 p1 a1 p2 p4 (p4.drop (0:Int).toNat))
 let a4:=XS p0 p1 a1 p2 p4 a2
 br (QS p0) (br (ine (JZ p0) 0) (some (.tu [(.t Qd (0,(0,()))),(.t tI 19)],[])) (br (QS p1) (br (ine (JZ p1) 0) (some (.tu [(.t Qd (0,(0,()))),(.t tI 19)],[])) (br (ilt p2 0) (some (.tu [(.t Qd (0,(0,()))),(.t tI 2)],[])) (br (igt p2 40000) (some (.tu [(.t Qd (0,(0,()))),(.t tI 2)],[])) (br (ilt p3 1) (some (.tu [(.t Qd (0,(0,()))),(.t tI 2)],[])) (br (igt p3 4) (some (.tu [(.t Qd (0,(0,()))),(.t tI 2)],[])) (br (ilt a1 p0.2.1) (some (.tu [(.t Qd (0,(0,()))),(.t tI 27)],[])) (br (ilt a1 p1.2.1) (some (.tu [(.t Qd (0,(0,()))),(.t tI 27)],[])) (br (p1.2.2.2.2.1) (br (Xz p0 p1 0 0 p4&&decide (0<=(0:Int)/\(0:Int)<=p1.2.2.2.1.length/\p1.2.2.2.1.length<=100000)) (br ((Qs (JL p1 p4 a1) a2).isSome) (some (.tu [(.t Qd (a4.1)),(.t tI (a4.2))],[])) (some (.tu [(.t Qd (0,(0,()))),(.t tI 28)],[]))) none) (br (Xz p0 p1 0 0 p4&&decide (0<=(0:Int)/\(0:Int)<=p4.length/\p4.length<=100000)) (br ((Qs (JL p1 p4 a1) (p4.drop (0:Int).toNat)).isSome) (some (.tu [(.t Qd (a3.1)),(.t tI (a3.2))],[])) (some (.tu [(.t Qd (0,(0,()))),(.t tI 28)],[]))) none))))))))) none)) none
theorem QKM (x2:Int)(x4:List Int)(x12:Int)(x13:List Int)(x14:Int)(y5 y6:Endpoint)(y10:Keep)(h:(Xz y5 y6 0 0 x4&&decide (0<=x14/\x14<=x13.length/\x13.length<=100000))=true):QdM x2 x4 x12 x13 x14 y5 y6 y10=QdN x2 x4 x12 x13 x14 y5 y6 y10:=by
 simp only [Xz,Bb,Ba] at h
 obtain ⟨⟨hr,ho⟩,h0,h1,h2⟩:=h
 obtain ⟨hc,hs⟩:=Bg.1 hr
 have hs':=XT hs
 obtain ⟨k,rfl⟩:=Bo h0
 have hle: ∀ v w,VI y6 x4 v w=true:=fun _ _=>Be ⟨hs'.2.2.1,hs'.2.1,ho⟩
 have hid: ∀ x,Zk y6 x=true:=fun x=>Be hs'.2.2.1
 refine QP x13 (fun k=>QdM x2 x4 x12 x13 (k:Int) y5 y6 y10=QdN x2 x4 x12 x13 (k:Int) y5 y6 y10) ?_ ?_ k (by omega)
 ·rw [Qwv]
  simp only [Vc,show ilt (x13.length:Int) (Qa x13)=false from Bl (by simp only [Qa];omega),Qf,QdN,Bc,BK,Qs]
  rfl
 ·intro k hk ih
  rw [Qwv]
  simp only [Vc,show ilt (k:Int) (Qa x13)=true from Be (by simp only [Qa];omega),QJ,hk,Bt,Qb,Bc,QO (show k<4611686018427387904 by omega),QL (y:=tI) hk,ih,hle,hid]
  simp only [QdN,Bc,Bi hk,XS,Qs]
  cases hp:JL y6 x4 x12 x13[k] with
  |true=>
   obtain ⟨g1,g2⟩:=QKJ (d:=x2) hc hs hp
   simp only [BC,Qf,if_true,B7,Qb,g1,List.getD_cons_zero]
   refine Eq.trans (congrArg (fun b=>br b _ _) g2) ?_
   rw [Qb]
   show br (ine (QdK y5 y6 x2 x13[k]) 0) _ _=_
   unfold Qlo
   cases ine (QdK y5 y6 x2 x13[k]) 0<;>rfl
  |false=>
   simp only [Dx,Qb,BF,Dd]
   cases hq:Qs (JL y6 x4 x12) (x13.drop (k+1)) with
   |none=>rfl
   |some j=>
    simp only [B3,B7,Qb,List.getD_cons_succ]
theorem QKN:LO Qls Qlq Qwt 0:=QH (s:=Vb) fun x y h _ q=>by simp only [QE,QF] at q;exact (QKM x.1 x.2.1 x.2.2.2.2.2.1 x.2.2.2.2.2.2.1 x.2.2.2.2.2.2.2.1 y.1 y.2.1 y.2.2.1 h).trans q
theorem s_f62 (c s:Endpoint)(d m:Int)(o:List Int)(h:Xz c s d m o=true):r_f62 c s d m o=some (.tu [.t Qd (JY c s d m o).1,.t tI (JY c s d m o).2],[]):=by
 simp only [Xz,Bb,Ba] at h
 obtain ⟨hr,ho⟩:=h
 obtain ⟨hc,hs⟩:=Bg.1 hr
 have hs':=XT hs
 have hw:Xz c s 0 0 o=true:=Bg.2 ⟨hr,Be ho⟩
 simp only [r_f62,hc,hs,hw,Qb,Gm,BA,Br,By]
 show _=Va (JY c s d m o)
 have hd: ∀ l:List Int,l.length<=100000->decide ((0:Int)<=0/\(0:Int)<=l.length/\l.length<=100000)=true:=fun l hl=>Be (by omega)
 have ho2: ∀ l:List Int,br (Qs (JL s o (imn m s.2.2.1)) l).isSome (some (V.tu [.t Qd (XS c s (imn m s.2.2.1) d o l).1,.t tI (XS c s (imn m s.2.2.1) d o l).2],[])) (some (V.tu [.t Qd (0,(0,())),.t tI 28],[]))=Va (XS c s (imn m s.2.2.1) d o l):=fun l=>by
  unfold XS
  cases Qs (JL s o (imn m s.2.2.1)) l<;>rfl
 unfold JY XB
 cases QN c with
 |false=>rfl
 |true=>
  cases QN s with
  |false=>rfl
  |true=>
   simp only [BC,Qf,BZ,BM]
   refine brT rfl<|brT rfl<|brT rfl<|brT rfl<|brT rfl<|brT rfl ?_
   cases hw:s.2.2.2.2.1 with
   |true=>
    rw [Qb,show Ff s o=Qq s by unfold Ff;rw [hw];rfl]
    refine Eq.trans (congrArg (fun b=>br b _ _) (hd _ hs'.2.1)) ?_
    exact ho2 _
   |false=>
    rw [Qf,show Ff s o=o by unfold Ff;rw [hw];rfl]
    refine Eq.trans (congrArg (fun b=>br b _ _) (hd _ ho)) ?_
    exact ho2 _
def Qww:Ent:=Qi (.pr Qo (.pr Qo (.pr tI (.pr tI (.pr (.sl tI) .nil))))) (fun x=>(Xz x.1 x.2.1 x.2.2.1 x.2.2.2.1 x.2.2.2.2.1)) (fun x=>(.tu [(.t Qd ((JY x.1 x.2.1 x.2.2.1 x.2.2.2.1 x.2.2.2.2.1).1)),(.t tI ((JY x.1 x.2.1 x.2.2.1 x.2.2.2.1 x.2.2.2.2.1).2))]))
theorem ms_f62:EM 62 Qww:=mS (lk:=lkL (lkc QKN lkn)) Qls Qws [((.c 10 true 2),some Qd),((.t 11),some tI)] false (gB (gD Ia (gD QMT (gD QmV (gD QPB gN))))) fun m=>Qm m fun x hok=>kT (s_f62 x.1 x.2.1 x.2.2.1 x.2.2.2.1 x.2.2.2.2.1 hok)
theorem WL {c:Endpoint}(h:QN c=true):1<=c.2.1/\c.2.1<=c.2.2.1/\c.2.2.1<=4:=by
 simp only [QN,Bb,Bu] at h
 obtain ⟨_,h1,h2,h3,_⟩:=h
 have h1:=Dn h1
 have h2:=Dn h2
 have h3:=Dn h3
 omega
def EZ (e:Endpoint)(c:Int):List Keep:=
 [bif ieq (QB c).1.2.2.1.2.1 0 then ((QB c).1.2.2.1.1,((lgt QV (Qp e) (Jp e c).1.toNat).1.2.1,())) else (QB c).1.2.2.1,(lgt QV (Qp e) (Jp e c).1.toNat).1,(QB c).1.2.2.2.2.1,(QB c).1.2.2.2.2.2.1]
def Q5 (e:Endpoint)(o:Keep):List Keep×Int:=
 bif !QN e then ([],19) else bif ine (QB o.2.1).2 0 then ([],(QB o.2.1).2) else bif !(Jp e o.2.1).2 then ([],4) else (EZ e o.2.1,0)
def E0 (e:Endpoint)(_o:Keep):Bool:=QS e
def outLI (p:List Keep×Int):OV:=some (.tu [.t (.sl Qd) p.1,.t tI p.2],[])
theorem Qwx {e:Endpoint}{c:Int}(h:(Jp e c).2=true):cIx (Qp e) (Jp e c).1=true:=by
 obtain ⟨k,hk,hl⟩:=Qwp h
 rw [hk,QJ]
 exact Be hl
def tc_f96:TC:=aF Tryz.f96 []
def g_f96:G:=gG 57 [(46,Qev),(124,Qan),(136,QmR)] (fun _ _=>none)
def r_f96 (p0:Endpoint)(p1:Keep):OV:=
 let a1:=((lgt QV p0.2.2.2.2.2.1 (Int.toNat ((Jp p0 p1.2.1).1))).1)
 let a2:=((((QB p1.2.1).1).2).2)
 let a3:=(((((a2.2).2).2).1).1,((((((a2.2).2).2).1).2).1,()))
 let a4:=((((a2.2).2).1).1,(((((a2.2).2).1).2).1,()))
 let a5:=((a1.2).1,())
 br (QS p0) (br (ine (JZ p0) 0) (some (.tu [(.t (.sl Qd) ([]:List Keep)),(.t tI (JZ p0))],[])) (br (ine ((QB p1.2.1).2) 0) (some (.tu [(.t (.sl Qd) ([]:List Keep)),(.t tI ((QB p1.2.1).2))],[])) (br (Zk p0 p1.2.1) (br (!((Jp p0 p1.2.1).2)) (some (.tu [(.t (.sl Qd) ([]:List Keep)),(.t tI 4)],[])) (br (cIx p0.2.2.2.2.2.1 ((Jp p0 p1.2.1).1)) (br (ieq (((a2.1).2).1) 0) (some (.tu [(.t (.sl Qd) ([((a2.1).1,a5),(a1.1,a5),a4,a3])),(.t tI 0)],[])) (some (.tu [(.t (.sl Qd) ([((a2.1).1,(((a2.1).2).1,())),(a1.1,a5),a4,a3])),(.t tI 0)],[]))) none)) none))) none
theorem s_f96 (e:Endpoint)(o:Keep)(h:E0 e o=true):r_f96 e o=some (.tu [.t (.sl Qd) (Q5 e o).1,.t tI (Q5 e o).2],[]):=by
 have hr:QS e=true:=h
 have hid: ∀ x,Zk e x=true:=fun x=>Be (XT hr).2.2.1
 simp only [r_f96,hr,hid,Qb,Gm]
 show _=outLI (Q5 e o)
 unfold Q5 JZ
 cases QN e with
 |false=>rfl
 |true=>
  rw [BC,Qf,BM]
  cases ine (QB o.2.1).2 0 with
  |true=>rfl
  |false=>
   rw [Qf,BM]
   cases hi:(Jp e o.2.1).2 with
   |false=>rfl
   |true=>
    rw [BC,Qf,BM]
    refine Eq.trans (congrArg (fun b=>br b _ _) (Qwx hi)) ?_
    rw [Qb]
    unfold EZ
    cases ieq (QB o.2.1).1.2.2.1.2.1 0<;>rfl
def QdO:Ent:=Qi (.pr Qo (.pr Qd .nil)) (fun x=>(E0 x.1 x.2.1)) (fun x=>(.tu [(.t (.sl Qd) ((Q5 x.1 x.2.1).1)),(.t tI ((Q5 x.1 x.2.1).2))]))
theorem Qwy:EM 96 QdO:=mS g_f96 tc_f96 [((.t 4),some (.sl Qd)),((.t 5),some tI)] false (gB (gD Qmn (gD Qgh (gD QyW gN)))) fun m=>Qm m fun x hok=>kT (s_f96 x.1 x.2.1 hok)
def tc_f66:TC:=aF Tryz.f66 []
def g_f66:G:=gG 54 [(61,Fm),(64,IJ),(103,QeW)] (fun _ _=>none)
def r_f66 (p0:Endpoint)(p1:Keep):OV:=
 let a1:=((lgt QV p0.2.2.2.2.2.1 (Int.toNat ((Jp p0 p1.2.1).1))).1)
 let a2:=((((QB p1.2.1).1).2).2)
 let a3:=(((((a2.2).2).2).1).1,((((((a2.2).2).2).1).2).1,()))
 let a4:=((((a2.2).2).1).1,(((((a2.2).2).1).2).1,()))
 let a5:=((a1.2).1,())
 br (QS p0) (br (ine (JZ p0) 0) (some (.tu [(.t (.sl Qd) ([]:List Keep)),(.t tI 19)],[])) (br (ine ((QB p1.2.1).2) 0) (some (.tu [(.t (.sl Qd) ([]:List Keep)),(.t tI ((QB p1.2.1).2))],[])) (br (Zk p0 p1.2.1) (br (!((Jp p0 p1.2.1).2)) (some (.tu [(.t (.sl Qd) ([]:List Keep)),(.t tI 4)],[])) (br (cIx p0.2.2.2.2.2.1 ((Jp p0 p1.2.1).1)) (br (ieq (((a2.1).2).1) 0) (some (.tu [(.t (.sl Qd) ([((a2.1).1,a5),(a1.1,a5),a4,a3])),(.t tI 0)],[])) (some (.tu [(.t (.sl Qd) ([((a2.1).1,(((a2.1).2).1,())),(a1.1,a5),a4,a3])),(.t tI 0)],[]))) none)) none))) none
theorem s_f66 (e:Endpoint)(o:Keep)(h:E0 e o=true):r_f66 e o=some (.tu [.t (.sl Qd) (Q5 e o).1,.t tI (Q5 e o).2],[]):=by
 have hr:QS e=true:=h
 have hid: ∀ x,Zk e x=true:=fun x=>Be (XT hr).2.2.1
 simp only [r_f66,hr,hid,Qb,Gm]
 show _=outLI (Q5 e o)
 unfold Q5
 cases QN e with
 |false=>rfl
 |true=>
  rw [BC,Qf,BM]
  cases ine (QB o.2.1).2 0 with
  |true=>rfl
  |false=>
   rw [Qf,BM]
   cases hi:(Jp e o.2.1).2 with
   |false=>rfl
   |true=>
    rw [BC,Qf,BM]
    refine Eq.trans (congrArg (fun b=>br b _ _) (Qwx hi)) ?_
    rw [Qb]
    unfold EZ
    cases ieq (QB o.2.1).1.2.2.1.2.1 0<;>rfl
def Qwz:Ent:=Qi (.pr Qo (.pr Qd .nil)) (fun x=>(E0 x.1 x.2.1)) (fun x=>(.tu [(.t (.sl Qd) ((Q5 x.1 x.2.1).1)),(.t tI ((Q5 x.1 x.2.1).2))]))
theorem ms_f66:EM 66 Qwz:=mS g_f66 tc_f66 [((.t 4),some (.sl Qd)),((.t 5),some tI)] false (gB (gD Ia (gD Qao (gD QmV gN)))) fun m=>Qm m fun x hok=>kT (s_f66 x.1 x.2.1 hok)
end
end Go.Proofs.YtmjnnemhoeolgaaGreat.K
noncomputable section
namespace Go.Proofs.YtmjnnemhoeolgaaGreat.K
open Go.RowKit
noncomputable section
theorem brN {β:Type}{p q:Bool}{X:Option β}:br p (br q X none) none=br (p&&q) X none:=by cases p<;>rfl
def QwB (c:Int):Int:=bif ine (QB c).2 0 then 0 else Yl (QB c).1.2.2.2.2.1
def Qlv (x:Int)(l:List Int):Nat->Nat
 |0=>0
 |k+1=>if ilt (QwB (l.getD k 0)) (QwB x)=true then Qlv x l k else k+1
def insS (l:List Int)(x:Int):List Int:=(l.take (Qlv x l l.length)++[x])++l.drop (Qlv x l l.length)
def sortS (l:List Int):List Int:=l.foldl insS []
-- loop 0: (x0 : (List Int)) (x4 : Int) (x5 : Int) (y3 : (List Int)); out: ('exit', 2) (x0 : (List Int)) (x4 : Int) (x5 : Int) (y3 : (List Int))
-- loop 1: (x0 : (List Int)) (x4 : Int) (y3 : (List Int)); out: ('exit', 0) (y3 : (List Int))
end
end Go.Proofs.YtmjnnemhoeolgaaGreat.K
noncomputable section
namespace Go.Proofs.YtmjnnemhoeolgaaGreat.K
open Go.RowKit
noncomputable section
theorem QlW {d:Dice}{l:List Int}(h:dOk d=true)(h1:l≠[])(h2:l.length<=100):YC d l=true:=by
 have:0<l.length:=List.length_pos_iff.2 h1
 simp only [YC,h,BA,Ba]
 omega
theorem Fl {d:Dice}{n:Int}(h:dOk d=true)(hn:n<=1000000):Q2 d n=true:=by
 simp only [Q2,h,BA,Ba]
 omega
theorem Qef {d:Dice}{n:Int}(h:dOk d=true)(h0:0<=n)(hn:n<=1000000):Y5 d n=true:=by
 simp only [Y5,Fl h hn,BA,Ba]
 omega
abbrev QlX (d:Dice):Int:=dof d [5,7,5,6,8,9]
def keyV (d:Dice):Keep:=(QlX d,(sizeV (QU d [5,7,5,6,8,9]) (QlX d),()))
def keyN (d:Dice):Dice:=sizeN (QU d [5,7,5,6,8,9]) (QlX d)
abbrev cD1 (d:Dice):Dice:=Qe d 1000
abbrev cD2 (d:Dice):Dice:=QU (cD1 d) [3,2,4,1]
abbrev cD3 (d:Dice):Dice:=QU (cD2 d) [0,5,10]
abbrev cD4 (d:Dice):Dice:=QU (cD3 d) [1000,100,50,20]
def cD5 (d:Dice)(a:Bool):Dice:=bif a then QU (cD4 d) [3,0,1] else cD4 d
def cPath (d:Dice)(a:Bool):Int:=bif a then dof (cD4 d) [3,0,1] else 0
def cNm (d:Dice)(a:Bool)(s:ByteArray):List ByteArray:=bif done (cD5 d a) 3 then [s,scat s (ByteArray.mk #[120])] else [s]
def cRaw (d:Dice)(i s:ByteArray)(k:Keep)(id:Int)(a:Bool):Certificate:=
 (Qj d 1000,(i,(s,(k,(id,((dof (cD1 d) [3,2,4,1],(0,())),(dof (cD2 d) [0,5,10],(dof (cD3 d) [1000,100,50,20],(a,(cPath d a,(cNm d a s,((0,(0,())),()))))))))))))
def cerV (d:Dice)(i s:ByteArray)(k:Keep)(id g:Int)(a:Bool):Certificate:=(Ue (cRaw d i s k id a) g).1
def cerN (d:Dice)(_i _s:ByteArray)(_k:Keep)(_id _g:Int)(a:Bool):Dice:=Qe (cD5 d a) 3
theorem QLs {i s:ByteArray}{k:Keep}{id:Int}{a:Bool}{q p:Int}{u v:Keep}{x y:Int}(hi:i.size<=1000)(hs:s.size<=1000){l:List ByteArray}(hl:l.length<=2)(hn: ∀ t∈l,t.size<=1001):
  JA (q,(i,(s,(k,(id,(u,(x,(y,(a,(p,(l,(v,()))))))))))))=true:=by
 have hg: ∀ t:ByteArray,t.size<=1001->Jg t=true:=fun t ht=>Be (by omega)
 simp only [JA,Bb]
 refine ⟨hg _ (by omega),hg _ (by omega), ?_⟩
 simp only [YX,Bb,Bf]
 exact ⟨Be (by show l.length<=_;omega),fun t ht=>hg t (hn t ht)⟩
end
end Go.Proofs.YtmjnnemhoeolgaaGreat.K
noncomputable section
namespace Go.Proofs.YtmjnnemhoeolgaaGreat.K
open Go.RowKit
noncomputable section
abbrev sRoot:ByteArray:=ByteArray.mk #[114,111,111,116]
abbrev Qnk:List ByteArray:=[ByteArray.mk #[99,97],ByteArray.mk #[99,98],ByteArray.mk #[99,99]]
abbrev Up:Type:=List Certificate×Dice×ByteArray×Int
def abvZ:Nat->Nat->Up->Up
 |0,_,u=>u
 |m+1,i,(ab,d,iss,g)=>abvZ m (i+1) (cerV d iss (Qnk.getD i ByteArray.empty) (5,(2048,())) ((11+i:Nat):Int) g true::ab,cerN d iss (Qnk.getD i ByteArray.empty) (5,(2048,())) ((11+i:Nat):Int) g true,Qnk.getD i ByteArray.empty,((11+i:Nat):Int))
def chU (d:Dice):Up:=abvZ (dof d [1,0,2]).toNat 0 ([],Qe (QU d [1,0,2]) 2,sRoot,1+Qj (QU d [1,0,2]) 2)
def chnV (d:Dice)(nm:ByteArray)(k:Keep)(id:Int):List Certificate:=cerV (chU d).2.1 (chU d).2.2.1 nm k id (chU d).2.2.2 false::(chU d).1
def chnN (d:Dice)(nm:ByteArray)(k:Keep)(id:Int):Dice:=cerN (chU d).2.1 (chU d).2.2.1 nm k id (chU d).2.2.2 false
-- loop 0: (x1 : ByteArray) (x3 : Int) (x9 : Int) (x10 : Int) (x11 : ByteArray) (x13 : Int) (y6 : Keep) (y12 : (List Certificate)) (Qc : Dice); out: ('exit', 0) (x1 : ByteArray) (x3 : Int) (x10 : Int) (x11 : ByteArray) (y6 : Keep) (y12 : (List Certificate)) (Qc : Dice)
end
end Go.Proofs.YtmjnnemhoeolgaaGreat.K
noncomputable section
namespace Go.Proofs.YtmjnnemhoeolgaaGreat.K
open Go.RowKit
noncomputable section
def suZ:Nat->List Int->Dice->List Int×Dice
 |0,l,d=>(l,d)
 |n+1,l,d=>suZ n (bif !QR l (1+Qj d 16) then l++[1+Qj d 16] else l) (Qe d 16)
def suI (d:Dice):List Int×Dice:=suZ (2+Qj d 9).toNat [] (Qe d 9)
def suiV (d:Dice):List Int:=bif done (suI d).2 4 then sortS (suI d).1 else (suI d).1
def suiN (d:Dice):Dice:=Qe (suI d).2 4
-- loop 0: (x4 : Int) (y3 : (List Int)) (Qc : Dice); out: ('exit', 0) (y3 : (List Int)) (Qc : Dice)
end
end Go.Proofs.YtmjnnemhoeolgaaGreat.K
noncomputable section
namespace Go.Proofs.YtmjnnemhoeolgaaGreat.K
open Go.RowKit
noncomputable section
abbrev iB (d:Dice):Bool:=igt (Qj (keyN d) 3) 0
abbrev iD2 (d:Dice):Dice:=Qe (keyN d) 3
abbrev iA (d:Dice):Int:=dof (iD2 d) [5,7]
def Qjo (d:Dice):Keep:=bif iB d then (iA d,(sizeV (QU (iD2 d) [5,7]) (iA d),())) else keyV d
def iD3 (d:Dice):Dice:=bif iB d then sizeN (QU (iD2 d) [5,7]) (iA d) else iD2 d
def iId (d:Dice):Int:=100+Qj (iD3 d) 20
abbrev iD4 (d:Dice):Dice:=Qe (iD3 d) 20
abbrev iD5 (d:Dice):Dice:=Qe (iD4 d) 9
def iCh (d:Dice)(nm:ByteArray):List Certificate:=bif !done (iD4 d) 9 then chnV (iD5 d) nm (Qjo d) (iId d) else []
def iD6 (d:Dice)(nm:ByteArray):Dice:=bif !done (iD4 d) 9 then chnN (iD5 d) nm (Qjo d) (iId d) else iD5 d
def idV (d:Dice)(nm:ByteArray):Identity:=(Qjo d,(iId d,(iCh d nm,())))
def Qjp:Nat->ByteArray->Dice->List Identity×Dice
 |0,_,d=>([],d)
 |n+1,nm,d=>(idV d nm::(Qjp n nm (iD6 d nm)).1,(Qjp n nm (iD6 d nm)).2)
abbrev eL0 (d:Dice):Int:=dof d [1,1,2,3]
abbrev eD1 (d:Dice):Dice:=QU d [1,1,2,3]
abbrev eD2 (d:Dice):Dice:=suiN (eD1 d)
abbrev eD3 (d:Dice):Dice:=Qe (eD2 d) 2
abbrev eD4 (d:Dice):Dice:=Qe (eD3 d) 2
abbrev eD5 (d:Dice):Dice:=Qe (eD4 d) (5-eL0 d)
abbrev eD6 (d:Dice):Dice:=Qe (eD5 d) 3
abbrev eB (d:Dice):Bool:=igt (Qj (eD5 d) 3) 0
def eLst (d:Dice):Int:=bif eB d then 1 else eL0 d
def eMst (d:Dice):Int:=bif eB d then dof (eD6 d) [3,4,2] else eL0 d+Qj (eD4 d) (5-eL0 d)
def eD7 (d:Dice):Dice:=bif eB d then QU (eD6 d) [3,4,2] else eD6 d
abbrev eD8 (d:Dice):Dice:=QU (eD7 d) [1,2,1,3,0]
def Qjq (d:Dice)(nm:ByteArray):List Identity×Dice:=Qjp (dof (eD7 d) [1,2,1,3,0]).toNat nm (eD8 d)
abbrev eAn (d:Dice)(nm:ByteArray):List Int:=lgt (.sl tI) [[1,2],[1,2],[1],[2,11],([]:List Int)] (Qj (Qjq d nm).2 5).toNat
abbrev eD10 (d:Dice)(nm:ByteArray):Dice:=Qe (Qjq d nm).2 5
abbrev eHs (d:Dice)(nm:ByteArray):List Int:=lgt (.sl tI) [[1,2,3,4],[2,3,4],[3,4]] (Qj (eD10 d nm) 3).toNat
def epV (d:Dice)(nm:ByteArray):Endpoint:=(nm,(eLst d,(eMst d,(suiV (eD1 d),(done (eD2 d) 2,((Qjq d nm).1,(eAn d nm,(eHs d nm,(done (eD3 d) 2,())))))))))
def epN (d:Dice)(nm:ByteArray):Dice:=Qe (eD10 d nm) 3
-- loop 0: (x1 : ByteArray) (x6 : Int) (y4 : Endpoint) (y5_0 : ByteArray) (y5_1 : Int) (y5_2 : Int) (y5_4 : Bool) (y5_8 : Bool) (y15 : (List Int)) (Qqz : (List Identity)) (Qc : Dice); out: ('exit', 0) (y4 : Endpoint) (y5_0 : ByteArray) (y5_1 : Int) (y5_2 : Int) (y5_4 : Bool) (y5_8 : Bool) (y15 : (List Int)) (Qqz : (List Identity)) (Qc : Dice)
end
end Go.Proofs.YtmjnnemhoeolgaaGreat.K
noncomputable section
namespace Go.Proofs.YtmjnnemhoeolgaaGreat.K
open Go.RowKit
noncomputable section
def prZ:List Int->List Int->Dice->List Int×Dice
 | [],s,d=>(s,d)
 |x::r,s,d=>if ilt (Qa s) 16=true then (if QR s x=true then prZ r s d else if done d 2=true then prZ r (s++[x]) (Qe d 2) else prZ r s (Qe d 2)) else (s,d)
end
end Go.Proofs.YtmjnnemhoeolgaaGreat.K
noncomputable section
namespace Go.Proofs.YtmjnnemhoeolgaaGreat.K
open Go.RowKit
noncomputable section
abbrev sA:ByteArray:=ByteArray.mk #[97]
end
end Go.Proofs.YtmjnnemhoeolgaaGreat.K
noncomputable section
namespace Go.Proofs.YtmjnnemhoeolgaaGreat.K
open Go.RowKit
noncomputable section
end
end Go.Proofs.YtmjnnemhoeolgaaGreat.K
noncomputable section
namespace Go.Proofs.YtmjnnemhoeolgaaGreat.K
open Go.RowKit
noncomputable section
def Fs (s:Endpoint)(o:List Int)(v:Int)(k:Nat):List Keep:=((List.range' k (17-k)).filter fun (j:Nat)=>JL s o v (j:Int)).map fun (j:Nat)=>(v,((j:Int),()))
def W4 (s:Endpoint)(o:List Int)(v n:Nat):List Keep:=(List.range' v n).flatMap fun (j:Nat)=>Fs s o (j:Int) 1
abbrev hiC (c s:Endpoint):Int:=imn c.2.2.1 s.2.2.1
abbrev loC (c s:Endpoint):Int:=imx c.2.1 s.2.1
def Z4 (c s:Endpoint):List Keep:=bif !XB c s then [] else W4 s (Qq c) (loC c s).toNat (hiC c s+1-loC c s).toNat
end
end Go.Proofs.YtmjnnemhoeolgaaGreat.K
noncomputable section
namespace Go.Proofs.YtmjnnemhoeolgaaGreat.K
open Go.RowKit
noncomputable section
theorem QIT (l:List Int):(Yp l).Pairwise (· ≤ ·):=by
 have:=List.pairwise_mergeSort (le:=fun x y:Int=>decide (x<=y)) (fun a b c h1 h2=>by simp only [Ba] at *; omega) (fun a b=>by simp only [Dl,Ba];omega) l
 exact this.imp fun h=>Bx h
theorem QIU {l:List Int}{p:Int->Bool}(hn:l.Nodup)(hr: ∀ x∈l,1<=x/\x<=16)(hp: ∀ x,p x=true->x∈l):(Yp l).filter p=(((List.range' 1 16).filter fun (j:Nat)=>p (j:Int)).map fun (j:Nat)=>(j:Int)):=by
 have hperm:(Yp l).Perm l:=List.mergeSort_perm _ _
 refine List.Perm.eq_of_pairwise (le:=(· ≤ ·)) (fun a b _ _ h1 h2=>by omega) ((QIT l).filter _) ?_ ?_
 ·rw [List.pairwise_map]
  refine List.Pairwise.filter _ ?_
  refine (List.pairwise_lt_range' (s:=1) (n:=16)).imp fun h=>by omega
 ·refine (List.perm_ext_iff_of_nodup ((hperm.nodup_iff.2 hn).filter _) ?_).2 fun a=> ?_
  ·rw [List.nodup_iff_pairwise_ne,List.pairwise_map]
   refine List.Pairwise.filter _ ?_
   refine (List.pairwise_lt_range' (s:=1) (n:=16)).imp fun h=>by omega
  ·simp only [List.mem_filter,B9,Dw,hperm.mem_iff]
   constructor
   ·rintro ⟨h1,h2⟩
    have:=hr a h1
    exact ⟨a.toNat,⟨by omega,by rw [DX (by omega)];exact h2⟩,DX (by omega)⟩
   ·rintro ⟨j,⟨_,h2⟩,rfl⟩
    exact ⟨hp _ h2,h2⟩
def rowS (s:Endpoint)(o:List Int)(v:Int)(l:List Int):List Keep:=(l.filter fun j=>JL s o v j).map fun j=>(v,(j,()))
theorem QIV {l:List Int}(h:ZW l=true): ∀ x∈l,1<=x/\x<=16:=by
 intro x hx
 obtain ⟨k,hk,rfl⟩:=List.mem_iff_getElem.1 hx
 exact (Qmk h k hk).1
theorem QIW {s:Endpoint}{o:List Int}{v:Int}(h:ZW o=true):rowS s o v (Yp o)=Fs s o v 1:=by
 unfold rowS Fs
 rw [QIU (p:=fun j=>JL s o v j) (Qx1 h) (QIV h) (fun x hx=>by
  simp only [JL,Bb] at hx
  exact BI.1 hx.2.2.2.1),DN]
 rfl
theorem QIX {c:Endpoint}(h:QN c=true):ZW (Qq c)=true:=by
 simp only [QN,Bb] at h
 exact h.2.2.2.2.1
end
end Go.Proofs.YtmjnnemhoeolgaaGreat.K
noncomputable section
namespace Go.Proofs.YtmjnnemhoeolgaaGreat.K
open Go.RowKit Go.Shelf
attribute [local go_sem] Oper.semAt_some
set_option maxRecDepth 100000 in
set_option maxHeartbeats 1000000 in
theorem Qxq (Bs b0 off c n:Nat)(A:Option Addr)(vs:List Value)(Xf:Nat->Nat->Prop)(w:World)(hreach:n*8<=140737488351232)(hvl:vs.length=n)
  (hBs:w.cell? ⟨Bs,0,none⟩=some (.slice A n c)) (hBl:Bs<w.heap.size)
  (hA:0<n->A=some ⟨b0,off,none⟩/\b0<w.heap.size/\(∀ j,j<vs.length→ ¬ Xf b0 (off+j))∧ ∀ j v,vs[j]? = some v->w.cell? ⟨b0,off+j,none⟩=some v):
  GB Tryz.prog 171 [.pointer (some ⟨Bs,0,none⟩)] (vs.map fun v=> #[v]) Xf w:=by
 intro l J Jx W hJ hJx hK hY h0 hst
 have HA:=Lib.hid hA
 clear hA
 refine callsIn_of_wp (F:=Fw none) Tryz.func171 rfl trivial ?_ rfl
 simp only [Tryz.ntmps171,List.size_toArray,Bv,BB,Nat.reduceAdd,Nat.reduceSub,Array.replicate_succ,Array.replicate_zero,List.push_toArray,List.append_toArray,BP,DB]
 have hb0:W.cell? ⟨Bs,0,none⟩=some (.slice A n c):=(hst Bs 0 hBl).trans hBs
 gi_wp2
 gi_loopw [7] (fun i wr=> ∃ k:Nat,k<=n/\i= .int .i64 (k:Int)/\J ((vs.drop k).map fun v=> #[v]) wr)
  (fun i _=>n-(intOf i).toNat)
 case atStart=>exact ⟨0,BX _,rfl,h0⟩
 case round=>
  obtain ⟨k,hk,rfl,hJs⟩:=hrel
  by_cases hlt:k<n
  ·obtain ⟨rfl,hbl,hnx,hcl⟩:=HA.out (by omega)
   have hlt2:k<vs.length:=by omega
   rw [Bi hlt2,BJ] at hJs
   obtain ⟨fn,tmps,assign,body,hy,hR⟩:=hY _ _ wr hJs
   have hcx':wr.cell? ⟨b0,off+k,none⟩=some vs[k]:=((hK _ wr hJs).2 b0 _ hbl (hnx _ hlt2)).trans (hcl _ _ (Bh hlt2))
   clear hnx hcl hY
   gi_wp2
   refine hR.mono ?_
   rintro e W3 (⟨rfl,hJ3⟩|⟨rfl,hJx3⟩)
   ·gi_wp2
    go_roundw
    case rel=>exact ⟨k+1,by omega,by simp,hJ3⟩
    case measure=>simp [intOf];omega
   ·gi_wp2
    refine bodyPost_ret (results_none rfl _ _ _) rfl ?_
    exact ⟨⟨_,rfl⟩,.inr hJx3⟩
  ·obtain rfl:k=n:=by omega
   rw [List.drop_of_length_le (by omega)] at hJs
   gi_wp2
   go_end0
   exact ⟨⟨_,rfl⟩,.inl hJs⟩
def XW (l:List Int):Bool:=decide (l.length<=100000)
def WR (l:List Int):List (Int×Unit):=l.map fun x=>(x,())
def Qeg:Itr:=F7 [.ptr 50000 0] [(.sl tI)] (.pr tI .nil) (fun d=>(XW d.1)) (fun d=>(WR d.1))
def QLy:TC:=aF Tryz.f134 []
def g_f134:G:=gG 4 [] (fun _ _=>none)
def r_f134 (p0:List Int):OV:=some (.fn 171 [(.ptr 50000 0)],[.box (.t (.sl tI) p0)])
def Qxr:Ent:=Uk (.pr (.sl tI) .nil) (fun _=>true) (fun x=> .fn 171 [.ptr 50000 0]) (fun x=>[.box (.t (.sl tI) x.1)])
theorem QLz:EM 134 Qxr:=mS g_f134 QLy [((.t 2),none)] true (gB gN) fun m=>Qkh m fun x _=>by kernel_rfl
theorem Qxs (l:List Int):l.flatMap tI.cells=l.map fun x=>D.v (.int .i64 x):=by
 induction l with
 |nil=>rfl
 |cons x r ih=>rw [BO,ih,BJ];rfl
theorem QLA:Iters Tryz.prog (171+1000000) Qeg:=by
 refine Iters.strong (enters_of Tryz.func171 (by kernel_rfl) rfl) fun caps objs yr rows h X w σ lb hfin hl hc=> ?_
 unfold Qeg F7 at h
 split at h
 ·rename_i x d hx hd
  simp only [Bd,Bp] at h
  obtain ⟨hok,h⟩:=h
  cases h
  have hcaps:=Ev hx
  subst hcaps
  cases objs with
  |nil=>simp [ZY] at hd
  |cons o os=>
   cases o with
   |box cv=>
    cases os with
    |cons o2 os=>simp [ZY] at hd
    |nil=>
     simp only [ZY] at hd
     split at hd
     ·rename_i l u hl1 _
      simp only [Bd] at hd
      subst hd
      have hlen:l.length<=100000:=Bx hok
      have hcv:=SV.rd_mk (s:= .ty (.sl tI)) (v:=cv) (x:=l) (by simpa [OM,Ty.row] using hl1)
      subst hcv
      obtain ⟨⟨Bs,ty,us,h1,h2,h3,h4⟩,_⟩:=hl.at_ 0 _ rfl
      have h3':Cs X w σ [.sl (List.length l) (List.flatMap tI.cells l)] us:=h3
      obtain ⟨uv,rfl,h5⟩:=h3'.one
      simp only [C] at h5
      obtain ⟨A,c,rfl,g1,g2,g3,g4⟩:=h5
      simp only [Ge,SV.mk,V.ds,V.d,Cs,C] at hc
      obtain ⟨p,ps,rfl,⟨b',e1,rfl⟩,rfl⟩:=hc
      have h1:σ 50000= .box Bs:=h1
      rw [h1] at e1
      injection e1 with e1
      subst e1
      have hcell:w.cell? ⟨Bs,0,none⟩=some (.slice A (List.length l) c):=by simp [World.cell?, h2]
      have hBl:=(B1.1 h2).1
      rcases DT (List.length l) with h0|hp
      ·have hl0:l=[]:=BD h0
       subst hl0
       exact ⟨[],⟨rfl,fun i r v hr=>by simp [WR] at hr⟩,Qxq Bs 0 0 c 0 A [] _ w (by omega) rfl hcell hBl (fun h=>absurd h (by omega))⟩
      ·obtain ⟨b0,off,vs,rfl,g5,g6⟩:=g4 hp
       have hvl:=g5.len
       rw [Qxs,BR] at hvl
       refine ⟨vs.map fun v=> #[v],⟨by simp [WR,hvl],fun i r v hr hv=> ?_⟩,Qxq Bs b0 off c (List.length l) _ vs _ w (by omega) hvl hcell hBl (fun _=>⟨rfl,g6.lt,fun j hj hx=>g6.nx j hj hx,fun j v hv=>g6.at_ j v hv⟩)⟩
       rw [Qxs] at g5
       simp only [WR,Dj,Bj] at hr hv
       obtain ⟨x,hx,rfl⟩:=hr
       obtain ⟨u,hu,rfl⟩:=hv
       have hd:(l.map fun x=>D.v (.int .i64 x))[i]? = some (.v (.int .i64 x)):=by rw [Dj,hx];rfl
       obtain ⟨u2,hu2,hcu⟩:=g5.at_ hd
       rw [hu] at hu2
       injection hu2 with hu2
       subst hu2
       simp only [Ty.canon,V.ds,V.d,Cs]
       refine ⟨_,_,rfl, ?_,rfl⟩
       rw [(C.v hcu).1]
       simp only [Ty.d,C]
       exact ⟨trivial,rfl⟩
     ·cases hd
   |no=>simp [ZY] at hd
   |arr e t l=>simp [ZY] at hd
 ·cases h
end Go.Proofs.YtmjnnemhoeolgaaGreat.K
noncomputable section
namespace Go.Proofs.YtmjnnemhoeolgaaGreat.K
open Go.RowKit
noncomputable section
def idL (l:List Int):List Int:=l
def Il (l:List Int):List Int:=Yp l
abbrev Qe8:Sh:=⟨[(2,.ptr 60000 0)],[(60000,.bag [.ms 20200]),(11,.no),(20200,.arr 3 tI),(50000,.box (.sl tI))]⟩
def Gq:Fg:=Qe8.f
def Qe9:TC:=(.reg (rT Tryz.f201 2))
def Qfa:TC:=(.bk 1 (.reg (rT Tryz.f201 3)))
def QNl:TC:=(.sq (.reg (rT Tryz.f201 0)) (.sq (.sq (.reg (rT Tryz.f201 1)) (.bk 0 (.nf 2 0 3 20200 (.rf 0 Gq (.t 6) (.pr tI .nil) [7] [2] Qe9 Qfa)))) (.sq (.reg (rT Tryz.f201 4)) .rt)))
def VN (Zr Qc:List Int):VS:=Qe8.st ((),()) (((),()),(),Zr,Qc,())
def Qfb:VS->List (Ty.T (.pr tI .nil))->Option (Bool×List (Bool×Exit×VS)):=mkR Qe8 (fun zs x y=>(decide (zs.length+y.2.2.1.length<=100000))) (fun zs x y=>[(true,.normal,VN (y.2.2.1++zs.map (fun z=>z.1)) (y.2.2.2.1))])
def Im:G:=⟨TYs,[],13,EL [],X9,(Ls [fun _=>none]),IL [(1000171,Qeg)],(RL [⟨(.pr tI .nil),Qfb⟩])⟩
def Qzt (z:(Int×Unit))(Zr Qc:List Int):OX:=br (QM Zr ([z.1]) 8) (some (.normal,VN (Zr++([z.1])) Qc)) none
def Qm4 (zs:List (Int×Unit))(Zr Qc:List Int):OX:=Xm (WD Im Gq (.pr tI .nil) [7] Qe9 Qfa) zs (VN Zr Qc)
def Qm5 (z:(Int×Unit))(zs:List (Int×Unit))(Zr Qc:List Int):OX:=br (QM Zr ([z.1]) 8) (Qm4 zs (Zr++([z.1])) Qc) none
def Qm6 (zs:List (Int×Unit))(Zr Qc:List Int):OX:=some (.normal,VN (Zr++zs.map (fun z=>z.1)) (Qc))
theorem QNm (z:(Int×Unit))(Zr Qc:List Int):WD Im Gq (.pr tI .nil) [7] Qe9 Qfa z (VN Zr Qc)=Qzt z Zr Qc:=by kernel_rfl
theorem QNn (z:(Int×Unit))(zs:List (Int×Unit))(Zr Qc:List Int):Qm4 (z::zs) Zr Qc=Qm5 z zs Zr Qc:=(QuJ _ _ _ _).trans (by
 rw [QNm]
 simp only [Qzt,Qm5,Gf,G3,G4,G5,G6]
 rfl)
def Qzu (d0:List Int):OV:=br (XW d0) (br (decide ((WR d0).length+([]:List Int).length<=100000)) (some (.ms 50001,[.box (.t (.sl tI) (d0)),.arr 3 tI (([]:List Int)++(WR d0).map (fun z=>z.1))])) none) none
theorem QNo (zs:List (Int×Unit))(Zr Qc:List Int)(h:(decide (zs.length+Zr.length<=100000))=true):Qm4 zs Zr Qc=Qm6 zs Zr Qc:=by
 induction zs generalizing Zr with
 |nil=>
  simp only [Qm6,List.map_nil,BQ]
  rfl
 |cons z zs ih=>
  rw [QNn]
  have h:=Bx h
  rw [Bv] at h
  have c1:QM Zr [z.1] 8=true:=Jk (by omega) (by simp only [Bq];omega)
  simp only [Qm5,c1,Qb]
  rw [ih (Zr++[z.1]) (Be (by simp only [Bm,Bq];omega))]
  simp only [Qm6,BJ,BU,BN]
theorem QNp: ∀ S (rows:List (Ty.T (.pr tI .nil))) l p,Im.R 0 (fgt Gq S) (.pr tI .nil) rows=some (true,l)->Yz l=some p->Xm (WD Im Gq (.pr tI .nil) [7] Qe9 Qfa) rows (fgt Gq S)=some p:=by
 intro S rows l p hR hp
 rw [show Im.R 0 (fgt Gq S) (.pr tI .nil) rows=Qfb (fgt Gq S) rows from RL_at (l:=[⟨(.pr tI .nil),Qfb⟩]) (j:=0) (F:=Qfb) rfl _ _] at hR
 refine QuI (s:=Qe8) ⟨by decide,by decide⟩ (by kernel_rfl) (fun zs x y hok p hp=> ?_) S rows l p hR hp
 simp only [QE,QF] at hp
 exact (QNo zs y.2.2.1 y.2.2.2.1 (by first|rfl|simpa using hok)).trans hp
theorem QNq (l:List Int):(WR l).map (fun z=>z.1)=l:=by
 unfold WR
 rw [DN]
 exact List.map_id _
theorem QNr (l:List Int)(h:XW l=true):Qzu l=some (.ms 50001,[.box (.t (.sl tI) l),.arr 3 tI (idL l)]):=by
 have hl:l.length<=100000:=Bx h
 have c1:decide ((WR l).length+([]:List Int).length<=100000)=true:=Be (by simp only [WR,BR,BB];omega)
 simp only [Qzu,h,Qb]
 refine Eq.trans (congrArg (fun b=>br b _ _) c1) ?_
 rw [Qb,BP,QNq]
 rfl
def Qzv:Ent:=XP [.nl,.fn 171 [(50000,0)]] [.box (.sl tI)] (fun x y=>(XW y.1)) (fun x y=>(.ms 50001)) (fun x y=>[.box (.t (.sl tI) y.1),.arr 3 tI (idL y.1)])
theorem QNs:EM 201 Qzv:=mS (lk:=(by repeat first|exact trivial|exact QNp|constructor)) Im QNl [((.t 4),none)] true (ZX _ (fun p hp=>by cases hp) [(1000171,Qeg)] (by
 intro p hp
 simp only [B5,Do,or_false] at hp
 rcases hp with rfl
 ·exact QLA)) fun m=>Wo (Wp m fun x y hok=>kT (QNr y.1 hok))
def QNt:TC:=aF Tryz.f169 []
def QNu:G:=gG 5 [(201,Qzv)] (fun _ _=>none)
def Qzw (d0:List Int):OV:=br (XW d0) (some (.ms 50001,[.box (.t (.sl tI) d0),.arr 3 tI (idL d0)])) none
theorem QNv (l:List Int)(h:XW l=true):Qzw l=some (.ms 50001,[.box (.t (.sl tI) l),.arr 3 tI (idL l)]):=by
 simp only [Qzw,h,Qb]
def Qzx:Ent:=XP [.fn 171 [(50000,0)]] [.box (.sl tI)] (fun x y=>(XW y.1)) (fun x y=>(.ms 50001)) (fun x y=>[.box (.t (.sl tI) y.1),.arr 3 tI (idL y.1)])
theorem QNw:EM 169 Qzx:=mS QNu QNt [((.t 2),none)] true (gB (gD QNs gN)) fun m=>Wo (Wp m fun x y hok=>kT (QNv y.1 hok))
def QNx:TC:=aF Tryz.f133 []
def QNy:G:=gG 9 [(169,Qzx),(170,QwC)] (fun _ _=>none)
def Qzy (d0:List Int):OV:=br (XW d0) (br (QcX (idL d0)) (some (.ms 50001,[.box (.t (.sl tI) d0),.arr 3 tI (Yp (idL d0))])) none) none
theorem QNz (l:List Int)(h:XW l=true):Qzy l=some (.ms 50001,[.box (.t (.sl tI) l),.arr 3 tI (Il l)]):=by
 have hl:l.length<=100000:=Bx h
 have c1:QcX (idL l)=true:=Be (by show l.length<_;omega)
 simp only [Qzy,h,c1,Qb]
 rfl
def Qzz:Ent:=XP [.fn 171 [(50000,0)]] [.box (.sl tI)] (fun x y=>(XW y.1)) (fun x y=>(.ms 50001)) (fun x y=>[.box (.t (.sl tI) y.1),.arr 3 tI (Il y.1)])
theorem QNA:EM 133 Qzz:=mS QNy QNx [((.t 2),none)] true (gB (gD QNw (gC QKT QKU gN))) fun m=>Wo (Wp m fun x y hok=>kT (QNz y.1 hok))
end
end Go.Proofs.YtmjnnemhoeolgaaGreat.K
noncomputable section
namespace Go.Proofs.YtmjnnemhoeolgaaGreat.K
open Go.RowKit
noncomputable section
def X8 (t:Talk)(v:Int)(l:List Int):List Keep:=(l.filter fun j=>Gp t j).map fun j=>(v,(j,()))
theorem QPC {t:Talk}{v x:Int}{r:List Int}:X8 t v (x::r)=if Gp t x=true then (v,(x,()))::X8 t v r else X8 t v r:=by
 unfold X8
 rw [List.filter_cons]
 split<;>rfl
theorem QPD (t:Talk)(v:Int)(l:List Int):(X8 t v l).length<=l.length:=by
 unfold X8
 rw [BR]
 exact List.length_filter_le _ _
def Gu (s:Endpoint)(o l:List Int)(v n:Nat):List Keep:=(List.range' v n).flatMap fun (j:Nat)=>X8 (s,((j:Int),(o,()))) (j:Int) l
theorem QPE {s:Endpoint}{o:List Int}{v n:Nat}(h:ZW o=true):Gu s o (Yp o) v n=W4 s o v n:=by
 unfold Gu W4
 congr 1
 funext j
 exact QIW h
abbrev Qf3:Sh:=⟨[(2,.ptr 2 0),(3,.ptr 3 0),(5,.ms 5),(6,.ms 18),(7,.ty tI),(8,.ptr 8 0),(38,.ms 18),(39,.ty tI),(40,.ty tI)],[(2,.box Qo),(3,.box Qo),(5,.arr 54 Qd),(8,.box Qal),(18,.arr 3 tI),(52,.no),(5018,.no),(10018,.no),(15018,.no)]⟩
abbrev Qae:Sh:=⟨[(2,.ptr 2 0),(3,.ptr 3 0),(5,.ms 5),(6,.ms 18),(7,.ty tI)],[(2,.box Qo),(3,.box Qo),(5,.arr 54 Qd),(18,.arr 3 tI),(52,.no),(5018,.no),(10018,.no),(15018,.no)]⟩
abbrev QBs:Sh:=⟨[(5,.ms 5)],[(5,.arr 54 Qd),(52,.no)]⟩
def Qom:Fg:=Qf3.f
def Qon:Fg:=Qae.f
def Qoo:TC:=aF Tryz.f95 [(250,.nw 5 54),(250,pL 1 Qon),(4003,.fg QBs.f),(32038,.nw 5 54),(32038,pL 0 Qom),(512613,.fg Qae.f)]
def QBt:TC:=lb 0 Qoo
def QBu:TC:=lb 1 Qoo
def QBv (x7 x39 x40:Int)(y2 y3:Endpoint)(y5:List Keep)(y8:Talk)(y18:List Int):VS:=Qf3.st ((),(),(),(),x7,(),(),x39,x40,()) (y2,y3,y5,y8,y18,(),(),(),(),())
def Qaf (x7:Int)(y2 y3:Endpoint)(y5:List Keep)(y18:List Int):VS:=Qae.st ((),(),(),(),x7,()) (y2,y3,y5,y18,(),(),(),(),())
def Qop (y5:List Keep):VS:=QBs.st ((),()) (y5,(),())
def QPF:VS->Option (Bool×List (Bool×Exit×VS)):=mkL Qf3 (fun x y=>(decide (x.2.2.2.2.2.2.2.1=(y.2.2.2.2.1.length:Int)/\0<=x.2.2.2.2.2.2.2.2.1/\x.2.2.2.2.2.2.2.2.1<=x.2.2.2.2.2.2.2.1/\y.2.2.2.2.1.length<=16/\(y.2.2.1.length:Int)<=200+x.2.2.2.2.2.2.2.2.1)&&UH y.2.2.2.1 0)) (fun x y=>[(true,.exit 2,Qaf (x.2.2.2.2.1) (y.1) (y.2.1) (y.2.2.1++X8 y.2.2.2.1 x.2.2.2.2.1 (y.2.2.2.2.1.drop x.2.2.2.2.2.2.2.2.1.toNat)) (y.2.2.2.2.1))])
def QPG:VS->Option (Bool×List (Bool×Exit×VS)):=mkL Qae (fun x y=>(decide (1<=x.2.2.2.2.1/\x.2.2.2.2.1<=5/\hiC y.1 y.2.1<=4/\(y.2.2.1.length:Int)<=16*x.2.2.2.2.1/\y.2.2.2.1.length<=16)&&UG y.2.1 (Qq y.1))) (fun x y=>[(true,.exit 0,Qop (y.2.2.1++Gu y.2.1 (Qq y.1) y.2.2.2.1 x.2.2.2.2.1.toNat (hiC y.1 y.2.1+1-x.2.2.2.2.1).toNat))])
def Qag:G:=gG 55 [(132,Qza),(133,Qzz),(134,Qxr),(135,QmW)] (Ls [QPF,QPG])
def Qah (x7 x39 x40:Int)(y2 y3:Endpoint)(y5:List Keep)(y8:Talk)(y18:List Int):OX:=Qr (Qv Qag Qom QBt) (QBv x7 x39 x40 y2 y3 y5 y8 y18)
def Qai (kk:Int->Int->Int->Endpoint->Endpoint->List Keep->Talk->List Int->OX)(x7 x39 x40:Int)(y2 y3:Endpoint)(y5:List Keep)(y8:Talk)(y18:List Int):OX:=
 let a1:=lgt tI y18 (Int.toNat x40)
 br (ilt x40 x39) (br (cIx y18 x40) (br (cLd y18 (Int.toNat x40)) (br (UH y8 a1) (br (Gp y8 a1) (br (QM y5 ([(x7,(a1,()))]) 16) (kk x7 x39 (Qg .i64 x40 1) y2 y3 (y5++([(x7,(a1,()))])) y8 y18) none) (kk x7 x39 (Qg .i64 x40 1) y2 y3 y5 y8 y18)) none) none) none) (some (.exit 2,Qaf x7 y2 y3 y5 y18))
def Qaj (x7 x39 x40:Int)(y2 y3:Endpoint)(y5:List Keep)(y8:Talk)(y18:List Int):OX:=some (.exit 2,Qaf (x7) (y2) (y3) (y5++X8 y8 x7 (y18.drop x40.toNat)) (y18))
theorem QBw (x7 x39 x40:Int)(y2 y3:Endpoint)(y5:List Keep)(y8:Talk)(y18:List Int):Qah x7 x39 x40 y2 y3 y5 y8 y18=Qai Qah x7 x39 x40 y2 y3 y5 y8 y18:=lnT (x:=Qai (fun x7 x39 x40 y2 y3 y5 y8 y18=>some (.normal,QBv x7 x39 x40 y2 y3 y5 y8 y18)) x7 x39 x40 y2 y3 y5 y8 y18) (by simp only [Qai,nxA];rfl)
def Qf4 (x7:Int)(y2 y3:Endpoint)(y5:List Keep)(y18:List Int):OX:=Qr (Qv Qag Qon QBu) (Qaf x7 y2 y3 y5 y18)
def IH (kk:Int->Endpoint->Endpoint->List Keep->List Int->OX)(x7:Int)(y2 y3:Endpoint)(y5:List Keep)(y18:List Int):OX:=
 let a1:=((y3.1,(y3.2.1,(y3.2.2.1,(y3.2.2.2.1,(y3.2.2.2.2.1,(y3.2.2.2.2.2.1,(y3.2.2.2.2.2.2.1,(y3.2.2.2.2.2.2.2.1,(y3.2.2.2.2.2.2.2.2.1,()))))))))),(x7,(y2.2.2.2.1,())))
 br (ile x7 (imn y2.2.2.1 y3.2.2.1)) (br (decide ((Qa y18)=(y18.length:Int)/\0<=(0:Int)/\(0:Int)<=(Qa y18)/\y18.length<=16/\(y5.length:Int)<=200+(0:Int))&&UH a1 0) (kk (Qg .i64 (x7) 1) (y2) (y3) (y5++X8 a1 x7 (y18.drop (0:Int).toNat)) (y18)) none) (some (.exit 0,Qop y5))
def Qak (x7:Int)(y2 y3:Endpoint)(y5:List Keep)(y18:List Int):OX:=some (.exit 0,Qop (y5++Gu y3 (Qq y2) y18 x7.toNat (hiC y2 y3+1-x7).toNat))
theorem QBx (x7:Int)(y2 y3:Endpoint)(y5:List Keep)(y18:List Int):Qf4 x7 y2 y3 y5 y18=IH Qf4 x7 y2 y3 y5 y18:=lnT (x:=IH (fun x7 y2 y3 y5 y18=>some (.normal,Qaf x7 y2 y3 y5 y18)) x7 y2 y3 y5 y18) (by simp only [IH,nxA];rfl)
def r_f95 (p0 p1:Endpoint):OV:=
 let a1:=imx p0.2.1 p1.2.1
 br (WW p0 p1) (br (!(XB p0 p1)) (some (.t (.sl Qd) ([]:List Keep),[])) (br (XW p0.2.2.2.1) (br (decide (1<=a1/\a1<=5/\hiC p0 p1<=4/\(([]:List Keep).length:Int)<=16*a1/\(Il p0.2.2.2.1).length<=16)&&UG p1 (Qq p0)) (some (.t (.sl Qd) (([]:List Keep)++Gu p1 (Qq p0) (Il p0.2.2.2.1) a1.toNat (hiC p0 p1+1-a1).toNat),[])) none) none)) none
theorem QPH (x7 x39 x40:Int)(y2 y3:Endpoint)(y5:List Keep)(y8:Talk)(y18:List Int)(h:(decide (x39=(y18.length:Int)/\0<=x40/\x40<=x39/\y18.length<=16/\(y5.length:Int)<=200+x40)&&UH y8 0)=true):Qah x7 x39 x40 y2 y3 y5 y8 y18=Qaj x7 x39 x40 y2 y3 y5 y8 y18:=by
 obtain ⟨h,hc⟩:=Bg.1 h
 obtain ⟨rfl,h1,h2,h3,h4⟩:=Bx h
 clear h
 obtain ⟨k,rfl⟩:=Bo h1
 have key: ∀ k,k<=y18.length→ ∀ y5:List Keep,y5.length<=200+k->Qah x7 (y18.length:Int) (k:Int) y2 y3 y5 y8 y18=Qaj x7 (y18.length:Int) (k:Int) y2 y3 y5 y8 y18:=by
  refine QP y18 (fun k=> ∀ y5:List Keep,y5.length<=200+k->Qah x7 (y18.length:Int) (k:Int) y2 y3 y5 y8 y18=Qaj x7 (y18.length:Int) (k:Int) y2 y3 y5 y8 y18) ?_ ?_
  ·intro y5 _
   rw [QBw]
   simp only [Qai,Qaj,Qz,BT,B0,Qf,Bc,BK,X8,List.filter_nil,List.map_nil,BQ]
  ·intro k hk ih y5 hy
   rw [QBw]
   have c1:cLd y18 k=true:=Be (by omega)
   have c2: ∀ v,UH y8 v=true:=fun v=>hc
   have c3: ∀ v:Keep,QM y5 [v] 16=true:=fun v=>Jk (by omega) (by simp only [Bq];omega)
   simp only [Qai,Qz,QJ,hk,Bt,Qb,Bc,QO (show k<4611686018427387904 by omega),QL (y:=tI) hk,c1,c2,c3]
   rw [ih y5 (by omega),ih (y5++[(x7,(y18[k],()))]) (by simp only [Bm,Bq];omega)]
   simp only [Qaj,Bc,Bi hk,QPC]
   cases Gp y8 y18[k] with
   |true=>simp only [Qb,if_true,BU,BN]
   |false=>simp only [Qf,BF,Dd]
 exact key k (by omega) y5 (by omega)
theorem QPI (x7:Int)(y2 y3:Endpoint)(y5:List Keep)(y18:List Int)(h:(decide (1<=x7/\x7<=5/\hiC y2 y3<=4/\(y5.length:Int)<=16*x7/\y18.length<=16)&&UG y3 (Qq y2))=true):Qf4 x7 y2 y3 y5 y18=Qak x7 y2 y3 y5 y18:=by
 obtain ⟨h,hc⟩:=Bg.1 h
 obtain ⟨h0,h1,h2,h3,h4⟩:=Bx h
 clear h
 obtain ⟨k,rfl⟩:=Bo (show 0<=x7 by omega)
 have key: ∀ (m k:Nat) (y5:List Keep),m=5-k->1<=k->k<=5->y5.length<=16*k->Qf4 (k:Int) y2 y3 y5 y18=Qak (k:Int) y2 y3 y5 y18:=by
  intro m
  induction m with
  |zero=>
   intro k y5 hm h0 h1 h3
   have:k=5:=by omega
   subst this
   rw [QBx]
   have e:(hiC y2 y3+1-((5:Nat):Int)).toNat=0:=by omega
   simp only [IH,Qak,show ile ((5:Nat):Int) (imn y2.2.2.1 y3.2.2.1)=false from Bl (by show ¬ _<=hiC y2 y3;omega),Qf,e,Gu,List.range'_zero,List.flatMap_nil,BQ]
  |succ m ih=>
   intro k y5 hm h0 h1 h3
   rw [QBx]
   by_cases hk:(k:Int)<=hiC y2 y3
   ·have e1:(hiC y2 y3+1-(k:Int)).toNat=(hiC y2 y3+1-((k+1:Nat):Int)).toNat+1:=by omega
    have c0:(decide (True/\(0:Int)<=0/\(0:Int)<=Qa y18/\y18.length<=16/\(y5.length:Int)<=200+0)&&UH (y3,((k:Int),(Qq y2,()))) 0)=true:=Bg.2 ⟨Be ⟨trivial,by simp only [Qa];omega⟩,hc⟩
    have hr:=QPD (y3,((k:Int),(Qq y2,()))) (k:Int) y18
    have hi:=ih (k+1) (y5++X8 (y3,((k:Int),(Qq y2,()))) (k:Int) y18) (by omega) (by omega) (by omega) (by simp only [Bm];omega)
    simp only [IH,show ile (k:Int) (imn y2.2.2.1 y3.2.2.1)=true from Be hk,Qb,QO (show k<4611686018427387904 by omega),eEta]
    refine Eq.trans (congrArg (fun b=>br b _ _) c0) ?_
    rw [Qb]
    refine Eq.trans hi ?_
    simp only [Qak,Bc,e1,Gu,Dr,BO,BU]
   ·have e1:(hiC y2 y3+1-(k:Int)).toNat=0:=by omega
    simp only [IH,show ile (k:Int) (imn y2.2.2.1 y3.2.2.1)=false from Bl hk,Qf,Qak,e1,Gu,List.range'_zero,List.flatMap_nil,BQ]
 exact key (5-k) k y5 rfl (by omega) (by omega) (by omega)
theorem QPJ:LO Qag Qom QBt 0:=QH (s:=Qf3) fun x y h _ q=>by simp only [QE,QF] at q;exact (QPH x.2.2.2.2.1 x.2.2.2.2.2.2.2.1 x.2.2.2.2.2.2.2.2.1 y.1 y.2.1 y.2.2.1 y.2.2.2.1 y.2.2.2.2.1 h).trans q
theorem QPK:LO Qag Qon QBu 1:=QH (s:=Qae) fun x y h _ q=>by simp only [QE,QF] at q;exact (QPI x.2.2.2.2.1 y.1 y.2.1 y.2.2.1 y.2.2.2.1 h).trans q
theorem s_f95 (c s:Endpoint)(h:WW c s=true):r_f95 c s=some (.t (.sl Qd) (Z4 c s),[]):=by
 obtain ⟨hc,hs⟩:=Bg.1 h
 have hs':=XT hs
 have hc':=XT hc
 have c1:XW (Qq c)=true:=Be hc'.2.1
 simp only [r_f95,h,c1,Qb]
 unfold Z4
 cases hr:XB c s with
 |false=>rfl
 |true=>
  obtain ⟨hv,hw⟩:=Bg.1 hr
  have v1:=WL hv
  have v2:=WL hw
  have hsu:=QIX hv
  have b1:1<=loC c s/\loC c s<=4:=by simp only [loC,imx];omega
  have b2:hiC c s<=4:=by simp only [hiC,imn];omega
  have b3:(Il (Qq c)).length<=16:=by
   show (Yp (Qq c)).length<=16
   rw [show (Yp (Qq c)).length=(Qq c).length from List.length_mergeSort _]
   exact Qx2 hsu
  have c0:(decide (1<=loC c s/\loC c s<=5/\hiC c s<=4/\(([]:List Keep).length:Int)<=16*loC c s/\(Il (Qq c)).length<=16)&&UG s (Qq c))=true:=Bg.2 ⟨Be ⟨b1.1,by omega,b2,by simp only [BB];omega,b3⟩,Be ⟨hs'.2.2.1,hs'.2.1,hc'.2.1⟩⟩
  rw [BC,Qf,BM]
  refine Eq.trans (congrArg (fun b=>br b _ _) c0) ?_
  rw [Qb, ← QPE hsu]
  rfl
def QBy:Ent:=Qi (.pr Qo (.pr Qo .nil)) (fun x=>(WW x.1 x.2.1)) (fun x=>(.t (.sl Qd) (Z4 x.1 x.2.1)))
theorem ms_f95:EM 95 QBy:=mS (lk:=lkL (lkc QPK (lkc QPJ lkn))) Qag Qoo [((.t 4),some (.sl Qd))] false (gB (gD QMV (gD QNA (gD QLz (gD Qy6 gN))))) fun m=>Qm m fun x hok=>kT (s_f95 x.1 x.2.1 hok)
end
end Go.Proofs.YtmjnnemhoeolgaaGreat.K
noncomputable section
namespace Go.Proofs.YtmjnnemhoeolgaaGreat.K
open Go.RowKit
noncomputable section
end
end Go.Proofs.YtmjnnemhoeolgaaGreat.K
noncomputable section
namespace Go.Proofs.YtmjnnemhoeolgaaGreat.K
open Go.RowKit
noncomputable section
theorem QLt {l:List (List Int)}(h: ∀ x∈l,x.length<=4)(k:Nat):(lgt (.sl tI) l k).length<=4:=by
 show (l.getD k []).length<=4
 rw [Bk]
 cases hk:l[k]? with
 |none=>exact BX _
 |some x=>exact h x (Dp hk)
attribute [local irreducible] epV epN prZ
end
end Go.Proofs.YtmjnnemhoeolgaaGreat.K
noncomputable section
namespace Go.Proofs.YtmjnnemhoeolgaaGreat.K
open Go.RowKit
noncomputable section
end
end Go.Proofs.YtmjnnemhoeolgaaGreat.K
