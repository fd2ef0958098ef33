import Derived.Test.YthlcobdnemhcdaaGreatW5
import Derived.Test.YthlcobdnemhcdaaGreatW3
import Derived.Test.YthlcobdnemhcdaaGreatW4
import Derived.RangeFuncCalls
import Derived.RangeFuncBound
import Derived.Shelf.RegionOpen
import Derived.OwnWalkIn
import Derived.TacticsInMore
import Derived.LoopNIn
import Derived.LoopIn
set_option linter.unusedSimpArgs false
set_option linter.unusedVariables false
noncomputable section
namespace Go.Proofs.YthlcobdnemhcdaaGreat.K
open Go.RowKit
noncomputable section
theorem QQU {c:Int}(h:ieq (Zm c).2 0=true):1<=c/\c<=16:=by
 unfold Zm at h
 split at h
 ·simp [ieq] at h
 ·omega
theorem QCS {l:List Int}(h:Xb l=true): ∀ (k:Nat) (hk:k<l.length),(1<=l[k]/\l[k]<=16)∧ ¬ l[k]∈l.take k:=by
 intro k hk
 simp only [Xb,Xa,Bi,List.mem_range'_1,Bc,Bx] at h
 obtain ⟨h1,h2⟩:=h k ⟨by omega,by omega⟩
 simp only [Bt,Bk hk,B3] at h1 h2
 refine ⟨QQU h1,fun hm=> ?_⟩
 simp only [J6] at h2
 rw [BO.2 hm] at h2
 cases h2
theorem QQV {l:List Int}(h:Xb l=true):l.Nodup:=by
 have h2:=QCS h
 rw [List.nodup_iff_pairwise_ne,List.pairwise_iff_getElem]
 intro i j hi hj hij he
 refine (h2 j hj).2 ?_
 rw [←he]
 exact List.mem_iff_getElem.2 ⟨i,by rw [B4];omega,by rw [List.getElem_take]⟩
theorem QQW {l:List Int}(h:Xb l=true):l.length<=16:=by
 have h1:=QQV h
 have h2:=QCS h
 have h3:l ⊆ [1,2,3,4,5,6,7,8,9,10,11,12,13,14,15,16]:=by
  intro x hx
  obtain ⟨k,hk,rfl⟩:=List.mem_iff_getElem.1 hx
  have:=(h2 k hk).1
  simp only [BA,BQ,Dd]
  omega
 exact h1.length_le_of_subset h3
abbrev JM (e:Endpoint):List Int:=e.2.2.2.1
abbrev Jl (e:Endpoint):List Identity:=e.2.2.2.2.2.1
abbrev JF (e:Endpoint):List Int:=e.2.2.2.2.2.2.1
abbrev JR (e:Endpoint):List Int:=e.2.2.2.2.2.2.2.1
def Xd (x:Identity):Bool:=Xm x.1 x.2.1 x.2.2.1
def J0 (x:Identity):Bool:=JJ x.2.2.1
def Jd (e:Endpoint):Bool:=Jn e.1&&decide ((JM e).length<=100000/\(Jl e).length<=100000/\(JF e).length<=100000/\(JR e).length<=100000)&&(Jl e).all J0
def Q6 (e:Endpoint):Bool:=
 Y9 e.1&&(!ilt e.2.1 1&&(!igt e.2.1 e.2.2.1&&(!igt e.2.2.1 4&&(Xb (JM e)&&(!igt (Qc (Jl e)) 4&&(!igt (Qc (JF e)) 16&&(Wi (JF e)&&(Wi (JR e)&&((Jl e).all Xd&&((JF e).all Js&&(JR e).all Un))))))))))
def UU (e:Endpoint):Int:=bif Q6 e then 0 else 19
theorem QCT (e:Endpoint):ine (UU e) 0= !Q6 e:=by
 unfold UU
 cases Q6 e<;>rfl
abbrev Qg1:Sh:=⟨[(1,.ptr 1 0),(56,.ty (.sl QX)),(57,.ty tI),(58,.ty tI)],[(1,.box QC)]⟩
abbrev OA:Sh:=⟨[(2,.ty tI)],[]⟩
abbrev Qbx:Sh:=⟨[(1,.ptr 1 0)],[(1,.box QC)]⟩
def QpI:Fg:=Qg1.f
def QCU:TC:=aF Tryz.f119 [(122,pL 0 QpI),(1957,.fg Qbx.f),(62669,.fg OA.f),(252,pD [(0,[1]),(1,[1]),(2,[]),(3,[74,5074,10074,15074]),(4,[74,75,5074,5075,10074,10075,15074,15075]),(5,[]),(6,[1]),(7,[1]),(8,[]),(9,[80,5080,10080,15080]),(10,[80,81,5080,5081,10080,10081,15080,15081]),(11,[])] (.of [0,1,2,3,4,5,6,7,8,9,10,11]))]
def QCV:TC:=lb 0 QCU
def QCW (x56:List Identity)(x57 x58:Int)(y1:Endpoint):VS:=Qg1.st ((),x56,x57,x58,()) (y1,())
def Yg (x2:Int):VS:=OA.st (x2,()) ()
def WM (y1:Endpoint):VS:=Qbx.st ((),()) (y1,())
def QQX:VS->Option (Bool×List (Bool×Exit×VS)):=mkL Qg1 (fun x y=>(QD x.2.1 x.2.2.1 x.2.2.2.1&&x.2.1.all J0)) (fun x y=>[((!(x.2.1.drop x.2.2.2.1.toNat).all Xd),.ret,Yg (19)),(true,.exit 0,WM (y.1))])
def QpJ:G:=gG 83 [(168,QAt),(169,QAQ),(170,QAF),(171,QsU),(172,QA7),(172,QBo),(174,QBj),(174,QA2)] (Ls [QQX])
def Qg2 (x56:List Identity)(x57 x58:Int)(y1:Endpoint):OX:=Qx (QA QpJ QpI QCV) (QCW x56 x57 x58 y1)
def Qby (kk:List Identity->Int->Int->Endpoint->OX)(x56:List Identity)(x57 x58:Int)(y1:Endpoint):OX:=
 let a1:=lgt QX x56 (Int.toNat x58)
 br (ilt x58 x57) (br (cIx x56 x58) (br (Fd (a1.1) ((a1.2).1) (((a1.2).2).1)) (br (!(Xm (a1.1) ((a1.2).1) (((a1.2).2).1))) (some (.ret,Yg 19)) (kk x56 x57 (Qj .i64 x58 1) y1)) none) none) (some (.exit 0,WM y1))
def Qg3 (x56:List Identity)(x57 x58:Int)(y1:Endpoint):OX:=br (!(x56.drop x58.toNat).all Xd) (some (.ret,Yg (19)))<|some (.exit 0,WM (y1))
theorem QCX (x56:List Identity)(x57 x58:Int)(y1:Endpoint):Qg2 x56 x57 x58 y1=Qby Qg2 x56 x57 x58 y1:=lnT (x:=Qby (fun x56 x57 x58 y1=>some (.normal,QCW x56 x57 x58 y1)) x56 x57 x58 y1) (by simp only [Qby,nxA];rfl)
def QCY (p0:Endpoint):OV:=
 let a1:=(((((((p0).2).2).2).2).2).2)
 br (Jn p0.1) (br (!(Y9 p0.1)) (some (.t tI 19,[])) (br (ilt p0.2.1 1) (some (.t tI 19,[])) (br (igt p0.2.1 p0.2.2.1) (some (.t tI 19,[])) (br (igt p0.2.2.1 4) (some (.t tI 19,[])) (br (Zr p0.2.2.2.1) (br (!(Xb p0.2.2.2.1)) (some (.t tI 19,[])) (br (igt (Qc p0.2.2.2.2.2.1) 4) (some (.t tI 19,[])) (br (igt (Qc p0.2.2.2.2.2.2.1) 16) (some (.t tI 19,[])) (br (Zr p0.2.2.2.2.2.2.1) (br (!(Wi p0.2.2.2.2.2.2.1)) (some (.t tI 19,[])) (br (Zr p0.2.2.2.2.2.2.2.1) (br (!(Wi p0.2.2.2.2.2.2.2.1)) (some (.t tI 19,[])) (br (QD p0.2.2.2.2.2.1 (Qc p0.2.2.2.2.2.1) (0:Int)&&p0.2.2.2.2.2.1.all J0) (br (!(p0.2.2.2.2.2.1.drop (0:Int).toNat).all Xd) (some (.t tI (19),[])) (br (Zr (a1.1)) (br (ED (a1.1)) (some (.t tI 19,[])) (br (Zr ((a1.2).1)) (br (EE ((a1.2).1)) (some (.t tI 19,[])) (some (.t tI 0,[]))) none)) none)) none)) none)) none)))) none))))) none
theorem QQY (x56:List Identity)(x57 x58:Int)(y1:Endpoint)(h:(QD x56 x57 x58&&x56.all J0)=true):Qg2 x56 x57 x58 y1=Qg3 x56 x57 x58 y1:=by
 simp only [Bc,Bi] at h
 obtain ⟨h0,hc⟩:=h
 obtain ⟨rfl,h3,k,rfl,hk⟩:=JG h0
 clear h0
 refine QQ x56 (fun k=>Qg2 x56 (x56.length:Int) (k:Int) y1=Qg3 x56 (x56.length:Int) (k:Int) y1) ?_ ?_ k hk
 ·rw [QCX]
  simp only [Qby,Qg3,Qy,BN,BM,Qi,Bb,BS,DH,BF]
 ·intro k hk ih
  rw [QCX]
  have hx:Fd x56[k].1 x56[k].2.1 x56[k].2.2.1=true:=hc x56[k] (Bw hk)
  simp only [Qby,Qy,QK,hk,Bo,Qf,Bb,QO (show k<4611686018427387904 by omega),QL (y:=QX) hk,hx,ih]
  simp only [Qg3,Bb,Bg hk,B0,Xd]
  cases Xm x56[k].1 x56[k].2.1 x56[k].2.2.1<;>rfl
theorem QQZ:LO QpJ QpI QCV 0:=QI (s:=Qg1) fun x y h _ q=>by simp only [QG,QH] at q;exact (QQY x.2.1 x.2.2.1 x.2.2.2.1 y.1 h).trans q
theorem s_f119 (e:Endpoint)(h:Jd e=true):QCY e=some (.t tI (UU e),[]):=by
 simp only [Jd,Bc,Ba] at h
 obtain ⟨⟨h1,h2,h3,h4,h5⟩,h6⟩:=h
 have q2:Zr (JM e)=true:=Be h2
 have q4:Zr (JF e)=true:=Be h4
 have q5:Zr (JR e)=true:=Be h5
 unfold UU
 simp only [QCY,h1,q2,q4,q5,JH h3,h6,B6,Qf,By,BG,ED,EE]
 refine br9 (fun g=>by simp only [Bx] at g;simp [Q6,g]) fun g1=>br9 (fun g=>by simp [Q6,g]) fun g2=>br9 (fun g=>by simp [Q6,g]) fun g3=>br9 (fun g=>by simp [Q6,g]) fun g4=>br9 (fun g=>by simp only [Bx] at g;simp [Q6,g]) fun g5=>br9 (fun g=>by simp [Q6,g]) fun g6=>br9 (fun g=>by simp [Q6,g]) fun g7=>br9 (fun g=>by simp only [Bx] at g;simp [Q6,g]) fun g8=>br9 (fun g=>by simp only [Bx] at g;simp [Q6,g]) fun g9=>br9 (fun g=>by simp only [Bx] at g;simp [Q6,g]) fun g10=>br9 (fun g=>by simp only [Bx] at g;simp [Q6,g]) fun g11=>br9 (fun g=>by simp only [Bx] at g;simp [Q6,g]) fun g12=> ?_
 simp only [Bool.not_eq_false'] at g1 g5 g8 g9 g10 g11 g12
 have:Q6 e=true:=by
  simp only [Q6,g1,g2,g3,g4,g5,g6,g7,g8,g9,g10,g11,g12,DB,B6]
 rw [this]
 rfl
def QCZ:Ent:=Qo (.pr QC .nil) (fun x=>(Jd x.1)) (fun x=>(.t tI (UU x.1)))
theorem QQ0:EM 119 QCZ:=mS (lk:=lkL (lkc QQZ lkn)) QpJ QCU [((.t 2),some tI)] false (gB (gD QON (gD QO2 (gD QOW (gD QH4 (gD QPi (gD QPy (gD QPv (gD QPf gN))))))))) fun m=>Qs m fun x hok=>kT (s_f119 x.1 hok)
abbrev Qg4:Sh:=⟨[(1,.ptr 1 0),(3,.ty tI)],[(1,.box QC)]⟩
abbrev Qg5:Sh:=⟨[(1,.ptr 1 0),(6,.ty tI)],[(1,.box QC)]⟩
abbrev Qg6:Sh:=⟨[(1,.ptr 1 0),(7,.ty tI)],[(1,.box QC)]⟩
abbrev Qg7:Sh:=⟨[(1,.ptr 1 0),(8,.ty tI)],[(1,.box QC)]⟩
abbrev QC0:Sh:=⟨[],[]⟩
def QpK:Fg:=Qg4.f
def QpL:Fg:=Qg5.f
def QpM:Fg:=Qg6.f
def QpN:Fg:=Qg7.f
def Qbz:TC:=aF Tryz.f129 [(58,pL 0 QpK),(931,.fg Qbx.f),(3730,pD [(0,[]),(1,[]),(2,[]),(3,[1]),(4,[1]),(5,[]),(6,[]),(7,[1]),(8,[1]),(9,[]),(10,[]),(11,[]),(12,[]),(13,[])] (.of [0,1,2,3,4,5,6,7,8,9,10,11,12,13])),(14925,.fg OA.f),(122,pL 1 QpL),(1955,.fg Qbx.f),(3912,pD [(0,[1]),(1,[1]),(2,[]),(3,[]),(4,[]),(5,[]),(6,[1]),(7,[1]),(8,[]),(9,[]),(10,[]),(11,[]),(12,[1]),(13,[1]),(14,[]),(15,[]),(16,[]),(17,[]),(18,[]),(19,[])] (.of [0,1,2,3,4,5,6,7,8,9,10,11,12,13,14,15,16,17,18,19])),(15653,.fg OA.f),(250,pL 2 QpM),(4003,.fg Qbx.f),(8008,pD [(0,[1]),(1,[1]),(2,[]),(3,[]),(4,[]),(5,[]),(6,[]),(7,[1]),(8,[1]),(9,[]),(10,[]),(11,[]),(12,[]),(13,[]),(14,[]),(15,[]),(16,[]),(17,[]),(18,[1]),(19,[1]),(20,[]),(21,[]),(22,[]),(23,[]),(24,[1]),(25,[1]),(26,[]),(27,[]),(28,[]),(29,[]),(30,[]),(31,[])] (.of [0,1,2,3,4,5,6,7,8,9,10,11,12,13,14,15,16,17,18,19,20,21,22,23,24,25,26,27,28,29,30,31])),(32037,.fg OA.f),(506,pL 3 QpN),(8099,.fg QC0.f),(16200,pD [(0,[1]),(1,[1]),(2,[]),(3,[]),(4,[]),(5,[]),(6,[]),(7,[]),(8,[]),(9,[]),(10,[]),(11,[1]),(12,[1]),(13,[]),(14,[]),(15,[]),(16,[]),(17,[1]),(18,[1]),(19,[]),(20,[]),(21,[]),(22,[]),(23,[]),(24,[])] (.of [0,1,2,3,4,5,6,7,8,9,10,11,12,13,14,15,16,17,18,19,20,21,22,23,24])),(64805,.fg OA.f)]
def QC1:TC:=lb 0 Qbz
def QC2:TC:=lb 1 Qbz
def QC3:TC:=lb 2 Qbz
def QC4:TC:=lb 3 Qbz
def QC5 (x3:Int)(y1:Endpoint):VS:=Qg4.st ((),x3,()) (y1,())
def QC6 (x6:Int)(y1:Endpoint):VS:=Qg5.st ((),x6,()) (y1,())
def QC7 (x7:Int)(y1:Endpoint):VS:=Qg6.st ((),x7,()) (y1,())
def QC8 (x8:Int)(y1:Endpoint):VS:=Qg7.st ((),x8,()) (y1,())
def QpO  : VS:=QC0.st () ()
def QQ1:VS->Option (Bool×List (Bool×Exit×VS)):=mkL Qg4 (fun x y=>(decide (0<=x.2.1/\x.2.1<=(JM y.1).length/\(JM y.1).length<=100000))) (fun x y=>[((!Xa (JM y.1) x.2.1.toNat),.ret,Yg (19)),(true,.exit 0,WM (y.1))])
def QQ2:VS->Option (Bool×List (Bool×Exit×VS)):=mkL Qg5 (fun x y=>(decide (0<=x.2.1/\x.2.1<=(Jl y.1).length/\(Jl y.1).length<=100000)&&(Jl y.1).all J0)) (fun x y=>[((!((Jl y.1).drop x.2.1.toNat).all Xd),.ret,Yg (19)),(true,.exit 2,WM (y.1))])
def QQ3:VS->Option (Bool×List (Bool×Exit×VS)):=mkL Qg6 (fun x y=>(decide (0<=x.2.1/\x.2.1<=(JF y.1).length/\(JF y.1).length<=100000))) (fun x y=>[((!(((JF y.1).drop x.2.1.toNat).all Js&&YM (JF y.1) x.2.1.toNat)),.ret,Yg (19)),(true,.exit 4,WM (y.1))])
def QQ4:VS->Option (Bool×List (Bool×Exit×VS)):=mkL Qg7 (fun x y=>(decide (0<=x.2.1/\x.2.1<=(JR y.1).length/\(JR y.1).length<=100000))) (fun x y=>[((!(((JR y.1).drop x.2.1.toNat).all Un&&YM (JR y.1) x.2.1.toNat)),.ret,Yg (19)),(true,.exit 6,QpO)])
def GZ:G:=gG 176 [(154,QkZ),(183,QAz),(184,QkU),(185,Qs0),(186,Qds)] (Ls [QQ1,QQ2,QQ3,QQ4])
def Qg8 (x3:Int)(y1:Endpoint):OX:=Qx (QA GZ QpK QC1) (QC5 x3 y1)
def QbA (kk:Int->Endpoint->OX)(x3:Int)(y1:Endpoint):OX:=
 let a1:=lgt tI y1.2.2.2.1 (Int.toNat x3)
 br (ilt x3 (Qc y1.2.2.2.1)) (br (cIx y1.2.2.2.1 x3) (br (ine ((Zm a1).2) 0) (some (.ret,Yg 19)) (br (cSl y1.2.2.2.1 0 x3 ((List.length y1.2.2.2.1:Nat):Int)) (br (cIx y1.2.2.2.1 x3) (br (Z2 (lsl y1.2.2.2.1 0 x3) a1) (br (J6 (lsl y1.2.2.2.1 0 x3) a1) (some (.ret,Yg 19)) (kk (Qj .i64 x3 1) y1)) none) none) none)) none) (some (.exit 0,WM y1))
def Qg9 (x3:Int)(y1:Endpoint):OX:=br (!Xa (JM y1) x3.toNat) (some (.ret,Yg (19)))<|some (.exit 0,WM (y1))
theorem QC9 (x3:Int)(y1:Endpoint):Qg8 x3 y1=QbA Qg8 x3 y1:=lnT (x:=QbA (fun x3 y1=>some (.normal,QC5 x3 y1)) x3 y1) (by simp only [QbA,nxA];rfl)
def Qha (x6:Int)(y1:Endpoint):OX:=Qx (QA GZ QpL QC2) (QC6 x6 y1)
def QbB (kk:Int->Endpoint->OX)(x6:Int)(y1:Endpoint):OX:=
 let a1:=lgt QX y1.2.2.2.2.2.1 (Int.toNat x6)
 let a2:=cIx y1.2.2.2.2.2.1 x6
 br (ilt x6 (Qc y1.2.2.2.2.2.1)) (br a2 (br a2 (br a2 (br (Fd (a1.1) ((a1.2).1) (((a1.2).2).1)) (br (!(Xm (a1.1) ((a1.2).1) (((a1.2).2).1))) (some (.ret,Yg 19)) (kk (Qj .i64 x6 1) y1)) none) none) none) none) (some (.exit 2,WM y1))
def Qhb (x6:Int)(y1:Endpoint):OX:=br (!((Jl y1).drop x6.toNat).all Xd) (some (.ret,Yg (19)))<|some (.exit 2,WM (y1))
theorem QDa (x6:Int)(y1:Endpoint):Qha x6 y1=QbB Qha x6 y1:=lnT (x:=QbB (fun x6 y1=>some (.normal,QC6 x6 y1)) x6 y1) (by simp only [QbB,nxA];rfl)
def Qhc (x7:Int)(y1:Endpoint):OX:=Qx (QA GZ QpM QC3) (QC7 x7 y1)
def QbC (kk:Int->Endpoint->OX)(x7:Int)(y1:Endpoint):OX:=
 let a1:=lgt tI y1.2.2.2.2.2.2.1 (Int.toNat x7)
 let a2:=cIx y1.2.2.2.2.2.2.1 x7
 br (ilt x7 (Qc y1.2.2.2.2.2.2.1)) (br a2 (br (ilt a1 0) (some (.ret,Yg 19)) (br a2 (br (igt a1 2147483648) (some (.ret,Yg 19)) (br (igt x7 0) (br (cIx y1.2.2.2.2.2.2.1 (Qw .i64 x7 1)) (br a2 (br (ige (lgt tI y1.2.2.2.2.2.2.1 (Int.toNat (Qw .i64 x7 1))) a1) (some (.ret,Yg 19)) (kk (Qj .i64 x7 1) y1)) none) none) (kk (Qj .i64 x7 1) y1))) none)) none) (some (.exit 4,WM y1))
def Qhd (x7:Int)(y1:Endpoint):OX:=br (!(((JF y1).drop x7.toNat).all Js&&YM (JF y1) x7.toNat)) (some (.ret,Yg (19)))<|some (.exit 4,WM (y1))
theorem QDb (x7:Int)(y1:Endpoint):Qhc x7 y1=QbC Qhc x7 y1:=lnT (x:=QbC (fun x7 y1=>some (.normal,QC7 x7 y1)) x7 y1) (by simp only [QbC,nxA];rfl)
def Qhe (x8:Int)(y1:Endpoint):OX:=Qx (QA GZ QpN QC4) (QC8 x8 y1)
def QbD (kk:Int->Endpoint->OX)(x8:Int)(y1:Endpoint):OX:=
 let a1:=lgt tI y1.2.2.2.2.2.2.2.1 (Int.toNat x8)
 let a2:=cIx y1.2.2.2.2.2.2.2.1 x8
 br (ilt x8 (Qc y1.2.2.2.2.2.2.2.1)) (br a2 (br (ine (Yx a1) 1) (some (.ret,Yg 19)) (br (igt x8 0) (br (cIx y1.2.2.2.2.2.2.2.1 (Qw .i64 x8 1)) (br a2 (br (ige (lgt tI y1.2.2.2.2.2.2.2.1 (Int.toNat (Qw .i64 x8 1))) a1) (some (.ret,Yg 19)) (kk (Qj .i64 x8 1) y1)) none) none) (kk (Qj .i64 x8 1) y1))) none) (some (.exit 6,QpO))
def Qhf (x8:Int)(y1:Endpoint):OX:=br (!(((JR y1).drop x8.toNat).all Un&&YM (JR y1) x8.toNat)) (some (.ret,Yg (19)))<|some (.exit 6,QpO)
theorem QDc (x8:Int)(y1:Endpoint):Qhe x8 y1=QbD Qhe x8 y1:=lnT (x:=QbD (fun x8 y1=>some (.normal,QC8 x8 y1)) x8 y1) (by simp only [QbD,nxA];rfl)
def QDd (p0:Endpoint):OV:=br (Jn p0.1) (br (!(Y9 p0.1)) (some (.t tI 19,[])) (br (ilt p0.2.1 1) (some (.t tI 19,[])) (br (igt p0.2.1 p0.2.2.1) (some (.t tI 19,[])) (br (igt p0.2.2.1 4) (some (.t tI 19,[])) (br (igt (Qc p0.2.2.2.1) 16) (some (.t tI 19,[])) (br (igt (Qc p0.2.2.2.2.2.1) 4) (some (.t tI 19,[])) (br (igt (Qc p0.2.2.2.2.2.2.1) 16) (some (.t tI 19,[])) (br (decide (0<=(0:Int)/\(0:Int)<=(JM p0).length/\(JM p0).length<=100000)) (br (!Xa (JM p0) (0:Int).toNat) (some (.t tI (19),[])) (br (decide (0<=(0:Int)/\(0:Int)<=(Jl (p0)).length/\(Jl (p0)).length<=100000)&&(Jl (p0)).all J0) (br (!((Jl (p0)).drop (0:Int).toNat).all Xd) (some (.t tI (19),[])) (br (decide (0<=(0:Int)/\(0:Int)<=(JF (p0)).length/\(JF (p0)).length<=100000)) (br (!(((JF (p0)).drop (0:Int).toNat).all Js&&YM (JF (p0)) (0:Int).toNat)) (some (.t tI (19),[])) (br (decide (0<=(0:Int)/\(0:Int)<=(JR (p0)).length/\(JR (p0)).length<=100000)) (br (!(((JR (p0)).drop (0:Int).toNat).all Un&&YM (JR (p0)) (0:Int).toNat)) (some (.t tI (19),[])) (some (.t tI 0,[]))) none)) none)) none)) none)))))))) none
theorem QQ5 (x3:Int)(y1:Endpoint)(h:(decide (0<=x3/\x3<=(JM y1).length/\(JM y1).length<=100000))=true):Qg8 x3 y1=Qg9 x3 y1:=by
 simp only [Ba] at h
 obtain ⟨h0,h1,h2⟩:=h
 obtain ⟨k,rfl⟩:=Bl h0
 refine QQ (JM y1) (fun k=>Qg8 (k:Int) y1=Qg9 (k:Int) y1) ?_ ?_ k (by omega)
 ·rw [QC9]
  simp only [QbA,Qg9,show ilt ((JM y1).length:Int) (Qc (JM y1))=false from Bq (by simp only [Qc];omega),Qi,Bb,QAH,BF]
 ·intro k hk ih
  rw [QC9]
  have hi:Z2 ((JM y1).take k) (JM y1)[k]=true:=Be (by rw [B4];omega)
  simp only [QbA,show ilt (k:Int) (Qc (JM y1))=true from Be (by simp only [Qc];omega),QK,hk,Bo,Qf,Bb,QO (show k<4611686018427387904 by omega),QL (y:=tI) hk,ih,QAJ,QAK (show k<=(JM y1).length by omega),hi,Ea]
  simp only [Qg9,Bb,QAI hk]
  cases ieq (Zm (JM y1)[k]).2 0<;>cases J6 ((JM y1).take k) (JM y1)[k]<;>rfl
theorem QQ6 (x6:Int)(y1:Endpoint)(h:(decide (0<=x6/\x6<=(Jl y1).length/\(Jl y1).length<=100000)&&(Jl y1).all J0)=true):Qha x6 y1=Qhb x6 y1:=by
 simp only [Bc,Ba,Bi] at h
 obtain ⟨⟨h0,h1,h2⟩,hc⟩:=h
 obtain ⟨k,rfl⟩:=Bl h0
 refine QQ (Jl y1) (fun k=>Qha (k:Int) y1=Qhb (k:Int) y1) ?_ ?_ k (by omega)
 ·rw [QDa]
  simp only [QbB,Qhb,show ilt ((Jl y1).length:Int) (Qc (Jl y1))=false from Bq (by simp only [Qc];omega),Qi,Bb,BS,DH,BF]
 ·intro k hk ih
  rw [QDa]
  have hx:Fd (Jl y1)[k].1 (Jl y1)[k].2.1 (Jl y1)[k].2.2.1=true:=hc (Jl y1)[k] (Bw hk)
  simp only [QbB,show ilt (k:Int) (Qc (Jl y1))=true from Be (by simp only [Qc];omega),QK,hk,Bo,Qf,Bb,QO (show k<4611686018427387904 by omega),QL (y:=QX) hk,hx,ih]
  simp only [Qhb,Bb,Bg hk,B0,Xd]
  cases Xm (Jl y1)[k].1 (Jl y1)[k].2.1 (Jl y1)[k].2.2.1<;>rfl
theorem QQ7 (x7:Int)(y1:Endpoint)(h:(decide (0<=x7/\x7<=(JF y1).length/\(JF y1).length<=100000))=true):Qhc x7 y1=Qhd x7 y1:=by
 simp only [Ba] at h
 obtain ⟨h0,h1,h2⟩:=h
 obtain ⟨k,rfl⟩:=Bl h0
 refine QQ (JF y1) (fun k=>Qhc (k:Int) y1=Qhd (k:Int) y1) ?_ ?_ k (by omega)
 ·rw [QDb]
  simp only [QbC,Qhd,show ilt ((JF y1).length:Int) (Qc (JF y1))=false from Bq (by simp only [Qc];omega),Qi,Bb,BS,DH,QoK,B6,BF]
 ·intro k hk ih
  rw [QDb]
  simp only [QbC,show ilt (k:Int) (Qc (JF y1))=true from Be (by simp only [Qc];omega),QK,hk,Bo,Qf,Bb,QO (show k<4611686018427387904 by omega),QL (y:=tI) hk,ih,QoM hk (show k<4611686018427387904 by omega)]
  simp only [Qhd,Bb,QoL hk,Bg hk,B0,Js]
  cases ilt (JF y1)[k] 0<;>cases igt (JF y1)[k] 2147483648<;>cases decide (k=0)||ilt ((JF y1).getD (k-1) 0) (JF y1)[k]<;>simp [Qf,Qi]
theorem QQ8 (x8:Int)(y1:Endpoint)(h:(decide (0<=x8/\x8<=(JR y1).length/\(JR y1).length<=100000))=true):Qhe x8 y1=Qhf x8 y1:=by
 simp only [Ba] at h
 obtain ⟨h0,h1,h2⟩:=h
 obtain ⟨k,rfl⟩:=Bl h0
 refine QQ (JR y1) (fun k=>Qhe (k:Int) y1=Qhf (k:Int) y1) ?_ ?_ k (by omega)
 ·rw [QDc]
  simp only [QbD,Qhf,show ilt ((JR y1).length:Int) (Qc (JR y1))=false from Bq (by simp only [Qc];omega),Qi,Bb,BS,DH,QoK,B6,BF]
 ·intro k hk ih
  rw [QDc]
  simp only [QbD,show ilt (k:Int) (Qc (JR y1))=true from Be (by simp only [Qc];omega),QK,hk,Bo,Qf,Bb,QO (show k<4611686018427387904 by omega),QL (y:=tI) hk,ih,QoM hk (show k<4611686018427387904 by omega),Ea]
  simp only [Qhf,Bb,QoL hk,Bg hk,B0,Un]
  cases ieq (Yx (JR y1)[k]) 1<;>cases decide (k=0)||ilt ((JR y1).getD (k-1) 0) (JR y1)[k]<;>simp [Qf,Qi]
theorem QQ9:LO GZ QpK QC1 0:=QI (s:=Qg4) fun x y h _ q=>by simp only [QG,QH] at q;exact (QQ5 x.2.1 y.1 h).trans q
theorem QRa:LO GZ QpL QC2 1:=QI (s:=Qg5) fun x y h _ q=>by simp only [QG,QH] at q;exact (QQ6 x.2.1 y.1 h).trans q
theorem QRb:LO GZ QpM QC3 2:=QI (s:=Qg6) fun x y h _ q=>by simp only [QG,QH] at q;exact (QQ7 x.2.1 y.1 h).trans q
theorem QRc:LO GZ QpN QC4 3:=QI (s:=Qg7) fun x y h _ q=>by simp only [QG,QH] at q;exact (QQ8 x.2.1 y.1 h).trans q
theorem s_f129 (e:Endpoint)(h:Jd e=true):QDd e=some (.t tI (UU e),[]):=by
 simp only [Jd,Bc,Ba] at h
 obtain ⟨⟨h1,h2,h3,h4,h5⟩,h6⟩:=h
 have q2:decide ((0:Int)<=0/\(0:Int)<=(JM e).length/\(JM e).length<=100000)=true:=Be (by omega)
 have q3:decide ((0:Int)<=0/\(0:Int)<=(Jl e).length/\(Jl e).length<=100000)=true:=Be (by omega)
 have q4:decide ((0:Int)<=0/\(0:Int)<=(JF e).length/\(JF e).length<=100000)=true:=Be (by omega)
 have q5:decide ((0:Int)<=0/\(0:Int)<=(JR e).length/\(JR e).length<=100000)=true:=Be (by omega)
 unfold UU
 simp only [QDd,h1,q2,q3,q4,q5,h6,B6,Qf,By,BG]
 refine br9 (fun g=>by simp only [Bx] at g;simp [Q6,g]) fun g1=>br9 (fun g=>by simp [Q6,g]) fun g2=>br9 (fun g=>by simp [Q6,g]) fun g3=>br9 (fun g=>by simp [Q6,g]) fun g4=>br9 (fun g=> ?_) fun g5=>br9 (fun g=>by simp [Q6,g]) fun g6=>br9 (fun g=>by simp [Q6,g]) fun g7=>br9 (fun g=>by simp only [Bx] at g;have:Xb (JM e)=false:=g;simp [Q6,this]) fun g8=>br9 (fun g=>by simp only [Bx] at g;simp [Q6,g]) fun g9=>br9 (fun g=> ?_) fun g10=>br9 (fun g=> ?_) fun g11=> ?_
 ·have:Xb (JM e)=false:=by
   cases hs:Xb (JM e) with
   |false=>rfl
   |true=>
    have h16:e.2.2.2.1.length<=16:=QQW hs
    simp only [igt,Qc,Ba] at g
    omega
  simp [Q6,this]
 ·simp only [Bx,Bool.and_eq_false_iff] at g
  rcases g with g|g
  ·simp [Q6,g]
  ·have:Wi (JF e)=false:=g
   simp [Q6,this]
 ·simp only [Bx,Bool.and_eq_false_iff] at g
  rcases g with g|g
  ·simp [Q6,g]
  ·have:Wi (JR e)=false:=g
   simp [Q6,this]
 simp only [Bool.not_eq_false',Bc] at g1 g8 g9 g10 g11
 have k1:Xb (JM e)=true:=g8
 have k2:Wi (JF e)=true:=g10.2
 have k3:Wi (JR e)=true:=g11.2
 have:Q6 e=true:=by
  simp only [Q6,g1,g2,g3,g4,k1,g6,g7,k2,k3,g9,g10.1,g11.1,DB,B6]
 rw [this]
 rfl
def QDe:Ent:=Qo (.pr QC .nil) (fun x=>(Jd x.1)) (fun x=>(.t tI (UU x.1)))
theorem QRd:EM 129 QDe:=mS (lk:=lkL (lkc QQ9 (lkc QRa (lkc QRb (lkc QRc lkn))))) GZ Qbz [((.t 2),some tI)] false (gB (gD Qk0 (gD QOS (gD Qvd (gD QH8 (gD QkO gN)))))) fun m=>Qs m fun x hok=>kT (s_f129 x.1 hok)
end
end Go.Proofs.YthlcobdnemhcdaaGreat.K
noncomputable section
namespace Go.Proofs.YthlcobdnemhcdaaGreat.K
open Go.RowKit
section
variable {P:Program}{X:Nat->Nat->Prop}{w:World}{σ:Pl}
end
end Go.Proofs.YthlcobdnemhcdaaGreat.K
noncomputable section
namespace Go.Proofs.YthlcobdnemhcdaaGreat.K
open Go.RowKit
noncomputable section
theorem QjN {l:List Certificate}(h:JJ l=true){k:Nat}(hk:k<l.length):JS l[k]=true:=by
 simp only [JJ,Bc,Bi] at h
 exact h.2 _ (Bw hk)
theorem QcQ {l:List Certificate}(h:JJ l=true):l.length<=100000:=by
 simp only [JJ,Bc,Ba] at h
 exact h.1
abbrev cAt (l:List Certificate)(k:Nat):Certificate:=l.getD k Vi
def pathF (l:List Certificate)(i:Int):Bool:= !ilt i 0&&(!ige i (Qc l)&&(ieq i 0||((cAt l i.toNat).2.2.2.2.2.2.2.2.1&&ige (cAt l i.toNat).2.2.2.2.2.2.2.2.2.1 (i-1))))
def QH9 (l:List Certificate)(k:Nat):Int:=if k+1<l.length then (cAt l (k+1)).2.2.2.2.1 else (UD (cAt l k)).1
def QIa (l:List Certificate)(e:Int)(k:Nat):Bool:=
 bif ieq e 11 then decide (k+1<l.length)&&sne (cAt l k).2.1 (cAt l (k+1)).2.2.1
 else bif ieq e 15 then !pathF l k else !QHX (cAt l k) (QH9 l k)
def failUp (l:List Certificate)(e:Int)(k:Nat):Bool:=(List.range' k (l.length-k)).any (QIa l e)
def QjO (l:List Certificate)(e:Int):Bool:=failUp l e 0
end
end Go.Proofs.YthlcobdnemhcdaaGreat.K
noncomputable section
namespace Go.Proofs.YthlcobdnemhcdaaGreat.K
open Go.RowKit
noncomputable section
end
end Go.Proofs.YthlcobdnemhcdaaGreat.K
noncomputable section
namespace Go.Proofs.YthlcobdnemhcdaaGreat.K
open Go.RowKit
noncomputable section
-- loop 0: (x0 : (List Identity)) (x7 : Int) (x8 : Int) (Qa : Suite); out: ('ret',) (x4 : Int) (Qa : Suite); ('exit', 0) (Qa : Suite)
-- loop 0: (x8 : Int) (y2 : Endpoint) (y6 : Suite); out: ('ret',) (x4 : Int) (x5 : Bool); ('exit', 0)
end
end Go.Proofs.YthlcobdnemhcdaaGreat.K
noncomputable section
namespace Go.Proofs.YthlcobdnemhcdaaGreat.K
open Go.RowKit
noncomputable section
-- loop 0: (x0 : (List Int)) (x1 : Talk) (x7 : Int) (x8 : Int); out: ('ret',) (x4 : Int); ('exit', 0)
abbrev zK:Keep:=(0,(0,()))
theorem Qy2 {e:Endpoint}(h:Jd e=true):Jn e.1=true/\(JM e).length<=100000/\(Jl e).length<=100000/\(JF e).length<=100000/\(JR e).length<=100000/\(Jl e).all J0=true:=by
 simp only [Jd,Bc,Ba] at h
 exact ⟨h.1.1,h.1.2.1,h.1.2.2.1,h.1.2.2.2.1,h.1.2.2.2.2,h.2⟩
end
end Go.Proofs.YthlcobdnemhcdaaGreat.K
noncomputable section
namespace Go.Proofs.YthlcobdnemhcdaaGreat.K
open Go.RowKit
noncomputable section
def sameO (a b:List Keep):Bool:=a==b
def QuC (a b:List Keep):Bool:=decide (a.length<=100000/\b.length<=100000)
theorem brN {β:Type}{p q:Bool}{X:Option β}:br p (br q X none) none=br (p&&q) X none:=by cases p<;>rfl
def XO (c:Int):Int:=bif ine (Zm c).2 0 then 0 else XB (Zm c).1.2.2.2.2.1
def QJe:TC:=aF Tryz.f205 []
def g_f205:G:=gG 15 [(159,Qm7),(184,QkU)] (fun _ _=>none)
def QuD (p0:Int):OV:=br (ine ((Zm p0).2) 0) (some (.t tI 0,[])) (some (.t tI (XB (((((((Zm p0).1).2).2).2).2).1)),[]))
theorem s_f205 (c:Int):QuD c=some (.t tI (XO c),[]):=by
 simp only [QuD]
 unfold XO
 cases ine (Zm c).2 0<;>rfl
def QuE:Ent:=Qo (.pr tI .nil) (fun x=>true) (fun x=>(.t tI (XO x.1)))
theorem QJf:EM 205 QuE:=mS g_f205 QJe [((.t 2),some tI)] false (gB (gD Qye (gD Qvd gN))) fun m=>Qs m fun x _=>kT (s_f205 x.1)
def J4 (x:Int)(l:List Int):Nat->Nat
 |0=>0
 |k+1=>if ilt (XO (l.getD k 0)) (XO x)=true then J4 x l k else k+1
theorem QkI (x:Int)(l:List Int): ∀ k,J4 x l k<=k
 |0=>BB _
 |k+1=>by
  unfold J4
  split
  ·exact Nat.le_succ_of_le (QkI x l k)
  ·exact BB _
def Xo (l:List Int)(x:Int):List Int:=(l.take (J4 x l l.length)++[x])++l.drop (J4 x l l.length)
theorem QuF (l:List Int)(x:Int):(Xo l x).length=l.length+1:=by
 have:=QkI x l l.length
 simp only [Xo,Bm,B4,Dr,Bh]
 omega
def Fe (l:List Int):List Int:=l.foldl Xo []
def VF (l:List Int):Bool:=decide (l.length<=1000)
abbrev VG:Sh:=⟨[(0,.ty (.sl tI)),(3,.ms 3),(4,.ty tI),(5,.ty tI)],[(3,.arr 3 tI),(32,.no),(36,.no),(42,.no),(46,.no)]⟩
abbrev Qdl:Sh:=⟨[(0,.ty (.sl tI)),(3,.ms 3),(4,.ty tI)],[(3,.arr 3 tI),(32,.no),(36,.no),(42,.no),(46,.no)]⟩
abbrev QuG:Sh:=⟨[(3,.ms 3)],[(3,.arr 3 tI),(32,.no),(36,.no),(42,.no),(46,.no)]⟩
def QkJ:Fg:=VG.f
def QkK:Fg:=Qdl.f
def QkL:TC:=aF Tryz.f155 [(58,.nw 3 3),(58,pL 1 QkK),(116,.mv [(32,3)]),(931,.fg QuG.f),(7460,pL 0 QkJ),(59680,pD [(0,[]),(1,[]),(2,[]),(3,[3,32,36,42,46]),(4,[]),(5,[]),(6,[3,32,36,42,46]),(7,[3,32,36,42,46]),(8,[]),(9,[]),(10,[]),(11,[]),(12,[]),(13,[]),(14,[]),(15,[])] (.of [0,1,2,3,4,5,6,7,8,9,10,11,12,13,14,15])),(119363,.fg VG.f),(3731,pD [(0,[32,5032,10032,15032]),(1,[3,32,36,42,46]),(2,[]),(3,[3,32,36,42,46]),(4,[3,32,36,42,46,5036,10036,15036]),(5,[]),(6,[]),(7,[]),(8,[]),(9,[]),(10,[32,36,42,5042,10042,15042]),(11,[3,32,36,42,46]),(12,[]),(13,[3,32,36,42,46]),(14,[3,32,36,42,46,5046,10046,15046]),(15,[32,36,42,46])] (.one 2 (.one 5 (.one 6 (.one 7 (.one 8 (.one 9 (.one 12 (.alt 0 (.one 1 (.one 3 (.alt 4 (.alt 10 (.of [11,13,14,15]) (.one 11 (.alt 10 (.of [13,14,15]) (.of [13,10,14,15])))) (.one 11 (.alt 4 (.alt 10 (.of [13,14,15]) (.of [13,10,14,15])) (.of [13,4,10,14,15])))))) (.alt 1 (.alt 0 (.one 3 (.alt 4 (.alt 10 (.of [11,13,14,15]) (.one 11 (.alt 10 (.of [13,14,15]) (.of [13,10,14,15])))) (.one 11 (.alt 4 (.alt 10 (.of [13,14,15]) (.of [13,10,14,15])) (.of [13,4,10,14,15]))))) (.alt 3 (.alt 0 (.alt 4 (.alt 10 (.of [11,13,14,15]) (.one 11 (.alt 10 (.of [13,14,15]) (.of [13,10,14,15])))) (.one 11 (.alt 4 (.alt 10 (.of [13,14,15]) (.of [13,10,14,15])) (.of [13,4,10,14,15])))) (.one 11 (.alt 0 (.alt 4 (.alt 10 (.of [13,14,15]) (.of [13,10,14,15])) (.of [13,4,10,14,15])) (.of [13,0,4,10,14,15])))) (.one 11 (.alt 0 (.one 3 (.alt 4 (.alt 10 (.of [13,14,15]) (.of [13,10,14,15])) (.of [13,4,10,14,15]))) (.alt 3 (.alt 0 (.alt 4 (.alt 10 (.of [13,14,15]) (.of [13,10,14,15])) (.of [13,4,10,14,15])) (.of [13,0,4,10,14,15])) (.one 13 (.alt 0 (.of [3,4,10,14,15]) (.of [3,0,4,10,14,15])))))))) (.one 11 (.alt 0 (.one 1 (.one 3 (.alt 4 (.alt 10 (.of [13,14,15]) (.of [13,10,14,15])) (.of [13,4,10,14,15])))) (.alt 1 (.alt 0 (.one 3 (.alt 4 (.alt 10 (.of [13,14,15]) (.of [13,10,14,15])) (.of [13,4,10,14,15]))) (.alt 3 (.alt 0 (.alt 4 (.alt 10 (.of [13,14,15]) (.of [13,10,14,15])) (.of [13,4,10,14,15])) (.of [13,0,4,10,14,15])) (.one 13 (.alt 0 (.of [3,4,10,14,15]) (.of [3,0,4,10,14,15]))))) (.one 13 (.alt 0 (.of [1,3,4,10,14,15]) (.one 1 (.alt 0 (.of [3,4,10,14,15]) (.of [3,0,4,10,14,15]))))))))))))))))))]
def QuH:TC:=lb 0 QkL
def QuI:TC:=lb 1 QkL
def Ii (x0:List Int)(x4 x5:Int)(y3:List Int):VS:=VG.st (x0,(),x4,x5,()) (y3,(),(),(),(),())
def QuJ (x0:List Int)(x4:Int)(y3:List Int):VS:=Qdl.st (x0,(),x4,()) (y3,(),(),(),(),())
def QkM (y3:List Int):VS:=QuG.st ((),()) (y3,(),(),(),(),())
def QJg:VS->Option (Bool×List (Bool×Exit×VS)):=mkL VG (fun x y=>(decide (0<=x.2.2.2.1/\x.2.2.2.1<=y.1.length/\y.1.length<=1000)&&cIx x.1 x.2.2.1)) (fun x y=>[(true,.exit 2,Ii (x.1) (x.2.2.1) ((J4 (lgt tI x.1 x.2.2.1.toNat) y.1 x.2.2.2.1.toNat:Nat):Int) (y.1))])
def QJh:VS->Option (Bool×List (Bool×Exit×VS)):=mkL Qdl (fun x y=>(decide (0<=x.2.2.1/\x.2.2.1<=x.1.length/\x.1.length<=1000/\y.1.length<=x.2.2.1.toNat))) (fun x y=>[(true,.exit 0,QkM ((x.1.drop x.2.2.1.toNat).foldl Xo y.1))])
def VH:G:=⟨TYs,[32],48,EL [(205,QuE)],keeps,(Ls [QJg,QJh]),IL [],RL []⟩
def Qdm (x0:List Int)(x4 x5:Int)(y3:List Int):OX:=Qx (QA VH QkJ QuH) (Ii x0 x4 x5 y3)
def VI (kk:List Int->Int->Int->List Int->OX)(x0:List Int)(x4 x5:Int)(y3:List Int):OX:=
 let a1:=Qw .i64 x5 1
 br (igt x5 0) (br (cIx y3 a1) (br (cLd y3 (Int.toNat a1)) (br (cIx x0 x4) (br (ilt (XO (lgt tI y3 (Int.toNat a1))) (XO (lgt tI x0 (Int.toNat x4)))) (kk x0 x4 a1 y3) (some (.exit 2,Ii x0 x4 x5 y3))) none) none) none) (some (.exit 2,Ii x0 x4 x5 y3))
def Qdn (x0:List Int)(x4 x5:Int)(y3:List Int):OX:=some (.exit 2,Ii (x0) (x4) ((J4 (lgt tI x0 x4.toNat) y3 x5.toNat:Nat):Int) (y3))
theorem QuK (x0:List Int)(x4 x5:Int)(y3:List Int):Qdm x0 x4 x5 y3=VI Qdm x0 x4 x5 y3:=lnT (x:=VI (fun x0 x4 x5 y3=>some (.normal,Ii x0 x4 x5 y3)) x0 x4 x5 y3) (by simp only [VI,nxA];rfl)
def Qdo (x0:List Int)(x4:Int)(y3:List Int):OX:=Qx (QA VH QkK QuI) (QuJ x0 x4 y3)
def Ij (kk:List Int->Int->List Int->OX)(x0:List Int)(x4:Int)(y3:List Int):OX:=
 let a1:=((J4 (lgt tI x0 x4.toNat) y3 (Qc y3).toNat:Nat):Int)
 let a2:=(wnL tI (y3) (Int.toNat a1) (Int.toNat ((List.length (y3):Nat):Int)-Int.toNat a1))
 let a3:=wnL tI (y3) (Int.toNat 0) (Int.toNat a1-Int.toNat 0)
 let a4:=lgt tI (x0) (Int.toNat (x4))
 br (Qq ((([]:List Int)++a3)++([a4])) a2 8) (kk (x0) (Qj .i64 (x4) 1) (((([]:List Int)++a3)++([a4]))++a2)) none
def Ik (kk:List Int->Int->List Int->OX)(x0:List Int)(x4:Int)(y3:List Int):OX:=
 let a1:=((J4 (lgt tI x0 x4.toNat) y3 (Qc y3).toNat:Nat):Int)
 br (Qq (([]:List Int)++(wnL tI (y3) (Int.toNat 0) (Int.toNat a1-Int.toNat 0))) ([(lgt tI (x0) (Int.toNat (x4)))]) 8) (br (cWn (y3) a1 ((List.length (y3):Nat):Int)) (Ij kk x0 x4 y3) none) none
def Il (kk:List Int->Int->List Int->OX)(x0:List Int)(x4:Int)(y3:List Int):OX:=br (Qq (([]:List Int)++(wnL tI (y3) (Int.toNat 0) (Int.toNat ((J4 (lgt tI x0 x4.toNat) y3 (Qc y3).toNat:Nat):Int)-Int.toNat 0))) ([(lgt tI (x0) (Int.toNat (x4)))]) 8) (Ij kk x0 x4 y3) none
def Im (kk:List Int->Int->List Int->OX)(x0:List Int)(x4:Int)(y3:List Int):OX:=frk (Ik kk x0 x4 y3) (br (cWn (y3) ((J4 (lgt tI x0 x4.toNat) y3 (Qc y3).toNat:Nat):Int) ((List.length (y3):Nat):Int)) (Il kk x0 x4 y3) none)
def Io (kk:List Int->Int->List Int->OX)(x0:List Int)(x4:Int)(y3:List Int):OX:=br (Qq ([]:List Int) (wnL tI (y3) (Int.toNat 0) (Int.toNat ((J4 (lgt tI x0 x4.toNat) y3 (Qc y3).toNat:Nat):Int)-Int.toNat 0)) 8) (Il kk x0 x4 y3) none
def Ip (kk:List Int->Int->List Int->OX)(x0:List Int)(x4:Int)(y3:List Int):OX:=br (cWn (y3) ((J4 (lgt tI x0 x4.toNat) y3 (Qc y3).toNat:Nat):Int) ((List.length (y3):Nat):Int)) (Io kk x0 x4 y3) none
def Ed (kk:List Int->Int->List Int->OX)(x0:List Int)(x4:Int)(y3:List Int):OX:=frk (br (Qq ([]:List Int) (wnL tI (y3) (Int.toNat 0) (Int.toNat ((J4 (lgt tI x0 x4.toNat) y3 (Qc y3).toNat:Nat):Int)-Int.toNat 0)) 8) (Im kk x0 x4 y3) none) (Ip kk x0 x4 y3)
def Iq (kk:List Int->Int->List Int->OX)(x0:List Int)(x4:Int)(y3:List Int):OX:=frk (br (Qq ([]:List Int) (wnL tI (y3) (Int.toNat 0) (Int.toNat ((J4 (lgt tI x0 x4.toNat) y3 (Qc y3).toNat:Nat):Int)-Int.toNat 0)) 8) (frk (Ik kk x0 x4 y3) (Im kk x0 x4 y3)) none) (Ed kk x0 x4 y3)
def Ir (kk:List Int->Int->List Int->OX)(x0:List Int)(x4:Int)(y3:List Int):OX:=br (cWn (y3) 0 ((J4 (lgt tI x0 x4.toNat) y3 (Qc y3).toNat:Nat):Int)) (Iq kk x0 x4 y3) none
def Is (kk:List Int->Int->List Int->OX)(x0:List Int)(x4:Int)(y3:List Int):OX:=frk (Ed kk x0 x4 y3) (Ip kk x0 x4 y3)
def It (kk:List Int->Int->List Int->OX)(x0:List Int)(x4:Int)(y3:List Int):OX:=br (cWn (y3) 0 ((J4 (lgt tI x0 x4.toNat) y3 (Qc y3).toNat:Nat):Int)) (Ed kk x0 x4 y3) none
def Ee (kk:List Int->Int->List Int->OX)(x0:List Int)(x4:Int)(y3:List Int):OX:=br (cWn (y3) 0 ((J4 (lgt tI x0 x4.toNat) y3 (Qc y3).toNat:Nat):Int)) (Io kk x0 x4 y3) none
def Iu (kk:List Int->Int->List Int->OX)(x0:List Int)(x4:Int)(y3:List Int):OX:=frk (Ee kk x0 x4 y3) (Ee kk x0 x4 y3)
def Iv (kk:List Int->Int->List Int->OX)(x0:List Int)(x4:Int)(y3:List Int):OX:=
 let a1:=((J4 (lgt tI x0 x4.toNat) y3 (Qc y3).toNat:Nat):Int)
 frk (It kk x0 x4 y3) (frk (br (cWn (y3) 0 a1) (Is kk x0 x4 y3) none) (br (cWn (y3) a1 ((List.length (y3):Nat):Int)) (Iu kk x0 x4 y3) none))
def Iw (kk:List Int->Int->List Int->OX)(x0:List Int)(x4:Int)(y3:List Int):OX:=
 let a1:=((J4 (lgt tI x0 x4.toNat) y3 (Qc y3).toNat:Nat):Int)
 br (ilt x4 (Qc x0)) (br (decide (0<=(Qc y3)/\(Qc y3)<=y3.length/\y3.length<=1000)&&cIx x0 x4) (br (cIx (x0) (x4)) (frk (Ir kk x0 x4 y3) (frk (frk (Ir kk x0 x4 y3) (frk (br (cWn (y3) 0 a1) (frk (Iq kk x0 x4 y3) (Is kk x0 x4 y3)) none) (Iv kk x0 x4 y3))) (frk (It kk x0 x4 y3) (frk (Iv kk x0 x4 y3) (br (cWn (y3) a1 ((List.length (y3):Nat):Int)) (frk (Ee kk x0 x4 y3) (Iu kk x0 x4 y3)) none))))) none) none) (some (.exit 0,QkM y3))
def Qdp (x0:List Int)(x4:Int)(y3:List Int):OX:=some (.exit 0,QkM ((x0.drop x4.toNat).foldl Xo y3))
theorem QuL (x0:List Int)(x4:Int)(y3:List Int):Qdo x0 x4 y3=Iw Qdo x0 x4 y3:=lnT (x:=Iw (fun x0 x4 y3=>some (.normal,QuJ x0 x4 y3)) x0 x4 y3) (by
 first
 |(simp only [J9,Iw,Ir,Iq,Ik,Ij,Im,Il,Ed,Ip,Io,Is,Iv,It,Iu,Ee,J9,Xy,XX,XY,XZ,X5]
   rfl)
 |(simp only [J9,Iw,Ir,Iq,Ik,Ij,Im,Il,Ed,Ip,Io,Is,Iv,It,Iu,Ee,J9]
   try generalize (Qq ((([]:List Int)++(wnL tI (y3) (Int.toNat 0) (Int.toNat (((J4 (lgt tI x0 x4.toNat) y3 (Qc y3).toNat:Nat):Int))-Int.toNat 0)))++([(lgt tI (x0) (Int.toNat (x4)))])) (wnL tI (y3) (Int.toNat (((J4 (lgt tI x0 x4.toNat) y3 (Qc y3).toNat:Nat):Int))) (Int.toNat ((List.length (y3):Nat):Int)-Int.toNat (((J4 (lgt tI x0 x4.toNat) y3 (Qc y3).toNat:Nat):Int)))) 8)=cq0
   try generalize (cWn (y3) (((J4 (lgt tI x0 x4.toNat) y3 (Qc y3).toNat:Nat):Int)) ((List.length (y3):Nat):Int))=cq1
   try generalize (Qq (([]:List Int)++(wnL tI (y3) (Int.toNat 0) (Int.toNat (((J4 (lgt tI x0 x4.toNat) y3 (Qc y3).toNat:Nat):Int))-Int.toNat 0))) ([(lgt tI (x0) (Int.toNat (x4)))]) 8)=cq2
   try generalize (Qq ([]:List Int) (wnL tI (y3) (Int.toNat 0) (Int.toNat (((J4 (lgt tI x0 x4.toNat) y3 (Qc y3).toNat:Nat):Int))-Int.toNat 0)) 8)=cq3
   try generalize (cWn (y3) 0 (((J4 (lgt tI x0 x4.toNat) y3 (Qc y3).toNat:Nat):Int)))=cq4
   try generalize (cIx (x0) (x4))=cq5
   try generalize ((decide (0<=(Qc y3)/\(Qc y3)<=y3.length/\y3.length<=1000)&&cIx x0 x4))=cq6
   simp only [brN,J9,Bool.and_assoc,Bool.and_comm,Bool.and_left_comm,B6,Bool.and_self_left,Xy,XX,XY,XZ,X5]
   try rfl))
def r_f155 (p0:List Int):OV:=br (decide (0<=(0:Int)/\(0:Int)<=p0.length/\p0.length<=1000/\([]:List Int).length<=(0:Int).toNat)) (some (.ms 50000,[.arr 3 tI ((p0.drop (0:Int).toNat).foldl Xo ([]:List Int))])) none
theorem QJi (x0:List Int)(x4 x5:Int)(y3:List Int)(h:(decide (0<=x5/\x5<=y3.length/\y3.length<=1000)&&cIx x0 x4)=true):Qdm x0 x4 x5 y3=Qdn x0 x4 x5 y3:=by
 obtain ⟨h,hc⟩:=Bf.1 h
 obtain ⟨h0,h1,h2⟩:=BD h
 obtain ⟨k,rfl⟩:=Bl h0
 have key: ∀ k:Nat,k<=y3.length->Qdm x0 x4 (k:Int) y3=Qdn x0 x4 (k:Int) y3:=by
  intro k
  induction k with
  |zero=>
   intro _
   rw [QuK]
   simp only [VI,Qdn,show igt ((0:Nat):Int) 0=false from rfl,Qi,Bb]
   rfl
  |succ k ih=>
   intro hk
   rw [QuK]
   have e1:Qw .i64 ((k+1:Nat):Int) 1=(k:Int):=by rw [JO (by omega)];omega
   have e2:cLd y3 k=true:=Be (by omega)
   simp only [VI,show igt ((k+1:Nat):Int) 0=true from Be (by omega),Qf,e1,QK,show k<y3.length by omega,Bo,Bb,e2,hc,ih (by omega)]
   simp only [Qdn,Bb]
   rw [show J4 (lgt tI x0 x4.toNat) y3 (k+1)=if ilt (XO (y3.getD k 0)) (XO (lgt tI x0 x4.toNat))=true then J4 (lgt tI x0 x4.toNat) y3 k else k+1 from rfl]
   show br (ilt (XO (y3.getD k 0)) (XO (lgt tI x0 x4.toNat))) _ _=_
   cases ilt (XO (y3.getD k 0)) (XO (lgt tI x0 x4.toNat))<;>rfl
 exact key k (by omega)
theorem QJj (x0:List Int)(x4:Int)(y3:List Int)(h:(decide (0<=x4/\x4<=x0.length/\x0.length<=1000/\y3.length<=x4.toNat))=true):Qdo x0 x4 y3=Qdp x0 x4 y3:=by
 simp only [Ba] at h
 obtain ⟨h0,h1,h2,h3⟩:=h
 obtain ⟨k,rfl⟩:=Bl h0
 rw [Bb] at h3
 revert y3
 refine QQ x0 (fun k=> ∀ y3:List Int,y3.length<=k->Qdo x0 (k:Int) y3=Qdp x0 (k:Int) y3) ?_ ?_ k (by omega)
 ·intro y3 _
  rw [QuL]
  simp only [Iw,Ir,Iq,Ik,Ij,Im,Il,Ed,Ip,Io,Is,Iv,It,Iu,Ee,J9,Qdp,show ilt (x0.length:Int) (Qc x0)=false from Bq (by simp only [Qc];omega),Qi,Bb,BS,List.foldl_nil]
 ·intro k hk ih y3 hy
  rw [QuL]
  have hle:=QkI x0[k] y3 y3.length
  obtain ⟨q,hq⟩: ∃ q,q=J4 x0[k] y3 y3.length:=⟨_,rfl⟩
  rw [←hq] at hle
  have c0:decide ((0:Int)<=(y3.length:Nat)/\((y3.length:Nat):Int)<=y3.length/\y3.length<=1000)=true:=Be (by omega)
  have c1:cWn y3 0 (q:Int)=true:=Be (by omega)
  have c2:cWn y3 (q:Int) (y3.length:Nat)=true:=Be (by omega)
  have w1:wnL tI y3 0 (q-0)=y3.take q:=by rw [QbJ (by omega),BG,Nat.sub_zero]
  have w2:wnL tI y3 q (y3.length-q)=y3.drop q:=by rw [QbJ (by omega),DE (by rw [Dr];omega)]
  have a1:Qq ([]:List Int) (y3.take q) 8=true:=Q1 (by omega) (by simp only [Bv,B4];omega)
  have a2:Qq (y3.take q) [x0[k]] 8=true:=Q1 (by omega) (by simp only [Bh,B4];omega)
  have a3:Qq (y3.take q++[x0[k]]) (y3.drop q) 8=true:=Q1 (by omega) (by simp only [Bm,Bh,B4,Dr];omega)
  simp only [Iw,Ir,Iq,Ik,Ij,Im,Il,Ed,Ip,Io,Is,Iv,It,Iu,Ee,J9,show ilt (k:Int) (Qc x0)=true from Be (by simp only [Qc];omega),QK,hk,Bo,B7,Qf,Bb,By,QO (show k<4611686018427387904 by omega),QL (y:=tI) hk,Qc,c0, ← hq,c1,c2,w1,w2,BV,a1,a2,a3,J9]
  have e:=ih (Xo y3 x0[k]) (by rw [QuF];omega)
  simp only [Xo, ← hq] at e
  rw [e]
  simp only [Qdp,Bb,Bg hk,Dp,Xo, ← hq]
theorem QJk:LO VH QkJ QuH 0:=QI (s:=VG) fun x y h _ q=>by simp only [QG,QH] at q;exact (QJi x.1 x.2.2.1 x.2.2.2.1 y.1 h).trans q
theorem QJl:LO VH QkK QuI 1:=QI (s:=Qdl) fun x y h _ q=>by simp only [QG,QH] at q;exact (QJj x.1 x.2.2.1 y.1 h).trans q
theorem s_f155 (l:List Int)(h:VF l=true):r_f155 l=some (.ms 50000,[.arr 3 tI (Fe l)]):=by
 simp only [VF,Ba] at h
 refine Eq.trans (congrArg (fun b=>br b _ _) (Be ⟨B1 _,by omega,h,by simp⟩)) ?_
 rfl
def QuM:Ent:=XW (.pr (.sl tI) .nil) (fun x=>(VF x.1)) (fun x=>(.ms 50000)) (fun x=>[.arr 3 tI (Fe x.1)])
theorem QJm:EM 155 QuM:=mS (lk:=lkL (lkc QJl (lkc QJk lkn))) VH QkL [((.t 2),none)] true (Jp _ (gA (gD QJf gN))) fun m=>QeD m fun x hok=>kT (s_f155 x.1 hok)
end
end Go.Proofs.YthlcobdnemhcdaaGreat.K
noncomputable section
namespace Go.Proofs.YthlcobdnemhcdaaGreat.K
open Go.RowKit
noncomputable section
theorem Yu {d:Dice}{l:List Int}(h:dOk d=true)(h1:l≠[])(h2:l.length<=100):QM d l=true:=by
 have:0<l.length:=List.length_pos_iff.2 h1
 simp only [QM,h,Bu,Ba]
 omega
theorem JD {d:Dice}{n:Int}(h:dOk d=true)(hn:n<=1000000):Qz d n=true:=by
 simp only [Qz,h,Bu,Ba]
 omega
theorem Xk {d:Dice}{n:Int}(h:dOk d=true)(h0:0<=n)(hn:n<=1000000):QT d n=true:=by
 simp only [QT,JD h hn,Bu,Ba]
 omega
abbrev Qcp (d:Dice):Int:=dof d [5,7,5,6,8,9]
def Yk (d:Dice):Keep:=(Qcp d,(YK (Ql d [5,7,5,6,8,9]) (Qcp d),()))
def Jo (d:Dice):Dice:=ZW (Ql d [5,7,5,6,8,9]) (Qcp d)
theorem Qi0 {d:Dice}(h:dOk d=true):dOk (Jo d)=true:=Qe6 (Jc h)
def QU5:TC:=aF Tryz.f100 []
def g_f100:G:=gG 12 [(50,WZ),(101,Qe5)] (fun _ _=>none)
def QGC (d0:Dice):OV:=
 let a1:=(dof d0 ([5,7,5,6,8,9]))
 let a2:=(Ql d0 ([5,7,5,6,8,9]))
 br (QM d0 ([5,7,5,6,8,9])) (br (GH a2 a1) (some (.t Qk (a1,((YK a2 a1),())),[.box (.t Qt (ZW a2 a1))])) none) none
theorem s_f100 (d:Dice)(h:dOk d=true):QGC d=some (.t Qk (Yk d),[.box (.t Qt (Jo d))]):=by
 have h1:QM d [5,7,5,6,8,9]=true:=Yu h (by decide) (by decide)
 have h2:GH (Ql d [5,7,5,6,8,9]) (dof d [5,7,5,6,8,9])=true:=Jc (l:=[5,7,5,6,8,9]) h
 simp only [QGC,h1,h2,Qf]
 rfl
def Qr1:Ent:=Xx Qt .nil (fun d x=>(dOk d)) (fun d x=>(.t Qk (Yk d))) (fun d x=>(Jo d))
theorem QGD:EM 100 Qr1:=mS g_f100 QU5 [((.c 2 true 2),some Qk)] false (gB (gD UB (gD QnG gN))) fun m=>WA m rfl fun d x hok=>kT (s_f100 d hok)
abbrev cD1 (d:Dice):Dice:=Qe d 1000
abbrev cD2 (d:Dice):Dice:=Ql (cD1 d) [3,2,4,1]
abbrev cD3 (d:Dice):Dice:=Ql (cD2 d) [0,5,10]
abbrev cD4 (d:Dice):Dice:=Ql (cD3 d) [1000,100,50,20]
def cD5 (d:Dice)(a:Bool):Dice:=bif a then Ql (cD4 d) [3,0,1] else cD4 d
def WV (d:Dice)(a:Bool):Int:=bif a then dof (cD4 d) [3,0,1] else 0
def cNm (d:Dice)(a:Bool)(s:ByteArray):List ByteArray:=bif done (cD5 d a) 3 then [s,Fv s (ByteArray.mk #[120])] else [s]
def Gb (d:Dice)(i s:ByteArray)(k:Keep)(id:Int)(a:Bool):Certificate:=
 (Qh d 1000,(i,(s,(k,(id,((dof (cD1 d) [3,2,4,1],(0,())),(dof (cD2 d) [0,5,10],(dof (cD3 d) [1000,100,50,20],(a,(WV d a,(cNm d a s,((0,(0,())),()))))))))))))
def XI (d:Dice)(i s:ByteArray)(k:Keep)(id g:Int)(a:Bool):Certificate:=(YZ (Gb d i s k id a) g).1
def Fb (d:Dice)(_i _s:ByteArray)(_k:Keep)(_id _g:Int)(a:Bool):Dice:=Qe (cD5 d a) 3
def E2 (d:Dice)(i s:ByteArray)(_k:Keep)(_id _g:Int)(_a:Bool):Bool:=dOk d&&decide (i.size<=1000/\s.size<=1000)
theorem QGE {d:Dice}(h:dOk d=true):dOk (cD4 d)=true:=Jc (Jc (Jc (QB h)))
theorem dOk_c5 {d:Dice}{a:Bool}(h:dOk d=true):dOk (cD5 d a)=true:=by
 cases a
 ·exact QGE h
 ·exact Jc (l:=[3,0,1]) (QGE h)
theorem QGF {d:Dice}{i s:ByteArray}{k:Keep}{id g:Int}{a:Bool}(h:dOk d=true):dOk (Fb d i s k id g a)=true:=QB (dOk_c5 h)
theorem QGG (a b:ByteArray):(Fv a b).size=a.size+b.size:=by simp [Fv]
theorem Qi1 {i s:ByteArray}{k:Keep}{id:Int}{a:Bool}{q p:Int}{u v:Keep}{x y:Int}(hi:i.size<=1000)(hs:s.size<=1000){l:List ByteArray}(hl:l.length<=2)(hn: ∀ t∈l,t.size<=1001):
  JS (q,(i,(s,(k,(id,(u,(x,(y,(a,(p,(l,(v,()))))))))))))=true:=by
 have hg: ∀ t:ByteArray,t.size<=1001->Jn t=true:=fun t ht=>Be (by omega)
 simp only [JS,Bc]
 refine ⟨hg _ (by omega),hg _ (by omega), ?_⟩
 simp only [Y0,Bc,Bi]
 exact ⟨Be (by show l.length<=_;omega),fun t ht=>hg t (hn t ht)⟩
def QU6:TC:=aF Tryz.f156 [(6,pD [(0,[50000]),(1,[17,5017,10017,15017,50000]),(2,[]),(3,[]),(4,[10]),(5,[]),(6,[50000]),(7,[]),(8,[24,5024,10024,15024,50000]),(9,[]),(10,[50000]),(11,[]),(12,[28,5028,10028,15028,50000]),(13,[50000]),(14,[]),(15,[31,5031,10031,15031,50000]),(16,[]),(17,[]),(18,[15,5015,10015,15015]),(19,[14,15,40,49])] (.one 0 (.one 2 (.one 3 (.one 4 (.one 5 (.one 6 (.one 7 (.one 10 (.one 11 (.one 13 (.one 14 (.one 16 (.alt 1 (.alt 8 (.one 9 (.alt 12 (.alt 15 (.of [17,18,19]) (.of [18,15,17,19])) (.of [18,12,15,17,19]))) (.of [18,8,9,12,15,17,19])) (.of [18,1,8,9,12,15,17,19])))))))))))))))]
def g_f156:G:=⟨TYs,[40],58,EL [(32,Xl),(35,F5),(50,WZ),(139,QjG)],keeps,(fun _ _=>none),IL [],RL []⟩
def Qi2 (d0:Dice)(p1 p2:ByteArray)(p3:Keep)(p4 p5:Int)(p6:Bool):OV:=
 let a1:=(Ql (Ql (Qe d0 1000) ([3,2,4,1])) ([0,5,10]))
 let a2:=(dof (Ql (Qe d0 1000) ([3,2,4,1])) ([0,5,10]))
 let a3:=(Ql a1 ([1000,100,50,20]))
 let a4:=(dof (Qe d0 1000) ([3,2,4,1]))
 let a5:=(dof a1 ([1000,100,50,20]))
 let a6:=Fv p2 (ByteArray.mk #[120])
 let a7:=Qh d0 1000
 let a8:=(Ql a3 ([3,0,1]))
 let a9:=(dof a3 ([3,0,1]))
 let a10:=cCat p2 (ByteArray.mk #[120])
 let a11:=Qq ([p2]) ([a6]) 16
 br (QM a1 ([1000,100,50,20])) (br (p6) (br (QM a3 ([3,0,1])) (br (QT a8 3) (br (done a8 3) (br a10 (br a11 (br (Gh (a7,(p1,(p2,((p3.1,(p3.2.1,())),(p4,((a4,(0,())),(a2,(a5,(p6,(a9,((([p2])++([a6])),((0,(0,())),())))))))))))) p5) (some (.t QP ((YZ (a7,(p1,(p2,((p3.1,(p3.2.1,())),(p4,((a4,(0,())),(a2,(a5,(p6,(a9,((([p2])++([a6])),((0,(0,())),())))))))))))) p5).1),[.box (.t Qt (Qe a8 3))])) none) none) none) (br (Gh (a7,(p1,(p2,((p3.1,(p3.2.1,())),(p4,((a4,(0,())),(a2,(a5,(p6,(a9,([p2],((0,(0,())),())))))))))))) p5) (some (.t QP ((YZ (a7,(p1,(p2,((p3.1,(p3.2.1,())),(p4,((a4,(0,())),(a2,(a5,(p6,(a9,([p2],((0,(0,())),())))))))))))) p5).1),[.box (.t Qt (Qe a8 3))])) none)) none) none) (br (QT a3 3) (br (done a3 3) (br a10 (br a11 (br (Gh (a7,(p1,(p2,((p3.1,(p3.2.1,())),(p4,((a4,(0,())),(a2,(a5,(p6,(0,((([p2])++([a6])),((0,(0,())),())))))))))))) p5) (some (.t QP ((YZ (a7,(p1,(p2,((p3.1,(p3.2.1,())),(p4,((a4,(0,())),(a2,(a5,(p6,(0,((([p2])++([a6])),((0,(0,())),())))))))))))) p5).1),[.box (.t Qt (Qe a3 3))])) none) none) none) (br (Gh (a7,(p1,(p2,((p3.1,(p3.2.1,())),(p4,((a4,(0,())),(a2,(a5,(p6,(0,([p2],((0,(0,())),())))))))))))) p5) (some (.t QP ((YZ (a7,(p1,(p2,((p3.1,(p3.2.1,())),(p4,((a4,(0,())),(a2,(a5,(p6,(0,([p2],((0,(0,())),())))))))))))) p5).1),[.box (.t Qt (Qe a3 3))])) none)) none)) none
def Qr2 (d0:Dice)(p1 p2:ByteArray)(p3:Keep)(p4 p5:Int)(p6:Bool):OV:=br (QM (Ql (Qe d0 1000) ([3,2,4,1])) ([0,5,10])) (Qi2 d0 p1 p2 p3 p4 p5 p6) none
def Qr3 (d0:Dice)(p1 p2:ByteArray)(p3:Keep)(p4 p5:Int)(p6:Bool):OV:=br (QM (Qe d0 1000) ([3,2,4,1])) (Qr2 d0 p1 p2 p3 p4 p5 p6) none
def QGH (d0:Dice)(p1 p2:ByteArray)(p3:Keep)(p4 p5:Int)(p6:Bool):OV:=frk (br (Qz d0 1000) (frk (br (QM (Qe d0 1000) ([3,2,4,1])) (frk (br (QM (Ql (Qe d0 1000) ([3,2,4,1])) ([0,5,10])) (frk (Qi2 d0 p1 p2 p3 p4 p5 p6) (Qi2 d0 p1 p2 p3 p4 p5 p6)) none) (Qr2 d0 p1 p2 p3 p4 p5 p6)) none) (Qr3 d0 p1 p2 p3 p4 p5 p6)) none) (br (Qz d0 1000) (Qr3 d0 p1 p2 p3 p4 p5 p6) none)
theorem s_f156 (d:Dice)(i s:ByteArray)(k:Keep)(id g:Int)(a:Bool)(h:E2 d i s k id g a=true):QGH d i s k id g a=some (.t QP (XI d i s k id g a),[.box (.t Qt (Fb d i s k id g a))]):=by
 simp only [E2,Bc,Ba] at h
 obtain ⟨h,hi,hs⟩:=h
 have h1:Qz d 1000=true:=JD h (by omega)
 have k1:=QB (n:=1000) h
 have h2:QM (Qe d 1000) [3,2,4,1]=true:=Yu k1 (by decide) (by decide)
 have k2:=Jc (l:=[3,2,4,1]) k1
 have h3:QM (Ql (Qe d 1000) [3,2,4,1]) [0,5,10]=true:=Yu k2 (by decide) (by decide)
 have k3:=Jc (l:=[0,5,10]) k2
 have h4:QM (Ql (Ql (Qe d 1000) [3,2,4,1]) [0,5,10]) [1000,100,50,20]=true:=Yu k3 (by decide) (by decide)
 have k4:=Jc (l:=[1000,100,50,20]) k3
 have h5:QM (Ql (Ql (Ql (Qe d 1000) [3,2,4,1]) [0,5,10]) [1000,100,50,20]) [3,0,1]=true:=Yu k4 (by decide) (by decide)
 have h6:QT (Ql (Ql (Ql (Ql (Qe d 1000) [3,2,4,1]) [0,5,10]) [1000,100,50,20]) [3,0,1]) 3=true:=Xk (Jc k4) (by omega) (by omega)
 have h7:QT (Ql (Ql (Ql (Qe d 1000) [3,2,4,1]) [0,5,10]) [1000,100,50,20]) 3=true:=Xk k4 (by omega) (by omega)
 have c1:cCat s (ByteArray.mk #[120])=true:=Be (by show ((s.size+1:Nat):Int)<=_;omega)
 have c2:Qq [s] [Fv s (ByteArray.mk #[120])] 16=true:=by rfl
 have hn1: ∀ t∈[s],t.size<=1001:=fun t ht=>by
  rw [BX] at ht
  subst ht
  omega
 have hn2: ∀ t∈[s]++[Fv s (ByteArray.mk #[120])],t.size<=1001:=fun t ht=>by
  simp only [BE,BX] at ht
  rcases ht with rfl|rfl
  ·omega
  ·rw [QGG];show s.size+1<=_;omega
 have c3: ∀ (q p x y:Int) (u v:Keep) (kk:Keep),Gh (q,(i,(s,(kk,(id,(u,(x,(y,(a,(p,([s],(v,())))))))))))) g=true:=fun q p x y u v kk=>Qi1 hi hs (by simp) hn1
 have c4: ∀ (q p x y:Int) (u v:Keep) (kk:Keep),Gh (q,(i,(s,(kk,(id,(u,(x,(y,(a,(p,([s]++[Fv s (ByteArray.mk #[120])],(v,())))))))))))) g=true:=fun q p x y u v kk=>Qi1 hi hs (by simp) hn2
 simp only [QGH,Qi2,Qr2,Qr3,J9,h1,h2,h3,h4,h5,h6,h7,c1,c2,c3,c4,Qf,J9]
 unfold XI Fb Gb cNm cD5 WV
 cases a with
 |true=>
  rw [Qf]
  simp only [B8]
  cases done (Ql (Ql (Ql (Ql (Qe d 1000) [3,2,4,1]) [0,5,10]) [1000,100,50,20]) [3,0,1]) 3<;>rfl
 |false=>
  rw [Qi]
  simp only [BW]
  cases done (Ql (Ql (Ql (Qe d 1000) [3,2,4,1]) [0,5,10]) [1000,100,50,20]) 3<;>rfl
def QGI:Ent:=Xx Qt (.pr .str (.pr .str (.pr Qk (.pr tI (.pr tI (.pr .bool .nil)))))) (fun d x=>(E2 d x.1 x.2.1 x.2.2.1 x.2.2.2.1 x.2.2.2.2.1 x.2.2.2.2.2.1)) (fun d x=>(.t QP (XI d x.1 x.2.1 x.2.2.1 x.2.2.2.1 x.2.2.2.2.1 x.2.2.2.2.2.1))) (fun d x=>(Fb d x.1 x.2.1 x.2.2.1 x.2.2.2.1 x.2.2.2.2.1 x.2.2.2.2.2.1))
theorem QU7:EM 156 QGI:=mS g_f156 QU6 [((.c 14 true 15),some QP)] false (Jp _ (gA (gD XM (gD E5 (gD UB (gD QsN gN)))))) fun m=>WA m rfl fun d x hok=>kT (s_f156 d x.1 x.2.1 x.2.2.1 x.2.2.2.1 x.2.2.2.2.1 x.2.2.2.2.2.1 hok)
end
end Go.Proofs.YthlcobdnemhcdaaGreat.K
noncomputable section
namespace Go.Proofs.YthlcobdnemhcdaaGreat.K
open Go.RowKit
noncomputable section
abbrev WW:ByteArray:=ByteArray.mk #[114,111,111,116]
abbrev XJ:List ByteArray:=[ByteArray.mk #[99,97],ByteArray.mk #[99,98],ByteArray.mk #[99,99]]
abbrev Up:Type:=List Certificate×Dice×ByteArray×Int
def WX:Nat->Nat->Up->Up
 |0,_,u=>u
 |m+1,i,(ab,d,iss,g)=>WX m (i+1) (XI d iss (XJ.getD i ByteArray.empty) (5,(2048,())) ((11+i:Nat):Int) g true::ab,Fb d iss (XJ.getD i ByteArray.empty) (5,(2048,())) ((11+i:Nat):Int) g true,XJ.getD i ByteArray.empty,((11+i:Nat):Int))
def XK (u:Up):Bool:=dOk u.2.1&&decide (u.2.2.1.size<=1000)
def chU (d:Dice):Up:=WX (dof d [1,0,2]).toNat 0 ([],Qe (Ql d [1,0,2]) 2,WW,1+Qh (Ql d [1,0,2]) 2)
def YY (d:Dice)(nm:ByteArray)(k:Keep)(id:Int):List Certificate:=XI (chU d).2.1 (chU d).2.2.1 nm k id (chU d).2.2.2 false::(chU d).1
def Gc (d:Dice)(nm:ByteArray)(k:Keep)(id:Int):Dice:=Fb (chU d).2.1 (chU d).2.2.1 nm k id (chU d).2.2.2 false
def Wr (d:Dice)(nm:ByteArray)(_k:Keep)(_id:Int):Bool:=dOk d&&decide (nm.size<=1000)
theorem Qr4 (i:Nat):(XJ.getD i ByteArray.empty).size<=2:=by
 rcases i with _|_|_|i
 ·exact BB 2
 ·exact BB 2
 ·exact BB 2
 ·exact Da _
theorem QGJ {ab:List Certificate}{d:Dice}{iss:ByteArray}{g:Int}{i:Nat}(h:XK (ab,d,iss,g)=true):XK (XI d iss (XJ.getD i ByteArray.empty) (5,(2048,())) ((11+i:Nat):Int) g true::ab,Fb d iss (XJ.getD i ByteArray.empty) (5,(2048,())) ((11+i:Nat):Int) g true,XJ.getD i ByteArray.empty,((11+i:Nat):Int))=true:=by
 simp only [XK,Bc,Ba] at h ⊢
 exact ⟨QGF h.1,by have:=Qr4 i;omega⟩
theorem Qcq: ∀ (m i:Nat) (u:Up),XK u=true->XK (WX m i u)=true/\(WX m i u).1.length=u.1.length+m
 |0,_,u,h=>⟨h,rfl⟩
 |m+1,i,(ab,d,iss,g),h=>by
  have:=Qcq m (i+1) _ (QGJ (i:=i) h)
  refine ⟨this.1,this.2.trans ?_⟩
  simp only [Br]
  omega
theorem cEta (c:Certificate):(c.1,(c.2.1,(c.2.2.1,((c.2.2.2.1.1,(c.2.2.2.1.2.1,())),(c.2.2.2.2.1,((c.2.2.2.2.2.1.1,(c.2.2.2.2.2.1.2.1,())),(c.2.2.2.2.2.2.1,(c.2.2.2.2.2.2.2.1,(c.2.2.2.2.2.2.2.2.1,(c.2.2.2.2.2.2.2.2.2.1,(c.2.2.2.2.2.2.2.2.2.2.1,((c.2.2.2.2.2.2.2.2.2.2.2.1.1,(c.2.2.2.2.2.2.2.2.2.2.2.1.2.1,())),()))))))))))))=c:=rfl
abbrev upQ (n i:Int)(ab:List Certificate)(d:Dice)(iss:ByteArray)(g:Int):Up:=WX (n-i).toNat i.toNat (ab,d,iss,g)
abbrev Qi3:Sh:=⟨[(0,.ptr 50000 0),(1,.ty .str),(3,.ty tI),(6,.ptr 6 0),(9,.ty tI),(10,.ty tI),(11,.ty .str),(12,.ms 12),(13,.ty tI)],[(6,.box Qk),(12,.arr 204 QP),(40,.no),(42,.no),(50000,.box Qt)]⟩
abbrev QGK:Sh:=⟨[(0,.ptr 50000 0),(1,.ty .str),(3,.ty tI),(6,.ptr 6 0),(10,.ty tI),(11,.ty .str),(12,.ms 12)],[(6,.box Qk),(12,.arr 204 QP),(40,.no),(42,.no),(50000,.box Qt)]⟩
def Qr5:Fg:=Qi3.f
def QGL:TC:=aF Tryz.f102 [(250,.nw 12 204),(250,pL 0 Qr5),(500,.mv [(40,12)]),(4003,.fg QGK.f)]
def QGM:TC:=lb 0 QGL
def QGN (x1:ByteArray)(x3 x9 x10:Int)(x11:ByteArray)(x13:Int)(y6:Keep)(y12:List Certificate)(Qa:Dice):VS:=Qi3.st ((),x1,x3,(),x9,x10,x11,(),x13,()) (y6,y12,(),(),Qa,())
def Qr6 (x1:ByteArray)(x3 x10:Int)(x11:ByteArray)(y6:Keep)(y12:List Certificate)(Qa:Dice):VS:=QGK.st ((),x1,x3,(),x10,x11,(),()) (y6,y12,(),(),Qa,())
def QU8:VS->Option (Bool×List (Bool×Exit×VS)):=mkL Qi3 (fun x y=>(decide (0<=x.2.2.2.2.2.2.2.2.1/\x.2.2.2.2.2.2.2.2.1<=x.2.2.2.2.1/\x.2.2.2.2.1<=3/\y.2.1.length<=x.2.2.2.2.2.2.2.2.1)&&XK (y.2.1,y.2.2.2.2.1,x.2.2.2.2.2.2.1,x.2.2.2.2.2.1))) (fun x y=>[(true,.exit 0,Qr6 (x.2.1) (x.2.2.1) ((upQ x.2.2.2.2.1 x.2.2.2.2.2.2.2.2.1 y.2.1 y.2.2.2.2.1 x.2.2.2.2.2.2.1 x.2.2.2.2.2.1).2.2.2) ((upQ x.2.2.2.2.1 x.2.2.2.2.2.2.2.2.1 y.2.1 y.2.2.2.2.1 x.2.2.2.2.2.2.1 x.2.2.2.2.2.1).2.2.1) (y.1) ((upQ x.2.2.2.2.1 x.2.2.2.2.2.2.2.2.1 y.2.1 y.2.2.2.2.1 x.2.2.2.2.2.2.1 x.2.2.2.2.2.1).1) ((upQ x.2.2.2.2.1 x.2.2.2.2.2.2.2.2.1 y.2.1 y.2.2.2.2.1 x.2.2.2.2.2.2.1 x.2.2.2.2.2.1).2.1))])
def Qr7:G:=⟨TYs,[40,53],56,EL [(32,Xl),(50,WZ),(156,QGI)],keeps,(Ls [QU8]),IL [],RL []⟩
def Qi4 (x1:ByteArray)(x3 x9 x10:Int)(x11:ByteArray)(x13:Int)(y6:Keep)(y12:List Certificate)(Qa:Dice):OX:=Qx (QA Qr7 Qr5 QGM) (QGN x1 x3 x9 x10 x11 x13 y6 y12 Qa)
def Qcr (kk:ByteArray->Int->Int->Int->ByteArray->Int->Keep->List Certificate->Dice->OX)(x1:ByteArray)(x3 x9 x10:Int)(x11:ByteArray)(x13:Int)(y6:Keep)(y12:List Certificate)(Qa:Dice):OX:=
 let a3:=(lgt .str ([(ByteArray.mk #[99,97]),(ByteArray.mk #[99,98]),(ByteArray.mk #[99,99])]) (Int.toNat x13))
 let a4:=Qj .i64 11 x13
 let a1:=(XI Qa x11 a3 (5,(2048,())) a4 x10 true)
 let a2:=((a1.2).1,(((a1.2).2).1,((((((a1.2).2).2).1).1,((((((a1.2).2).2).1).2).1,())),(((((a1.2).2).2).2).1,((((((((a1.2).2).2).2).2).1).1,((((((((a1.2).2).2).2).2).1).2).1,())),(((((((a1.2).2).2).2).2).2).1,((((((((a1.2).2).2).2).2).2).2).1,(((((((((a1.2).2).2).2).2).2).2).2).1,((((((((((a1.2).2).2).2).2).2).2).2).2).1,(((((((((((a1.2).2).2).2).2).2).2).2).2).2).1,((((((((((((((a1.2).2).2).2).2).2).2).2).2).2).2).1).1,((((((((((((((a1.2).2).2).2).2).2).2).2).2).2).2).1).2).1,())),())))))))))))
 br (ilt x13 x9) (br (cIx ([(ByteArray.mk #[99,97]),(ByteArray.mk #[99,98]),(ByteArray.mk #[99,99])]) x13) (br (E2 Qa x11 a3 (5,(2048,())) a4 x10 true) (br (Qq ([(a1.1,a2)]) y12 152) (kk x1 x3 x9 a4 a3 (Qj .i64 x13 1) y6 (([(a1.1,a2)])++y12) (Fb Qa x11 a3 (5,(2048,())) a4 x10 true)) none) none) none) (some (.exit 0,Qr6 x1 x3 x10 x11 y6 y12 Qa))
def Qi5 (x1:ByteArray)(x3 x9 x10:Int)(x11:ByteArray)(x13:Int)(y6:Keep)(y12:List Certificate)(Qa:Dice):OX:=
 let a1:=upQ x9 x13 y12 Qa x11 x10
 some (.exit 0,Qr6 (x1) (x3) (a1.2.2.2) (a1.2.2.1) (y6) (a1.1) (a1.2.1))
theorem QGO (x1:ByteArray)(x3 x9 x10:Int)(x11:ByteArray)(x13:Int)(y6:Keep)(y12:List Certificate)(Qa:Dice):Qi4 x1 x3 x9 x10 x11 x13 y6 y12 Qa=Qcr Qi4 x1 x3 x9 x10 x11 x13 y6 y12 Qa:=lnT (x:=Qcr (fun x1 x3 x9 x10 x11 x13 y6 y12 Qa=>some (.normal,QGN x1 x3 x9 x10 x11 x13 y6 y12 Qa)) x1 x3 x9 x10 x11 x13 y6 y12 Qa) (by simp only [Qcr,nxA];rfl)
def QGP (d0:Dice)(p1:ByteArray)(p2:Keep)(p3:Int):OV:=
 let a4:=(Ql d0 ([1,0,2]))
 let a1:=(upQ (dof d0 ([1,0,2])) (0:Int) ([]:List Certificate) (Qe a4 2) (ByteArray.mk #[114,111,111,116]) (Qj .i64 1 (Qh a4 2)))
 let a2:=XI (a1.2.1) (a1.2.2.1) (p1) (p2) (p3) (a1.2.2.2) false
 let a3:=((a2.2).1,(((a2.2).2).1,((((((a2.2).2).2).1).1,((((((a2.2).2).2).1).2).1,())),(((((a2.2).2).2).2).1,((((((((a2.2).2).2).2).2).1).1,((((((((a2.2).2).2).2).2).1).2).1,())),(((((((a2.2).2).2).2).2).2).1,((((((((a2.2).2).2).2).2).2).2).1,(((((((((a2.2).2).2).2).2).2).2).2).1,((((((((((a2.2).2).2).2).2).2).2).2).2).1,(((((((((((a2.2).2).2).2).2).2).2).2).2).2).1,((((((((((((((a2.2).2).2).2).2).2).2).2).2).2).2).1).1,((((((((((((((a2.2).2).2).2).2).2).2).2).2).2).2).1).2).1,())),())))))))))))
 br (QM d0 ([1,0,2])) (br (Qz a4 2) (br (decide (0<=(0:Int)/\(0:Int)<=(dof d0 ([1,0,2]))/\(dof d0 ([1,0,2]))<=3/\([]:List Certificate).length<=(0:Int))&&XK (([]:List Certificate),(Qe a4 2),(ByteArray.mk #[114,111,111,116]),(Qj .i64 1 (Qh a4 2)))) (br (E2 (a1.2.1) (a1.2.2.1) (p1) (p2) (p3) (a1.2.2.2) false) (br (Qq ([(a2.1,a3)]) (a1.1) 152) (some (.t (.sl QP) (([(a2.1,a3)])++(a1.1)),[.box (.t Qt (Fb (a1.2.1) (a1.2.2.1) (p1) (p2) (p3) (a1.2.2.2) false))])) none) none) none) none) none
theorem QU9 (x1:ByteArray)(x3 x9 x10:Int)(x11:ByteArray)(x13:Int)(y6:Keep)(y12:List Certificate)(Qa:Dice)(h:(decide (0<=x13/\x13<=x9/\x9<=3/\y12.length<=x13)&&XK (y12,Qa,x11,x10))=true):Qi4 x1 x3 x9 x10 x11 x13 y6 y12 Qa=Qi5 x1 x3 x9 x10 x11 x13 y6 y12 Qa:=by
 obtain ⟨h,hu⟩:=Bf.1 h
 obtain ⟨h0,h1,h2,h3⟩:=BD h
 clear h
 obtain ⟨k,rfl⟩:=Bl h0
 obtain ⟨n,rfl⟩:=Bl (show 0<=x9 by omega)
 have key: ∀ (m k:Nat) (x10:Int) (x11:ByteArray) (y12:List Certificate) (Qa:Dice),m=n-k->k<=n->y12.length<=k->XK (y12,Qa,x11,x10)=true->Qi4 x1 x3 (n:Int) x10 x11 (k:Int) y6 y12 Qa=Qi5 x1 x3 (n:Int) x10 x11 (k:Int) y6 y12 Qa:=by
  intro m
  induction m with
  |zero=>
   intro k x10 x11 y12 Qa hm h1 h3 hu
   have:k=n:=by omega
   subst this
   rw [QGO]
   simp only [Qcr,Qi5,show ilt (k:Int) (k:Int)=false from Bq (by omega),Qi,upQ,Int.sub_self,By,WX]
  |succ m ih=>
   intro k x10 x11 y12 Qa hm h1 h3 hu
   rw [QGO]
   have hk:k<3:=by omega
   have c1:cIx XJ (k:Int)=true:=by rw [QK];exact Be hk
   have e1:Qj .i64 11 (k:Int)=((11+k:Nat):Int):=(Jz (by omega)).trans (by omega)
   have hu2:=Bf.1 hu
   have hu3:x11.size<=1000:=BD hu2.2
   have c2:E2 Qa x11 (XJ.getD k ByteArray.empty) (5,(2048,())) ((11+k:Nat):Int) x10 true=true:=Bf.2 ⟨hu2.1,Be ⟨hu3,by have:=Qr4 k;omega⟩⟩
   have c3: ∀ c:Certificate,Qq [c] y12 152=true:=fun c=>Q1 (by omega) (by simp only [Bh];omega)
   have hg:lgt .str XJ k=XJ.getD k ByteArray.empty:=rfl
   simp only [Qcr,cEta,show ilt (k:Int) (n:Int)=true from Be (by omega),Qf,c1,e1,Bb,hg,c2,c3,QO (show k<4611686018427387904 by omega),BH]
   rw [ih (k+1) _ _ _ _ (by omega) (by omega) (by simp only [Br];omega) (QGJ hu)]
   have q1:((n:Int)-(k:Int)).toNat=m+1:=by omega
   have q2:((n:Int)-((k+1:Nat):Int)).toNat=m:=by omega
   simp only [Qi5,upQ,q1,q2,Bb,WX]
 exact key _ k _ _ _ _ rfl (by omega) (by omega) hu
theorem QVa:LO Qr7 Qr5 QGM 0:=QI (s:=Qi3) fun x y h _ q=>by simp only [QG,QH] at q;exact (QU9 x.2.1 x.2.2.1 x.2.2.2.2.1 x.2.2.2.2.2.1 x.2.2.2.2.2.2.1 x.2.2.2.2.2.2.2.2.1 y.1 y.2.1 y.2.2.2.2.1 h).trans q
theorem s_f102 (d:Dice)(nm:ByteArray)(k:Keep)(id:Int)(h:Wr d nm k id=true):QGP d nm k id=some (.t (.sl QP) (YY d nm k id),[.box (.t Qt (Gc d nm k id))]):=by
 simp only [Wr,Bc,Ba] at h
 obtain ⟨h,hn⟩:=h
 have h1:QM d [1,0,2]=true:=Yu h (by decide) (by decide)
 have k1:=Jc (l:=[1,0,2]) h
 have h2:Qz (Ql d [1,0,2]) 2=true:=JD k1 (by omega)
 have b2:=Q7 (d:=Ql d [1,0,2]) (n:=2) (by omega)
 have e2:Qj .i64 1 (Qh (Ql d [1,0,2]) 2)=1+Qh (Ql d [1,0,2]) 2:=Jz (by omega)
 have hm:=Zo (d:=d) (l:=[1,0,2]) (by decide)
 simp only [BA,BQ,Dd] at hm
 have hu0:XK ([],Qe (Ql d [1,0,2]) 2,WW,1+Qh (Ql d [1,0,2]) 2)=true:=Bf.2 ⟨QB (n:=2) k1,rfl⟩
 obtain ⟨hv,hl⟩:=Qcq (dof d [1,0,2]).toNat 0 _ hu0
 have hv2:=Bf.1 hv
 have hv3:(chU d).2.2.1.size<=1000:=BD hv2.2
 have c5:E2 (chU d).2.1 (chU d).2.2.1 nm k id (chU d).2.2.2 false=true:=Bf.2 ⟨hv2.1,Be ⟨hv3,hn⟩⟩
 have hl2:(chU d).1.length<=3:=by
  unfold chU
  rw [hl]
  simp only [Bv]
  omega
 have c6: ∀ c:Certificate,Qq [c] (chU d).1 152=true:=fun c=>Q1 (by omega) (by simp only [Bh];omega)
 have c7:(decide ((0:Int)<=0/\(0:Int)<=dof d [1,0,2]/\dof d [1,0,2]<=3/\(([]:List Certificate).length:Int)<=0)&&XK ([],Qe (Ql d [1,0,2]) 2,WW,1+Qh (Ql d [1,0,2]) 2))=true:=Bf.2 ⟨Be ⟨B1 _,by omega,by omega,B1 _⟩,hu0⟩
 have e3:upQ (dof d [1,0,2]) 0 [] (Qe (Ql d [1,0,2]) 2) WW (1+Qh (Ql d [1,0,2]) 2)=chU d:=by
  unfold upQ chU
  rw [Int.sub_zero,By]
 simp only [QGP,h1,h2,e2,Qf,cEta,e3,c5,c6]
 refine Eq.trans (congrArg (fun b=>br b _ _) c7) ?_
 rfl
def Qr8:Ent:=Xx Qt (.pr .str (.pr Qk (.pr tI .nil))) (fun d x=>(Wr d x.1 x.2.1 x.2.2.1)) (fun d x=>(.t (.sl QP) (YY d x.1 x.2.1 x.2.2.1))) (fun d x=>(Gc d x.1 x.2.1 x.2.2.1))
theorem QGQ:EM 102 Qr8:=mS (lk:=lkL (lkc QVa lkn)) Qr7 QGL [((.t 8),some (.sl QP))] false (Jp _ (gA (gD XM (gD UB (gD QU7 gN))))) fun m=>WA m rfl fun d x hok=>kT (s_f102 d x.1 x.2.1 x.2.2.1 hok)
end
end Go.Proofs.YthlcobdnemhcdaaGreat.K
noncomputable section
namespace Go.Proofs.YthlcobdnemhcdaaGreat.K
open Go.RowKit
noncomputable section
def QD8:Ent:=Qkm QkZ
theorem QSG:Qu Tryz.prog 154 (Qv QD8):=QIO Qk0.2
def suZ:Nat->List Int->Dice->List Int×Dice
 |0,l,d=>(l,d)
 |n+1,l,d=>suZ n (bif !J6 l (1+Qh d 16) then l++[1+Qh d 16] else l) (Qe d 16)
def suI (d:Dice):List Int×Dice:=suZ (2+Qh d 9).toNat [] (Qe d 9)
def Wp (d:Dice):List Int:=bif done (suI d).2 4 then Fe (suI d).1 else (suI d).1
def YD (d:Dice):Dice:=Qe (suI d).2 4
theorem QD9: ∀ (n:Nat) (l:List Int) (d:Dice),dOk d=true->dOk (suZ n l d).2=true/\(suZ n l d).1.length<=l.length+n
 |0,l,d,h=>⟨h,BB _⟩
 |n+1,l,d,h=>by
  have:=QD9 n (bif !J6 l (1+Qh d 16) then l++[1+Qh d 16] else l) (Qe d 16) (QB h)
  refine ⟨this.1,Db this.2 ?_⟩
  cases !J6 l (1+Qh d 16)<;>simp only [B8,BW,Bm,Bh]<;>omega
theorem Qql {d:Dice}(h:dOk d=true):dOk (suI d).2=true/\(suI d).1.length<=10:=by
 have h2:=QD9 (2+Qh d 9).toNat [] (Qe d 9) (QB h)
 have b:=Q7 (d:=d) (n:=9) (by omega)
 refine ⟨h2.1,Db h2.2 ?_⟩
 simp only [Bv]
 omega
theorem QbO {d:Dice}(h:dOk d=true):dOk (YD d)=true:=QB (n:=4) (Qql h).1
abbrev QhB:Sh:=⟨[(0,.ptr 50000 0),(3,.ms 3),(4,.ty tI)],[(3,.arr 3 tI),(23,.no),(27,.no),(5027,.no),(10027,.no),(15027,.no),(50000,.box Qt)]⟩
abbrev QEa:Sh:=⟨[(0,.ptr 50000 0),(3,.ms 3)],[(3,.arr 3 tI),(23,.no),(27,.no),(5027,.no),(10027,.no),(15027,.no),(50000,.box Qt)]⟩
def Qqm:Fg:=QhB.f
def QEb:TC:=aF Tryz.f99 [(58,.nw 3 3),(58,pL 0 Qqm),(931,.fg QEa.f)]
def QEc:TC:=lb 0 QEb
def QEd (x4:Int)(y3:List Int)(Qa:Dice):VS:=QhB.st ((),(),x4,()) (y3,(),(),(),(),(),Qa,())
def Qqn (y3:List Int)(Qa:Dice):VS:=QEa.st ((),(),()) (y3,(),(),(),(),(),Qa,())
def QSH:VS->Option (Bool×List (Bool×Exit×VS)):=mkL QhB (fun x y=>(decide (0<=x.2.2.1/\(y.1.length:Int)+x.2.2.1<=10)&&dOk y.2.2.2.2.2.2.1)) (fun x y=>[(true,.exit 0,Qqn ((suZ x.2.2.1.toNat y.1 y.2.2.2.2.2.2.1).1) ((suZ x.2.2.1.toNat y.1 y.2.2.2.2.2.2.1).2))])
def Qqo:G:=⟨TYs,[],29,EL [(32,Xl),(35,F5),(154,QD8),(155,QuM)],(154::keeps),(Ls [QSH]),IL [],RL []⟩
def QhC (x4:Int)(y3:List Int)(Qa:Dice):OX:=Qx (QA Qqo Qqm QEc) (QEd x4 y3 Qa)
def QbP (kk:Int->List Int->Dice->OX)(x4:Int)(y3:List Int)(Qa:Dice):OX:=
 let a1:=Qj .i64 1 (Qh Qa 16)
 br (igt x4 0) (br (Qz Qa 16) (br (Z2 y3 a1) (br (!(J6 y3 a1)) (br (Qq y3 ([a1]) 8) (kk (Qw .i64 x4 1) (y3++([a1])) (Qe Qa 16)) none) (kk (Qw .i64 x4 1) y3 (Qe Qa 16))) none) none) (some (.exit 0,Qqn y3 Qa))
def QhD (x4:Int)(y3:List Int)(Qa:Dice):OX:=
 let a1:=suZ x4.toNat y3 Qa
 some (.exit 0,Qqn (a1.1) (a1.2))
theorem QEe (x4:Int)(y3:List Int)(Qa:Dice):QhC x4 y3 Qa=QbP QhC x4 y3 Qa:=lnT (x:=QbP (fun x4 y3 Qa=>some (.normal,QEd x4 y3 Qa)) x4 y3 Qa) (by simp only [QbP,nxA];rfl)
def r_f99 (d0:Dice):OV:=
 let a2:=Qj .i64 2 (Qh d0 9)
 let a1:=(suZ a2.toNat ([]:List Int) (Qe d0 9))
 br (Qz d0 9) (br (decide (0<=a2/\(([]:List Int).length:Int)+a2<=10)&&dOk (Qe d0 9)) (br (QT (a1.2) 4) (br (done (a1.2) 4) (br (VF (a1.1)) (some (.ms 50001,[.box (.t Qt (Qe (a1.2) 4)),.arr 3 tI (Fe (a1.1))])) none) (some (.ms 50001,[.box (.t Qt (Qe (a1.2) 4)),.arr 3 tI (a1.1)]))) none) none) none
theorem QSI (x4:Int)(y3:List Int)(Qa:Dice)(h:(decide (0<=x4/\(y3.length:Int)+x4<=10)&&dOk Qa)=true):QhC x4 y3 Qa=QhD x4 y3 Qa:=by
 obtain ⟨h,hd⟩:=Bf.1 h
 obtain ⟨h0,h1⟩:=BD h
 clear h
 obtain ⟨n,rfl⟩:=Bl h0
 have key: ∀ (n:Nat) (y3:List Int) (Qa:Dice),y3.length+n<=10->dOk Qa=true->QhC (n:Int) y3 Qa=QhD (n:Int) y3 Qa:=by
  intro n
  induction n with
  |zero=>
   intro y3 Qa _ _
   rw [QEe]
   simp only [QbP,QhD,show igt ((0:Nat):Int) 0=false from rfl,Qi,Bb,suZ]
  |succ n ih=>
   intro y3 Qa hl hd
   rw [QEe]
   have b:=Q7 (d:=Qa) (n:=16) (by omega)
   have e1:Qj .i64 1 (Qh Qa 16)=1+Qh Qa 16:=Jz (by omega)
   have e2:Qw .i64 ((n+1:Nat):Int) 1=(n:Int):=(JO (by omega)).trans (by omega)
   have c1:Qz Qa 16=true:=JD hd (by omega)
   have c2: ∀ v,Z2 y3 v=true:=fun v=>Be (by omega)
   have c3: ∀ v,Qq y3 [v] 8=true:=fun v=>Q1 (by omega) (by simp only [Bh];omega)
   simp only [QbP,show igt ((n+1:Nat):Int) 0=true from Be (by omega),Qf,e1,e2,c1,c2,c3]
   rw [ih y3 (Qe Qa 16) (by omega) (QB hd),ih (y3++[1+Qh Qa 16]) (Qe Qa 16) (by simp only [Bm,Bh];omega) (QB hd)]
   simp only [QhD,Bb,suZ]
   cases !J6 y3 (1+Qh Qa 16)<;>rfl
 exact key n y3 Qa (by omega) hd
theorem QSJ:LO Qqo Qqm QEc 0:=QI (s:=QhB) fun x y h _ q=>by simp only [QG,QH] at q;exact (QSI x.2.2.1 y.1 y.2.2.2.2.2.2.1 h).trans q
theorem s_f99 (d:Dice)(h:dOk d=true):r_f99 d=some (.ms 50001,[.box (.t Qt (YD d)),.arr 3 tI (Wp d)]):=by
 have b:=Q7 (d:=d) (n:=9) (by omega)
 have e1:Qj .i64 2 (Qh d 9)=2+Qh d 9:=Jz (by omega)
 have c1:Qz d 9=true:=JD h (by omega)
 obtain ⟨k1,k2⟩:=Qql h
 have c2:QT (suI d).2 4=true:=Xk k1 (by omega) (by omega)
 have c3:VF (suI d).1=true:=Be (by omega)
 have c4:(decide ((0:Int)<=2+Qh d 9/\(([]:List Int).length:Int)+(2+Qh d 9)<=10)&&dOk (Qe d 9))=true:=Bf.2 ⟨Be ⟨by omega,by simp only [Bv];omega⟩,QB h⟩
 have e2:suZ (2+Qh d 9).toNat [] (Qe d 9)=suI d:=rfl
 simp only [r_f99,c1,e1,Qf,e2,c2,c3]
 refine Eq.trans (congrArg (fun b=>br b _ _) c4) ?_
 rw [Qf]
 unfold Wp YD
 cases done (suI d).2 4<;>rfl
def Qqp:Ent:=XA [.ptr 50000 0] [.box Qt] (fun x y=>(dOk y.1)) (fun x y=>(.ms 50001)) (fun x y=>[.box (.t Qt (YD y.1)),.arr 3 tI (Wp y.1)])
theorem QEf:EM 99 Qqp:=mS (lk:=lkL (lkc QSJ lkn)) Qqo QEb [((.t 2),none)] true (Jp _ (gA (gD XM (gD E5 (gC Qk0.1 QSG (gD QJm gN)))))) fun m=>X8 m fun x y hok=>kT (s_f99 y.1 hok)
end
end Go.Proofs.YthlcobdnemhcdaaGreat.K
noncomputable section
namespace Go.Proofs.YthlcobdnemhcdaaGreat.K
open Go.RowKit
noncomputable section
abbrev iB (d:Dice):Bool:=igt (Qh (Jo d) 3) 0
abbrev iD2 (d:Dice):Dice:=Qe (Jo d) 3
abbrev iA (d:Dice):Int:=dof (iD2 d) [5,7]
def Gw (d:Dice):Keep:=bif iB d then (iA d,(YK (Ql (iD2 d) [5,7]) (iA d),())) else Yk d
def iD3 (d:Dice):Dice:=bif iB d then ZW (Ql (iD2 d) [5,7]) (iA d) else iD2 d
def iId (d:Dice):Int:=100+Qh (iD3 d) 20
abbrev iD4 (d:Dice):Dice:=Qe (iD3 d) 20
abbrev iD5 (d:Dice):Dice:=Qe (iD4 d) 9
def iCh (d:Dice)(nm:ByteArray):List Certificate:=bif !done (iD4 d) 9 then YY (iD5 d) nm (Gw d) (iId d) else []
def iD6 (d:Dice)(nm:ByteArray):Dice:=bif !done (iD4 d) 9 then Gc (iD5 d) nm (Gw d) (iId d) else iD5 d
def idV (d:Dice)(nm:ByteArray):Identity:=(Gw d,(iId d,(iCh d nm,())))
theorem QlX {d:Dice}(h:dOk d=true):dOk (iD3 d)=true:=by
 unfold iD3
 cases iB d
 ·exact QB (n:=3) (Qi0 h)
 ·exact Qe6 (Jc (l:=[5,7]) (QB (n:=3) (Qi0 h)))
theorem QK2 {d:Dice}{nm:ByteArray}{k:Keep}{id:Int}(h:dOk d=true):dOk (Gc d nm k id)=true:=by
 have h2:=(Qcq (dof d [1,0,2]).toNat 0 _ (Bf.2 ⟨QB (n:=2) (Jc (l:=[1,0,2]) h),rfl⟩:XK ([],Qe (Ql d [1,0,2]) 2,WW,1+Qh (Ql d [1,0,2]) 2)=true)).1
 exact QGF (Bf.1 h2).1
theorem V4 {d:Dice}{nm:ByteArray}(h:dOk d=true):dOk (iD6 d nm)=true:=by
 have h5:dOk (iD5 d)=true:=QB (n:=9) (QB (n:=20) (QlX h))
 unfold iD6
 cases !done (iD4 d) 9
 ·exact h5
 ·exact QK2 h5
def Zn:Nat->ByteArray->Dice->List Identity×Dice
 |0,_,d=>([],d)
 |n+1,nm,d=>(idV d nm::(Zn n nm (iD6 d nm)).1,(Zn n nm (iD6 d nm)).2)
theorem V5: ∀ (n:Nat) (nm:ByteArray) (d:Dice),dOk d=true->dOk (Zn n nm d).2=true/\(Zn n nm d).1.length=n
 |0,_,d,h=>⟨h,rfl⟩
 |n+1,nm,d,h=>by
  have:=V5 n nm (iD6 d nm) (V4 h)
  exact ⟨this.1,by simp only [Zn,Br,this.2]⟩
abbrev eL0 (d:Dice):Int:=dof d [1,1,2,3]
abbrev eD1 (d:Dice):Dice:=Ql d [1,1,2,3]
abbrev eD2 (d:Dice):Dice:=YD (eD1 d)
abbrev eD3 (d:Dice):Dice:=Qe (eD2 d) 2
abbrev eD4 (d:Dice):Dice:=Qe (eD3 d) 2
abbrev eD5 (d:Dice):Dice:=Qe (eD4 d) (5-eL0 d)
abbrev eD6 (d:Dice):Dice:=Qe (eD5 d) 3
abbrev eB (d:Dice):Bool:=igt (Qh (eD5 d) 3) 0
def XS (d:Dice):Int:=bif eB d then 1 else eL0 d
def XT (d:Dice):Int:=bif eB d then dof (eD6 d) [3,4,2] else eL0 d+Qh (eD4 d) (5-eL0 d)
def eD7 (d:Dice):Dice:=bif eB d then Ql (eD6 d) [3,4,2] else eD6 d
abbrev eD8 (d:Dice):Dice:=Ql (eD7 d) [1,2,1,3,0]
def ZF (d:Dice)(nm:ByteArray):List Identity×Dice:=Zn (dof (eD7 d) [1,2,1,3,0]).toNat nm (eD8 d)
abbrev eAn (d:Dice)(nm:ByteArray):List Int:=lgt (.sl tI) [[1,2],[1,2],[1],[2,11],([]:List Int)] (Qh (ZF d nm).2 5).toNat
abbrev eD10 (d:Dice)(nm:ByteArray):Dice:=Qe (ZF d nm).2 5
abbrev eHs (d:Dice)(nm:ByteArray):List Int:=lgt (.sl tI) [[1,2,3,4],[2,3,4],[3,4]] (Qh (eD10 d nm) 3).toNat
def epV (d:Dice)(nm:ByteArray):Endpoint:=(nm,(XS d,(XT d,(Wp (eD1 d),(done (eD2 d) 2,((ZF d nm).1,(eAn d nm,(eHs d nm,(done (eD3 d) 2,())))))))))
def epN (d:Dice)(nm:ByteArray):Dice:=Qe (eD10 d nm) 3
def Fn (d:Dice)(nm:ByteArray):Bool:=dOk d&&decide (nm.size<=1000)
def QKR:List DO:=dT Tryz.f58 2
abbrev Gu:Sh:=⟨[(0,.ptr 50000 0),(1,.ty .str),(4,.ptr 4 0),(5,.ptr 5 0),(6,.ty tI)],[(4,.box QC),(5,.bag [.ty .str,.ty tI,.ty tI,.ms 15,.ty .bool,.ms 20505,.nl,.nl,.ty .bool]),(15,.arr 3 tI),(78,.no),(5015,.no),(10015,.no),(15015,.no),(20505,.arr 126 QX),(50000,.box Qt)]⟩
abbrev QlI:Sh:=⟨[(0,.ptr 50000 0),(4,.ptr 4 0),(5,.ptr 5 0)],[(4,.box QC),(5,.bag [.ty .str,.ty tI,.ty tI,.ms 15,.ty .bool,.ms 20505,.nl,.nl,.ty .bool]),(15,.arr 3 tI),(78,.no),(5015,.no),(10015,.no),(15015,.no),(20505,.arr 126 QX),(50000,.box Qt)]⟩
def Fl:Fg:=Gu.f
def Ue:TC:=aF Tryz.f58 [(14,pD [(0,[5,15,78,5015,10015,15015,20505]),(1,[5,15,78,5015,10015,15015,20505]),(2,[50000]),(3,[5,15,78,5015,10015,15015,20505]),(4,[5,15,78,5015,10015,15015,20505]),(5,[15,78,5015,10015,15015,20505]),(6,[27,5027,10027,15027,50000]),(7,[15,78,5015,10015,15015,20505]),(8,[5,15,78,5015,10015,15015,20505]),(9,[4,5,15,78,5015,10015,15015,20505])] (.of [0,1,2,3,4,5,6,7,8,9])),(250,.nf 5 5 126 20505),(250,pL 0 Fl),(4003,.fg ⟨[(0,none),(4,none),(5,none)],[(4,some QC),(5,some QC),(15,none),(78,none),(5015,none),(10015,none),(15015,none),(20505,none),(50000,some Qt)]⟩)]
def IF:TC:=lb 0 Ue
def Eh:List (RV×Option Ty):=[((.c 4 true 9),none)]
def Gv (x1:ByteArray)(x6:Int)(y4:Endpoint)(y5_0:ByteArray)(y5_1 y5_2:Int)(y5_4 y5_8:Bool)(y15:List Int)(QN:List Identity)(Qa:Dice):VS:=Gu.st ((),x1,(),(),x6,()) (y4,(y5_0,y5_1,y5_2,(),y5_4,(),(),(),y5_8,()),y15,(),(),(),(),QN,Qa,())
def Fm (y4:Endpoint)(y5_0:ByteArray)(y5_1 y5_2:Int)(y5_4 y5_8:Bool)(y15:List Int)(QN:List Identity)(Qa:Dice):VS:=QlI.st ((),(),(),()) (y4,(y5_0,y5_1,y5_2,(),y5_4,(),(),(),y5_8,()),y15,(),(),(),(),QN,Qa,())
def QlJ:VS->Option (Bool×List (Bool×Exit×VS)):=mkL Gu (fun x y=>(decide (0<=x.2.2.2.2.1/\(y.2.2.2.2.2.2.2.1.length:Int)+x.2.2.2.2.1<=10/\x.2.1.size<=1000)&&dOk y.2.2.2.2.2.2.2.2.1)) (fun x y=>[(true,.exit 0,Fm (y.1) (y.2.1.1) (y.2.1.2.1) (y.2.1.2.2.1) (y.2.1.2.2.2.2.1) (y.2.1.2.2.2.2.2.2.2.2.1) (y.2.2.1) (y.2.2.2.2.2.2.2.1++(Zn x.2.2.2.2.1.toNat x.2.1 y.2.2.2.2.2.2.2.2.1).1) ((Zn x.2.2.2.2.1.toNat x.2.1 y.2.2.2.2.2.2.2.2.1).2))])
def Xs:G:=gG 100 [(32,Xl),(35,F5),(50,WZ),(99,Qqp),(100,Qr1),(101,Qe5),(102,Qr8)] (Ls [QlJ])
def Xt (x1:ByteArray)(x6:Int)(y4:Endpoint)(y5_0:ByteArray)(y5_1 y5_2:Int)(y5_4 y5_8:Bool)(y15:List Int)(QN:List Identity)(Qa:Dice):OX:=Qx (QA Xs Fl IF) (Gv x1 x6 y4 y5_0 y5_1 y5_2 y5_4 y5_8 y15 QN Qa)
def UI (kk:ByteArray->Int->Endpoint->ByteArray->Int->Int->Bool->Bool->List Int->List Identity->Dice->OX)(x1:ByteArray)(x6:Int)(y4:Endpoint)(y5_0:ByteArray)(y5_1 y5_2:Int)(y5_4 y5_8:Bool)(y15:List Int)(QN:List Identity)(Qa:Dice):OX:=
 let a1:=Qe (Jo Qa) 3
 let a2:=(ZW (Ql a1 ([5,7])) (dof a1 ([5,7])))
 let a3:=((dof a1 ([5,7])),((YK (Ql a1 ([5,7])) (dof a1 ([5,7]))),()))
 let a4:=Qj .i64 100 (Qh a2 20)
 let a5:=Qj .i64 100 (Qh a1 20)
 let a6:=((Yk Qa).1,(((Yk Qa).2).1,()))
 let a7:=Qe (Qe a2 20) 9
 let a8:=Qe (Qe a1 20) 9
 let a9:=Qw .i64 x6 1
 let a10:=((YY a8 x1 (Yk Qa) a5),())
 let a11:=((YY a7 x1 a3 a4),())
 br (igt x6 0) (br (dOk Qa) (br (Qz (Jo Qa) 3) (br (igt (Qh (Jo Qa) 3) 0) (br (QM a1 ([5,7])) (br (GH (Ql a1 ([5,7])) (dof a1 ([5,7]))) (br (Qz a2 20) (br (QT (Qe a2 20) 9) (br (!(done (Qe a2 20) 9)) (br (Wr a7 x1 a3 a4) (br (Qq QN ([(a3,(a4,a11))]) 48) (kk x1 a9 y4 y5_0 y5_1 y5_2 y5_4 y5_8 y15 (QN++([(a3,(a4,a11))])) (Gc a7 x1 a3 a4)) none) none) (br (Qq QN ([(a3,(a4,(([]:List Certificate),())))]) 48) (kk x1 a9 y4 y5_0 y5_1 y5_2 y5_4 y5_8 y15 (QN++([(a3,(a4,(([]:List Certificate),())))])) a7) none)) none) none) none) none) (br (Qz a1 20) (br (QT (Qe a1 20) 9) (br (!(done (Qe a1 20) 9)) (br (Wr a8 x1 (Yk Qa) a5) (br (Qq QN ([(a6,(a5,a10))]) 48) (kk x1 a9 y4 y5_0 y5_1 y5_2 y5_4 y5_8 y15 (QN++([(a6,(a5,a10))])) (Gc a8 x1 (Yk Qa) a5)) none) none) (br (Qq QN ([(a6,(a5,(([]:List Certificate),())))]) 48) (kk x1 a9 y4 y5_0 y5_1 y5_2 y5_4 y5_8 y15 (QN++([(a6,(a5,(([]:List Certificate),())))])) a8) none)) none) none)) none) none) (some (.exit 0,Fm y4 y5_0 y5_1 y5_2 y5_4 y5_8 y15 QN Qa))
def Y3 (x1:ByteArray)(x6:Int)(y4:Endpoint)(y5_0:ByteArray)(y5_1 y5_2:Int)(y5_4 y5_8:Bool)(y15:List Int)(QN:List Identity)(Qa:Dice):OX:=
 let a1:=Zn x6.toNat x1 Qa
 some (.exit 0,Fm (y4) (y5_0) (y5_1) (y5_2) (y5_4) (y5_8) (y15) (QN++a1.1) (a1.2))
theorem VY (x1:ByteArray)(x6:Int)(y4:Endpoint)(y5_0:ByteArray)(y5_1 y5_2:Int)(y5_4 y5_8:Bool)(y15:List Int)(QN:List Identity)(Qa:Dice):Xt x1 x6 y4 y5_0 y5_1 y5_2 y5_4 y5_8 y15 QN Qa=UI Xt x1 x6 y4 y5_0 y5_1 y5_2 y5_4 y5_8 y15 QN Qa:=lnT (x:=UI (fun x1 x6 y4 y5_0 y5_1 y5_2 y5_4 y5_8 y15 QN Qa=>some (.normal,Gv x1 x6 y4 y5_0 y5_1 y5_2 y5_4 y5_8 y15 QN Qa)) x1 x6 y4 y5_0 y5_1 y5_2 y5_4 y5_8 y15 QN Qa) (by simp only [UI,nxA];rfl)
def Ei (d0:Dice)(p1:ByteArray):OV:=
 let a4:=(Ql d0 ([1,1,2,3]))
 let a6:=Qe (YD a4) 2
 let a13:=(dof d0 ([1,1,2,3]))
 let a5:=Qw .i64 5 a13
 let a12:=Qe (Qe a6 2) a5
 let a1:=Qe a12 3
 let a7:=(Ql a1 ([3,4,2]))
 let a10:=(dof a7 ([1,2,1,3,0]))
 let a2:=(Zn a10.toNat p1 (Ql a7 ([1,2,1,3,0])))
 let a11:=(dof a1 ([1,2,1,3,0]))
 let a3:=(Zn a11.toNat p1 (Ql a1 ([1,2,1,3,0])))
 let a8:=Qe (a2.2) 5
 let a9:=Qe (a3.2) 5
 br (QM d0 ([1,1,2,3])) (br (dOk a4) (br (QT (YD a4) 2) (br (QT a6 2) (br (Qz (Qe a6 2) a5) (br (Qz a12 3) (br (igt (Qh a12 3) 0) (br (QM a1 ([3,4,2])) (br (QM a7 ([1,2,1,3,0])) (br (decide (0<=a10/\(([]:List Identity).length:Int)+a10<=10/\p1.size<=1000)&&dOk (Ql a7 ([1,2,1,3,0]))) (br (Qz (a2.2) 5) (br (cIx ([[1,2],[1,2],[1],[2,11],([]:List Int)]) (Qh (a2.2) 5)) (br (Qz a8 3) (br (cIx ([[1,2,3,4],[2,3,4],[3,4]]) (Qh a8 3)) (some (.ag [(.t .str (p1)),(.t tI (1:Int)),(.t tI (dof a1 ([3,4,2]))),(.ms 50001),(.t .bool (done (YD a4) 2)),(.ms 50002),(.t (.sl tI) (lgt (.sl tI) ([[1,2],[1,2],[1],[2,11],([]:List Int)]) (Int.toNat (Qh (a2.2) 5)))),(.t (.sl tI) (lgt (.sl tI) ([[1,2,3,4],[2,3,4],[3,4]]) (Int.toNat (Qh a8 3)))),(.t .bool (done a6 2))],[.box (.t Qt (Qe a8 3)),.arr 3 tI (Wp a4),.arr 126 QX (([]:List Identity)++a2.1)])) none) none) none) none) none) none) none) (br (QM a1 ([1,2,1,3,0])) (br (decide (0<=a11/\(([]:List Identity).length:Int)+a11<=10/\p1.size<=1000)&&dOk (Ql a1 ([1,2,1,3,0]))) (br (Qz (a3.2) 5) (br (cIx ([[1,2],[1,2],[1],[2,11],([]:List Int)]) (Qh (a3.2) 5)) (br (Qz a9 3) (br (cIx ([[1,2,3,4],[2,3,4],[3,4]]) (Qh a9 3)) (some (.ag [(.t .str (p1)),(.t tI a13),(.t tI (Qj .i64 a13 (Qh (Qe a6 2) a5))),(.ms 50001),(.t .bool (done (YD a4) 2)),(.ms 50002),(.t (.sl tI) (lgt (.sl tI) ([[1,2],[1,2],[1],[2,11],([]:List Int)]) (Int.toNat (Qh (a3.2) 5)))),(.t (.sl tI) (lgt (.sl tI) ([[1,2,3,4],[2,3,4],[3,4]]) (Int.toNat (Qh a9 3)))),(.t .bool (done a6 2))],[.box (.t Qt (Qe a9 3)),.arr 3 tI (Wp a4),.arr 126 QX (([]:List Identity)++a3.1)])) none) none) none) none) none) none)) none) none) none) none) none) none
theorem QlK (d0:Dice)(p1:ByteArray):QS Xs Ue Eh true [.ptr 50000 0,.t .str p1] [.box (.t Qt d0)]=Ei d0 p1:=by kernel_rfl
theorem ok_f58:Option.map (trC Tryz.prog) Tryz.f58.body=some Ue.er:=by kernel_rfl
theorem QKT:XV Tryz.prog Tryz.f58.results.toList=some (Eh.map Prod.fst):=by kernel_rfl
theorem Qv4:Ja Tryz.prog 58:= .inr ⟨by decide,_,Tryz.func58,by kernel_rfl,by kernel_rfl⟩
theorem QlL:GOk Tryz.prog Xs:=Jp _ (gA (gD XM (gD E5 (gD UB (gD QEf (gD QGD (gD QnG (gD QGQ gN))))))))
theorem QlM (x1:ByteArray)(x6:Int)(y4:Endpoint)(y5_0:ByteArray)(y5_1 y5_2:Int)(y5_4 y5_8:Bool)(y15:List Int)(QN:List Identity)(Qa:Dice)(h:(decide (0<=x6/\(QN.length:Int)+x6<=10/\x1.size<=1000)&&dOk Qa)=true):Xt x1 x6 y4 y5_0 y5_1 y5_2 y5_4 y5_8 y15 QN Qa=Y3 x1 x6 y4 y5_0 y5_1 y5_2 y5_4 y5_8 y15 QN Qa:=by
 obtain ⟨h,hd⟩:=Bf.1 h
 obtain ⟨h0,h1,h2⟩:=BD h
 clear h
 obtain ⟨n,rfl⟩:=Bl h0
 have key: ∀ (n:Nat) (QN:List Identity) (Qa:Dice),QN.length+n<=10->dOk Qa=true->Xt x1 (n:Int) y4 y5_0 y5_1 y5_2 y5_4 y5_8 y15 QN Qa=Y3 x1 (n:Int) y4 y5_0 y5_1 y5_2 y5_4 y5_8 y15 QN Qa:=by
  intro n
  induction n with
  |zero=>
   intro QN Qa _ _
   rw [VY]
   simp only [UI,Y3,show igt ((0:Nat):Int) 0=false from rfl,Qi,Bb,Zn,BL]
  |succ n ih=>
   intro QN Qa hl hd
   rw [VY]
   have e2:Qw .i64 ((n+1:Nat):Int) 1=(n:Int):=(JO (by omega)).trans (by omega)
   have k1:=Qi0 hd
   have k2:=QB (n:=3) k1
   have k3:=Jc (l:=[5,7]) k2
   have k4: ∀ a,dOk (ZW (Ql (Qe (Jo Qa) 3) [5,7]) a)=true:=fun a=>Qe6 k3
   have c1:Qz (Jo Qa) 3=true:=JD k1 (by omega)
   have c2:QM (Qe (Jo Qa) 3) [5,7]=true:=Yu k2 (by decide) (by decide)
   have c3: ∀ a,GH (Ql (Qe (Jo Qa) 3) [5,7]) a=true:=fun a=>k3
   have c4: ∀ a,Qz (ZW (Ql (Qe (Jo Qa) 3) [5,7]) a) 20=true:=fun a=>JD (k4 a) (by omega)
   have c5: ∀ a,QT (Qe (ZW (Ql (Qe (Jo Qa) 3) [5,7]) a) 20) 9=true:=fun a=>Xk (QB (k4 a)) (by omega) (by omega)
   have c6:Qz (Qe (Jo Qa) 3) 20=true:=JD k2 (by omega)
   have c7:QT (Qe (Qe (Jo Qa) 3) 20) 9=true:=Xk (QB k2) (by omega) (by omega)
   have c8: ∀ a k i,Wr (Qe (Qe (ZW (Ql (Qe (Jo Qa) 3) [5,7]) a) 20) 9) x1 k i=true:=fun a k i=>Bf.2 ⟨QB (QB (k4 a)),Be h2⟩
   have c9: ∀ k i,Wr (Qe (Qe (Qe (Jo Qa) 3) 20) 9) x1 k i=true:=fun k i=>Bf.2 ⟨QB (QB k2),Be h2⟩
   have ca: ∀ v,Qq QN [v] 48=true:=fun v=>Q1 (by omega) (by simp only [Bh];omega)
   have cb: ∀ d:Dice,Qj .i64 100 (Qh d 20)=100+Qh d 20:=fun d=>by
    have b:=Q7 (d:=d) (n:=20) (by omega)
    exact Jz (by omega)
   simp only [UI,show igt ((n+1:Nat):Int) 0=true from Be (by omega),Qf,hd,e2,c1,c2,c3,c4,c5,c6,c7,c8,c9,ca,cb]
   have hi: ∀ v d,dOk d=true->Xt x1 (n:Int) y4 y5_0 y5_1 y5_2 y5_4 y5_8 y15 (QN++[v]) d=Y3 x1 (n:Int) y4 y5_0 y5_1 y5_2 y5_4 y5_8 y15 (QN++[v]) d:=fun v d hd=>ih _ _ (by simp only [Bm,Bh];omega) hd
   have hz:=hi (idV Qa x1) (iD6 Qa x1) (V4 hd)
   have goal2:Y3 x1 (n:Int) y4 y5_0 y5_1 y5_2 y5_4 y5_8 y15 (QN++[idV Qa x1]) (iD6 Qa x1)=Y3 x1 ((n+1:Nat):Int) y4 y5_0 y5_1 y5_2 y5_4 y5_8 y15 QN Qa:=by
    simp only [Y3,Bb,Zn,BI,BH]
   refine Eq.trans ?_ (hz.trans goal2)
   simp only [idV,iD6,iCh,iId,Gw,iD3,iB,iD2,iA,iD4,iD5]
   cases igt (Qh (Jo Qa) 3) 0 with
   |true=>
    simp only [Qf,B8]
    cases done (Qe (ZW (Ql (Qe (Jo Qa) 3) [5,7]) (dof (Qe (Jo Qa) 3) [5,7])) 20) 9<;>rfl
   |false=>
    simp only [Qi,BW]
    cases done (Qe (Qe (Jo Qa) 3) 20) 9<;>rfl
 exact key n _ _ (by omega) hd
theorem QlN:LO Xs Fl IF 0:=QI (s:=Gu) fun x y h _ q=>by simp only [QG,QH] at q;exact (QlM x.2.1 x.2.2.2.2.1 y.1 y.2.1.1 y.2.1.2.1 y.2.1.2.2.1 y.2.1.2.2.2.2.1 y.2.1.2.2.2.2.2.2.2.2.1 y.2.2.1 y.2.2.2.2.2.2.2.1 y.2.2.2.2.2.2.2.2.1 h).trans q
theorem QlO:Ue.lok Xs:=by
 repeat (first|exact trivial|exact QlN|refine ⟨?_, ?_⟩)
theorem QlP (d:Dice)(nm:ByteArray)(h:Fn d nm=true):Ei d nm=some (.ag [.t .str nm,.t tI (XS d),.t tI (XT d),.ms 50001,.t .bool (done (eD2 d) 2),.ms 50002,.t (.sl tI) (eAn d nm),.t (.sl tI) (eHs d nm),.t .bool (done (eD3 d) 2)],[.box (.t Qt (epN d nm)),.arr 3 tI (Wp (eD1 d)),.arr 126 QX (ZF d nm).1]):=by
 simp only [Fn,Bc,Ba] at h
 obtain ⟨h,hn⟩:=h
 have m0:=Zo (d:=d) (l:=[1,1,2,3]) (by decide)
 simp only [BA,BQ,Dd] at m0
 have k1:=Jc (l:=[1,1,2,3]) h
 have k2:=QbO k1
 have k3:=QB (n:=2) k2
 have k4:=QB (n:=2) k3
 have e0:Qw .i64 5 (dof d [1,1,2,3])=5-eL0 d:=JO (by omega)
 have b4:=Q7 (d:=eD4 d) (n:=5-eL0 d) (by show 0<5-dof d [1,1,2,3];omega)
 have e1:Qj .i64 (dof d [1,1,2,3]) (Qh (eD4 d) (5-eL0 d))=eL0 d+Qh (eD4 d) (5-eL0 d):=Jz (by show _/\_;have:eL0 d=dof d [1,1,2,3]:=rfl;omega)
 have k5:=QB (n:=5-eL0 d) k4
 have k6:=QB (n:=3) k5
 have k6':=Jc (l:=[3,4,2]) k6
 have k7:dOk (eD7 d)=true:=by
  unfold eD7
  cases eB d
  ·exact k6
  ·exact k6'
 have k8:=Jc (l:=[1,2,1,3,0]) k7
 have m7:=Zo (d:=eD7 d) (l:=[1,2,1,3,0]) (by decide)
 simp only [BA,BQ,Dd] at m7
 obtain ⟨k9,_⟩:=V5 (dof (eD7 d) [1,2,1,3,0]).toNat nm (eD8 d) k8
 have k10:=QB (n:=5) k9
 have c1:QM d [1,1,2,3]=true:=Yu h (by decide) (by decide)
 have c3:QT (YD (Ql d [1,1,2,3])) 2=true:=Xk k2 (by omega) (by omega)
 have c4:QT (Qe (YD (Ql d [1,1,2,3])) 2) 2=true:=Xk k3 (by omega) (by omega)
 have c5:Qz (eD4 d) (5-eL0 d)=true:=JD k4 (by show 5-dof d [1,1,2,3]<=_;omega)
 have c6:Qz (eD5 d) 3=true:=JD k5 (by omega)
 have c7:QM (eD6 d) [3,4,2]=true:=Yu k6 (by decide) (by decide)
 have c8:QM (eD7 d) [1,2,1,3,0]=true:=Yu k7 (by decide) (by decide)
 have k8':dOk (Ql (eD7 d) [1,2,1,3,0])=true:=k8
 have e5:Zn (dof (eD7 d) [1,2,1,3,0]).toNat nm (Ql (eD7 d) [1,2,1,3,0])=ZF d nm:=rfl
 have c9:(decide ((0:Int)<=dof (eD7 d) [1,2,1,3,0]/\(([]:List Identity).length:Int)+dof (eD7 d) [1,2,1,3,0]<=10/\nm.size<=1000)&&true)=true:=by
  rw [B7]
  exact Be ⟨by omega,by simp only [Bv];omega,hn⟩
 have c10:Qz (ZF d nm).2 5=true:=JD k9 (by omega)
 have b10:=Q7 (d:=(ZF d nm).2) (n:=5) (by omega)
 have c11:cIx [[1,2],[1,2],[1],[2,11],([]:List Int)] (Qh (ZF d nm).2 5)=true:=Be (by simp only [Br,Bv];omega)
 have c12:Qz (Qe (ZF d nm).2 5) 3=true:=JD k10 (by omega)
 have b12:=Q7 (d:=Qe (ZF d nm).2 5) (n:=3) (by omega)
 have c13:cIx [[1,2,3,4],[2,3,4],([3,4]:List Int)] (Qh (Qe (ZF d nm).2 5) 3)=true:=Be (by simp only [Br,Bv];omega)
 simp only [Ei,c1,k1,c3,c4,e0,c5,c6,e1,c7,Qf]
 cases hb:eB d with
 |true=>
  have e7:Ql (eD6 d) [3,4,2]=eD7 d:=by unfold eD7;rw [hb];rfl
  have e8:XS d=1:=by unfold XS;rw [hb];rfl
  have e9:XT d=dof (eD6 d) [3,4,2]:=by unfold XT;rw [hb];rfl
  refine Eq.trans (congrArg (fun b=>br b _ _) hb) ?_
  simp only [Qf,e7,c8,k8',e5,Qf,c10,c11,c12,c13]
  refine Eq.trans (congrArg (fun b=>br b _ _) c9) ?_
  rw [Qf,e8,e9]
  refine Eq.trans (congrArg (fun b=>br b _ _) c13) ?_
  rfl
 |false=>
  have e7:eD6 d=eD7 d:=by unfold eD7;rw [hb];rfl
  have e8:XS d=eL0 d:=by unfold XS;rw [hb];rfl
  have e9:XT d=eL0 d+Qh (eD4 d) (5-eL0 d):=by unfold XT;rw [hb];rfl
  refine Eq.trans (congrArg (fun b=>br b _ _) hb) ?_
  simp only [Qi,e7,c8,k8',e5,Qf,c10,c11,c12,c13]
  refine Eq.trans (congrArg (fun b=>br b _ _) c9) ?_
  rw [Qf,e8,e9]
  refine Eq.trans (congrArg (fun b=>br b _ _) c13) ?_
  rfl
def QdQ:Ent:=XA [.ptr 50000 0,.ty .str] [.box Qt] (fun x y=>(Fn y.1 x.2.1)) (fun x y=>(.ag [(.t .str ((epV y.1 x.2.1).1)),(.t tI (((epV y.1 x.2.1).2).1)),(.t tI ((((epV y.1 x.2.1).2).2).1)),(.ms 50001),(.t .bool ((((((epV y.1 x.2.1).2).2).2).2).1)),(.ms 50002),(.t (.sl tI) ((((((((epV y.1 x.2.1).2).2).2).2).2).2).1)),(.t (.sl tI) (((((((((epV y.1 x.2.1).2).2).2).2).2).2).2).1)),(.t .bool ((((((((((epV y.1 x.2.1).2).2).2).2).2).2).2).2).1))])) (fun x y=>[.box (.t Qt (epN y.1 x.2.1)),.arr 3 tI (((((epV y.1 x.2.1).2).2).2).1),.arr 126 QX (((((((epV y.1 x.2.1).2).2).2).2).2).1)])
theorem Qv5:Qu Tryz.prog 58 (Qv QdQ):=X8 (R:=QS Xs Ue Eh true) (mG Tryz.func58 (by kernel_rfl) Tryz.ntmps58 (by kernel_rfl) QlL QlO) fun x y hok=>(QlK y.1 x.2.1).trans (QlP y.1 x.2.1 hok)
end
end Go.Proofs.YthlcobdnemhcdaaGreat.K
noncomputable section
namespace Go.Proofs.YthlcobdnemhcdaaGreat.K
open Go.RowKit
noncomputable section
theorem QM9 (l:List Int):(Fe l).length=l.length:=by
 unfold Fe
 have: ∀ (l a:List Int),(l.foldl Xo a).length=a.length+l.length:=by
  intro l
  induction l with
  |nil=>intro a;rfl
  |cons x r ih=>
   intro a
   rw [Dp,ih,QuF,Br]
   omega
 rw [this]
 simp
theorem QNa {d:Dice}(h:dOk d=true):(Wp d).length<=10:=by
 have:=(Qql h).2
 unfold Wp
 cases done (suI d).2 4
 ·exact this
 ·rw [B8,QM9]
  exact this
theorem QNb {d:Dice}{nm:ByteArray}(h:dOk d=true):dOk (ZF d nm).2=true:=by
 have k4:=QB (n:=2) (QB (n:=2) (QbO (Jc (l:=[1,1,2,3]) h)))
 have k6:=QB (n:=3) (QB (n:=5-eL0 d) k4)
 have k7:dOk (eD7 d)=true:=by
  unfold eD7
  cases eB d
  ·exact k6
  ·exact Jc (l:=[3,4,2]) k6
 exact (V5 (dof (eD7 d) [1,2,1,3,0]).toNat nm (eD8 d) (Jc (l:=[1,2,1,3,0]) k7)).1
theorem QnC {d:Dice}{nm:ByteArray}(h:dOk d=true):dOk (epN d nm)=true:=QB (n:=3) (QB (n:=5) (QNb h))
def prZ:List Int->List Int->Dice->List Int×Dice
 | [],s,d=>(s,d)
 |x::r,s,d=>if ilt (Qc s) 16=true then (if J6 s x=true then prZ r s d else if done d 2=true then prZ r (s++[x]) (Qe d 2) else prZ r s (Qe d 2)) else (s,d)
theorem QNc {d:Dice}{nm:ByteArray}(h:dOk d=true):(JM (epV d nm)).length<=10:=QNa (Jc (l:=[1,1,2,3]) h)
end
end Go.Proofs.YthlcobdnemhcdaaGreat.K
noncomputable section
namespace Go.Proofs.YthlcobdnemhcdaaGreat.K
open Go.RowKit
noncomputable section
end
end Go.Proofs.YthlcobdnemhcdaaGreat.K
noncomputable section
namespace Go.Proofs.YthlcobdnemhcdaaGreat.K
open Go.RowKit
noncomputable section
end
end Go.Proofs.YthlcobdnemhcdaaGreat.K
noncomputable section
namespace Go.Proofs.YthlcobdnemhcdaaGreat.K
open Go.RowKit
noncomputable section
-- loop 0: (x6 : Int) (x7 : Int) (y2 : Endpoint) (y3 : Endpoint) (y5 : (List Keep)); out: ('exit', 2) (x6 : Int) (y2 : Endpoint) (y3 : Endpoint) (y5 : (List Keep))
-- loop 1: (x6 : Int) (y2 : Endpoint) (y3 : Endpoint) (y5 : (List Keep)); out: ('exit', 0) (y5 : (List Keep))
end
end Go.Proofs.YthlcobdnemhcdaaGreat.K
noncomputable section
namespace Go.Proofs.YthlcobdnemhcdaaGreat.K
open Go.RowKit
noncomputable section
end
end Go.Proofs.YthlcobdnemhcdaaGreat.K
noncomputable section
namespace Go.Proofs.YthlcobdnemhcdaaGreat.K
open Go.RowKit Go.Shelf
attribute [local go_sem] Oper.semAt_some
end Go.Proofs.YthlcobdnemhcdaaGreat.K
noncomputable section
namespace Go.Proofs.YthlcobdnemhcdaaGreat.K
open Go.RowKit
noncomputable section
-- loop 0: (QV4 : (List Int)) (Qa : (List Int)); out: ('normal',) (QV4 : (List Int)) (Qa : (List Int))
end
end Go.Proofs.YthlcobdnemhcdaaGreat.K
noncomputable section
namespace Go.Proofs.YthlcobdnemhcdaaGreat.K
open Go.RowKit
noncomputable section
-- loop 0: (x7 : Int) (x39 : Int) (x40 : Int) (y2 : Endpoint) (y3 : Endpoint) (y5 : (List Keep)) (y8 : Talk) (y18 : (List Int)); out: ('exit', 2) (x7 : Int) (y2 : Endpoint) (y3 : Endpoint) (y5 : (List Keep)) (y18 : (List Int))
-- loop 1: (x7 : Int) (y2 : Endpoint) (y3 : Endpoint) (y5 : (List Keep)) (y18 : (List Int)); out: ('exit', 0) (y5 : (List Keep))
end
end Go.Proofs.YthlcobdnemhcdaaGreat.K
noncomputable section
namespace Go.Proofs.YthlcobdnemhcdaaGreat.K
open Go.RowKit
noncomputable section
end
end Go.Proofs.YthlcobdnemhcdaaGreat.K
noncomputable section
namespace Go.Proofs.YthlcobdnemhcdaaGreat.K
open Go.RowKit
noncomputable section
theorem QBp {d:Dice}{i s:ByteArray}{k:Keep}{id g:Int}{a:Bool}(hi:i.size<=1000)(hs:s.size<=1000):JS (XI d i s k id g a)=true:=by
 unfold XI YZ
 cases Vh (Gb d i s k id a) g with
 |true=>rfl
 |false=>
  rw [BW]
  have:JS (Gb d i s k id a)=true:=by
   refine Qi1 hi hs ?_ ?_
   ·unfold cNm
    cases done (cD5 d a) 3<;>simp
   ·intro t ht
    unfold cNm at ht
    cases hd:done (cD5 d a) 3 with
    |true=>
     rw [hd] at ht
     simp only [B8,BA,BQ,Dd] at ht
     rcases ht with rfl|rfl
     ·omega
     ·rw [QGG];show s.size+1<=_;omega
    |false=>
     rw [hd] at ht
     simp only [BW,BA,BQ,Dd] at ht
     subst ht
     omega
  exact this
theorem QBq: ∀ (m i:Nat) (u:Up),u.2.2.1.size<=1000->u.1.all JS=true->(WX m i u).1.all JS=true/\(WX m i u).2.2.1.size<=1000
 |0,_,u,h,h2=>⟨h2,h⟩
 |m+1,i,(ab,d,iss,g),h,h2=>by
  have hs:=Qr4 i
  refine QBq m (i+1) _ (show (XJ.getD i ByteArray.empty).size<=1000 by omega) ?_
  rw [B0,QBp h (by omega)]
  exact h2
theorem QPz {d:Dice}{nm:ByteArray}{k:Keep}{id:Int}(hn:nm.size<=1000)(hd:dOk d=true):JJ (YY d nm k id)=true:=by
 have hu0:XK ([],Qe (Ql d [1,0,2]) 2,WW,1+Qh (Ql d [1,0,2]) 2)=true:=Bf.2 ⟨QB (n:=2) (Jc (l:=[1,0,2]) hd),rfl⟩
 have hm:=Zo (d:=d) (l:=[1,0,2]) (by decide)
 simp only [BA,BQ,Dd] at hm
 obtain ⟨h1,h2⟩:=QBq (dof d [1,0,2]).toNat 0 ([],Qe (Ql d [1,0,2]) 2,WW,1+Qh (Ql d [1,0,2]) 2) (show WW.size<=1000 by decide) rfl
 have hl:=(Qcq (dof d [1,0,2]).toNat 0 _ hu0).2
 simp only [Bv] at hl
 have hl2:(chU d).1.length<=3:=by
  unfold chU
  omega
 unfold YY
 simp only [JJ,Bc,B0,Br,Ba]
 exact ⟨by omega,QBp h2 hn,h1⟩
theorem id_len {d:Dice}{nm:ByteArray}(hn:nm.size<=1000)(hd:dOk d=true):J0 (idV d nm)=true:=by
 show JJ (iCh d nm)=true
 unfold iCh
 cases !done (iD4 d) 9
 ·rfl
 ·exact QPz hn (QB (n:=9) (QB (n:=20) (QlX hd)))
theorem QBr: ∀ (n:Nat) (nm:ByteArray) (d:Dice),nm.size<=1000->dOk d=true->(Zn n nm d).1.all J0=true
 |0,_,_,_,_=>rfl
 |n+1,nm,d,hn,hd=>by
  simp only [Zn,B0,Bc]
  exact ⟨id_len hn hd,QBr n nm _ hn (V4 hd)⟩
theorem QPA {d:Dice}{nm:ByteArray}(hn:nm.size<=1000)(hd:dOk d=true):(ZF d nm).1.all J0=true/\(ZF d nm).1.length<=3:=by
 have k4:=QB (n:=2) (QB (n:=2) (QbO (Jc (l:=[1,1,2,3]) hd)))
 have k6:=QB (n:=3) (QB (n:=5-eL0 d) k4)
 have k7:dOk (eD7 d)=true:=by
  unfold eD7
  cases eB d
  ·exact k6
  ·exact Jc (l:=[3,4,2]) k6
 have k8:=Jc (l:=[1,2,1,3,0]) k7
 have m7:=Zo (d:=eD7 d) (l:=[1,2,1,3,0]) (by decide)
 simp only [BA,BQ,Dd] at m7
 refine ⟨QBr _ _ _ hn k8, ?_⟩
 have:=(V5 (dof (eD7 d) [1,2,1,3,0]).toNat nm (eD8 d) k8).2
 unfold ZF
 omega
theorem Qf5 {l:List (List Int)}(h: ∀ x∈l,x.length<=4)(k:Nat):(lgt (.sl tI) l k).length<=4:=by
 show (l.getD k []).length<=4
 rw [Bt]
 cases hk:l[k]? with
 |none=>exact Da _
 |some x=>exact h x (Dv hk)
theorem an_len (d:Dice)(nm:ByteArray):(JF (epV d nm)).length<=4:=Qf5 (by simp) _
theorem hs_len (d:Dice)(nm:ByteArray):(JR (epV d nm)).length<=4:=Qf5 (by simp) _
theorem QPB {e:Endpoint}(h1:e.1.size<=1000)(h2:(JM e).length<=1000)(h3:(Jl e).length<=1000)(h4:(JF e).length<=1000)(h5:(JR e).length<=1000)(h6:(Jl e).all J0=true):Jd e=true:=by
 simp only [Jd,Bc,Ba]
 exact ⟨⟨Be (by omega),by omega,by omega,by omega,by omega⟩,h6⟩
theorem QBs {d:Dice}{nm:ByteArray}(hn:nm.size<=1000)(hd:dOk d=true):(Jl (epV d nm)).all J0=true/\(Jl (epV d nm)).length<=3:=QPA hn hd
theorem QBt (d:Dice)(nm:ByteArray):(epV d nm).1=nm:=rfl
attribute [local irreducible] epV epN prZ
end
end Go.Proofs.YthlcobdnemhcdaaGreat.K
noncomputable section
namespace Go.Proofs.YthlcobdnemhcdaaGreat.K
open Go.RowKit
noncomputable section
end
end Go.Proofs.YthlcobdnemhcdaaGreat.K
noncomputable section
namespace Go.Proofs.YthlcobdnemhcdaaGreat.K
open Go.RowKit
noncomputable section
def Y4:Option Int->List Link->Bool
 |_,[]=>true
 |pv,x::r=>Jf x.1&&decide (0<=x.2.1/\x.2.1<=40000)&&(match pv with|none=>true|some d=>decide (d<x.2.1))&&Y4 (some x.2.1) r
theorem Qeo (pv:Option Int)(x:Link)(r:List Link):Y4 pv (x::r)=(Jf x.1&&decide (0<=x.2.1/\x.2.1<=40000)&&(match pv with|none=>true|some d=>decide (d<x.2.1))&&Y4 (some x.2.1) r):=by cases pv<;>rfl
def Z4 (l:List Link)(k:Nat):Option Int:=if k=0 then none else (l[k-1]?).map fun x:Link=>x.2.1
def J7 (i:Item):Bool:=Jr i.1&&decide (1<=i.2.1/\i.2.1<=2)&&decide (1<=i.2.2.1/\i.2.2.1<=4)&&decide (1<=i.2.2.2.1.length/\i.2.2.2.1.length<=8)&&Y4 none i.2.2.2.1&&decide ((i.2.2.2.1.headD ((0,(0,())),(0,()))).2.1<=i.2.2.2.2.1/\i.2.2.2.2.1<=40000)
def ZG (i:Item):Int:=if J7 i then 0 else 30
def Zx (i:Item):Bool:=Jn i.1
abbrev Qep:Sh:=⟨[(1,.ptr 1 0),(45,.ty (.sl Q2)),(46,.ty tI),(47,.ty tI)],[(1,.box Qp)]⟩
abbrev Qmy:Sh:=⟨[(2,.ty tI)],[]⟩
abbrev Qxh:Sh:=⟨[(1,.ptr 1 0)],[(1,.box Qp)]⟩
def Qmz:Fg:=Qep.f
def Qxi:TC:=aF Tryz.f122 [(122,pL 0 Qmz),(1957,.fg Qxh.f),(15666,pD [(0,[5]),(1,[5]),(2,[]),(3,[]),(4,[]),(5,[5]),(6,[5]),(7,[]),(8,[]),(9,[]),(10,[5]),(11,[5]),(12,[]),(13,[]),(14,[]),(15,[]),(16,[]),(17,[]),(18,[1]),(19,[1]),(20,[]),(21,[]),(22,[]),(23,[]),(24,[]),(25,[5]),(26,[5]),(27,[]),(28,[]),(29,[])] (.of [0,1,2,3,4,5,6,7,8,9,10,11,12,13,14,15,16,17,18,19,20,21,22,23,24,25,26,27,28,29])),(62669,.fg Qmy.f),(124,pD [(0,[1]),(1,[1]),(2,[1]),(3,[1]),(4,[]),(5,[]),(6,[]),(7,[]),(8,[]),(9,[1]),(10,[1]),(11,[]),(12,[])] (.of [0,1,2,3,4,5,6,7,8,9,10,11,12]))]
def Qxj:TC:=lb 0 Qxi
def Qxk (x45:List Link)(x46 x47:Int)(y1:Item):VS:=Qep.st ((),x45,x46,x47,()) (y1,())
def Xv (x2:Int):VS:=Qmy.st (x2,()) ()
def QmA (y1:Item):VS:=Qxh.st ((),()) (y1,())
def QL1:VS->Option (Bool×List (Bool×Exit×VS)):=mkL Qep (fun x y=>((x.2.1==y.1.2.2.2.1)&&QD x.2.1 x.2.2.1 x.2.2.2.1)) (fun x y=>[((!(Y4 (Z4 x.2.1 x.2.2.2.1.toNat) (x.2.1.drop x.2.2.2.1.toNat))),.ret,Xv (30)),(true,.exit 0,QmA (y.1))])
def QmB:G:=gG 96 [(92,FA),(178,QhI)] (Ls [QL1])
def Qeq (x45:List Link)(x46 x47:Int)(y1:Item):OX:=Qx (QA QmB Qmz Qxj) (Qxk x45 x46 x47 y1)
def Qak (kk:List Link->Int->Int->Item->OX)(x45:List Link)(x46 x47:Int)(y1:Item):OX:=
 let a1:=lgt Q2 x45 (Int.toNat x47)
 br (ilt x47 x46) (br (cIx x45 x47) (br (!(Jf (a1.1))) (some (.ret,Xv 30)) (br (ilt ((a1.2).1) 0) (some (.ret,Xv 30)) (br (igt ((a1.2).1) 40000) (some (.ret,Xv 30)) (br (igt x47 0) (br (cIx y1.2.2.2.1 (Qw .i64 x47 1)) (br (ige (((lgt Q2 y1.2.2.2.1 (Int.toNat (Qw .i64 x47 1))).2).1) ((a1.2).1)) (some (.ret,Xv 30)) (kk x45 x46 (Qj .i64 x47 1) y1)) none) (kk x45 x46 (Qj .i64 x47 1) y1))))) none) (some (.exit 0,QmA y1))
def IR (x45:List Link)(x46 x47:Int)(y1:Item):OX:=br (!(Y4 (Z4 x45 x47.toNat) (x45.drop x47.toNat))) (some (.ret,Xv (30)))<|some (.exit 0,QmA (y1))
theorem Qxl (x45:List Link)(x46 x47:Int)(y1:Item):Qeq x45 x46 x47 y1=Qak Qeq x45 x46 x47 y1:=lnT (x:=Qak (fun x45 x46 x47 y1=>some (.normal,Qxk x45 x46 x47 y1)) x45 x46 x47 y1) (by simp only [Qak,nxA];rfl)
def Qal (p0:Item):OV:=
 let a1:=((((p0).2).2).2)
 let a2:=Qc p0.2.2.2.1
 br (ilt p0.2.2.1 1) (some (.t tI 30,[])) (br (igt p0.2.2.1 4) (some (.t tI 30,[])) (br (ilt a2 1) (some (.t tI 30,[])) (br (igt a2 8) (some (.t tI 30,[])) (br ((p0.2.2.2.1==p0.2.2.2.1)&&QD p0.2.2.2.1 a2 (0:Int)) (br (!(Y4 (Z4 p0.2.2.2.1 (0:Int).toNat) (p0.2.2.2.1.drop (0:Int).toNat))) (some (.t tI (30),[])) (br (cIx (a1.1) 0) (br (ilt ((a1.2).1) (((lgt Q2 (a1.1) (Int.toNat 0)).2).1)) (some (.t tI 30,[])) (br (igt ((a1.2).1) 40000) (some (.t tI 30,[])) (some (.t tI 0,[])))) none)) none))))
def Qxm (p0:Item):OV:=br (ieq p0.2.1 1) (br (Jn p0.1) (br (!(Jr p0.1)) (some (.t tI 30,[])) (br (!true) (some (.t tI 30,[])) (Qal p0))) none) (br (Jn p0.1) (br (!(Jr p0.1)) (some (.t tI 30,[])) (br (!(ieq p0.2.1 2)) (some (.t tI 30,[])) (Qal p0))) none)
theorem QL2 (x45:List Link)(x46 x47:Int)(y1:Item)(h:((x45==y1.2.2.2.1)&&QD x45 x46 x47)=true):Qeq x45 x46 x47 y1=IR x45 x46 x47 y1:=by
 simp only [Bc,Do] at h
 obtain ⟨hx,h0⟩:=h
 obtain ⟨rfl,h3,k,rfl,hk⟩:=JG h0
 clear h0
 refine QQ x45 (fun k=>Qeq x45 (x45.length:Int) (k:Int) y1=IR x45 (x45.length:Int) (k:Int) y1) ?_ ?_ k hk
 ·rw [Qxl]
  simp [Qak,IR,Qy,Qi,Y4]
 ·intro k hk ih
  rw [Qxl]
  have el:IR x45 (x45.length:Int) (k:Int) y1=br (!(Jf x45[k].1&&decide (0<=x45[k].2.1/\x45[k].2.1<=40000)&&(match Z4 x45 k with|none=>true|some d=>decide (d<x45[k].2.1)))) (some (.ret,Xv 30)) (IR x45 (x45.length:Int) ((k+1:Nat):Int) y1):=by
   have e1:Z4 x45 (k+1)=some x45[k].2.1:=by
    unfold Z4
    rw [if_neg (by omega),DZ,Bk hk]
    rfl
   simp only [IR,Bb,e1]
   rw [Bg hk,Qeo]
   generalize (Jf x45[k].1&&decide (0<=x45[k].2.1/\x45[k].2.1<=40000)&&(match Z4 x45 k with|none=>true|some d=>decide (d<x45[k].2.1)))=c
   cases c<;>rfl
  rw [el]
  simp only [Qak,Qy,QK,hk,Bo,Qf,Bb,QO (show k<4611686018427387904 by omega),QL (y:=Q2) hk,ih, ← hx]
  cases Jf x45[k].1 with
  |false=>rfl
  |true=>
   simp only [BF,Qi,Bu]
   by_cases c1:x45[k].2.1<0
   ·rw [show ilt x45[k].2.1 0=true from Be c1,Qf,Bq (show ¬ (0<=x45[k].2.1/\x45[k].2.1<=40000) by omega)]
    rfl
   ·rw [show ilt x45[k].2.1 0=false from Bq c1,Qi]
    by_cases c2:40000<x45[k].2.1
    ·rw [show igt x45[k].2.1 40000=true from Be (by omega),Qf,Bq (show ¬ (0<=x45[k].2.1/\x45[k].2.1<=40000) by omega)]
     rfl
    ·rw [show igt x45[k].2.1 40000=false from Bq (by omega),Qi,Be (show 0<=x45[k].2.1/\x45[k].2.1<=40000 by omega)]
     simp only [Bu]
     by_cases hk0:k=0
     ·subst hk0
      rfl
     ·have hk1:k-1<x45.length:=by omega
      have e1:Qw .i64 (k:Int) 1=((k-1:Nat):Int):=by rw [JO (by omega)];omega
      have e2:igt (k:Int) 0=true:=by simp only [igt,Ba];omega
      have e3:Z4 x45 k=some x45[k-1].2.1:=by
       unfold Z4
       rw [if_neg hk0,Bk hk1]
       rfl
      rw [e1,e2,e3,Qf]
      simp only [QK,hk1,Bo,Qf,Bb,QL (y:=Q2) hk1]
      by_cases c3:x45[k-1].2.1<x45[k].2.1
      ·rw [show ige x45[k-1].2.1 x45[k].2.1=false from Bq (by omega),Qi,Be c3]
       rfl
      ·rw [show ige x45[k-1].2.1 x45[k].2.1=true from Be (by omega),Qf,Bq c3]
       rfl
theorem QL3:LO QmB Qmz Qxj 0:=QI (s:=Qep) fun x y h _ q=>by simp only [QG,QH] at q;exact (QL2 x.2.1 x.2.2.1 x.2.2.2.1 y.1 h).trans q
theorem JK {i:Item}:J7 i=true↔Jr i.1=true/\(1<=i.2.1/\i.2.1<=2)/\(1<=i.2.2.1/\i.2.2.1<=4)/\(1<=i.2.2.2.1.length/\i.2.2.2.1.length<=8)/\Y4 none i.2.2.2.1=true/\(i.2.2.2.1.headD ((0,(0,())),(0,()))).2.1<=i.2.2.2.2.1/\i.2.2.2.2.1<=40000:=by
 unfold J7
 simp only [Bc,Ba,and_assoc]
theorem s_f122 (i:Item)(h:Zx i=true):Qxm i=some (.t tI (ZG i),[]):=by
 have h:Jn i.1=true:=h
 have bad:(J7 i=true->False)->some (V.t tI 30,([]:List VO))=some (V.t tI (ZG i),[]):=fun hq=>by
  cases hi:J7 i with
  |false=>simp [ZG,hi]
  |true=>exact (hq hi).elim
 have tail:Jr i.1=true->(1<=i.2.1/\i.2.1<=2)->Qal i=some (.t tI (ZG i),[]):=fun k1 k2=>by
  simp only [Qal]
  refine QY (fun g=>bad fun hq=> ?_) (fun g1=>QY (fun g=>bad fun hq=> ?_) (fun g2=>QY (fun g=>bad fun hq=> ?_) (fun g3=>QY (fun g=>bad fun hq=> ?_) (fun g4=> ?_))))
  ·have:=JK.1 hq;simp only [ilt,Ba] at g;omega
  ·have:=JK.1 hq;simp only [igt,Ba] at g;omega
  ·have:=JK.1 hq;simp only [ilt,Qc,Ba] at g;omega
  ·have:=JK.1 hq;simp only [igt,Qc,Ba] at g;omega
  ·simp only [ilt,igt,Qc,Bn] at g1 g2 g3 g4
   rw [beq_self_eq_true,Bu,JH (by omega),Qf]
   have e0:Z4 i.2.2.2.1 (0:Int).toNat=none:=rfl
   rw [e0,By,BG]
   refine QY (fun g=>bad fun hq=> ?_) (fun g5=> ?_)
   ·have:=JK.1 hq
    rw [this.2.2.2.2.1] at g
    cases g
   ·have hl:0<i.2.2.2.1.length:=by omega
    have e1:cIx i.2.2.2.1 0=true:=by simp only [cIx,Ba];omega
    have e2:lgt Q2 i.2.2.2.1 0=i.2.2.2.1.headD ((0,(0,())),(0,())):=by
     cases hq:i.2.2.2.1 with
     |nil=>rw [hq] at hl;simp at hl
     |cons a l=>rfl
    rw [e1,Qf,e2]
    refine QY (fun g=>bad fun hq=> ?_) (fun g6=>QY (fun g=>bad fun hq=> ?_) (fun g7=> ?_))
    ·have:=JK.1 hq;simp only [ilt,Ba] at g;omega
    ·have:=JK.1 hq;simp only [igt,Ba] at g;omega
    ·simp only [ilt,igt,Bn] at g6 g7
     have:J7 i=true:=JK.2 ⟨k1,k2,by omega,by omega,by simpa using g5,by omega,by omega⟩
     simp [ZG,this]
 simp only [Qxm,Qal] at tail ⊢
 rw [h]
 simp only [Qf]
 refine QY (fun g1=>QY (fun g=>bad fun hq=> ?_) (fun g2=> ?_)) (fun g1=>QY (fun g=>bad fun hq=> ?_) (fun g2=>QY (fun g=>bad fun hq=> ?_) (fun g3=> ?_)))
 ·rw [(JK.1 hq).1] at g;cases g
 ·simp only [ZS,Ba] at g1
  exact tail (by simpa using g2) (by omega)
 ·rw [(JK.1 hq).1] at g;cases g
 ·have:=JK.1 hq
  simp only [ZS,Bn,Bx,Ba] at g1 g
  omega
 ·simp only [ZS,Bn,Bool.not_eq_false',Ba] at g1 g3
  exact tail (by simpa using g2) (by omega)
def QmC:Ent:=Qo (.pr Qp .nil) (fun x=>(Zx x.1)) (fun x=>(.t tI (ZG x.1)))
theorem Qxn:EM 122 QmC:=mS (lk:=lkL (lkc QL3 lkn)) QmB Qxi [((.t 2),some tI)] false (gB (gD Eu (gD Qqw gN))) fun m=>Qs m fun x hok=>kT (s_f122 x.1 hok)
abbrev Qer:Sh:=⟨[(1,.ptr 1 0),(3,.ty tI)],[(1,.box Qp)]⟩
abbrev Qxo:Sh:=⟨[],[]⟩
def QmD:Fg:=Qer.f
def Qxp:TC:=aF Tryz.f130 [(12,pD [(0,[1]),(1,[1]),(2,[]),(3,[]),(4,[]),(5,[1]),(6,[1]),(7,[]),(8,[]),(9,[1]),(10,[1]),(11,[]),(12,[]),(13,[]),(14,[]),(15,[1]),(16,[1]),(17,[]),(18,[]),(19,[]),(20,[1]),(21,[1]),(22,[]),(23,[]),(24,[]),(25,[1]),(26,[1]),(27,[]),(28,[]),(29,[]),(30,[]),(31,[1]),(32,[1]),(33,[]),(34,[]),(35,[]),(36,[]),(37,[1]),(38,[1]),(39,[]),(40,[]),(41,[]),(42,[1]),(43,[1]),(44,[1]),(45,[1]),(46,[]),(47,[]),(48,[]),(49,[]),(50,[])] (.of [0,1,2,3,4,5,6,7,8,9,10,11,12,13,14,15,16,17,18,19,20,21,22,23,24,25,26,27,28,29,30,31,32,33,34,35,36,37,38,39,40,41,42,43,44,45,46,47,48,49,50])),(58,pL 0 QmD),(931,.fg Qxo.f),(1864,pD [(0,[1]),(1,[1]),(2,[]),(3,[]),(4,[]),(5,[]),(6,[]),(7,[]),(8,[]),(9,[1]),(10,[1]),(11,[]),(12,[]),(13,[]),(14,[]),(15,[]),(16,[]),(17,[]),(18,[1]),(19,[1]),(20,[]),(21,[]),(22,[]),(23,[]),(24,[]),(25,[]),(26,[]),(27,[]),(28,[]),(29,[]),(30,[1]),(31,[1]),(32,[]),(33,[]),(34,[]),(35,[]),(36,[]),(37,[1]),(38,[1]),(39,[]),(40,[]),(41,[]),(42,[]),(43,[]),(44,[]),(45,[])] (.of [0,1,2,3,4,5,6,7,8,9,10,11,12,13,14,15,16,17,18,19,20,21,22,23,24,25,26,27,28,29,30,31,32,33,34,35,36,37,38,39,40,41,42,43,44,45])),(7461,.fg Qmy.f)]
def Qxq:TC:=lb 0 Qxp
def Qxr (x3:Int)(y1:Item):VS:=Qer.st ((),x3,()) (y1,())
def QmE  : VS:=Qxo.st () ()
def QL4:VS->Option (Bool×List (Bool×Exit×VS)):=mkL Qer (fun x y=>(decide (0<=x.2.1/\x.2.1<=y.1.2.2.2.1.length/\y.1.2.2.2.1.length<=8))) (fun x y=>[((!(Y4 (Z4 y.1.2.2.2.1 x.2.1.toNat) (y.1.2.2.2.1.drop x.2.1.toNat))),.ret,Xv (30)),(true,.exit 0,QmE)])
def QmF:G:=gG 108 [(105,I3),(187,QqA)] (Ls [QL4])
def Qes (x3:Int)(y1:Item):OX:=Qx (QA QmF QmD Qxq) (Qxr x3 y1)
def Qam (kk:Int->Item->OX)(x3:Int)(y1:Item):OX:=
 let a1:=lgt Q2 y1.2.2.2.1 (Int.toNat x3)
 let a2:=cIx y1.2.2.2.1 x3
 br (ilt x3 (Qc y1.2.2.2.1)) (br a2 (br (!(Jf (a1.1))) (some (.ret,Xv 30)) (br a2 (br (ilt ((a1.2).1) 0) (some (.ret,Xv 30)) (br a2 (br (igt ((a1.2).1) 40000) (some (.ret,Xv 30)) (br (igt x3 0) (br (cIx y1.2.2.2.1 (Qw .i64 x3 1)) (br a2 (br (ige (((lgt Q2 y1.2.2.2.1 (Int.toNat (Qw .i64 x3 1))).2).1) ((a1.2).1)) (some (.ret,Xv 30)) (kk (Qj .i64 x3 1) y1)) none) none) (kk (Qj .i64 x3 1) y1))) none)) none)) none) (some (.exit 0,QmE))
def IS (x3:Int)(y1:Item):OX:=br (!(Y4 (Z4 y1.2.2.2.1 x3.toNat) (y1.2.2.2.1.drop x3.toNat))) (some (.ret,Xv (30)))<|some (.exit 0,QmE)
theorem Qxs (x3:Int)(y1:Item):Qes x3 y1=Qam Qes x3 y1:=lnT (x:=Qam (fun x3 y1=>some (.normal,Qxr x3 y1)) x3 y1) (by simp only [Qam,nxA];rfl)
def Qet (p0:Item):OV:=br (ilt p0.2.2.1 1) (some (.t tI 30,[])) (br (igt p0.2.2.1 4) (some (.t tI 30,[])) (br (ilt (Qc p0.2.2.2.1) 1) (some (.t tI 30,[])) (br (igt (Qc p0.2.2.2.1) 8) (some (.t tI 30,[])) (br (igt p0.2.2.2.2.1 40000) (some (.t tI 30,[])) (br (cIx p0.2.2.2.1 0) (br (ilt p0.2.2.2.2.1 (((lgt Q2 p0.2.2.2.1 (Int.toNat 0)).2).1)) (some (.t tI 30,[])) (br (decide (0<=(0:Int)/\(0:Int)<=p0.2.2.2.1.length/\p0.2.2.2.1.length<=8)) (br (!(Y4 (Z4 p0.2.2.2.1 (0:Int).toNat) (p0.2.2.2.1.drop (0:Int).toNat))) (some (.t tI (30),[])) (some (.t tI 0,[]))) none)) none)))))
def Qxt (p0:Item):OV:=br (Jn p0.1) (br (!(Jr p0.1)) (some (.t tI 30,[])) (br (ine p0.2.1 1) (br (ine p0.2.1 2) (some (.t tI 30,[])) (Qet p0)) (Qet p0))) none
theorem QL5 (x3:Int)(y1:Item)(h:(decide (0<=x3/\x3<=y1.2.2.2.1.length/\y1.2.2.2.1.length<=8))=true):Qes x3 y1=IS x3 y1:=by
 simp only [Ba] at h
 obtain ⟨h1,h2,h3⟩:=h
 obtain ⟨k,rfl⟩:=Bl h1
 refine QQ y1.2.2.2.1 (fun k=>Qes (k:Int) y1=IS (k:Int) y1) ?_ ?_ k (by omega)
 ·rw [Qxs]
  simp [Qam,IS,Qy,Qc,Qi,Y4]
 ·intro k hk ih
  rw [Qxs]
  have el:IS (k:Int) y1=br (!(Jf y1.2.2.2.1[k].1&&decide (0<=y1.2.2.2.1[k].2.1/\y1.2.2.2.1[k].2.1<=40000)&&(match Z4 y1.2.2.2.1 k with|none=>true|some d=>decide (d<y1.2.2.2.1[k].2.1)))) (some (.ret,Xv 30)) (IS ((k+1:Nat):Int) y1):=by
   have e1:Z4 y1.2.2.2.1 (k+1)=some y1.2.2.2.1[k].2.1:=by
    unfold Z4
    rw [if_neg (by omega),DZ,Bk hk]
    rfl
   simp only [IS,Bb,e1]
   rw [Bg hk,Qeo]
   generalize (Jf y1.2.2.2.1[k].1&&decide (0<=y1.2.2.2.1[k].2.1/\y1.2.2.2.1[k].2.1<=40000)&&(match Z4 y1.2.2.2.1 k with|none=>true|some d=>decide (d<y1.2.2.2.1[k].2.1)))=c
   cases c<;>rfl
  rw [el]
  simp only [Qam,Qy,Qc,QK,hk,Bo,Qf,Bb,QO (show k<4611686018427387904 by omega),QL (y:=Q2) hk,ih]
  cases Jf y1.2.2.2.1[k].1 with
  |false=>rfl
  |true=>
   simp only [BF,Qi,Bu]
   by_cases c1:y1.2.2.2.1[k].2.1<0
   ·rw [show ilt y1.2.2.2.1[k].2.1 0=true from Be c1,Qf,Bq (show ¬ (0<=y1.2.2.2.1[k].2.1/\y1.2.2.2.1[k].2.1<=40000) by omega)]
    rfl
   ·rw [show ilt y1.2.2.2.1[k].2.1 0=false from Bq c1,Qi]
    by_cases c2:40000<y1.2.2.2.1[k].2.1
    ·rw [show igt y1.2.2.2.1[k].2.1 40000=true from Be (by omega),Qf,Bq (show ¬ (0<=y1.2.2.2.1[k].2.1/\y1.2.2.2.1[k].2.1<=40000) by omega)]
     rfl
    ·rw [show igt y1.2.2.2.1[k].2.1 40000=false from Bq (by omega),Qi,Be (show 0<=y1.2.2.2.1[k].2.1/\y1.2.2.2.1[k].2.1<=40000 by omega)]
     simp only [Bu]
     by_cases hk0:k=0
     ·subst hk0
      rfl
     ·have hk1:k-1<y1.2.2.2.1.length:=by omega
      have e1:Qw .i64 (k:Int) 1=((k-1:Nat):Int):=by rw [JO (by omega)];omega
      have e2:igt (k:Int) 0=true:=by simp only [igt,Ba];omega
      have e3:Z4 y1.2.2.2.1 k=some y1.2.2.2.1[k-1].2.1:=by
       unfold Z4
       rw [if_neg hk0,Bk hk1]
       rfl
      rw [e1,e2,e3,Qf]
      simp only [QK,hk1,Bo,Qf,Bb,QL (y:=Q2) hk1]
      by_cases c3:y1.2.2.2.1[k-1].2.1<y1.2.2.2.1[k].2.1
      ·rw [show ige y1.2.2.2.1[k-1].2.1 y1.2.2.2.1[k].2.1=false from Bq (by omega),Qi,Be c3]
       rfl
      ·rw [show ige y1.2.2.2.1[k-1].2.1 y1.2.2.2.1[k].2.1=true from Be (by omega),Qf,Bq c3]
       rfl
theorem QL6:LO QmF QmD Qxq 0:=QI (s:=Qer) fun x y h _ q=>by simp only [QG,QH] at q;exact (QL5 x.2.1 y.1 h).trans q
theorem s_f130 (i:Item)(h:Zx i=true):Qxt i=some (.t tI (ZG i),[]):=by
 have h:Jn i.1=true:=h
 have bad:(J7 i=true->False)->some (V.t tI 30,([]:List VO))=some (V.t tI (ZG i),[]):=fun hq=>by
  cases hi:J7 i with
  |false=>simp [ZG,hi]
  |true=>exact (hq hi).elim
 have tail:Jr i.1=true->(1<=i.2.1/\i.2.1<=2)->Qet i=some (.t tI (ZG i),[]):=fun k1 k2=>by
  simp only [Qet]
  refine QY (fun g=>bad fun hq=> ?_) (fun g1=>QY (fun g=>bad fun hq=> ?_) (fun g2=>QY (fun g=>bad fun hq=> ?_) (fun g3=>QY (fun g=>bad fun hq=> ?_) (fun g4=>QY (fun g=>bad fun hq=> ?_) (fun g5=> ?_)))))
  ·have:=JK.1 hq;simp only [ilt,Ba] at g;omega
  ·have:=JK.1 hq;simp only [igt,Ba] at g;omega
  ·have:=JK.1 hq;simp only [ilt,Qc,Ba] at g;omega
  ·have:=JK.1 hq;simp only [igt,Qc,Ba] at g;omega
  ·have:=JK.1 hq;simp only [igt,Ba] at g;omega
  ·simp only [ilt,igt,Qc,Bn] at g1 g2 g3 g4 g5
   have hl:0<i.2.2.2.1.length:=by omega
   have e1:cIx i.2.2.2.1 0=true:=by simp only [cIx,Ba];omega
   have e2:lgt Q2 i.2.2.2.1 (Int.toNat 0)=i.2.2.2.1.headD ((0,(0,())),(0,())):=by
    cases hq:i.2.2.2.1 with
    |nil=>rw [hq] at hl;simp at hl
    |cons a l=>rfl
   rw [e1,Qf,e2]
   refine QY (fun g=>bad fun hq=> ?_) (fun g6=> ?_)
   ·have:=JK.1 hq;simp only [ilt,Ba] at g;omega
   ·simp only [ilt,Bn] at g6
    rw [Yv ⟨B1 0,by omega,by omega⟩,Qf]
    have e0:Z4 i.2.2.2.1 (0:Int).toNat=none:=rfl
    rw [e0,By,BG]
    refine QY (fun g=>bad fun hq=> ?_) (fun g7=> ?_)
    ·have:=JK.1 hq
     rw [this.2.2.2.2.1] at g
     cases g
    ·have:J7 i=true:=JK.2 ⟨k1,k2,by omega,by omega,by simpa using g7,by omega,by omega⟩
     simp [ZG,this]
 simp only [Qxt]
 rw [h]
 simp only [Qf]
 refine QY (fun g=>bad fun hq=> ?_) (fun g1=>QY (fun g2=>QY (fun g=>bad fun hq=> ?_) (fun g3=> ?_)) (fun g2=> ?_))
 ·rw [(JK.1 hq).1] at g;cases g
 ·have:=JK.1 hq
  simp only [ine,bne_iff_ne,ne_eq] at g g2
  omega
 ·simp only [ine,bne_eq_false_iff_eq] at g3
  exact tail (by simpa using g1) (by omega)
 ·simp only [ine,bne_eq_false_iff_eq] at g2
  exact tail (by simpa using g1) (by omega)
def QmG:Ent:=Qo (.pr Qp .nil) (fun x=>(Zx x.1)) (fun x=>(.t tI (ZG x.1)))
theorem Qxu:EM 130 QmG:=mS (lk:=lkL (lkc QL6 lkn)) QmF Qxp [((.t 2),some tI)] false (gB (gD Qaw (gD QEy gN))) fun m=>Qs m fun x hok=>kT (s_f130 x.1 hok)
end
end Go.Proofs.YthlcobdnemhcdaaGreat.K
