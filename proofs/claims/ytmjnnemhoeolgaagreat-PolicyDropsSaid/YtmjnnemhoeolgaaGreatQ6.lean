import Derived.Test.YtmjnnemhoeolgaaGreatQ5
import Derived.Test.YtmjnnemhoeolgaaGreatQ3
import Derived.Test.YtmjnnemhoeolgaaGreatQ4
import Derived.RangeFuncCalls
import Derived.RangeFuncBound
import Derived.Shelf.RegionOpen
import Derived.OwnWalkIn
import Derived.TacticsInMore
import Derived.LoopNIn
import Derived.LoopIn
import Derived.Lib.SliceRun
set_option linter.unusedSimpArgs false
set_option linter.unusedVariables false
noncomputable section
namespace Go.Proofs.YtmjnnemhoeolgaaGreat.K
open Go.RowKit
noncomputable section
theorem QEU {c:Int}(h:ieq (QX c).2 0=true):1<=c/\c<=16:=by
 unfold QX at h
 split at h
 ·simp [ieq] at h
 ·omega
theorem Qi3 {l:List Int}(h:ZE l=true): ∀ (k:Nat) (hk:k<l.length),(1<=l[k]/\l[k]<=16)∧ ¬ l[k]∈l.take k:=by
 intro k hk
 simp only [ZE,Yu,Bf,List.mem_range'_1,Bc,Br] at h
 obtain ⟨h1,h2⟩:=h k ⟨by omega,by omega⟩
 simp only [Bk,Bh hk,BI] at h1 h2
 refine ⟨QEU h1,fun hm=> ?_⟩
 simp only [Jo] at h2
 rw [BF.2 hm] at h2
 cases h2
theorem Qs1 {l:List Int}(h:ZE l=true):l.Nodup:=by
 have h2:=Qi3 h
 rw [List.nodup_iff_pairwise_ne,List.pairwise_iff_getElem]
 intro i j hi hj hij he
 refine (h2 j hj).2 ?_
 rw [←he]
 exact List.mem_iff_getElem.2 ⟨i,by rw [B5];omega,by rw [List.getElem_take]⟩
theorem Qs2 {l:List Int}(h:ZE l=true):l.length<=16:=by
 have h1:=Qs1 h
 have h2:=Qi3 h
 have h3:l ⊆ [1,2,3,4,5,6,7,8,9,10,11,12,13,14,15,16]:=by
  intro x hx
  obtain ⟨k,hk,rfl⟩:=List.mem_iff_getElem.1 hx
  have:=(h2 k hk).1
  simp only [BX,Dl,or_false]
  omega
 exact h1.length_le_of_subset h3
abbrev Qy (e:Endpoint):List Int:=e.2.2.2.1
abbrev Qr (e:Endpoint):List Identity:=e.2.2.2.2.2.1
abbrev Q2 (e:Endpoint):List Int:=e.2.2.2.2.2.2.1
abbrev Q5 (e:Endpoint):List Int:=e.2.2.2.2.2.2.2.1
def XV (x:Identity):Bool:=YY x.1 x.2.1 x.2.2.1
def Jg (x:Identity):Bool:=Ju x.2.2.1
def Q0 (e:Endpoint):Bool:=Jb e.1&&decide ((Qy e).length<=100000/\(Qr e).length<=100000/\(Q2 e).length<=100000/\(Q5 e).length<=100000)&&(Qr e).all Jg
def QN (e:Endpoint):Bool:=
 XK e.1&&(!ilt e.2.1 1&&(!igt e.2.1 e.2.2.1&&(!igt e.2.2.1 4&&(ZE (Qy e)&&(!igt (Qa (Qr e)) 4&&(!igt (Qa (Q2 e)) 16&&(Y2 (Q2 e)&&(Y2 (Q5 e)&&((Qr e).all XV&&((Q2 e).all J2&&(Q5 e).all XL))))))))))
def Zb (e:Endpoint):Int:=bif QN e then 0 else 19
theorem QEV (e:Endpoint):ieq (Zb e) 0=QN e:=by
 unfold Zb
 cases QN e<;>rfl
theorem QcA (e:Endpoint):ine (Zb e) 0= !QN e:=by
 unfold Zb
 cases QN e<;>rfl
abbrev QcB:Sh:=⟨[(1,.ptr 1 0),(56,.ty (.sl Q1)),(57,.ty tI),(58,.ty tI)],[(1,.box Qo)]⟩
abbrev Eg:Sh:=⟨[(2,.ty tI)],[]⟩
abbrev Oq:Sh:=⟨[(1,.ptr 1 0)],[(1,.box Qo)]⟩
def Qi4:Fg:=QcB.f
def Qs3:TC:=aF Tryz.f46 [(122,pL 0 Qi4),(1957,.fg Oq.f),(62669,.fg Eg.f),(252,pD [(0,[1]),(1,[1]),(2,[]),(3,[74,5074,10074,15074]),(4,[74,75,5074,5075,10074,10075,15074,15075]),(5,[]),(6,[1]),(7,[1]),(8,[]),(9,[80,5080,10080,15080]),(10,[80,81,5080,5081,10080,10081,15080,15081]),(11,[])] (.of [0,1,2,3,4,5,6,7,8,9,10,11]))]
def Qs4:TC:=lb 0 Qs3
def Qs5 (x56:List Identity)(x57 x58:Int)(y1:Endpoint):VS:=QcB.st ((),x56,x57,x58,()) (y1,())
def ZJ (x2:Int):VS:=Eg.st (x2,()) ()
def Xx (y1:Endpoint):VS:=Oq.st ((),()) (y1,())
def QEW:VS->Option (Bool×List (Bool×Exit×VS)):=mkL QcB (fun x y=>(Qz x.2.1 x.2.2.1 x.2.2.2.1&&x.2.1.all Jg)) (fun x y=>[((!(x.2.1.drop x.2.2.2.1.toNat).all XV),.ret,ZJ (19)),(true,.exit 0,Xx (y.1))])
def Qi5:G:=gG 83 [(76,QoE),(77,QoY),(78,QoO),(79,QmX),(80,Qpf),(80,Qpw),(82,Qpa),(82,Qpr)] (Ls [QEW])
def QcC (x56:List Identity)(x57 x58:Int)(y1:Endpoint):OX:=Qv (QB Qi5 Qi4 Qs4) (Qs5 x56 x57 x58 y1)
def Or (kk:List Identity->Int->Int->Endpoint->OX)(x56:List Identity)(x57 x58:Int)(y1:Endpoint):OX:=
 let a1:=lgt Q1 x56 (Int.toNat x58)
 br (ilt x58 x57) (br (cIx x56 x58) (br (Uq (a1.1) ((a1.2).1) (((a1.2).2).1)) (br (!(YY (a1.1) ((a1.2).1) (((a1.2).2).1))) (some (.ret,ZJ 19)) (kk x56 x57 (Qf .i64 x58 1) y1)) none) none) (some (.exit 0,Xx y1))
def QcD (x56:List Identity)(x57 x58:Int)(y1:Endpoint):OX:=br (!(x56.drop x58.toNat).all XV) (some (.ret,ZJ (19)))<|some (.exit 0,Xx (y1))
theorem Qs6 (x56:List Identity)(x57 x58:Int)(y1:Endpoint):QcC x56 x57 x58 y1=Or QcC x56 x57 x58 y1:=lnT (x:=Or (fun x56 x57 x58 y1=>some (.normal,Qs5 x56 x57 x58 y1)) x56 x57 x58 y1) (by simp only [Or,nxA];rfl)
def r_f46 (p0:Endpoint):OV:=
 let a1:=(((((((p0).2).2).2).2).2).2)
 br (Jb p0.1) (br (!(XK p0.1)) (some (.t tI 19,[])) (br (ilt p0.2.1 1) (some (.t tI 19,[])) (br (igt p0.2.1 p0.2.2.1) (some (.t tI 19,[])) (br (igt p0.2.2.1 4) (some (.t tI 19,[])) (br (JY p0.2.2.2.1) (br (!(ZE p0.2.2.2.1)) (some (.t tI 19,[])) (br (igt (Qa p0.2.2.2.2.2.1) 4) (some (.t tI 19,[])) (br (igt (Qa p0.2.2.2.2.2.2.1) 16) (some (.t tI 19,[])) (br (JY p0.2.2.2.2.2.2.1) (br (!(Y2 p0.2.2.2.2.2.2.1)) (some (.t tI 19,[])) (br (JY p0.2.2.2.2.2.2.2.1) (br (!(Y2 p0.2.2.2.2.2.2.2.1)) (some (.t tI 19,[])) (br (Qz p0.2.2.2.2.2.1 (Qa p0.2.2.2.2.2.1) (0:Int)&&p0.2.2.2.2.2.1.all Jg) (br (!(p0.2.2.2.2.2.1.drop (0:Int).toNat).all XV) (some (.t tI (19),[])) (br (JY (a1.1)) (br (Gh (a1.1)) (some (.t tI 19,[])) (br (JY ((a1.2).1)) (br (Gi ((a1.2).1)) (some (.t tI 19,[])) (some (.t tI 0,[]))) none)) none)) none)) none)) none)))) none))))) none
theorem QEX (x56:List Identity)(x57 x58:Int)(y1:Endpoint)(h:(Qz x56 x57 x58&&x56.all Jg)=true):QcC x56 x57 x58 y1=QcD x56 x57 x58 y1:=by
 simp only [Bc,Bf] at h
 obtain ⟨h0,hc⟩:=h
 obtain ⟨rfl,h3,k,rfl,hk⟩:=JJ h0
 clear h0
 refine QU x56 (fun k=>QcC x56 (x56.length:Int) (k:Int) y1=QcD x56 (x56.length:Int) (k:Int) y1) ?_ ?_ k hk
 ·rw [Qs6]
  simp only [Or,QcD,QD,B0,B4,Qh,Bd,BU,Dw,BH]
 ·intro k hk ih
  rw [Qs6]
  have hx:Uq x56[k].1 x56[k].2.1 x56[k].2.2.1=true:=hc x56[k] (Bu hk)
  simp only [Or,QD,QJ,hk,Bv,Qd,Bd,QT (show k<4611686018427387904 by omega),QS (y:=Q1) hk,hx,ih]
  simp only [QcD,Bd,Bj hk,BV,XV]
  cases YY x56[k].1 x56[k].2.1 x56[k].2.2.1<;>rfl
theorem QEY:LO Qi5 Qi4 Qs4 0:=QH (s:=QcB) fun x y h _ q=>by simp only [QE,QF] at q;exact (QEX x.2.1 x.2.2.1 x.2.2.2.1 y.1 h).trans q
theorem s_f46 (e:Endpoint)(h:Q0 e=true):r_f46 e=some (.t tI (Zb e),[]):=by
 simp only [Q0,Bc,Ba] at h
 obtain ⟨⟨h1,h2,h3,h4,h5⟩,h6⟩:=h
 have q2:JY (Qy e)=true:=Be h2
 have q4:JY (Q2 e)=true:=Be h4
 have q5:JY (Q5 e)=true:=Be h5
 unfold Zb
 simp only [r_f46,h1,q2,q4,q5,JK h3,h6,B2,Qd,Bw,BD,Gh,Gi]
 refine br9 (fun g=>by simp only [Br] at g;simp [QN,g]) fun g1=>br9 (fun g=>by simp [QN,g]) fun g2=>br9 (fun g=>by simp [QN,g]) fun g3=>br9 (fun g=>by simp [QN,g]) fun g4=>br9 (fun g=>by simp only [Br] at g;simp [QN,g]) fun g5=>br9 (fun g=>by simp [QN,g]) fun g6=>br9 (fun g=>by simp [QN,g]) fun g7=>br9 (fun g=>by simp only [Br] at g;simp [QN,g]) fun g8=>br9 (fun g=>by simp only [Br] at g;simp [QN,g]) fun g9=>br9 (fun g=>by simp only [Br] at g;simp [QN,g]) fun g10=>br9 (fun g=>by simp only [Br] at g;simp [QN,g]) fun g11=>br9 (fun g=>by simp only [Br] at g;simp [QN,g]) fun g12=> ?_
 simp only [DQ] at g1 g5 g8 g9 g10 g11 g12
 have:QN e=true:=by
  simp only [QN,g1,g2,g3,g4,g5,g6,g7,g8,g9,g10,g11,g12,Bool.not_false,B2]
 rw [this]
 rfl
def QcE:Ent:=Ql (.pr Qo .nil) (fun x=>(Q0 x.1)) (fun x=>(.t tI (Zb x.1)))
theorem Qi6:EM 46 QcE:=mS (lk:=lkL (lkc QEY lkn)) Qi5 Qs3 [((.t 2),some tI)] false (gB (gD ms_f76 (gD ms_f77 (gD ms_f78 (gD ms_f79 (gD QBk (gD QBA (gD QBh (gD QBx gN))))))))) fun m=>Qn m fun x hok=>kT (s_f46 x.1 hok)
abbrev QcF:Sh:=⟨[(1,.ptr 1 0),(3,.ty tI)],[(1,.box Qo)]⟩
abbrev QcG:Sh:=⟨[(1,.ptr 1 0),(6,.ty tI)],[(1,.box Qo)]⟩
abbrev QcH:Sh:=⟨[(1,.ptr 1 0),(7,.ty tI)],[(1,.box Qo)]⟩
abbrev QcI:Sh:=⟨[(1,.ptr 1 0),(8,.ty tI)],[(1,.box Qo)]⟩
abbrev Qs7:Sh:=⟨[],[]⟩
def Qi7:Fg:=QcF.f
def Qi8:Fg:=QcG.f
def Qi9:Fg:=QcH.f
def Qja:Fg:=QcI.f
def Ot:TC:=aF Tryz.f61 [(58,pL 0 Qi7),(931,.fg Oq.f),(3730,pD [(0,[]),(1,[]),(2,[]),(3,[1]),(4,[1]),(5,[]),(6,[]),(7,[1]),(8,[1]),(9,[]),(10,[]),(11,[]),(12,[]),(13,[])] (.of [0,1,2,3,4,5,6,7,8,9,10,11,12,13])),(14925,.fg Eg.f),(122,pL 1 Qi8),(1955,.fg Oq.f),(3912,pD [(0,[1]),(1,[1]),(2,[]),(3,[]),(4,[]),(5,[]),(6,[1]),(7,[1]),(8,[]),(9,[]),(10,[]),(11,[]),(12,[1]),(13,[1]),(14,[]),(15,[]),(16,[]),(17,[]),(18,[]),(19,[])] (.of [0,1,2,3,4,5,6,7,8,9,10,11,12,13,14,15,16,17,18,19])),(15653,.fg Eg.f),(250,pL 2 Qi9),(4003,.fg Oq.f),(8008,pD [(0,[1]),(1,[1]),(2,[]),(3,[]),(4,[]),(5,[]),(6,[]),(7,[1]),(8,[1]),(9,[]),(10,[]),(11,[]),(12,[]),(13,[]),(14,[]),(15,[]),(16,[]),(17,[]),(18,[1]),(19,[1]),(20,[]),(21,[]),(22,[]),(23,[]),(24,[1]),(25,[1]),(26,[]),(27,[]),(28,[]),(29,[]),(30,[]),(31,[])] (.of [0,1,2,3,4,5,6,7,8,9,10,11,12,13,14,15,16,17,18,19,20,21,22,23,24,25,26,27,28,29,30,31])),(32037,.fg Eg.f),(506,pL 3 Qja),(8099,.fg Qs7.f),(16200,pD [(0,[1]),(1,[1]),(2,[]),(3,[]),(4,[]),(5,[]),(6,[]),(7,[]),(8,[]),(9,[]),(10,[]),(11,[1]),(12,[1]),(13,[]),(14,[]),(15,[]),(16,[]),(17,[1]),(18,[1]),(19,[]),(20,[]),(21,[]),(22,[]),(23,[]),(24,[])] (.of [0,1,2,3,4,5,6,7,8,9,10,11,12,13,14,15,16,17,18,19,20,21,22,23,24])),(64805,.fg Eg.f)]
def Qs8:TC:=lb 0 Ot
def Qs9:TC:=lb 1 Ot
def Qta:TC:=lb 2 Ot
def Qtb:TC:=lb 3 Ot
def Qtc (x3:Int)(y1:Endpoint):VS:=QcF.st ((),x3,()) (y1,())
def Qtd (x6:Int)(y1:Endpoint):VS:=QcG.st ((),x6,()) (y1,())
def Qte (x7:Int)(y1:Endpoint):VS:=QcH.st ((),x7,()) (y1,())
def Qtf (x8:Int)(y1:Endpoint):VS:=QcI.st ((),x8,()) (y1,())
def Qjb  : VS:=Qs7.st () ()
def QEZ:VS->Option (Bool×List (Bool×Exit×VS)):=mkL QcF (fun x y=>(decide (0<=x.2.1/\x.2.1<=(Qy y.1).length/\(Qy y.1).length<=100000))) (fun x y=>[((!Yu (Qy y.1) x.2.1.toNat),.ret,ZJ (19)),(true,.exit 0,Xx (y.1))])
def QE0:VS->Option (Bool×List (Bool×Exit×VS)):=mkL QcG (fun x y=>(decide (0<=x.2.1/\x.2.1<=(Qr y.1).length/\(Qr y.1).length<=100000)&&(Qr y.1).all Jg)) (fun x y=>[((!((Qr y.1).drop x.2.1.toNat).all XV),.ret,ZJ (19)),(true,.exit 2,Xx (y.1))])
def QE1:VS->Option (Bool×List (Bool×Exit×VS)):=mkL QcH (fun x y=>(decide (0<=x.2.1/\x.2.1<=(Q2 y.1).length/\(Q2 y.1).length<=100000))) (fun x y=>[((!(((Q2 y.1).drop x.2.1.toNat).all J2&&Yh (Q2 y.1) x.2.1.toNat)),.ret,ZJ (19)),(true,.exit 4,Xx (y.1))])
def QE2:VS->Option (Bool×List (Bool×Exit×VS)):=mkL QcI (fun x y=>(decide (0<=x.2.1/\x.2.1<=(Q5 y.1).length/\(Q5 y.1).length<=100000))) (fun x y=>[((!(((Q5 y.1).drop x.2.1.toNat).all XL&&Yh (Q5 y.1) x.2.1.toNat)),.ret,ZJ (19)),(true,.exit 6,Qjb)])
def WY:G:=gG 176 [(64,QwA),(98,QoJ),(99,QwH),(100,Qm3),(101,Qd5)] (Ls [QEZ,QE0,QE1,QE2])
def QcJ (x3:Int)(y1:Endpoint):OX:=Qv (QB WY Qi7 Qs8) (Qtc x3 y1)
def Ou (kk:Int->Endpoint->OX)(x3:Int)(y1:Endpoint):OX:=
 let a1:=lgt tI y1.2.2.2.1 (Int.toNat x3)
 br (ilt x3 (Qa y1.2.2.2.1)) (br (cIx y1.2.2.2.1 x3) (br (ine ((QX a1).2) 0) (some (.ret,ZJ 19)) (br (cSl y1.2.2.2.1 0 x3 ((List.length y1.2.2.2.1:Nat):Int)) (br (cIx y1.2.2.2.1 x3) (br (Jz (lsl y1.2.2.2.1 0 x3) a1) (br (Jo (lsl y1.2.2.2.1 0 x3) a1) (some (.ret,ZJ 19)) (kk (Qf .i64 x3 1) y1)) none) none) none)) none) (some (.exit 0,Xx y1))
def QcK (x3:Int)(y1:Endpoint):OX:=br (!Yu (Qy y1) x3.toNat) (some (.ret,ZJ (19)))<|some (.exit 0,Xx (y1))
theorem Qtg (x3:Int)(y1:Endpoint):QcJ x3 y1=Ou QcJ x3 y1:=lnT (x:=Ou (fun x3 y1=>some (.normal,Qtc x3 y1)) x3 y1) (by simp only [Ou,nxA];rfl)
def QcL (x6:Int)(y1:Endpoint):OX:=Qv (QB WY Qi8 Qs9) (Qtd x6 y1)
def Ov (kk:Int->Endpoint->OX)(x6:Int)(y1:Endpoint):OX:=
 let a1:=lgt Q1 y1.2.2.2.2.2.1 (Int.toNat x6)
 let a2:=cIx y1.2.2.2.2.2.1 x6
 br (ilt x6 (Qa y1.2.2.2.2.2.1)) (br a2 (br a2 (br a2 (br (Uq (a1.1) ((a1.2).1) (((a1.2).2).1)) (br (!(YY (a1.1) ((a1.2).1) (((a1.2).2).1))) (some (.ret,ZJ 19)) (kk (Qf .i64 x6 1) y1)) none) none) none) none) (some (.exit 2,Xx y1))
def QcM (x6:Int)(y1:Endpoint):OX:=br (!((Qr y1).drop x6.toNat).all XV) (some (.ret,ZJ (19)))<|some (.exit 2,Xx (y1))
theorem Qth (x6:Int)(y1:Endpoint):QcL x6 y1=Ov QcL x6 y1:=lnT (x:=Ov (fun x6 y1=>some (.normal,Qtd x6 y1)) x6 y1) (by simp only [Ov,nxA];rfl)
def QcN (x7:Int)(y1:Endpoint):OX:=Qv (QB WY Qi9 Qta) (Qte x7 y1)
def Ow (kk:Int->Endpoint->OX)(x7:Int)(y1:Endpoint):OX:=
 let a1:=lgt tI y1.2.2.2.2.2.2.1 (Int.toNat x7)
 let a2:=cIx y1.2.2.2.2.2.2.1 x7
 br (ilt x7 (Qa y1.2.2.2.2.2.2.1)) (br a2 (br (ilt a1 0) (some (.ret,ZJ 19)) (br a2 (br (igt a1 2147483648) (some (.ret,ZJ 19)) (br (igt x7 0) (br (cIx y1.2.2.2.2.2.2.1 (Q6 .i64 x7 1)) (br a2 (br (ige (lgt tI y1.2.2.2.2.2.2.1 (Int.toNat (Q6 .i64 x7 1))) a1) (some (.ret,ZJ 19)) (kk (Qf .i64 x7 1) y1)) none) none) (kk (Qf .i64 x7 1) y1))) none)) none) (some (.exit 4,Xx y1))
def QcO (x7:Int)(y1:Endpoint):OX:=br (!(((Q2 y1).drop x7.toNat).all J2&&Yh (Q2 y1) x7.toNat)) (some (.ret,ZJ (19)))<|some (.exit 4,Xx (y1))
theorem Qti (x7:Int)(y1:Endpoint):QcN x7 y1=Ow QcN x7 y1:=lnT (x:=Ow (fun x7 y1=>some (.normal,Qte x7 y1)) x7 y1) (by simp only [Ow,nxA];rfl)
def QcP (x8:Int)(y1:Endpoint):OX:=Qv (QB WY Qja Qtb) (Qtf x8 y1)
def Ox (kk:Int->Endpoint->OX)(x8:Int)(y1:Endpoint):OX:=
 let a1:=lgt tI y1.2.2.2.2.2.2.2.1 (Int.toNat x8)
 let a2:=cIx y1.2.2.2.2.2.2.2.1 x8
 br (ilt x8 (Qa y1.2.2.2.2.2.2.2.1)) (br a2 (br (ine (Z9 a1) 1) (some (.ret,ZJ 19)) (br (igt x8 0) (br (cIx y1.2.2.2.2.2.2.2.1 (Q6 .i64 x8 1)) (br a2 (br (ige (lgt tI y1.2.2.2.2.2.2.2.1 (Int.toNat (Q6 .i64 x8 1))) a1) (some (.ret,ZJ 19)) (kk (Qf .i64 x8 1) y1)) none) none) (kk (Qf .i64 x8 1) y1))) none) (some (.exit 6,Qjb))
def QcQ (x8:Int)(y1:Endpoint):OX:=br (!(((Q5 y1).drop x8.toNat).all XL&&Yh (Q5 y1) x8.toNat)) (some (.ret,ZJ (19)))<|some (.exit 6,Qjb)
theorem Qtj (x8:Int)(y1:Endpoint):QcP x8 y1=Ox QcP x8 y1:=lnT (x:=Ox (fun x8 y1=>some (.normal,Qtf x8 y1)) x8 y1) (by simp only [Ox,nxA];rfl)
def r_f61 (p0:Endpoint):OV:=br (Jb p0.1) (br (!(XK p0.1)) (some (.t tI 19,[])) (br (ilt p0.2.1 1) (some (.t tI 19,[])) (br (igt p0.2.1 p0.2.2.1) (some (.t tI 19,[])) (br (igt p0.2.2.1 4) (some (.t tI 19,[])) (br (igt (Qa p0.2.2.2.1) 16) (some (.t tI 19,[])) (br (igt (Qa p0.2.2.2.2.2.1) 4) (some (.t tI 19,[])) (br (igt (Qa p0.2.2.2.2.2.2.1) 16) (some (.t tI 19,[])) (br (decide (0<=(0:Int)/\(0:Int)<=(Qy p0).length/\(Qy p0).length<=100000)) (br (!Yu (Qy p0) (0:Int).toNat) (some (.t tI (19),[])) (br (decide (0<=(0:Int)/\(0:Int)<=(Qr (p0)).length/\(Qr (p0)).length<=100000)&&(Qr (p0)).all Jg) (br (!((Qr (p0)).drop (0:Int).toNat).all XV) (some (.t tI (19),[])) (br (decide (0<=(0:Int)/\(0:Int)<=(Q2 (p0)).length/\(Q2 (p0)).length<=100000)) (br (!(((Q2 (p0)).drop (0:Int).toNat).all J2&&Yh (Q2 (p0)) (0:Int).toNat)) (some (.t tI (19),[])) (br (decide (0<=(0:Int)/\(0:Int)<=(Q5 (p0)).length/\(Q5 (p0)).length<=100000)) (br (!(((Q5 (p0)).drop (0:Int).toNat).all XL&&Yh (Q5 (p0)) (0:Int).toNat)) (some (.t tI (19),[])) (some (.t tI 0,[]))) none)) none)) none)) none)))))))) none
theorem QE3 (x3:Int)(y1:Endpoint)(h:(decide (0<=x3/\x3<=(Qy y1).length/\(Qy y1).length<=100000))=true):QcJ x3 y1=QcK x3 y1:=by
 simp only [Ba] at h
 obtain ⟨h0,h1,h2⟩:=h
 obtain ⟨k,rfl⟩:=Bq h0
 refine QU (Qy y1) (fun k=>QcJ (k:Int) y1=QcK (k:Int) y1) ?_ ?_ k (by omega)
 ·rw [Qtg]
  simp only [Ou,QcK,show ilt ((Qy y1).length:Int) (Qa (Qy y1))=false from Bo (by simp only [Qa];omega),Qh,Bd,QoQ,BH]
 ·intro k hk ih
  rw [Qtg]
  have hi:Jz ((Qy y1).take k) (Qy y1)[k]=true:=Be (by rw [B5];omega)
  simp only [Ou,show ilt (k:Int) (Qa (Qy y1))=true from Be (by simp only [Qa];omega),QJ,hk,Bv,Qd,Bd,QT (show k<4611686018427387904 by omega),QS (y:=tI) hk,ih,QoS,QoT (show k<=(Qy y1).length by omega),hi,GN]
  simp only [QcK,Bd,QoR hk]
  cases ieq (QX (Qy y1)[k]).2 0<;>cases Jo ((Qy y1).take k) (Qy y1)[k]<;>rfl
theorem QE4 (x6:Int)(y1:Endpoint)(h:(decide (0<=x6/\x6<=(Qr y1).length/\(Qr y1).length<=100000)&&(Qr y1).all Jg)=true):QcL x6 y1=QcM x6 y1:=by
 simp only [Bc,Ba,Bf] at h
 obtain ⟨⟨h0,h1,h2⟩,hc⟩:=h
 obtain ⟨k,rfl⟩:=Bq h0
 refine QU (Qr y1) (fun k=>QcL (k:Int) y1=QcM (k:Int) y1) ?_ ?_ k (by omega)
 ·rw [Qth]
  simp only [Ov,QcM,show ilt ((Qr y1).length:Int) (Qa (Qr y1))=false from Bo (by simp only [Qa];omega),Qh,Bd,BU,Dw,BH]
 ·intro k hk ih
  rw [Qth]
  have hx:Uq (Qr y1)[k].1 (Qr y1)[k].2.1 (Qr y1)[k].2.2.1=true:=hc (Qr y1)[k] (Bu hk)
  simp only [Ov,show ilt (k:Int) (Qa (Qr y1))=true from Be (by simp only [Qa];omega),QJ,hk,Bv,Qd,Bd,QT (show k<4611686018427387904 by omega),QS (y:=Q1) hk,hx,ih]
  simp only [QcM,Bd,Bj hk,BV,XV]
  cases YY (Qr y1)[k].1 (Qr y1)[k].2.1 (Qr y1)[k].2.2.1<;>rfl
theorem QE5 (x7:Int)(y1:Endpoint)(h:(decide (0<=x7/\x7<=(Q2 y1).length/\(Q2 y1).length<=100000))=true):QcN x7 y1=QcO x7 y1:=by
 simp only [Ba] at h
 obtain ⟨h0,h1,h2⟩:=h
 obtain ⟨k,rfl⟩:=Bq h0
 refine QU (Q2 y1) (fun k=>QcN (k:Int) y1=QcO (k:Int) y1) ?_ ?_ k (by omega)
 ·rw [Qti]
  simp only [Ow,QcO,show ilt ((Q2 y1).length:Int) (Qa (Q2 y1))=false from Bo (by simp only [Qa];omega),Qh,Bd,BU,Dw,QgJ,B2,BH]
 ·intro k hk ih
  rw [Qti]
  simp only [Ow,show ilt (k:Int) (Qa (Q2 y1))=true from Be (by simp only [Qa];omega),QJ,hk,Bv,Qd,Bd,QT (show k<4611686018427387904 by omega),QS (y:=tI) hk,ih,QgL hk (show k<4611686018427387904 by omega)]
  simp only [QcO,Bd,QgK hk,Bj hk,BV,J2]
  cases ilt (Q2 y1)[k] 0<;>cases igt (Q2 y1)[k] 2147483648<;>cases decide (k=0)||ilt ((Q2 y1).getD (k-1) 0) (Q2 y1)[k]<;>simp [Qd,Qh]
theorem QE6 (x8:Int)(y1:Endpoint)(h:(decide (0<=x8/\x8<=(Q5 y1).length/\(Q5 y1).length<=100000))=true):QcP x8 y1=QcQ x8 y1:=by
 simp only [Ba] at h
 obtain ⟨h0,h1,h2⟩:=h
 obtain ⟨k,rfl⟩:=Bq h0
 refine QU (Q5 y1) (fun k=>QcP (k:Int) y1=QcQ (k:Int) y1) ?_ ?_ k (by omega)
 ·rw [Qtj]
  simp only [Ox,QcQ,show ilt ((Q5 y1).length:Int) (Qa (Q5 y1))=false from Bo (by simp only [Qa];omega),Qh,Bd,BU,Dw,QgJ,B2,BH]
 ·intro k hk ih
  rw [Qtj]
  simp only [Ox,show ilt (k:Int) (Qa (Q5 y1))=true from Be (by simp only [Qa];omega),QJ,hk,Bv,Qd,Bd,QT (show k<4611686018427387904 by omega),QS (y:=tI) hk,ih,QgL hk (show k<4611686018427387904 by omega),GN]
  simp only [QcQ,Bd,QgK hk,Bj hk,BV,XL]
  cases ieq (Z9 (Q5 y1)[k]) 1<;>cases decide (k=0)||ilt ((Q5 y1).getD (k-1) 0) (Q5 y1)[k]<;>simp [Qd,Qh]
theorem QE7:LO WY Qi7 Qs8 0:=QH (s:=QcF) fun x y h _ q=>by simp only [QE,QF] at q;exact (QE3 x.2.1 y.1 h).trans q
theorem QE8:LO WY Qi8 Qs9 1:=QH (s:=QcG) fun x y h _ q=>by simp only [QE,QF] at q;exact (QE4 x.2.1 y.1 h).trans q
theorem QE9:LO WY Qi9 Qta 2:=QH (s:=QcH) fun x y h _ q=>by simp only [QE,QF] at q;exact (QE5 x.2.1 y.1 h).trans q
theorem QFa:LO WY Qja Qtb 3:=QH (s:=QcI) fun x y h _ q=>by simp only [QE,QF] at q;exact (QE6 x.2.1 y.1 h).trans q
theorem s_f61 (e:Endpoint)(h:Q0 e=true):r_f61 e=some (.t tI (Zb e),[]):=by
 simp only [Q0,Bc,Ba] at h
 obtain ⟨⟨h1,h2,h3,h4,h5⟩,h6⟩:=h
 have q2:decide ((0:Int)<=0/\(0:Int)<=(Qy e).length/\(Qy e).length<=100000)=true:=Be (by omega)
 have q3:decide ((0:Int)<=0/\(0:Int)<=(Qr e).length/\(Qr e).length<=100000)=true:=Be (by omega)
 have q4:decide ((0:Int)<=0/\(0:Int)<=(Q2 e).length/\(Q2 e).length<=100000)=true:=Be (by omega)
 have q5:decide ((0:Int)<=0/\(0:Int)<=(Q5 e).length/\(Q5 e).length<=100000)=true:=Be (by omega)
 unfold Zb
 simp only [r_f61,h1,q2,q3,q4,q5,h6,B2,Qd,Bw,BD]
 refine br9 (fun g=>by simp only [Br] at g;simp [QN,g]) fun g1=>br9 (fun g=>by simp [QN,g]) fun g2=>br9 (fun g=>by simp [QN,g]) fun g3=>br9 (fun g=>by simp [QN,g]) fun g4=>br9 (fun g=> ?_) fun g5=>br9 (fun g=>by simp [QN,g]) fun g6=>br9 (fun g=>by simp [QN,g]) fun g7=>br9 (fun g=>by simp only [Br] at g;have:ZE (Qy e)=false:=g;simp [QN,this]) fun g8=>br9 (fun g=>by simp only [Br] at g;simp [QN,g]) fun g9=>br9 (fun g=> ?_) fun g10=>br9 (fun g=> ?_) fun g11=> ?_
 ·have:ZE (Qy e)=false:=by
   cases hs:ZE (Qy e) with
   |false=>rfl
   |true=>
    have h16:e.2.2.2.1.length<=16:=Qs2 hs
    simp only [igt,Qa,Ba] at g
    omega
  simp [QN,this]
 ·simp only [Br,Bool.and_eq_false_iff] at g
  rcases g with g|g
  ·simp [QN,g]
  ·have:Y2 (Q2 e)=false:=g
   simp [QN,this]
 ·simp only [Br,Bool.and_eq_false_iff] at g
  rcases g with g|g
  ·simp [QN,g]
  ·have:Y2 (Q5 e)=false:=g
   simp [QN,this]
 simp only [DQ,Bc] at g1 g8 g9 g10 g11
 have k1:ZE (Qy e)=true:=g8
 have k2:Y2 (Q2 e)=true:=g10.2
 have k3:Y2 (Q5 e)=true:=g11.2
 have:QN e=true:=by
  simp only [QN,g1,g2,g3,g4,k1,g6,g7,k2,k3,g9,g10.1,g11.1,Bool.not_false,B2]
 rw [this]
 rfl
def QcR:Ent:=Ql (.pr Qo .nil) (fun x=>(Q0 x.1)) (fun x=>(.t tI (Zb x.1)))
theorem Qjc:EM 61 QcR:=mS (lk:=lkL (lkc QE7 (lkc QE8 (lkc QE9 (lkc QFa lkn))))) WY Ot [((.t 2),some tI)] false (gB (gD ms_f64 (gD ms_f98 (gD ms_f99 (gD QzC (gD QkV gN)))))) fun m=>Qn m fun x hok=>kT (s_f61 x.1 hok)
end
end Go.Proofs.YtmjnnemhoeolgaaGreat.K
noncomputable section
namespace Go.Proofs.YtmjnnemhoeolgaaGreat.K
open Go.RowKit
def Fs (b:Ty):VO->VO
 |.box (.ag [.t b' x])=>if b'=b/\b'.row=false then .box (.t b' x) else .box (.ag [.t b' x])
 |o=>o
def Uw:List Ty->List VO->List VO
 |b::bs,o::os=>Fs b o::Uw bs os
 |_,os=>os
def Ft (l:List SV)(bs:List Ty)(ok:SVt l->Y5 bs->Bool)(F:SVt l->Y5 bs->V):Ent:=fun args objs=>ZP l bs ok F args (Uw bs objs)
section
variable {P:Program}{X:Nat->Nat->Prop}{w:World}{σ:Pl}
theorem QAH {b:Ty}{o:VO}{k:Nat}(h:OAt X w σ k o):OAt X w σ k (Fs b o):=by
 unfold Fs
 split
 ·rename_i b' x
  split
  ·rename_i hq
   obtain ⟨g,ty,vs,h1,h2,h3,h4⟩:=h
   refine ⟨g,ty,vs,h1,h2, ?_,h4⟩
   have e1:(V.ag [.t b' x]).d.cells=[b'.d x]:=rfl
   have e2:(V.t b' x).d.cells=[b'.d x]:=by
    show (b'.d x).cells=_
    rw [Ty.d_cells,Ty.d_one b' x hq.2]
   rw [e2, ← e1]
   exact h3
  ·exact h
 ·exact h
theorem QAI {b:Ty}{o:VO}(h:o≠ .no):Fs b o≠ .no:=by
 unfold Fs
 split
 ·split<;>simp
 ·exact h
theorem QaH: ∀ (bs:List Ty) (os:List VO),(Uw bs os).length=os.length
 | [],os=>rfl
 |b::bs,[]=>rfl
 |b::bs,o::os=>by rw [Uw,Bt,Bt,QaH bs os]
theorem Qot: ∀ (bs:List Ty) (os:List VO) (j:Nat) (o:VO),(Uw bs os)[j]? = some o→ ∃ o',os[j]? = some o'/\(o=o'∨ ∃ b,o=Fs b o')
 | [],os,j,o,h=>⟨o,h,.inl rfl⟩
 |b::bs,[],j,o,h=>⟨o,h,.inl rfl⟩
 |b::bs,o1::os,0,o,h=>by
  simp only [Uw,BY,Bb] at h
  exact ⟨o1,rfl,.inr ⟨b,h.symm⟩⟩
 |b::bs,o1::os,j+1,o,h=>by
  simp only [Uw,BS] at h
  obtain ⟨o',h1,h2⟩:=Qot bs os j o h
  exact ⟨o',by rw [BS];exact h1,h2⟩
theorem Iq {f:FuncId}{l:List SV}{bs:List Ty}{ok:SVt l->Y5 bs->Bool}{F:SVt l->Y5 bs->V}(hM:QA P f (Qx (ZP l bs ok F))):QA P f (Qx (Ft l bs ok F)):=by
 intro args objs r os hF X w σ vs hfin hl hc
 have:=hM args (Uw bs objs) r os hF X w σ vs hfin ⟨fun j o hj=>by
  obtain ⟨o',h1,h2⟩:=Qot bs objs j o hj
  obtain ⟨g1,g2⟩:=hl.at_ j o' h1
  rcases h2 with rfl|⟨b,rfl⟩
  ·exact ⟨g1,g2⟩
  ·exact ⟨QAH g1,QAI g2⟩,fun i j b hij hi hj=>hl.apart i j b hij (by rwa [QaH] at hi) (by rwa [QaH] at hj)⟩ hc
 rw [QaH] at this
 exact this
end
end Go.Proofs.YtmjnnemhoeolgaaGreat.K
noncomputable section
namespace Go.Proofs.YtmjnnemhoeolgaaGreat.K
open Go.RowKit
noncomputable section
theorem Qou {l:List Certificate}(h:Ju l=true){k:Nat}(hk:k<l.length):JP l[k]=true:=by
 simp only [Ju,Bc,Bf] at h
 exact h.2 _ (Bu hk)
theorem Qov {l:List Certificate}(h:Ju l=true):l.length<=100000:=by
 simp only [Ju,Bc,Ba] at h
 exact h.1
abbrev cAt (l:List Certificate)(k:Nat):Certificate:=l.getD k VX
theorem QAJ {l:List Certificate}{k:Nat}(hk:k<l.length):cAt l k=l[k]:=by
 simp only [cAt,Bk,Bh hk,BI]
def pathF (l:List Certificate)(i:Int):Bool:= !ilt i 0&&(!ige i (Qa l)&&(ieq i 0||((cAt l i.toNat).2.2.2.2.2.2.2.2.1&&ige (cAt l i.toNat).2.2.2.2.2.2.2.2.2.1 (i-1))))
def QAK (l:List Certificate)(k:Nat):Int:=if k+1<l.length then (cAt l (k+1)).2.2.2.2.1 else (Wt (cAt l k)).1
def QAL (l:List Certificate)(e:Int)(k:Nat):Bool:=
 bif ieq e 11 then decide (k+1<l.length)&&sne (cAt l k).2.1 (cAt l (k+1)).2.2.1
 else bif ieq e 15 then !pathF l k else !Qzt (cAt l k) (QAK l k)
def failUp (l:List Certificate)(e:Int)(k:Nat):Bool:=(List.range' k (l.length-k)).any (QAL l e)
def QgA (l:List Certificate)(e:Int):Bool:=failUp l e 0
end
end Go.Proofs.YtmjnnemhoeolgaaGreat.K
noncomputable section
namespace Go.Proofs.YtmjnnemhoeolgaaGreat.K
open Go.RowKit
noncomputable section
-- loop 0: (x0 : (List ByteArray)) (x1 : ByteArray) (x5 : Int); out: ('ret',) (x4 : Bool); ('exit', 0)
-- loop 0: (x0 : (List Certificate)) (x1 : (List Int)) (x2 : (List Int)) (x3 : Int) (x4 : ByteArray) (x11 : (List Int)) (x12 : Int) (x13 : Int); out: ('ret',) (x10 : Int); ('exit', 2) (x0 : (List Certificate)) (x1 : (List Int)) (x2 : (List Int)) (x3 : Int) (x4 : ByteArray) (x11 : (List Int)) (x12 : Int)
-- loop 1: (x0 : (List Certificate)) (x1 : (List Int)) (x2 : (List Int)) (x3 : Int) (x4 : ByteArray) (x11 : (List Int)) (x12 : Int); out: ('ret',) (x10 : Int); ('exit', 0)
end
end Go.Proofs.YtmjnnemhoeolgaaGreat.K
noncomputable section
namespace Go.Proofs.YtmjnnemhoeolgaaGreat.K
open Go.RowKit
noncomputable section
def Yw (x:Identity)(s:Suite):Bool:=ieq s.2.2.2.1.1 0||ieq x.1.1 s.2.2.2.1.1
def QFK:TC:=aF Tryz.f173 []
def g_f173:G:=gG 17 [] (fun _ _=>none)
def QtK (p0:Identity)(d0:Suite):OV:=br (ieq d0.2.2.2.1.1 0) (some (.t .bool true,[.box (.t Q3 d0)])) (some (.t .bool (ieq p0.1.1 d0.2.2.2.1.1),[.box (.t Q3 d0)]))
theorem s_f173 (x:Identity)(s:Suite):QtK x s=some (.t .bool (Yw x s),[.box (.t Q3 s)]):=by
 simp only [QtK]
 unfold Yw
 cases ieq s.2.2.2.1.1 0<;>rfl
def QtL:Ent:=Ft [.ty Q1,.ptr 50000 0] [Q3] (fun x d=>true) (fun x d=>(.t .bool (Yw x.1 d.1)))
theorem QFL:EM 173 QtL:=mS g_f173 QFK [((.t 3),some .bool)] false (gB gN) fun m=>Iq (ZG m fun x d _=>kT (s_f173 x.1 d.1))
def QcZ (l:List Identity)(_s:Suite):Bool:=decide (l.length<=100000)
def GF (l:List Identity)(s:Suite):Int:=match QC (fun x=>Yw x s) l with|some k=>(k:Int)|none=> -1
abbrev Qc0:Sh:=⟨[(0,.ty (.sl Q1)),(1,.fn 173 [(50000,0)]),(7,.ty tI),(8,.ty tI)],[(50000,.box Q3)]⟩
abbrev QtM:Sh:=⟨[(4,.ty tI)],[(50000,.box Q3)]⟩
abbrev QtN:Sh:=⟨[],[(50000,.box Q3)]⟩
def Qjx:Fg:=Qc0.f
def QtO:TC:=aF Tryz.f172 [(26,pL 0 Qjx),(421,.fg QtN.f),(13517,.fg QtM.f)]
def QtP:TC:=lb 0 QtO
def QtQ (x0:List Identity)(x7 x8:Int)(Qb:Suite):VS:=Qc0.st (x0,(),x7,x8,()) (Qb,())
def Qjy (x4:Int)(Qb:Suite):VS:=QtM.st (x4,()) (Qb,())
def Qjz (Qb:Suite):VS:=QtN.st () (Qb,())
def QFM:VS->Option (Bool×List (Bool×Exit×VS)):=mkL Qc0 (fun x y=>(Qz x.1 x.2.2.1 x.2.2.2.1)) (fun x y=>[(((QC (fun x=>Yw x y.1) (x.1.drop x.2.2.2.1.toNat)).isSome),.ret,Qjy (x.2.2.2.1+((QC (fun x=>Yw x y.1) (x.1.drop x.2.2.2.1.toNat)).getD 0:Nat)) (y.1)),(true,.exit 0,Qjz (y.1))])
def QjA:G:=gG 19 [(173,QtL)] (Ls [QFM])
def Qc1 (x0:List Identity)(x7 x8:Int)(Qb:Suite):OX:=Qv (QB QjA Qjx QtP) (QtQ x0 x7 x8 Qb)
def OB (kk:List Identity->Int->Int->Suite->OX)(x0:List Identity)(x7 x8:Int)(Qb:Suite):OX:=br (ilt x8 x7) (br (cIx x0 x8) (br (Yw (lgt Q1 x0 (Int.toNat x8)) Qb) (some (.ret,Qjy x8 Qb)) (kk x0 x7 (Qf .i64 x8 1) Qb)) none) (some (.exit 0,Qjz Qb))
def Qc2 (x0:List Identity)(x7 x8:Int)(Qb:Suite):OX:=br ((QC (fun x=>Yw x Qb) (x0.drop x8.toNat)).isSome) (some (.ret,Qjy (x8+((QC (fun x=>Yw x Qb) (x0.drop x8.toNat)).getD 0:Nat)) (Qb)))<|some (.exit 0,Qjz (Qb))
theorem QtR (x0:List Identity)(x7 x8:Int)(Qb:Suite):Qc1 x0 x7 x8 Qb=OB Qc1 x0 x7 x8 Qb:=lnT (x:=OB (fun x0 x7 x8 Qb=>some (.normal,QtQ x0 x7 x8 Qb)) x0 x7 x8 Qb) (by simp only [OB,nxA];rfl)
def QtS (p0:List Identity)(d0:Suite):OV:=
 let a1:=(p0.drop (0:Int).toNat)
 br (Qz p0 (Qa p0) (0:Int)) (br ((QC (fun x=>Yw x d0) a1).isSome) (some (.t tI ((0:Int)+((QC (fun x=>Yw x d0) a1).getD 0:Nat)),[.box (.t Q3 (d0))])) (some (.t tI (-1),[.box (.t Q3 (d0))]))) none
theorem QFN (x0:List Identity)(x7 x8:Int)(Qb:Suite)(h:(Qz x0 x7 x8)=true):Qc1 x0 x7 x8 Qb=Qc2 x0 x7 x8 Qb:=by
 obtain ⟨rfl,h3,k,rfl,hk⟩:=JJ h
 clear h
 refine QU x0 (fun k=>Qc1 x0 (x0.length:Int) (k:Int) Qb=Qc2 x0 (x0.length:Int) (k:Int) Qb) ?_ ?_ k hk
 ·rw [QtR]
  simp [OB,Qc2,QD,Qh,QC]
 ·intro k hk ih
  rw [QtR]
  simp only [OB,QD,QJ,hk,Bv,Qd,Bd,QT (show k<4611686018427387904 by omega),ih,QS (y:=Q1) hk]
  simp only [Qc2,Bd,Bj hk,QC]
  cases h:(Yw x0[k] Qb) with
  |true=>simp [Qd]
  |false=>
   simp only [Qh,BK,Do]
   cases hq:QC (fun x=>Yw x Qb) (x0.drop (k+1)) with
   |none=>rfl
   |some j=>
    simp only [B1,B6,BI,Qd]
    congr 3
    omega
theorem QFO:LO QjA Qjx QtP 0:=QH (s:=Qc0) fun x y h _ q=>by simp only [QE,QF] at q;exact (QFN x.1 x.2.2.1 x.2.2.2.1 y.1 h).trans q
theorem QFP (l:List Identity)(s:Suite)(h:QcZ l s=true):QtS l s=some (.t tI (GF l s),[.box (.t Q3 s)]):=by
 have hl:l.length<=100000:=Bx h
 simp only [QtS,JK hl,Qd,Bw,BD,GF]
 cases QC (fun x=>Yw x s) l<;>simp [Qd,Qh]
def QtT:Ent:=Ft [.ty (.sl Q1),.fn 173 [(50000,0)]] [Q3] (fun x d=>(QcZ x.1 d.1)) (fun x d=>(.t tI (GF x.1 d.1)))
theorem QFQ:EM 172 QtT:=mS (lk:=lkL (lkc QFO lkn)) QjA QtO [((.t 4),some tI)] false (gB (gD QFL gN)) fun m=>Iq (ZG m fun x d hok=>kT (QFP x.1 d.1 hok))
def Zc (e:Endpoint)(c:Int):Int×Bool:=bif ine (QX c).2 0 then (-1,false) else (GF (Qr e) (QX c).1,ige (GF (Qr e) (QX c).1) 0)
def Xy (e:Endpoint)(_c:Int):Bool:=decide ((Qr e).length<=100000)
def QFR:TC:=aF Tryz.f136 []
def g_f136:G:=gG 23 [(124,O8),(172,QtT)] (fun _ _=>none)
def QtU (p0:Endpoint)(p1:Int):OV:=
 let a1:=GF p0.2.2.2.2.2.1 ((QX p1).1)
 br (ine ((QX p1).2) 0) (some (.tu [(.t tI (-1)),(.t .bool false)],[])) (br (QcZ p0.2.2.2.2.2.1 ((QX p1).1)) (some (.tu [(.t tI a1),(.t .bool (ige a1 0))],[])) none)
theorem s_f136 (e:Endpoint)(c:Int)(h:Xy e c=true):QtU e c=some (.tu [.t tI (Zc e c).1,.t .bool (Zc e c).2],[]):=by
 have hk:QcZ (Qr e) (QX c).1=true:=h
 simp only [QtU,hk,Qd]
 unfold Zc
 cases ine (QX c).2 0<;>rfl
def QjB:Ent:=Ql (.pr Qo (.pr tI .nil)) (fun x=>(Xy x.1 x.2.1)) (fun x=>(.tu [(.t tI ((Zc x.1 x.2.1).1)),(.t .bool ((Zc x.1 x.2.1).2))]))
theorem QtV:EM 136 QjB:=mS g_f136 QFR [((.t 4),some tI),((.t 5),some .bool)] false (gB (gD Qea (gD QFQ gN))) fun m=>Qn m fun x hok=>kT (s_f136 x.1 x.2.1 hok)
def GG (e:Endpoint)(o:List Int):Bool:=decide ((Qr e).length<=100000/\(Qy e).length<=100000/\o.length<=100000)
def Wm (e:Endpoint)(o:List Int)(v c:Int):Bool:=
 ieq (QX c).2 0&&(ige v (QX c).1.2.2.2.2.2.2.1&&(ige (QX c).1.2.2.2.2.2.2.2.1 v&&(Jo o c&&(Jo (Qy e) c&&(Zc e c).2))))
abbrev tkE (t:Talk):Endpoint:=t.1
abbrev tkV (t:Talk):Int:=t.2.1
abbrev tkO (t:Talk):List Int:=t.2.2.1
def UK (t:Talk)(c:Int):Bool:=Wm (tkE t) (tkO t) (tkV t) c
def WZ (t:Talk)(_c:Int):Bool:=GG (tkE t) (tkO t)
def QFS:TC:=aF Tryz.f135 []
def g_f135:G:=gG 53 [(124,O8),(125,Qas),(136,QjB)] (fun _ _=>none)
def QtW (p0:Talk)(p1:Int):OV:=
 let a1:=((((((((QX p1).1).2).2).2).2).2).2)
 br (ine ((QX p1).2) 0) (some (.t .bool false,[])) (br (ilt p0.2.1 (a1.1)) (some (.t .bool false,[])) (br (igt p0.2.1 ((a1.2).1)) (some (.t .bool false,[])) (br (Jz p0.2.2.1 p1) (br (!(Jo p0.2.2.1 p1)) (some (.t .bool false,[])) (br (Jz p0.1.2.2.2.1 p1) (br (!(Jo p0.1.2.2.2.1 p1)) (some (.t .bool false,[])) (br (Xy p0.1 p1) (some (.t .bool ((Zc p0.1 p1).2),[])) none)) none)) none)))
theorem QtX (a b:Int):ine a b= !ieq a b:=rfl
theorem QFT (a b:Int):ilt a b= !ige a b:=by simp only [ilt,ige];by_cases h:a<b<;>simp [h]<;>omega
theorem s_f135 (t:Talk)(c:Int)(h:WZ t c=true):QtW t c=some (.t .bool (UK t c),[]):=by
 simp only [WZ,GG,Ba] at h
 have c1:Jz t.2.2.1 c=true:=Be h.2.2
 have c2:Jz t.1.2.2.2.1 c=true:=Be h.2.1
 have c3:Xy t.1 c=true:=Be h.1
 simp only [QtW,c1,c2,c3,Qd,QtX,QFT]
 show _=some (V.t .bool (Wm t.1 t.2.2.1 t.2.1 c),[])
 unfold Wm
 cases ieq (QX c).2 0 with
 |false=>rfl
 |true=>
  cases ige t.2.1 (QX c).1.2.2.2.2.2.2.1 with
  |false=>rfl
  |true=>
   cases ige (QX c).1.2.2.2.2.2.2.2.1 t.2.1 with
   |false=>rfl
   |true=>
    cases Jo t.2.2.1 c with
    |false=>rfl
    |true=>cases Jo t.1.2.2.2.1 c<;>rfl
def QjC:Ent:=Ql (.pr O6 (.pr tI .nil)) (fun x=>(WZ x.1 x.2.1)) (fun x=>(.t .bool (UK x.1 x.2.1)))
theorem QtY:EM 135 QjC:=mS g_f135 QFS [((.t 4),some .bool)] false (gB (gD Qea (gD Qga (gD QtV gN)))) fun m=>Qn m fun x hok=>kT (s_f135 x.1 x.2.1 hok)
def W0 (c s:Endpoint):Bool:=QN c&&QN s
def W4 (c s:Endpoint):Bool:=Q0 c&&Q0 s
def QFU:TC:=aF Tryz.f132 []
def g_f132:G:=gG 13 [(46,QcE)] (fun _ _=>none)
def QtZ (p0 p1:Endpoint):OV:=br (Q0 p0) (br (ieq (Zb p0) 0) (br (Q0 p1) (some (.t .bool (ieq (Zb p1) 0),[])) none) (some (.t .bool false,[]))) none
theorem s_f132 (c s:Endpoint)(h:W4 c s=true):QtZ c s=some (.t .bool (W0 c s),[]):=by
 simp only [W4,Bc] at h
 simp only [QtZ,h.1,h.2,Qd,QEV]
 unfold W0
 cases QN c<;>rfl
def Qt0:Ent:=Ql (.pr Qo (.pr Qo .nil)) (fun x=>(W4 x.1 x.2.1)) (fun x=>(.t .bool (W0 x.1 x.2.1)))
theorem QFV:EM 132 Qt0:=mS g_f132 QFU [((.t 4),some .bool)] false (gB (gD Qi6 gN)) fun m=>Qn m fun x hok=>kT (s_f132 x.1 x.2.1 hok)
end
end Go.Proofs.YtmjnnemhoeolgaaGreat.K
noncomputable section
namespace Go.Proofs.YtmjnnemhoeolgaaGreat.K
open Go.RowKit
noncomputable section
def okPos (l:List Int)(t:Talk):Bool:=decide (l.length<=100000)&&GG (tkE t) (tkO t)
abbrev QDx:Sh:=⟨[(0,.ty (.sl tI)),(1,.bf 135 O6),(7,.ty tI),(8,.ty tI)],[]⟩
abbrev QDy:Sh:=⟨[(4,.ty tI)],[]⟩
def QDz (x4:Int):VS:=QDy.st (x4,()) ()
abbrev QDA:Sh:=⟨[],[]⟩
def QDB  : VS:=QDA.st () ()
def QDC:VS->Option (Bool×List (Bool×Exit×VS)):=mkL QDx (fun x y=>(Qz x.1 x.2.2.1 x.2.2.2.1&&okPos x.1 x.2.1)) (fun x y=>[(((QC (UK x.2.1) (x.1.drop x.2.2.2.1.toNat)).isSome),.ret,QDz (x.2.2.2.1+((QC (UK x.2.1) (x.1.drop x.2.2.2.1.toNat)).getD 0:Nat))),(true,.exit 0,QDB)])
def QDD:G:=gG 19 [(135,QjC)] (Ls [QDC])
theorem QLt:GOk Tryz.prog QDD:=Z2 _ (gA (gD QtY gN))
abbrev zK:Keep:=(0,(0,()))
theorem Gw {e:Endpoint}(h:Q0 e=true):Jb e.1=true/\(Qy e).length<=100000/\(Qr e).length<=100000/\(Q2 e).length<=100000/\(Q5 e).length<=100000/\(Qr e).all Jg=true:=by
 simp only [Q0,Bc,Ba] at h
 exact ⟨h.1.1,h.1.2.1,h.1.2.2.1,h.1.2.2.2.1,h.1.2.2.2.2,h.2⟩
theorem QDE {e:Endpoint}{c:Int}(h:(Zc e c).2=true): ∃ k,(Zc e c).1=((k:Nat):Int)/\k<(Qr e).length:=by
 unfold Zc GF at h ⊢
 cases hi:ine (QX c).2 0 with
 |true=>rw [hi] at h;cases h
 |false=>
  rw [hi] at h
  cases hq:QC (fun x=>Yw x (QX c).1) (Qr e) with
  |none=>rw [hq] at h;cases h
  |some k=>exact ⟨k,rfl,(Qb7 hq).1⟩
theorem eEta (p1:Endpoint):(p1.1,(p1.2.1,(p1.2.2.1,(p1.2.2.2.1,(p1.2.2.2.2.1,(p1.2.2.2.2.2.1,(p1.2.2.2.2.2.2.1,(p1.2.2.2.2.2.2.2.1,(p1.2.2.2.2.2.2.2.2.1,())))))))))=p1:=rfl
-- loop 0: (x2 : Int) (x4 : (List Int)) (x12 : Int) (x13 : (List Int)) (x14 : Int) (y5 : Endpoint) (y6 : Endpoint) (y10 : Keep); out: ('ret',) (x11 : Int) (y10 : Keep); ('exit', 0) (y10 : Keep)
theorem QbR {c:Endpoint}(h:QN c=true):1<=c.2.1/\c.2.1<=c.2.2.1/\c.2.2.1<=4:=by
 simp only [QN,Bc,Br] at h
 obtain ⟨_,h1,h2,h3,_⟩:=h
 have h1:=DA h1
 have h2:=DA h2
 have h3:=DA h3
 omega
def IZ (e:Endpoint)(c:Int):List Keep:=
 [bif ieq (QX c).1.2.2.1.2.1 0 then ((QX c).1.2.2.1.1,((lgt Q1 (Qr e) (Zc e c).1.toNat).1.2.1,())) else (QX c).1.2.2.1,(lgt Q1 (Qr e) (Zc e c).1.toNat).1,(QX c).1.2.2.2.2.1,(QX c).1.2.2.2.2.2.1]
def Ji (e:Endpoint)(o:Keep):List Keep×Int:=
 bif !QN e then ([],19) else bif ine (QX o.2.1).2 0 then ([],(QX o.2.1).2) else bif !(Zc e o.2.1).2 then ([],4) else (IZ e o.2.1,0)
def Qh3 (e:Endpoint)(_o:Keep):Bool:=Q0 e
def outLI (p:List Keep×Int):OV:=some (.tu [.t (.sl Qe) p.1,.t tI p.2],[])
theorem QDF {e:Endpoint}{c:Int}(h:(Zc e c).2=true):cIx (Qr e) (Zc e c).1=true:=by
 obtain ⟨k,hk,hl⟩:=QDE h
 rw [hk,QJ]
 exact Be hl
def tc_f96:TC:=aF Tryz.f96 []
def g_f96:G:=gG 57 [(46,QcE),(124,O8),(136,QjB)] (fun _ _=>none)
def r_f96 (p0:Endpoint)(p1:Keep):OV:=
 let a1:=((lgt Q1 p0.2.2.2.2.2.1 (Int.toNat ((Zc p0 p1.2.1).1))).1)
 let a2:=((((QX p1.2.1).1).2).2)
 let a3:=(((((a2.2).2).2).1).1,((((((a2.2).2).2).1).2).1,()))
 let a4:=((((a2.2).2).1).1,(((((a2.2).2).1).2).1,()))
 let a5:=((a1.2).1,())
 br (Q0 p0) (br (ine (Zb p0) 0) (some (.tu [(.t (.sl Qe) ([]:List Keep)),(.t tI (Zb p0))],[])) (br (ine ((QX p1.2.1).2) 0) (some (.tu [(.t (.sl Qe) ([]:List Keep)),(.t tI ((QX p1.2.1).2))],[])) (br (Xy p0 p1.2.1) (br (!((Zc p0 p1.2.1).2)) (some (.tu [(.t (.sl Qe) ([]:List Keep)),(.t tI 4)],[])) (br (cIx p0.2.2.2.2.2.1 ((Zc p0 p1.2.1).1)) (br (ieq (((a2.1).2).1) 0) (some (.tu [(.t (.sl Qe) ([((a2.1).1,a5),(a1.1,a5),a4,a3])),(.t tI 0)],[])) (some (.tu [(.t (.sl Qe) ([((a2.1).1,(((a2.1).2).1,())),(a1.1,a5),a4,a3])),(.t tI 0)],[]))) none)) none))) none
theorem s_f96 (e:Endpoint)(o:Keep)(h:Qh3 e o=true):r_f96 e o=some (.tu [.t (.sl Qe) (Ji e o).1,.t tI (Ji e o).2],[]):=by
 have hr:Q0 e=true:=h
 have hid: ∀ x,Xy e x=true:=fun x=>Be (Gw hr).2.2.1
 simp only [r_f96,hr,hid,Qd,QcA]
 show _=outLI (Ji e o)
 unfold Ji Zb
 cases QN e with
 |false=>rfl
 |true=>
  rw [BH,Qh,Da]
  cases ine (QX o.2.1).2 0 with
  |true=>rfl
  |false=>
   rw [Qh,Da]
   cases hi:(Zc e o.2.1).2 with
   |false=>rfl
   |true=>
    rw [BH,Qh,Da]
    refine Eq.trans (congrArg (fun b=>br b _ _) (QDF hi)) ?_
    rw [Qd]
    unfold IZ
    cases ieq (QX o.2.1).1.2.2.1.2.1 0<;>rfl
def QbS:Ent:=Ql (.pr Qo (.pr Qe .nil)) (fun x=>(Qh3 x.1 x.2.1)) (fun x=>(.tu [(.t (.sl Qe) ((Ji x.1 x.2.1).1)),(.t tI ((Ji x.1 x.2.1).2))]))
theorem Qrc:EM 96 QbS:=mS g_f96 tc_f96 [((.t 4),some (.sl Qe)),((.t 5),some tI)] false (gB (gD Qi6 (gD Qea (gD QtV gN)))) fun m=>Qn m fun x hok=>kT (s_f96 x.1 x.2.1 hok)
end
end Go.Proofs.YtmjnnemhoeolgaaGreat.K
noncomputable section
namespace Go.Proofs.YtmjnnemhoeolgaaGreat.K
open Go.RowKit
noncomputable section
theorem brN {β:Type}{p q:Bool}{X:Option β}:br p (br q X none) none=br (p&&q) X none:=by cases p<;>rfl
def Qre (c:Int):Int:=bif ine (QX c).2 0 then 0 else Xh (QX c).1.2.2.2.2.1
def Qh6 (x:Int)(l:List Int):Nat->Nat
 |0=>0
 |k+1=>if ilt (Qre (l.getD k 0)) (Qre x)=true then Qh6 x l k else k+1
def insS (l:List Int)(x:Int):List Int:=(l.take (Qh6 x l l.length)++[x])++l.drop (Qh6 x l l.length)
def sortS (l:List Int):List Int:=l.foldl insS []
-- loop 0: (x0 : (List Int)) (x4 : Int) (x5 : Int) (y3 : (List Int)); out: ('exit', 2) (x0 : (List Int)) (x4 : Int) (x5 : Int) (y3 : (List Int))
-- loop 1: (x0 : (List Int)) (x4 : Int) (y3 : (List Int)); out: ('exit', 0) (y3 : (List Int))
end
end Go.Proofs.YtmjnnemhoeolgaaGreat.K
noncomputable section
namespace Go.Proofs.YtmjnnemhoeolgaaGreat.K
open Go.RowKit
noncomputable section
theorem Qiv {d:Dice}{l:List Int}(h:dOk d=true)(h1:l≠[])(h2:l.length<=100):Yf d l=true:=by
 have:0<l.length:=List.length_pos_iff.2 h1
 simp only [Yf,h,BC,Ba]
 omega
theorem GB {d:Dice}{n:Int}(h:dOk d=true)(hn:n<=1000000):QV d n=true:=by
 simp only [QV,h,BC,Ba]
 omega
theorem Qcg {d:Dice}{n:Int}(h:dOk d=true)(h0:0<=n)(hn:n<=1000000):YF d n=true:=by
 simp only [YF,GB h hn,BC,Ba]
 omega
abbrev Qiw (d:Dice):Int:=dof d [5,7,5,6,8,9]
def keyV (d:Dice):Keep:=(Qiw d,(sizeV (QM d [5,7,5,6,8,9]) (Qiw d),()))
def keyN (d:Dice):Dice:=sizeN (QM d [5,7,5,6,8,9]) (Qiw d)
abbrev cD1 (d:Dice):Dice:=Qc d 1000
abbrev cD2 (d:Dice):Dice:=QM (cD1 d) [3,2,4,1]
abbrev cD3 (d:Dice):Dice:=QM (cD2 d) [0,5,10]
abbrev cD4 (d:Dice):Dice:=QM (cD3 d) [1000,100,50,20]
def cD5 (d:Dice)(a:Bool):Dice:=bif a then QM (cD4 d) [3,0,1] else cD4 d
def cPath (d:Dice)(a:Bool):Int:=bif a then dof (cD4 d) [3,0,1] else 0
def cNm (d:Dice)(a:Bool)(s:ByteArray):List ByteArray:=bif done (cD5 d a) 3 then [s,scat s (ByteArray.mk #[120])] else [s]
def cRaw (d:Dice)(i s:ByteArray)(k:Keep)(id:Int)(a:Bool):Certificate:=
 (Qj d 1000,(i,(s,(k,(id,((dof (cD1 d) [3,2,4,1],(0,())),(dof (cD2 d) [0,5,10],(dof (cD3 d) [1000,100,50,20],(a,(cPath d a,(cNm d a s,((0,(0,())),()))))))))))))
def cerV (d:Dice)(i s:ByteArray)(k:Keep)(id g:Int)(a:Bool):Certificate:=(Wz (cRaw d i s k id a) g).1
def cerN (d:Dice)(_i _s:ByteArray)(_k:Keep)(_id _g:Int)(a:Bool):Dice:=Qc (cD5 d a) 3
theorem QEn {i s:ByteArray}{k:Keep}{id:Int}{a:Bool}{q p:Int}{u v:Keep}{x y:Int}(hi:i.size<=1000)(hs:s.size<=1000){l:List ByteArray}(hl:l.length<=2)(hn: ∀ t∈l,t.size<=1001):
  JP (q,(i,(s,(k,(id,(u,(x,(y,(a,(p,(l,(v,()))))))))))))=true:=by
 have hg: ∀ t:ByteArray,t.size<=1001->Jb t=true:=fun t ht=>Be (by omega)
 simp only [JP,Bc]
 refine ⟨hg _ (by omega),hg _ (by omega), ?_⟩
 simp only [Yz,Bc,Bf]
 exact ⟨Be (by show l.length<=_;omega),fun t ht=>hg t (hn t ht)⟩
end
end Go.Proofs.YtmjnnemhoeolgaaGreat.K
noncomputable section
namespace Go.Proofs.YtmjnnemhoeolgaaGreat.K
open Go.RowKit
noncomputable section
abbrev sRoot:ByteArray:=ByteArray.mk #[114,111,111,116]
abbrev QjW:List ByteArray:=[ByteArray.mk #[99,97],ByteArray.mk #[99,98],ByteArray.mk #[99,99]]
abbrev Up:Type:=List Certificate×Dice×ByteArray×Int
def abvZ:Nat->Nat->Up->Up
 |0,_,u=>u
 |m+1,i,(ab,d,iss,g)=>abvZ m (i+1) (cerV d iss (QjW.getD i ByteArray.empty) (5,(2048,())) ((11+i:Nat):Int) g true::ab,cerN d iss (QjW.getD i ByteArray.empty) (5,(2048,())) ((11+i:Nat):Int) g true,QjW.getD i ByteArray.empty,((11+i:Nat):Int))
def chU (d:Dice):Up:=abvZ (dof d [1,0,2]).toNat 0 ([],Qc (QM d [1,0,2]) 2,sRoot,1+Qj (QM d [1,0,2]) 2)
def chnV (d:Dice)(nm:ByteArray)(k:Keep)(id:Int):List Certificate:=cerV (chU d).2.1 (chU d).2.2.1 nm k id (chU d).2.2.2 false::(chU d).1
def chnN (d:Dice)(nm:ByteArray)(k:Keep)(id:Int):Dice:=cerN (chU d).2.1 (chU d).2.2.1 nm k id (chU d).2.2.2 false
-- loop 0: (x1 : ByteArray) (x3 : Int) (x9 : Int) (x10 : Int) (x11 : ByteArray) (x13 : Int) (y6 : Keep) (y12 : (List Certificate)) (Qb : Dice); out: ('exit', 0) (x1 : ByteArray) (x3 : Int) (x10 : Int) (x11 : ByteArray) (y6 : Keep) (y12 : (List Certificate)) (Qb : Dice)
end
end Go.Proofs.YtmjnnemhoeolgaaGreat.K
noncomputable section
namespace Go.Proofs.YtmjnnemhoeolgaaGreat.K
open Go.RowKit
noncomputable section
def suZ:Nat->List Int->Dice->List Int×Dice
 |0,l,d=>(l,d)
 |n+1,l,d=>suZ n (bif !Jo l (1+Qj d 16) then l++[1+Qj d 16] else l) (Qc d 16)
def suI (d:Dice):List Int×Dice:=suZ (2+Qj d 9).toNat [] (Qc d 9)
def suiV (d:Dice):List Int:=bif done (suI d).2 4 then sortS (suI d).1 else (suI d).1
def suiN (d:Dice):Dice:=Qc (suI d).2 4
-- loop 0: (x4 : Int) (y3 : (List Int)) (Qb : Dice); out: ('exit', 0) (y3 : (List Int)) (Qb : Dice)
end
end Go.Proofs.YtmjnnemhoeolgaaGreat.K
noncomputable section
namespace Go.Proofs.YtmjnnemhoeolgaaGreat.K
open Go.RowKit
noncomputable section
abbrev iB (d:Dice):Bool:=igt (Qj (keyN d) 3) 0
abbrev iD2 (d:Dice):Dice:=Qc (keyN d) 3
abbrev iA (d:Dice):Int:=dof (iD2 d) [5,7]
def Qgi (d:Dice):Keep:=bif iB d then (iA d,(sizeV (QM (iD2 d) [5,7]) (iA d),())) else keyV d
def iD3 (d:Dice):Dice:=bif iB d then sizeN (QM (iD2 d) [5,7]) (iA d) else iD2 d
def iId (d:Dice):Int:=100+Qj (iD3 d) 20
abbrev iD4 (d:Dice):Dice:=Qc (iD3 d) 20
abbrev iD5 (d:Dice):Dice:=Qc (iD4 d) 9
def iCh (d:Dice)(nm:ByteArray):List Certificate:=bif !done (iD4 d) 9 then chnV (iD5 d) nm (Qgi d) (iId d) else []
def iD6 (d:Dice)(nm:ByteArray):Dice:=bif !done (iD4 d) 9 then chnN (iD5 d) nm (Qgi d) (iId d) else iD5 d
def idV (d:Dice)(nm:ByteArray):Identity:=(Qgi d,(iId d,(iCh d nm,())))
def Qgj:Nat->ByteArray->Dice->List Identity×Dice
 |0,_,d=>([],d)
 |n+1,nm,d=>(idV d nm::(Qgj n nm (iD6 d nm)).1,(Qgj n nm (iD6 d nm)).2)
abbrev eL0 (d:Dice):Int:=dof d [1,1,2,3]
abbrev eD1 (d:Dice):Dice:=QM d [1,1,2,3]
abbrev eD2 (d:Dice):Dice:=suiN (eD1 d)
abbrev eD3 (d:Dice):Dice:=Qc (eD2 d) 2
abbrev eD4 (d:Dice):Dice:=Qc (eD3 d) 2
abbrev eD5 (d:Dice):Dice:=Qc (eD4 d) (5-eL0 d)
abbrev eD6 (d:Dice):Dice:=Qc (eD5 d) 3
abbrev eB (d:Dice):Bool:=igt (Qj (eD5 d) 3) 0
def eLst (d:Dice):Int:=bif eB d then 1 else eL0 d
def eMst (d:Dice):Int:=bif eB d then dof (eD6 d) [3,4,2] else eL0 d+Qj (eD4 d) (5-eL0 d)
def eD7 (d:Dice):Dice:=bif eB d then QM (eD6 d) [3,4,2] else eD6 d
abbrev eD8 (d:Dice):Dice:=QM (eD7 d) [1,2,1,3,0]
def Qgk (d:Dice)(nm:ByteArray):List Identity×Dice:=Qgj (dof (eD7 d) [1,2,1,3,0]).toNat nm (eD8 d)
abbrev eAn (d:Dice)(nm:ByteArray):List Int:=lgt (.sl tI) [[1,2],[1,2],[1],[2,11],([]:List Int)] (Qj (Qgk d nm).2 5).toNat
abbrev eD10 (d:Dice)(nm:ByteArray):Dice:=Qc (Qgk d nm).2 5
abbrev eHs (d:Dice)(nm:ByteArray):List Int:=lgt (.sl tI) [[1,2,3,4],[2,3,4],[3,4]] (Qj (eD10 d nm) 3).toNat
def epV (d:Dice)(nm:ByteArray):Endpoint:=(nm,(eLst d,(eMst d,(suiV (eD1 d),(done (eD2 d) 2,((Qgk d nm).1,(eAn d nm,(eHs d nm,(done (eD3 d) 2,())))))))))
def epN (d:Dice)(nm:ByteArray):Dice:=Qc (eD10 d nm) 3
-- loop 0: (x1 : ByteArray) (x6 : Int) (y4 : Endpoint) (y5_0 : ByteArray) (y5_1 : Int) (y5_2 : Int) (y5_4 : Bool) (y5_8 : Bool) (y15 : (List Int)) (QmA : (List Identity)) (Qb : Dice); out: ('exit', 0) (y4 : Endpoint) (y5_0 : ByteArray) (y5_1 : Int) (y5_2 : Int) (y5_4 : Bool) (y5_8 : Bool) (y15 : (List Int)) (QmA : (List Identity)) (Qb : Dice)
end
end Go.Proofs.YtmjnnemhoeolgaaGreat.K
noncomputable section
namespace Go.Proofs.YtmjnnemhoeolgaaGreat.K
open Go.RowKit
noncomputable section
def prZ:List Int->List Int->Dice->List Int×Dice
 | [],s,d=>(s,d)
 |x::r,s,d=>if ilt (Qa s) 16=true then (if Jo s x=true then prZ r s d else if done d 2=true then prZ r (s++[x]) (Qc d 2) else prZ r s (Qc d 2)) else (s,d)
end
end Go.Proofs.YtmjnnemhoeolgaaGreat.K
noncomputable section
namespace Go.Proofs.YtmjnnemhoeolgaaGreat.K
open Go.RowKit
noncomputable section
end
end Go.Proofs.YtmjnnemhoeolgaaGreat.K
noncomputable section
namespace Go.Proofs.YtmjnnemhoeolgaaGreat.K
open Go.RowKit
noncomputable section
end
end Go.Proofs.YtmjnnemhoeolgaaGreat.K
noncomputable section
namespace Go.Proofs.YtmjnnemhoeolgaaGreat.K
open Go.RowKit
noncomputable section
def EF (s:Endpoint)(o:List Int)(v:Int)(k:Nat):List Keep:=((List.range' k (17-k)).filter fun (j:Nat)=>Wm s o v (j:Int)).map fun (j:Nat)=>(v,((j:Int),()))
def Ub (s:Endpoint)(o:List Int)(v n:Nat):List Keep:=(List.range' v n).flatMap fun (j:Nat)=>EF s o (j:Int) 1
abbrev hiC (c s:Endpoint):Int:=imn c.2.2.1 s.2.2.1
abbrev loC (c s:Endpoint):Int:=imx c.2.1 s.2.1
def XC (c s:Endpoint):List Keep:=bif !W0 c s then [] else Ub s (Qy c) (loC c s).toNat (hiC c s+1-loC c s).toNat
end
end Go.Proofs.YtmjnnemhoeolgaaGreat.K
noncomputable section
namespace Go.Proofs.YtmjnnemhoeolgaaGreat.K
open Go.RowKit
noncomputable section
theorem QBX (l:List Int):(Z3 l).Pairwise (· ≤ ·):=by
 have:=List.pairwise_mergeSort (le:=fun x y:Int=>decide (x<=y)) (fun a b c h1 h2=>by simp only [Ba] at *; omega) (fun a b=>by simp only [Dd,Ba];omega) l
 exact this.imp fun h=>Bx h
theorem QBY {l:List Int}{p:Int->Bool}(hn:l.Nodup)(hr: ∀ x∈l,1<=x/\x<=16)(hp: ∀ x,p x=true->x∈l):(Z3 l).filter p=(((List.range' 1 16).filter fun (j:Nat)=>p (j:Int)).map fun (j:Nat)=>(j:Int)):=by
 have hperm:(Z3 l).Perm l:=List.mergeSort_perm _ _
 refine List.Perm.eq_of_pairwise (le:=(· ≤ ·)) (fun a b _ _ h1 h2=>by omega) ((QBX l).filter _) ?_ ?_
 ·rw [List.pairwise_map]
  refine List.Pairwise.filter _ ?_
  refine (List.pairwise_lt_range' (s:=1) (n:=16)).imp fun h=>by omega
 ·refine (List.perm_ext_iff_of_nodup ((hperm.nodup_iff.2 hn).filter _) ?_).2 fun a=> ?_
  ·rw [List.nodup_iff_pairwise_ne,List.pairwise_map]
   refine List.Pairwise.filter _ ?_
   refine (List.pairwise_lt_range' (s:=1) (n:=16)).imp fun h=>by omega
  ·simp only [List.mem_filter,B9,List.mem_range'_1,hperm.mem_iff]
   constructor
   ·rintro ⟨h1,h2⟩
    have:=hr a h1
    exact ⟨a.toNat,⟨by omega,by rw [Int.toNat_of_nonneg (by omega)];exact h2⟩,Int.toNat_of_nonneg (by omega)⟩
   ·rintro ⟨j,⟨_,h2⟩,rfl⟩
    exact ⟨hp _ h2,h2⟩
def rowS (s:Endpoint)(o:List Int)(v:Int)(l:List Int):List Keep:=(l.filter fun j=>Wm s o v j).map fun j=>(v,(j,()))
theorem QBZ {l:List Int}(h:ZE l=true): ∀ x∈l,1<=x/\x<=16:=by
 intro x hx
 obtain ⟨k,hk,rfl⟩:=List.mem_iff_getElem.1 hx
 exact (Qi3 h k hk).1
theorem QB0 {s:Endpoint}{o:List Int}{v:Int}(h:ZE o=true):rowS s o v (Z3 o)=EF s o v 1:=by
 unfold rowS EF
 rw [QBY (p:=fun j=>Wm s o v j) (Qs1 h) (QBZ h) (fun x hx=>by
  simp only [Wm,Bc] at hx
  exact BF.1 hx.2.2.2.1),DG]
 rfl
theorem QB1 {c:Endpoint}(h:QN c=true):ZE (Qy c)=true:=by
 simp only [QN,Bc] at h
 exact h.2.2.2.2.1
end
end Go.Proofs.YtmjnnemhoeolgaaGreat.K
noncomputable section
namespace Go.Proofs.YtmjnnemhoeolgaaGreat.K
open Go.RowKit Go.Shelf
attribute [local go_sem] Oper.semAt_some
set_option maxRecDepth 100000 in
set_option maxHeartbeats 1000000 in
theorem Qr7 (Bs b0 off c n:Nat)(A:Option Addr)(vs:List Value)(Xf:Nat->Nat->Prop)(w:World)(hreach:n*8<=140737488351232)(hvl:vs.length=n)
  (hBs:w.cell? ⟨Bs,0,none⟩=some (.slice A n c)) (hBl:Bs<w.heap.size)
  (hA:0<n->A=some ⟨b0,off,none⟩/\b0<w.heap.size/\(∀ j,j<vs.length→ ¬ Xf b0 (off+j))∧ ∀ j v,vs[j]? = some v->w.cell? ⟨b0,off+j,none⟩=some v):
  UW Tryz.prog 171 [.pointer (some ⟨Bs,0,none⟩)] (vs.map fun v=> #[v]) Xf w:=by
 intro l J Jx W hJ hJx hK hY h0 hst
 have HA:=Lib.hid hA
 clear hA
 refine callsIn_of_wp (F:=Fw none) Tryz.func171 rfl trivial ?_ rfl
 simp only [Tryz.ntmps171,List.size_toArray,Bt,BE,Nat.reduceAdd,Nat.reduceSub,Array.replicate_succ,Array.replicate_zero,List.push_toArray,List.append_toArray,BR,Dv]
 have hb0:W.cell? ⟨Bs,0,none⟩=some (.slice A n c):=(hst Bs 0 hBl).trans hBs
 gi_wp2
 gi_loopw [7] (fun i wr=> ∃ k:Nat,k<=n/\i= .int .i64 (k:Int)/\J ((vs.drop k).map fun v=> #[v]) wr)
  (fun i _=>n-(intOf i).toNat)
 case atStart=>exact ⟨0,B3 _,rfl,h0⟩
 case round=>
  obtain ⟨k,hk,rfl,hJs⟩:=hrel
  by_cases hlt:k<n
  ·obtain ⟨rfl,hbl,hnx,hcl⟩:=HA.out (by omega)
   have hlt2:k<vs.length:=by omega
   rw [Bj hlt2,BG] at hJs
   obtain ⟨fn,tmps,assign,body,hy,hR⟩:=hY _ _ wr hJs
   have hcx':wr.cell? ⟨b0,off+k,none⟩=some vs[k]:=((hK _ wr hJs).2 b0 _ hbl (hnx _ hlt2)).trans (hcl _ _ (Bh hlt2))
   clear hnx hcl hY
   gi_wp2
   refine hR.mono ?_
   rintro e W3 (⟨rfl,hJ3⟩|⟨rfl,hJx3⟩)
   ·gi_wp2
    go_roundw
    case rel=>exact ⟨k+1,by omega,by simp,hJ3⟩
    case measure=>simp [intOf];omega
   ·gi_wp2
    refine bodyPost_ret (results_none rfl _ _ _) rfl ?_
    exact ⟨⟨_,rfl⟩,.inr hJx3⟩
  ·obtain rfl:k=n:=by omega
   rw [List.drop_of_length_le (by omega)] at hJs
   gi_wp2
   go_end0
   exact ⟨⟨_,rfl⟩,.inl hJs⟩
def Xv (l:List Int):Bool:=decide (l.length<=100000)
def Wl (l:List Int):List (Int×Unit):=l.map fun x=>(x,())
def Qch:Itr:=Fk [.ptr 50000 0] [(.sl tI)] (.pr tI .nil) (fun d=>(Xv d.1)) (fun d=>(Wl d.1))
def QEt:TC:=aF Tryz.f134 []
def g_f134:G:=gG 4 [] (fun _ _=>none)
def r_f134 (p0:List Int):OV:=some (.fn 171 [(.ptr 50000 0)],[.box (.t (.sl tI) p0)])
def Qr8:Ent:=WE (.pr (.sl tI) .nil) (fun _=>true) (fun x=> .fn 171 [.ptr 50000 0]) (fun x=>[.box (.t (.sl tI) x.1)])
theorem QEu:EM 134 Qr8:=mS g_f134 QEt [((.t 2),none)] true (gB gN) fun m=>Qg3 m fun x _=>by kernel_rfl
theorem Qr9 (l:List Int):l.flatMap tI.cells=l.map fun x=>D.v (.int .i64 x):=by
 induction l with
 |nil=>rfl
 |cons x r ih=>rw [BJ,ih,BG];rfl
theorem QEv:Iters Tryz.prog (171+1000000) Qch:=by
 refine Iters.strong (enters_of Tryz.func171 (by kernel_rfl) rfl) fun caps objs yr rows h X w σ lb hfin hl hc=> ?_
 unfold Qch Fk at h
 split at h
 ·rename_i x d hx hd
  simp only [Bb,Bm] at h
  obtain ⟨hok,h⟩:=h
  cases h
  have hcaps:=FD hx
  subst hcaps
  cases objs with
  |nil=>simp [ZF] at hd
  |cons o os=>
   cases o with
   |box cv=>
    cases os with
    |cons o2 os=>simp [ZF] at hd
    |nil=>
     simp only [ZF] at hd
     split at hd
     ·rename_i l u hl1 _
      simp only [Bb] at hd
      subst hd
      have hlen:l.length<=100000:=Bx hok
      have hcv:=SV.rd_mk (s:= .ty (.sl tI)) (v:=cv) (x:=l) (by simpa [IE,Ty.row] using hl1)
      subst hcv
      obtain ⟨⟨Bs,ty,us,h1,h2,h3,h4⟩,_⟩:=hl.at_ 0 _ rfl
      have h3':Cs X w σ [.sl (List.length l) (List.flatMap tI.cells l)] us:=h3
      obtain ⟨uv,rfl,h5⟩:=h3'.one
      simp only [C] at h5
      obtain ⟨A,c,rfl,g1,g2,g3,g4⟩:=h5
      simp only [Uy,SV.mk,V.ds,V.d,Cs,C] at hc
      obtain ⟨p,ps,rfl,⟨b',e1,rfl⟩,rfl⟩:=hc
      have h1:σ 50000= .box Bs:=h1
      rw [h1] at e1
      injection e1 with e1
      subst e1
      have hcell:w.cell? ⟨Bs,0,none⟩=some (.slice A (List.length l) c):=by simp [World.cell?, h2]
      have hBl:=(BW.1 h2).1
      rcases DM (List.length l) with h0|hp
      ·have hl0:l=[]:=By h0
       subst hl0
       exact ⟨[],⟨rfl,fun i r v hr=>by simp [Wl] at hr⟩,Qr7 Bs 0 0 c 0 A [] _ w (by omega) rfl hcell hBl (fun h=>absurd h (by omega))⟩
      ·obtain ⟨b0,off,vs,rfl,g5,g6⟩:=g4 hp
       have hvl:=g5.len
       rw [Qr9,BM] at hvl
       refine ⟨vs.map fun v=> #[v],⟨by simp [Wl,hvl],fun i r v hr hv=> ?_⟩,Qr7 Bs b0 off c (List.length l) _ vs _ w (by omega) hvl hcell hBl (fun _=>⟨rfl,g6.lt,fun j hj hx=>g6.nx j hj hx,fun j v hv=>g6.at_ j v hv⟩)⟩
       rw [Qr9] at g5
       simp only [Wl,Dg,Bg] at hr hv
       obtain ⟨x,hx,rfl⟩:=hr
       obtain ⟨u,hu,rfl⟩:=hv
       have hd:(l.map fun x=>D.v (.int .i64 x))[i]? = some (.v (.int .i64 x)):=by rw [Dg,hx];rfl
       obtain ⟨u2,hu2,hcu⟩:=g5.at_ hd
       rw [hu] at hu2
       injection hu2 with hu2
       subst hu2
       simp only [Ty.canon,V.ds,V.d,Cs]
       refine ⟨_,_,rfl, ?_,rfl⟩
       rw [(C.v hcu).1]
       simp only [Ty.d,C]
       exact ⟨trivial,rfl⟩
     ·cases hd
   |no=>simp [ZF] at hd
   |arr e t l=>simp [ZF] at hd
 ·cases h
end Go.Proofs.YtmjnnemhoeolgaaGreat.K
noncomputable section
namespace Go.Proofs.YtmjnnemhoeolgaaGreat.K
open Go.RowKit
noncomputable section
def idL (l:List Int):List Int:=l
def Ep (l:List Int):List Int:=Z3 l
abbrev Qde:Sh:=⟨[(2,.ptr 60000 0)],[(60000,.bag [.ms 20200]),(11,.no),(20200,.arr 3 tI),(50000,.box (.sl tI))]⟩
def UL:Fg:=Qde.f
def Qdf:TC:=(.reg (rT Tryz.f201 2))
def Qdg:TC:=(.bk 1 (.reg (rT Tryz.f201 3)))
def QGl:TC:=(.sq (.reg (rT Tryz.f201 0)) (.sq (.sq (.reg (rT Tryz.f201 1)) (.bk 0 (.nf 2 0 3 20200 (.rf 0 UL (.t 6) (.pr tI .nil) [7] [2] Qdf Qdg)))) (.sq (.reg (rT Tryz.f201 4)) .rt)))
def OG (Zh Qb:List Int):VS:=Qde.st ((),()) (((),()),(),Zh,Qb,())
def Qdh:VS->List (Ty.T (.pr tI .nil))->Option (Bool×List (Bool×Exit×VS)):=mkR Qde (fun zs x y=>(decide (zs.length+y.2.2.1.length<=100000))) (fun zs x y=>[(true,.normal,OG (y.2.2.1++zs.map (fun z=>z.1)) (y.2.2.2.1))])
def Er:G:=⟨TYs,[],13,EL [],Wr,(Ls [fun _=>none]),IL [(1000171,Qch)],(RL [⟨(.pr tI .nil),Qdh⟩])⟩
def Quj (z:(Int×Unit))(Zh Qb:List Int):OX:=br (QK Zh ([z.1]) 8) (some (.normal,OG (Zh++([z.1])) Qb)) none
def QjK (zs:List (Int×Unit))(Zh Qb:List Int):OX:=YW (X6 Er UL (.pr tI .nil) [7] Qdf Qdg) zs (OG Zh Qb)
def QjL (z:(Int×Unit))(zs:List (Int×Unit))(Zh Qb:List Int):OX:=br (QK Zh ([z.1]) 8) (QjK zs (Zh++([z.1])) Qb) none
def QjM (zs:List (Int×Unit))(Zh Qb:List Int):OX:=some (.normal,OG (Zh++zs.map (fun z=>z.1)) (Qb))
theorem QGm (z:(Int×Unit))(Zh Qb:List Int):X6 Er UL (.pr tI .nil) [7] Qdf Qdg z (OG Zh Qb)=Quj z Zh Qb:=by kernel_rfl
theorem QGn (z:(Int×Unit))(zs:List (Int×Unit))(Zh Qb:List Int):QjK (z::zs) Zh Qb=QjL z zs Zh Qb:=(QpJ _ _ _ _).trans (by
 rw [QGm]
 simp only [Quj,QjL,FE,IA,IB,IC,ID]
 rfl)
def Quk (d0:List Int):OV:=br (Xv d0) (br (decide ((Wl d0).length+([]:List Int).length<=100000)) (some (.ms 50001,[.box (.t (.sl tI) (d0)),.arr 3 tI (([]:List Int)++(Wl d0).map (fun z=>z.1))])) none) none
theorem QGo (zs:List (Int×Unit))(Zh Qb:List Int)(h:(decide (zs.length+Zh.length<=100000))=true):QjK zs Zh Qb=QjM zs Zh Qb:=by
 induction zs generalizing Zh with
 |nil=>
  simp only [QjM,List.map_nil,BO]
  rfl
 |cons z zs ih=>
  rw [QGn]
  have h:=Bx h
  rw [Bt] at h
  have c1:QK Zh [z.1] 8=true:=Jj (by omega) (by simp only [Bp];omega)
  simp only [QjL,c1,Qd]
  rw [ih (Zh++[z.1]) (Be (by simp only [Bl,Bp];omega))]
  simp only [QjM,BG,BQ,BN]
theorem QGp: ∀ S (rows:List (Ty.T (.pr tI .nil))) l p,Er.R 0 (fgt UL S) (.pr tI .nil) rows=some (true,l)->Yc l=some p->YW (X6 Er UL (.pr tI .nil) [7] Qdf Qdg) rows (fgt UL S)=some p:=by
 intro S rows l p hR hp
 rw [show Er.R 0 (fgt UL S) (.pr tI .nil) rows=Qdh (fgt UL S) rows from RL_at (l:=[⟨(.pr tI .nil),Qdh⟩]) (j:=0) (F:=Qdh) rfl _ _] at hR
 refine QpI (s:=Qde) ⟨by decide,by decide⟩ (by kernel_rfl) (fun zs x y hok p hp=> ?_) S rows l p hR hp
 simp only [QE,QF] at hp
 exact (QGo zs y.2.2.1 y.2.2.2.1 (by first|rfl|simpa using hok)).trans hp
theorem QGq (l:List Int):(Wl l).map (fun z=>z.1)=l:=by
 unfold Wl
 rw [DG]
 exact List.map_id _
theorem QGr (l:List Int)(h:Xv l=true):Quk l=some (.ms 50001,[.box (.t (.sl tI) l),.arr 3 tI (idL l)]):=by
 have hl:l.length<=100000:=Bx h
 have c1:decide ((Wl l).length+([]:List Int).length<=100000)=true:=Be (by simp only [Wl,BM,BE];omega)
 simp only [Quk,h,Qd]
 refine Eq.trans (congrArg (fun b=>br b _ _) c1) ?_
 rw [Qd,BR,QGq]
 rfl
def Qul:Ent:=Xo [.nl,.fn 171 [(50000,0)]] [.box (.sl tI)] (fun x y=>(Xv y.1)) (fun x y=>(.ms 50001)) (fun x y=>[.box (.t (.sl tI) y.1),.arr 3 tI (idL y.1)])
theorem QGs:EM 201 Qul:=mS (lk:=(by repeat first|exact trivial|exact QGp|constructor)) Er QGl [((.t 4),none)] true (Z2 _ (fun p hp=>by cases hp) [(1000171,Qch)] (by
 intro p hp
 simp only [BX,Dl,or_false] at hp
 rcases hp with rfl
 ·exact QEv)) fun m=>XM (XN m fun x y hok=>kT (QGr y.1 hok))
def QGt:TC:=aF Tryz.f169 []
def QGu:G:=gG 5 [(201,Qul)] (fun _ _=>none)
def Qum (d0:List Int):OV:=br (Xv d0) (some (.ms 50001,[.box (.t (.sl tI) d0),.arr 3 tI (idL d0)])) none
theorem QGv (l:List Int)(h:Xv l=true):Qum l=some (.ms 50001,[.box (.t (.sl tI) l),.arr 3 tI (idL l)]):=by
 simp only [Qum,h,Qd]
def Qun:Ent:=Xo [.fn 171 [(50000,0)]] [.box (.sl tI)] (fun x y=>(Xv y.1)) (fun x y=>(.ms 50001)) (fun x y=>[.box (.t (.sl tI) y.1),.arr 3 tI (idL y.1)])
theorem QGw:EM 169 Qun:=mS QGu QGt [((.t 2),none)] true (gB (gD QGs gN)) fun m=>XM (XN m fun x y hok=>kT (QGv y.1 hok))
def QGx:TC:=aF Tryz.f133 []
def QGy:G:=gG 9 [(169,Qun),(170,Qrf)] (fun _ _=>none)
def Quo (d0:List Int):OV:=br (Xv d0) (br (Qbc (idL d0)) (some (.ms 50001,[.box (.t (.sl tI) d0),.arr 3 tI (Z3 (idL d0))])) none) none
theorem QGz (l:List Int)(h:Xv l=true):Quo l=some (.ms 50001,[.box (.t (.sl tI) l),.arr 3 tI (Ep l)]):=by
 have hl:l.length<=100000:=Bx h
 have c1:Qbc (idL l)=true:=Be (by show l.length<_;omega)
 simp only [Quo,h,c1,Qd]
 rfl
def Qup:Ent:=Xo [.fn 171 [(50000,0)]] [.box (.sl tI)] (fun x y=>(Xv y.1)) (fun x y=>(.ms 50001)) (fun x y=>[.box (.t (.sl tI) y.1),.arr 3 tI (Ep y.1)])
theorem QGA:EM 133 Qup:=mS QGy QGx [((.t 2),none)] true (gB (gD QGw (gC QDL QDM gN))) fun m=>XM (XN m fun x y hok=>kT (QGz y.1 hok))
end
end Go.Proofs.YtmjnnemhoeolgaaGreat.K
noncomputable section
namespace Go.Proofs.YtmjnnemhoeolgaaGreat.K
open Go.RowKit
noncomputable section
def XD (t:Talk)(v:Int)(l:List Int):List Keep:=(l.filter fun j=>UK t j).map fun j=>(v,(j,()))
theorem QIm {t:Talk}{v x:Int}{r:List Int}:XD t v (x::r)=if UK t x=true then (v,(x,()))::XD t v r else XD t v r:=by
 unfold XD
 rw [List.filter_cons]
 split<;>rfl
theorem QIn (t:Talk)(v:Int)(l:List Int):(XD t v l).length<=l.length:=by
 unfold XD
 rw [BM]
 exact List.length_filter_le _ _
def UQ (s:Endpoint)(o l:List Int)(v n:Nat):List Keep:=(List.range' v n).flatMap fun (j:Nat)=>XD (s,((j:Int),(o,()))) (j:Int) l
theorem QIo {s:Endpoint}{o:List Int}{v n:Nat}(h:ZE o=true):UQ s o (Z3 o) v n=Ub s o v n:=by
 unfold UQ Ub
 congr 1
 funext j
 exact QB0 h
abbrev QdX:Sh:=⟨[(2,.ptr 2 0),(3,.ptr 3 0),(5,.ms 5),(6,.ms 18),(7,.ty tI),(8,.ptr 8 0),(38,.ms 18),(39,.ty tI),(40,.ty tI)],[(2,.box Qo),(3,.box Qo),(5,.arr 54 Qe),(8,.box O6),(18,.arr 3 tI),(52,.no),(5018,.no),(10018,.no),(15018,.no)]⟩
abbrev OZ:Sh:=⟨[(2,.ptr 2 0),(3,.ptr 3 0),(5,.ms 5),(6,.ms 18),(7,.ty tI)],[(2,.box Qo),(3,.box Qo),(5,.arr 54 Qe),(18,.arr 3 tI),(52,.no),(5018,.no),(10018,.no),(15018,.no)]⟩
abbrev Qv0:Sh:=⟨[(5,.ms 5)],[(5,.arr 54 Qe),(52,.no)]⟩
def QkP:Fg:=QdX.f
def QkQ:Fg:=OZ.f
def QkR:TC:=aF Tryz.f95 [(250,.nw 5 54),(250,pL 1 QkQ),(4003,.fg Qv0.f),(32038,.nw 5 54),(32038,pL 0 QkP),(512613,.fg OZ.f)]
def Qv1:TC:=lb 0 QkR
def Qv2:TC:=lb 1 QkR
def Qv3 (x7 x39 x40:Int)(y2 y3:Endpoint)(y5:List Keep)(y8:Talk)(y18:List Int):VS:=QdX.st ((),(),(),(),x7,(),(),x39,x40,()) (y2,y3,y5,y8,y18,(),(),(),(),())
def O0 (x7:Int)(y2 y3:Endpoint)(y5:List Keep)(y18:List Int):VS:=OZ.st ((),(),(),(),x7,()) (y2,y3,y5,y18,(),(),(),(),())
def QkS (y5:List Keep):VS:=Qv0.st ((),()) (y5,(),())
def QIp:VS->Option (Bool×List (Bool×Exit×VS)):=mkL QdX (fun x y=>(decide (x.2.2.2.2.2.2.2.1=(y.2.2.2.2.1.length:Int)/\0<=x.2.2.2.2.2.2.2.2.1/\x.2.2.2.2.2.2.2.2.1<=x.2.2.2.2.2.2.2.1/\y.2.2.2.2.1.length<=16/\(y.2.2.1.length:Int)<=200+x.2.2.2.2.2.2.2.2.1)&&WZ y.2.2.2.1 0)) (fun x y=>[(true,.exit 2,O0 (x.2.2.2.2.1) (y.1) (y.2.1) (y.2.2.1++XD y.2.2.2.1 x.2.2.2.2.1 (y.2.2.2.2.1.drop x.2.2.2.2.2.2.2.2.1.toNat)) (y.2.2.2.2.1))])
def QIq:VS->Option (Bool×List (Bool×Exit×VS)):=mkL OZ (fun x y=>(decide (1<=x.2.2.2.2.1/\x.2.2.2.2.1<=5/\hiC y.1 y.2.1<=4/\(y.2.2.1.length:Int)<=16*x.2.2.2.2.1/\y.2.2.2.1.length<=16)&&GG y.2.1 (Qy y.1))) (fun x y=>[(true,.exit 0,QkS (y.2.2.1++UQ y.2.1 (Qy y.1) y.2.2.2.1 x.2.2.2.2.1.toNat (hiC y.1 y.2.1+1-x.2.2.2.2.1).toNat))])
def O1:G:=gG 55 [(132,Qt0),(133,Qup),(134,Qr8),(135,QjC)] (Ls [QIp,QIq])
def O2 (x7 x39 x40:Int)(y2 y3:Endpoint)(y5:List Keep)(y8:Talk)(y18:List Int):OX:=Qv (QB O1 QkP Qv1) (Qv3 x7 x39 x40 y2 y3 y5 y8 y18)
def O3 (kk:Int->Int->Int->Endpoint->Endpoint->List Keep->Talk->List Int->OX)(x7 x39 x40:Int)(y2 y3:Endpoint)(y5:List Keep)(y8:Talk)(y18:List Int):OX:=
 let a1:=lgt tI y18 (Int.toNat x40)
 br (ilt x40 x39) (br (cIx y18 x40) (br (cLd y18 (Int.toNat x40)) (br (WZ y8 a1) (br (UK y8 a1) (br (QK y5 ([(x7,(a1,()))]) 16) (kk x7 x39 (Qf .i64 x40 1) y2 y3 (y5++([(x7,(a1,()))])) y8 y18) none) (kk x7 x39 (Qf .i64 x40 1) y2 y3 y5 y8 y18)) none) none) none) (some (.exit 2,O0 x7 y2 y3 y5 y18))
def O4 (x7 x39 x40:Int)(y2 y3:Endpoint)(y5:List Keep)(y8:Talk)(y18:List Int):OX:=some (.exit 2,O0 (x7) (y2) (y3) (y5++XD y8 x7 (y18.drop x40.toNat)) (y18))
theorem Qv4 (x7 x39 x40:Int)(y2 y3:Endpoint)(y5:List Keep)(y8:Talk)(y18:List Int):O2 x7 x39 x40 y2 y3 y5 y8 y18=O3 O2 x7 x39 x40 y2 y3 y5 y8 y18:=lnT (x:=O3 (fun x7 x39 x40 y2 y3 y5 y8 y18=>some (.normal,Qv3 x7 x39 x40 y2 y3 y5 y8 y18)) x7 x39 x40 y2 y3 y5 y8 y18) (by simp only [O3,nxA];rfl)
def QdY (x7:Int)(y2 y3:Endpoint)(y5:List Keep)(y18:List Int):OX:=Qv (QB O1 QkQ Qv2) (O0 x7 y2 y3 y5 y18)
def EG (kk:Int->Endpoint->Endpoint->List Keep->List Int->OX)(x7:Int)(y2 y3:Endpoint)(y5:List Keep)(y18:List Int):OX:=
 let a1:=((y3.1,(y3.2.1,(y3.2.2.1,(y3.2.2.2.1,(y3.2.2.2.2.1,(y3.2.2.2.2.2.1,(y3.2.2.2.2.2.2.1,(y3.2.2.2.2.2.2.2.1,(y3.2.2.2.2.2.2.2.2.1,()))))))))),(x7,(y2.2.2.2.1,())))
 br (ile x7 (imn y2.2.2.1 y3.2.2.1)) (br (decide ((Qa y18)=(y18.length:Int)/\0<=(0:Int)/\(0:Int)<=(Qa y18)/\y18.length<=16/\(y5.length:Int)<=200+(0:Int))&&WZ a1 0) (kk (Qf .i64 (x7) 1) (y2) (y3) (y5++XD a1 x7 (y18.drop (0:Int).toNat)) (y18)) none) (some (.exit 0,QkS y5))
def O5 (x7:Int)(y2 y3:Endpoint)(y5:List Keep)(y18:List Int):OX:=some (.exit 0,QkS (y5++UQ y3 (Qy y2) y18 x7.toNat (hiC y2 y3+1-x7).toNat))
theorem Qv5 (x7:Int)(y2 y3:Endpoint)(y5:List Keep)(y18:List Int):QdY x7 y2 y3 y5 y18=EG QdY x7 y2 y3 y5 y18:=lnT (x:=EG (fun x7 y2 y3 y5 y18=>some (.normal,O0 x7 y2 y3 y5 y18)) x7 y2 y3 y5 y18) (by simp only [EG,nxA];rfl)
def r_f95 (p0 p1:Endpoint):OV:=
 let a1:=imx p0.2.1 p1.2.1
 br (W4 p0 p1) (br (!(W0 p0 p1)) (some (.t (.sl Qe) ([]:List Keep),[])) (br (Xv p0.2.2.2.1) (br (decide (1<=a1/\a1<=5/\hiC p0 p1<=4/\(([]:List Keep).length:Int)<=16*a1/\(Ep p0.2.2.2.1).length<=16)&&GG p1 (Qy p0)) (some (.t (.sl Qe) (([]:List Keep)++UQ p1 (Qy p0) (Ep p0.2.2.2.1) a1.toNat (hiC p0 p1+1-a1).toNat),[])) none) none)) none
theorem QIr (x7 x39 x40:Int)(y2 y3:Endpoint)(y5:List Keep)(y8:Talk)(y18:List Int)(h:(decide (x39=(y18.length:Int)/\0<=x40/\x40<=x39/\y18.length<=16/\(y5.length:Int)<=200+x40)&&WZ y8 0)=true):O2 x7 x39 x40 y2 y3 y5 y8 y18=O4 x7 x39 x40 y2 y3 y5 y8 y18:=by
 obtain ⟨h,hc⟩:=Bi.1 h
 obtain ⟨rfl,h1,h2,h3,h4⟩:=Bx h
 clear h
 obtain ⟨k,rfl⟩:=Bq h1
 have key: ∀ k,k<=y18.length→ ∀ y5:List Keep,y5.length<=200+k->O2 x7 (y18.length:Int) (k:Int) y2 y3 y5 y8 y18=O4 x7 (y18.length:Int) (k:Int) y2 y3 y5 y8 y18:=by
  refine QU y18 (fun k=> ∀ y5:List Keep,y5.length<=200+k->O2 x7 (y18.length:Int) (k:Int) y2 y3 y5 y8 y18=O4 x7 (y18.length:Int) (k:Int) y2 y3 y5 y8 y18) ?_ ?_
  ·intro y5 _
   rw [Qv4]
   simp only [O3,O4,QD,B0,B4,Qh,Bd,BU,XD,List.filter_nil,List.map_nil,BO]
  ·intro k hk ih y5 hy
   rw [Qv4]
   have c1:cLd y18 k=true:=Be (by omega)
   have c2: ∀ v,WZ y8 v=true:=fun v=>hc
   have c3: ∀ v:Keep,QK y5 [v] 16=true:=fun v=>Jj (by omega) (by simp only [Bp];omega)
   simp only [O3,QD,QJ,hk,Bv,Qd,Bd,QT (show k<4611686018427387904 by omega),QS (y:=tI) hk,c1,c2,c3]
   rw [ih y5 (by omega),ih (y5++[(x7,(y18[k],()))]) (by simp only [Bl,Bp];omega)]
   simp only [O4,Bd,Bj hk,QIm]
   cases UK y8 y18[k] with
   |true=>simp only [Qd,if_true,BQ,BN]
   |false=>simp only [Qh,BK,Do]
 exact key k (by omega) y5 (by omega)
theorem QIs (x7:Int)(y2 y3:Endpoint)(y5:List Keep)(y18:List Int)(h:(decide (1<=x7/\x7<=5/\hiC y2 y3<=4/\(y5.length:Int)<=16*x7/\y18.length<=16)&&GG y3 (Qy y2))=true):QdY x7 y2 y3 y5 y18=O5 x7 y2 y3 y5 y18:=by
 obtain ⟨h,hc⟩:=Bi.1 h
 obtain ⟨h0,h1,h2,h3,h4⟩:=Bx h
 clear h
 obtain ⟨k,rfl⟩:=Bq (show 0<=x7 by omega)
 have key: ∀ (m k:Nat) (y5:List Keep),m=5-k->1<=k->k<=5->y5.length<=16*k->QdY (k:Int) y2 y3 y5 y18=O5 (k:Int) y2 y3 y5 y18:=by
  intro m
  induction m with
  |zero=>
   intro k y5 hm h0 h1 h3
   have:k=5:=by omega
   subst this
   rw [Qv5]
   have e:(hiC y2 y3+1-((5:Nat):Int)).toNat=0:=by omega
   simp only [EG,O5,show ile ((5:Nat):Int) (imn y2.2.2.1 y3.2.2.1)=false from Bo (by show ¬ _<=hiC y2 y3;omega),Qh,e,UQ,List.range'_zero,List.flatMap_nil,BO]
  |succ m ih=>
   intro k y5 hm h0 h1 h3
   rw [Qv5]
   by_cases hk:(k:Int)<=hiC y2 y3
   ·have e1:(hiC y2 y3+1-(k:Int)).toNat=(hiC y2 y3+1-((k+1:Nat):Int)).toNat+1:=by omega
    have c0:(decide (True/\(0:Int)<=0/\(0:Int)<=Qa y18/\y18.length<=16/\(y5.length:Int)<=200+0)&&WZ (y3,((k:Int),(Qy y2,()))) 0)=true:=Bi.2 ⟨Be ⟨trivial,by simp only [Qa];omega⟩,hc⟩
    have hr:=QIn (y3,((k:Int),(Qy y2,()))) (k:Int) y18
    have hi:=ih (k+1) (y5++XD (y3,((k:Int),(Qy y2,()))) (k:Int) y18) (by omega) (by omega) (by omega) (by simp only [Bl];omega)
    simp only [EG,show ile (k:Int) (imn y2.2.2.1 y3.2.2.1)=true from Be hk,Qd,QT (show k<4611686018427387904 by omega),eEta]
    refine Eq.trans (congrArg (fun b=>br b _ _) c0) ?_
    rw [Qd]
    refine Eq.trans hi ?_
    simp only [O5,Bd,e1,UQ,Du,BJ,BQ]
   ·have e1:(hiC y2 y3+1-(k:Int)).toNat=0:=by omega
    simp only [EG,show ile (k:Int) (imn y2.2.2.1 y3.2.2.1)=false from Bo hk,Qh,O5,e1,UQ,List.range'_zero,List.flatMap_nil,BO]
 exact key (5-k) k y5 rfl (by omega) (by omega) (by omega)
theorem QIt:LO O1 QkP Qv1 0:=QH (s:=QdX) fun x y h _ q=>by simp only [QE,QF] at q;exact (QIr x.2.2.2.2.1 x.2.2.2.2.2.2.2.1 x.2.2.2.2.2.2.2.2.1 y.1 y.2.1 y.2.2.1 y.2.2.2.1 y.2.2.2.2.1 h).trans q
theorem QIu:LO O1 QkQ Qv2 1:=QH (s:=OZ) fun x y h _ q=>by simp only [QE,QF] at q;exact (QIs x.2.2.2.2.1 y.1 y.2.1 y.2.2.1 y.2.2.2.1 h).trans q
theorem s_f95 (c s:Endpoint)(h:W4 c s=true):r_f95 c s=some (.t (.sl Qe) (XC c s),[]):=by
 obtain ⟨hc,hs⟩:=Bi.1 h
 have hs':=Gw hs
 have hc':=Gw hc
 have c1:Xv (Qy c)=true:=Be hc'.2.1
 simp only [r_f95,h,c1,Qd]
 unfold XC
 cases hr:W0 c s with
 |false=>rfl
 |true=>
  obtain ⟨hv,hw⟩:=Bi.1 hr
  have v1:=QbR hv
  have v2:=QbR hw
  have hsu:=QB1 hv
  have b1:1<=loC c s/\loC c s<=4:=by simp only [loC,imx];omega
  have b2:hiC c s<=4:=by simp only [hiC,imn];omega
  have b3:(Ep (Qy c)).length<=16:=by
   show (Z3 (Qy c)).length<=16
   rw [show (Z3 (Qy c)).length=(Qy c).length from List.length_mergeSort _]
   exact Qs2 hsu
  have c0:(decide (1<=loC c s/\loC c s<=5/\hiC c s<=4/\(([]:List Keep).length:Int)<=16*loC c s/\(Ep (Qy c)).length<=16)&&GG s (Qy c))=true:=Bi.2 ⟨Be ⟨b1.1,by omega,b2,by simp only [BE];omega,b3⟩,Be ⟨hs'.2.2.1,hs'.2.1,hc'.2.1⟩⟩
  rw [BH,Qh,Da]
  refine Eq.trans (congrArg (fun b=>br b _ _) c0) ?_
  rw [Qd, ← QIo hsu]
  rfl
def Qv6:Ent:=Ql (.pr Qo (.pr Qo .nil)) (fun x=>(W4 x.1 x.2.1)) (fun x=>(.t (.sl Qe) (XC x.1 x.2.1)))
theorem ms_f95:EM 95 Qv6:=mS (lk:=lkL (lkc QIu (lkc QIt lkn))) O1 QkR [((.t 4),some (.sl Qe))] false (gB (gD QFV (gD QGA (gD QEu (gD QtY gN))))) fun m=>Qn m fun x hok=>kT (s_f95 x.1 x.2.1 hok)
end
end Go.Proofs.YtmjnnemhoeolgaaGreat.K
noncomputable section
namespace Go.Proofs.YtmjnnemhoeolgaaGreat.K
open Go.RowKit
noncomputable section
end
end Go.Proofs.YtmjnnemhoeolgaaGreat.K
noncomputable section
namespace Go.Proofs.YtmjnnemhoeolgaaGreat.K
open Go.RowKit
noncomputable section
theorem QEo {l:List (List Int)}(h: ∀ x∈l,x.length<=4)(k:Nat):(lgt (.sl tI) l k).length<=4:=by
 show (l.getD k []).length<=4
 rw [Bk]
 cases hk:l[k]? with
 |none=>exact B3 _
 |some x=>exact h x (Dm hk)
attribute [local irreducible] epV epN prZ
end
end Go.Proofs.YtmjnnemhoeolgaaGreat.K
noncomputable section
namespace Go.Proofs.YtmjnnemhoeolgaaGreat.K
open Go.RowKit
noncomputable section
end
end Go.Proofs.YtmjnnemhoeolgaaGreat.K
noncomputable section
namespace Go.Proofs.YtmjnnemhoeolgaaGreat.K
open Go.RowKit
noncomputable section
def YM:Option Int->List Link->Bool
 |_,[]=>true
 |pv,x::r=>JU x.1&&decide (0<=x.2.1/\x.2.1<=40000)&&(match pv with|none=>true|some d=>decide (d<x.2.1))&&YM (some x.2.1) r
theorem Qhy (pv:Option Int)(x:Link)(r:List Link):YM pv (x::r)=(JU x.1&&decide (0<=x.2.1/\x.2.1<=40000)&&(match pv with|none=>true|some d=>decide (d<x.2.1))&&YM (some x.2.1) r):=by cases pv<;>rfl
def Zy (l:List Link)(k:Nat):Option Int:=if k=0 then none else (l[k-1]?).map fun x:Link=>x.2.1
def J0 (i:Item):Bool:=Jv i.1&&decide (1<=i.2.1/\i.2.1<=2)&&decide (1<=i.2.2.1/\i.2.2.1<=4)&&decide (1<=i.2.2.2.1.length/\i.2.2.2.1.length<=8)&&YM none i.2.2.2.1&&decide ((i.2.2.2.1.headD ((0,(0,())),(0,()))).2.1<=i.2.2.2.2.1/\i.2.2.2.2.1<=40000)
def Z5 (i:Item):Int:=if J0 i then 0 else 30
def Z6 (i:Item):Bool:=Jb i.1
abbrev Qbv:Sh:=⟨[(1,.ptr 1 0),(45,.ty (.sl J1)),(46,.ty tI),(47,.ty tI)],[(1,.box Je)]⟩
abbrev Qhz:Sh:=⟨[(2,.ty tI)],[]⟩
abbrev Qqr:Sh:=⟨[(1,.ptr 1 0)],[(1,.box Je)]⟩
def QhA:Fg:=Qbv.f
def Qqs:TC:=aF Tryz.f49 [(122,pL 0 QhA),(1957,.fg Qqr.f),(15666,pD [(0,[5]),(1,[5]),(2,[]),(3,[]),(4,[]),(5,[5]),(6,[5]),(7,[]),(8,[]),(9,[]),(10,[5]),(11,[5]),(12,[]),(13,[]),(14,[]),(15,[]),(16,[]),(17,[]),(18,[1]),(19,[1]),(20,[]),(21,[]),(22,[]),(23,[]),(24,[]),(25,[5]),(26,[5]),(27,[]),(28,[]),(29,[])] (.of [0,1,2,3,4,5,6,7,8,9,10,11,12,13,14,15,16,17,18,19,20,21,22,23,24,25,26,27,28,29])),(62669,.fg Qhz.f),(124,pD [(0,[1]),(1,[1]),(2,[1]),(3,[1]),(4,[]),(5,[]),(6,[]),(7,[]),(8,[]),(9,[1]),(10,[1]),(11,[]),(12,[])] (.of [0,1,2,3,4,5,6,7,8,9,10,11,12]))]
def Qqt:TC:=lb 0 Qqs
def Qqu (x45:List Link)(x46 x47:Int)(y1:Item):VS:=Qbv.st ((),x45,x46,x47,()) (y1,())
def YN (x2:Int):VS:=Qhz.st (x2,()) ()
def QhB (y1:Item):VS:=Qqr.st ((),()) (y1,())
def QCo:VS->Option (Bool×List (Bool×Exit×VS)):=mkL Qbv (fun x y=>((x.2.1==y.1.2.2.2.1)&&Qz x.2.1 x.2.2.1 x.2.2.2.1)) (fun x y=>[((!(YM (Zy x.2.1 x.2.2.2.1.toNat) (x.2.1.drop x.2.2.2.1.toNat))),.ret,YN (30)),(true,.exit 0,QhB (y.1))])
def QhC:G:=gG 96 [(86,Ob),(87,EZ)] (Ls [QCo])
def Qbw (x45:List Link)(x46 x47:Int)(y1:Item):OX:=Qv (QB QhC QhA Qqt) (Qqu x45 x46 x47 y1)
def IQ (kk:List Link->Int->Int->Item->OX)(x45:List Link)(x46 x47:Int)(y1:Item):OX:=
 let a1:=lgt J1 x45 (Int.toNat x47)
 br (ilt x47 x46) (br (cIx x45 x47) (br (!(JU (a1.1))) (some (.ret,YN 30)) (br (ilt ((a1.2).1) 0) (some (.ret,YN 30)) (br (igt ((a1.2).1) 40000) (some (.ret,YN 30)) (br (igt x47 0) (br (cIx y1.2.2.2.1 (Q6 .i64 x47 1)) (br (ige (((lgt J1 y1.2.2.2.1 (Int.toNat (Q6 .i64 x47 1))).2).1) ((a1.2).1)) (some (.ret,YN 30)) (kk x45 x46 (Qf .i64 x47 1) y1)) none) (kk x45 x46 (Qf .i64 x47 1) y1))))) none) (some (.exit 0,QhB y1))
def FR (x45:List Link)(x46 x47:Int)(y1:Item):OX:=br (!(YM (Zy x45 x47.toNat) (x45.drop x47.toNat))) (some (.ret,YN (30)))<|some (.exit 0,QhB (y1))
theorem Qqv (x45:List Link)(x46 x47:Int)(y1:Item):Qbw x45 x46 x47 y1=IQ Qbw x45 x46 x47 y1:=lnT (x:=IQ (fun x45 x46 x47 y1=>some (.normal,Qqu x45 x46 x47 y1)) x45 x46 x47 y1) (by simp only [IQ,nxA];rfl)
def IR (p0:Item):OV:=
 let a1:=((((p0).2).2).2)
 let a2:=Qa p0.2.2.2.1
 br (ilt p0.2.2.1 1) (some (.t tI 30,[])) (br (igt p0.2.2.1 4) (some (.t tI 30,[])) (br (ilt a2 1) (some (.t tI 30,[])) (br (igt a2 8) (some (.t tI 30,[])) (br ((p0.2.2.2.1==p0.2.2.2.1)&&Qz p0.2.2.2.1 a2 (0:Int)) (br (!(YM (Zy p0.2.2.2.1 (0:Int).toNat) (p0.2.2.2.1.drop (0:Int).toNat))) (some (.t tI (30),[])) (br (cIx (a1.1) 0) (br (ilt ((a1.2).1) (((lgt J1 (a1.1) (Int.toNat 0)).2).1)) (some (.t tI 30,[])) (br (igt ((a1.2).1) 40000) (some (.t tI 30,[])) (some (.t tI 0,[])))) none)) none))))
def r_f49 (p0:Item):OV:=br (ieq p0.2.1 1) (br (Jb p0.1) (br (!(Jv p0.1)) (some (.t tI 30,[])) (br (!true) (some (.t tI 30,[])) (IR p0))) none) (br (Jb p0.1) (br (!(Jv p0.1)) (some (.t tI 30,[])) (br (!(ieq p0.2.1 2)) (some (.t tI 30,[])) (IR p0))) none)
theorem QCp (x45:List Link)(x46 x47:Int)(y1:Item)(h:((x45==y1.2.2.2.1)&&Qz x45 x46 x47)=true):Qbw x45 x46 x47 y1=FR x45 x46 x47 y1:=by
 simp only [Bc,Dj] at h
 obtain ⟨hx,h0⟩:=h
 obtain ⟨rfl,h3,k,rfl,hk⟩:=JJ h0
 clear h0
 refine QU x45 (fun k=>Qbw x45 (x45.length:Int) (k:Int) y1=FR x45 (x45.length:Int) (k:Int) y1) ?_ ?_ k hk
 ·rw [Qqv]
  simp [IQ,FR,QD,Qh,YM]
 ·intro k hk ih
  rw [Qqv]
  have el:FR x45 (x45.length:Int) (k:Int) y1=br (!(JU x45[k].1&&decide (0<=x45[k].2.1/\x45[k].2.1<=40000)&&(match Zy x45 k with|none=>true|some d=>decide (d<x45[k].2.1)))) (some (.ret,YN 30)) (FR x45 (x45.length:Int) ((k+1:Nat):Int) y1):=by
   have e1:Zy x45 (k+1)=some x45[k].2.1:=by
    unfold Zy
    rw [if_neg (by omega),Nat.add_sub_cancel,Bh hk]
    rfl
   simp only [FR,Bd,e1]
   rw [Bj hk,Qhy]
   generalize (JU x45[k].1&&decide (0<=x45[k].2.1/\x45[k].2.1<=40000)&&(match Zy x45 k with|none=>true|some d=>decide (d<x45[k].2.1)))=c
   cases c<;>rfl
  rw [el]
  simp only [IQ,QD,QJ,hk,Bv,Qd,Bd,QT (show k<4611686018427387904 by omega),QS (y:=J1) hk,ih, ← hx]
  cases JU x45[k].1 with
  |false=>rfl
  |true=>
   simp only [BH,Qh,BC]
   by_cases c1:x45[k].2.1<0
   ·rw [show ilt x45[k].2.1 0=true from Be c1,Qd,Bo (show ¬ (0<=x45[k].2.1/\x45[k].2.1<=40000) by omega)]
    rfl
   ·rw [show ilt x45[k].2.1 0=false from Bo c1,Qh]
    by_cases c2:40000<x45[k].2.1
    ·rw [show igt x45[k].2.1 40000=true from Be (by omega),Qd,Bo (show ¬ (0<=x45[k].2.1/\x45[k].2.1<=40000) by omega)]
     rfl
    ·rw [show igt x45[k].2.1 40000=false from Bo (by omega),Qh,Be (show 0<=x45[k].2.1/\x45[k].2.1<=40000 by omega)]
     simp only [BC]
     by_cases hk0:k=0
     ·subst hk0
      rfl
     ·have hk1:k-1<x45.length:=by omega
      have e1:Q6 .i64 (k:Int) 1=((k-1:Nat):Int):=by rw [Xk (by omega)];omega
      have e2:igt (k:Int) 0=true:=by simp only [igt,Ba];omega
      have e3:Zy x45 k=some x45[k-1].2.1:=by
       unfold Zy
       rw [if_neg hk0,Bh hk1]
       rfl
      rw [e1,e2,e3,Qd]
      simp only [QJ,hk1,Bv,Qd,Bd,QS (y:=J1) hk1]
      by_cases c3:x45[k-1].2.1<x45[k].2.1
      ·rw [show ige x45[k-1].2.1 x45[k].2.1=false from Bo (by omega),Qh,Be c3]
       rfl
      ·rw [show ige x45[k-1].2.1 x45[k].2.1=true from Be (by omega),Qd,Bo c3]
       rfl
theorem QCq:LO QhC QhA Qqt 0:=QH (s:=Qbv) fun x y h _ q=>by simp only [QE,QF] at q;exact (QCp x.2.1 x.2.2.1 x.2.2.2.1 y.1 h).trans q
theorem Zl {i:Item}:J0 i=true↔Jv i.1=true/\(1<=i.2.1/\i.2.1<=2)/\(1<=i.2.2.1/\i.2.2.1<=4)/\(1<=i.2.2.2.1.length/\i.2.2.2.1.length<=8)/\YM none i.2.2.2.1=true/\(i.2.2.2.1.headD ((0,(0,())),(0,()))).2.1<=i.2.2.2.2.1/\i.2.2.2.2.1<=40000:=by
 unfold J0
 simp only [Bc,Ba,and_assoc]
theorem s_f49 (i:Item)(h:Z6 i=true):r_f49 i=some (.t tI (Z5 i),[]):=by
 have h:Jb i.1=true:=h
 have bad:(J0 i=true->False)->some (V.t tI 30,([]:List VO))=some (V.t tI (Z5 i),[]):=fun hq=>by
  cases hi:J0 i with
  |false=>simp [Z5,hi]
  |true=>exact (hq hi).elim
 have tail:Jv i.1=true->(1<=i.2.1/\i.2.1<=2)->IR i=some (.t tI (Z5 i),[]):=fun k1 k2=>by
  simp only [IR]
  refine QZ (fun g=>bad fun hq=> ?_) (fun g1=>QZ (fun g=>bad fun hq=> ?_) (fun g2=>QZ (fun g=>bad fun hq=> ?_) (fun g3=>QZ (fun g=>bad fun hq=> ?_) (fun g4=> ?_))))
  ·have:=Zl.1 hq;simp only [ilt,Ba] at g;omega
  ·have:=Zl.1 hq;simp only [igt,Ba] at g;omega
  ·have:=Zl.1 hq;simp only [ilt,Qa,Ba] at g;omega
  ·have:=Zl.1 hq;simp only [igt,Qa,Ba] at g;omega
  ·simp only [ilt,igt,Qa,Bn] at g1 g2 g3 g4
   rw [beq_self_eq_true,BC,JK (by omega),Qd]
   have e0:Zy i.2.2.2.1 (0:Int).toNat=none:=rfl
   rw [e0,Bw,BD]
   refine QZ (fun g=>bad fun hq=> ?_) (fun g5=> ?_)
   ·have:=Zl.1 hq
    rw [this.2.2.2.2.1] at g
    cases g
   ·have hl:0<i.2.2.2.1.length:=by omega
    have e1:cIx i.2.2.2.1 0=true:=by simp only [cIx,Ba];omega
    have e2:lgt J1 i.2.2.2.1 0=i.2.2.2.1.headD ((0,(0,())),(0,())):=by
     cases hq:i.2.2.2.1 with
     |nil=>rw [hq] at hl;simp at hl
     |cons a l=>rfl
    rw [e1,Qd,e2]
    refine QZ (fun g=>bad fun hq=> ?_) (fun g6=>QZ (fun g=>bad fun hq=> ?_) (fun g7=> ?_))
    ·have:=Zl.1 hq;simp only [ilt,Ba] at g;omega
    ·have:=Zl.1 hq;simp only [igt,Ba] at g;omega
    ·simp only [ilt,igt,Bn] at g6 g7
     have:J0 i=true:=Zl.2 ⟨k1,k2,by omega,by omega,by simpa using g5,by omega,by omega⟩
     simp [Z5,this]
 simp only [r_f49,IR] at tail ⊢
 rw [h]
 simp only [Qd]
 refine QZ (fun g1=>QZ (fun g=>bad fun hq=> ?_) (fun g2=> ?_)) (fun g1=>QZ (fun g=>bad fun hq=> ?_) (fun g2=>QZ (fun g=>bad fun hq=> ?_) (fun g3=> ?_)))
 ·rw [(Zl.1 hq).1] at g;cases g
 ·simp only [YE,Ba] at g1
  exact tail (by simpa using g2) (by omega)
 ·rw [(Zl.1 hq).1] at g;cases g
 ·have:=Zl.1 hq
  simp only [YE,Bn,Br,Ba] at g1 g
  omega
 ·simp only [YE,Bn,DQ,Ba] at g1 g3
  exact tail (by simpa using g2) (by omega)
def Qqw:Ent:=Ql (.pr Je .nil) (fun x=>(Z6 x.1)) (fun x=>(.t tI (Z5 x.1)))
theorem ms_f49:EM 49 Qqw:=mS (lk:=lkL (lkc QCq lkn)) QhC Qqs [((.t 2),some tI)] false (gB (gD Qcc (gD VC gN))) fun m=>Qn m fun x hok=>kT (s_f49 x.1 hok)
abbrev Qbx:Sh:=⟨[(1,.ptr 1 0),(3,.ty tI)],[(1,.box Je)]⟩
abbrev Qqx:Sh:=⟨[],[]⟩
def QhD:Fg:=Qbx.f
def Qqy:TC:=aF Tryz.f69 [(12,pD [(0,[1]),(1,[1]),(2,[]),(3,[]),(4,[]),(5,[1]),(6,[1]),(7,[]),(8,[]),(9,[1]),(10,[1]),(11,[]),(12,[]),(13,[]),(14,[]),(15,[1]),(16,[1]),(17,[]),(18,[]),(19,[]),(20,[1]),(21,[1]),(22,[]),(23,[]),(24,[]),(25,[1]),(26,[1]),(27,[]),(28,[]),(29,[]),(30,[]),(31,[1]),(32,[1]),(33,[]),(34,[]),(35,[]),(36,[]),(37,[1]),(38,[1]),(39,[]),(40,[]),(41,[]),(42,[1]),(43,[1]),(44,[1]),(45,[1]),(46,[]),(47,[]),(48,[]),(49,[]),(50,[])] (.of [0,1,2,3,4,5,6,7,8,9,10,11,12,13,14,15,16,17,18,19,20,21,22,23,24,25,26,27,28,29,30,31,32,33,34,35,36,37,38,39,40,41,42,43,44,45,46,47,48,49,50])),(58,pL 0 QhD),(931,.fg Qqx.f),(1864,pD [(0,[1]),(1,[1]),(2,[]),(3,[]),(4,[]),(5,[]),(6,[]),(7,[]),(8,[]),(9,[1]),(10,[1]),(11,[]),(12,[]),(13,[]),(14,[]),(15,[]),(16,[]),(17,[]),(18,[1]),(19,[1]),(20,[]),(21,[]),(22,[]),(23,[]),(24,[]),(25,[]),(26,[]),(27,[]),(28,[]),(29,[]),(30,[1]),(31,[1]),(32,[]),(33,[]),(34,[]),(35,[]),(36,[]),(37,[1]),(38,[1]),(39,[]),(40,[]),(41,[]),(42,[]),(43,[]),(44,[]),(45,[])] (.of [0,1,2,3,4,5,6,7,8,9,10,11,12,13,14,15,16,17,18,19,20,21,22,23,24,25,26,27,28,29,30,31,32,33,34,35,36,37,38,39,40,41,42,43,44,45])),(7461,.fg Qhz.f)]
def Qqz:TC:=lb 0 Qqy
def QqA (x3:Int)(y1:Item):VS:=Qbx.st ((),x3,()) (y1,())
def QhE  : VS:=Qqx.st () ()
def QCr:VS->Option (Bool×List (Bool×Exit×VS)):=mkL Qbx (fun x y=>(decide (0<=x.2.1/\x.2.1<=y.1.2.2.2.1.length/\y.1.2.2.2.1.length<=8))) (fun x y=>[((!(YM (Zy y.1.2.2.2.1 x.2.1.toNat) (y.1.2.2.2.1.drop x.2.1.toNat))),.ret,YN (30)),(true,.exit 0,QhE)])
def QhF:G:=gG 108 [(116,Qiu),(117,Qe1)] (Ls [QCr])
def Qby (x3:Int)(y1:Item):OX:=Qv (QB QhF QhD Qqz) (QqA x3 y1)
def IS (kk:Int->Item->OX)(x3:Int)(y1:Item):OX:=
 let a1:=lgt J1 y1.2.2.2.1 (Int.toNat x3)
 let a2:=cIx y1.2.2.2.1 x3
 br (ilt x3 (Qa y1.2.2.2.1)) (br a2 (br (!(JU (a1.1))) (some (.ret,YN 30)) (br a2 (br (ilt ((a1.2).1) 0) (some (.ret,YN 30)) (br a2 (br (igt ((a1.2).1) 40000) (some (.ret,YN 30)) (br (igt x3 0) (br (cIx y1.2.2.2.1 (Q6 .i64 x3 1)) (br a2 (br (ige (((lgt J1 y1.2.2.2.1 (Int.toNat (Q6 .i64 x3 1))).2).1) ((a1.2).1)) (some (.ret,YN 30)) (kk (Qf .i64 x3 1) y1)) none) none) (kk (Qf .i64 x3 1) y1))) none)) none)) none) (some (.exit 0,QhE))
def FS (x3:Int)(y1:Item):OX:=br (!(YM (Zy y1.2.2.2.1 x3.toNat) (y1.2.2.2.1.drop x3.toNat))) (some (.ret,YN (30)))<|some (.exit 0,QhE)
theorem QqB (x3:Int)(y1:Item):Qby x3 y1=IS Qby x3 y1:=lnT (x:=IS (fun x3 y1=>some (.normal,QqA x3 y1)) x3 y1) (by simp only [IS,nxA];rfl)
def Qbz (p0:Item):OV:=br (ilt p0.2.2.1 1) (some (.t tI 30,[])) (br (igt p0.2.2.1 4) (some (.t tI 30,[])) (br (ilt (Qa p0.2.2.2.1) 1) (some (.t tI 30,[])) (br (igt (Qa p0.2.2.2.1) 8) (some (.t tI 30,[])) (br (igt p0.2.2.2.2.1 40000) (some (.t tI 30,[])) (br (cIx p0.2.2.2.1 0) (br (ilt p0.2.2.2.2.1 (((lgt J1 p0.2.2.2.1 (Int.toNat 0)).2).1)) (some (.t tI 30,[])) (br (decide (0<=(0:Int)/\(0:Int)<=p0.2.2.2.1.length/\p0.2.2.2.1.length<=8)) (br (!(YM (Zy p0.2.2.2.1 (0:Int).toNat) (p0.2.2.2.1.drop (0:Int).toNat))) (some (.t tI (30),[])) (some (.t tI 0,[]))) none)) none)))))
def r_f69 (p0:Item):OV:=br (Jb p0.1) (br (!(Jv p0.1)) (some (.t tI 30,[])) (br (ine p0.2.1 1) (br (ine p0.2.1 2) (some (.t tI 30,[])) (Qbz p0)) (Qbz p0))) none
theorem QCs (x3:Int)(y1:Item)(h:(decide (0<=x3/\x3<=y1.2.2.2.1.length/\y1.2.2.2.1.length<=8))=true):Qby x3 y1=FS x3 y1:=by
 simp only [Ba] at h
 obtain ⟨h1,h2,h3⟩:=h
 obtain ⟨k,rfl⟩:=Bq h1
 refine QU y1.2.2.2.1 (fun k=>Qby (k:Int) y1=FS (k:Int) y1) ?_ ?_ k (by omega)
 ·rw [QqB]
  simp [IS,FS,QD,Qa,Qh,YM]
 ·intro k hk ih
  rw [QqB]
  have el:FS (k:Int) y1=br (!(JU y1.2.2.2.1[k].1&&decide (0<=y1.2.2.2.1[k].2.1/\y1.2.2.2.1[k].2.1<=40000)&&(match Zy y1.2.2.2.1 k with|none=>true|some d=>decide (d<y1.2.2.2.1[k].2.1)))) (some (.ret,YN 30)) (FS ((k+1:Nat):Int) y1):=by
   have e1:Zy y1.2.2.2.1 (k+1)=some y1.2.2.2.1[k].2.1:=by
    unfold Zy
    rw [if_neg (by omega),Nat.add_sub_cancel,Bh hk]
    rfl
   simp only [FS,Bd,e1]
   rw [Bj hk,Qhy]
   generalize (JU y1.2.2.2.1[k].1&&decide (0<=y1.2.2.2.1[k].2.1/\y1.2.2.2.1[k].2.1<=40000)&&(match Zy y1.2.2.2.1 k with|none=>true|some d=>decide (d<y1.2.2.2.1[k].2.1)))=c
   cases c<;>rfl
  rw [el]
  simp only [IS,QD,Qa,QJ,hk,Bv,Qd,Bd,QT (show k<4611686018427387904 by omega),QS (y:=J1) hk,ih]
  cases JU y1.2.2.2.1[k].1 with
  |false=>rfl
  |true=>
   simp only [BH,Qh,BC]
   by_cases c1:y1.2.2.2.1[k].2.1<0
   ·rw [show ilt y1.2.2.2.1[k].2.1 0=true from Be c1,Qd,Bo (show ¬ (0<=y1.2.2.2.1[k].2.1/\y1.2.2.2.1[k].2.1<=40000) by omega)]
    rfl
   ·rw [show ilt y1.2.2.2.1[k].2.1 0=false from Bo c1,Qh]
    by_cases c2:40000<y1.2.2.2.1[k].2.1
    ·rw [show igt y1.2.2.2.1[k].2.1 40000=true from Be (by omega),Qd,Bo (show ¬ (0<=y1.2.2.2.1[k].2.1/\y1.2.2.2.1[k].2.1<=40000) by omega)]
     rfl
    ·rw [show igt y1.2.2.2.1[k].2.1 40000=false from Bo (by omega),Qh,Be (show 0<=y1.2.2.2.1[k].2.1/\y1.2.2.2.1[k].2.1<=40000 by omega)]
     simp only [BC]
     by_cases hk0:k=0
     ·subst hk0
      rfl
     ·have hk1:k-1<y1.2.2.2.1.length:=by omega
      have e1:Q6 .i64 (k:Int) 1=((k-1:Nat):Int):=by rw [Xk (by omega)];omega
      have e2:igt (k:Int) 0=true:=by simp only [igt,Ba];omega
      have e3:Zy y1.2.2.2.1 k=some y1.2.2.2.1[k-1].2.1:=by
       unfold Zy
       rw [if_neg hk0,Bh hk1]
       rfl
      rw [e1,e2,e3,Qd]
      simp only [QJ,hk1,Bv,Qd,Bd,QS (y:=J1) hk1]
      by_cases c3:y1.2.2.2.1[k-1].2.1<y1.2.2.2.1[k].2.1
      ·rw [show ige y1.2.2.2.1[k-1].2.1 y1.2.2.2.1[k].2.1=false from Bo (by omega),Qh,Be c3]
       rfl
      ·rw [show ige y1.2.2.2.1[k-1].2.1 y1.2.2.2.1[k].2.1=true from Be (by omega),Qd,Bo c3]
       rfl
theorem QCt:LO QhF QhD Qqz 0:=QH (s:=Qbx) fun x y h _ q=>by simp only [QE,QF] at q;exact (QCs x.2.1 y.1 h).trans q
theorem s_f69 (i:Item)(h:Z6 i=true):r_f69 i=some (.t tI (Z5 i),[]):=by
 have h:Jb i.1=true:=h
 have bad:(J0 i=true->False)->some (V.t tI 30,([]:List VO))=some (V.t tI (Z5 i),[]):=fun hq=>by
  cases hi:J0 i with
  |false=>simp [Z5,hi]
  |true=>exact (hq hi).elim
 have tail:Jv i.1=true->(1<=i.2.1/\i.2.1<=2)->Qbz i=some (.t tI (Z5 i),[]):=fun k1 k2=>by
  simp only [Qbz]
  refine QZ (fun g=>bad fun hq=> ?_) (fun g1=>QZ (fun g=>bad fun hq=> ?_) (fun g2=>QZ (fun g=>bad fun hq=> ?_) (fun g3=>QZ (fun g=>bad fun hq=> ?_) (fun g4=>QZ (fun g=>bad fun hq=> ?_) (fun g5=> ?_)))))
  ·have:=Zl.1 hq;simp only [ilt,Ba] at g;omega
  ·have:=Zl.1 hq;simp only [igt,Ba] at g;omega
  ·have:=Zl.1 hq;simp only [ilt,Qa,Ba] at g;omega
  ·have:=Zl.1 hq;simp only [igt,Qa,Ba] at g;omega
  ·have:=Zl.1 hq;simp only [igt,Ba] at g;omega
  ·simp only [ilt,igt,Qa,Bn] at g1 g2 g3 g4 g5
   have hl:0<i.2.2.2.1.length:=by omega
   have e1:cIx i.2.2.2.1 0=true:=by simp only [cIx,Ba];omega
   have e2:lgt J1 i.2.2.2.1 (Int.toNat 0)=i.2.2.2.1.headD ((0,(0,())),(0,())):=by
    cases hq:i.2.2.2.1 with
    |nil=>rw [hq] at hl;simp at hl
    |cons a l=>rfl
   rw [e1,Qd,e2]
   refine QZ (fun g=>bad fun hq=> ?_) (fun g6=> ?_)
   ·have:=Zl.1 hq;simp only [ilt,Ba] at g;omega
   ·simp only [ilt,Bn] at g6
    rw [Fi ⟨BT 0,by omega,by omega⟩,Qd]
    have e0:Zy i.2.2.2.1 (0:Int).toNat=none:=rfl
    rw [e0,Bw,BD]
    refine QZ (fun g=>bad fun hq=> ?_) (fun g7=> ?_)
    ·have:=Zl.1 hq
     rw [this.2.2.2.2.1] at g
     cases g
    ·have:J0 i=true:=Zl.2 ⟨k1,k2,by omega,by omega,by simpa using g7,by omega,by omega⟩
     simp [Z5,this]
 simp only [r_f69]
 rw [h]
 simp only [Qd]
 refine QZ (fun g=>bad fun hq=> ?_) (fun g1=>QZ (fun g2=>QZ (fun g=>bad fun hq=> ?_) (fun g3=> ?_)) (fun g2=> ?_))
 ·rw [(Zl.1 hq).1] at g;cases g
 ·have:=Zl.1 hq
  simp only [ine,bne_iff_ne,ne_eq] at g g2
  omega
 ·simp only [ine,bne_eq_false_iff_eq] at g3
  exact tail (by simpa using g1) (by omega)
 ·simp only [ine,bne_eq_false_iff_eq] at g2
  exact tail (by simpa using g1) (by omega)
def QqC:Ent:=Ql (.pr Je .nil) (fun x=>(Z6 x.1)) (fun x=>(.t tI (Z5 x.1)))
theorem ms_f69:EM 69 QqC:=mS (lk:=lkL (lkc QCt lkn)) QhF Qqy [((.t 2),some tI)] false (gB (gD Qr5 (gD Qme gN))) fun m=>Qn m fun x hok=>kT (s_f69 x.1 hok)
end
end Go.Proofs.YtmjnnemhoeolgaaGreat.K
noncomputable section
namespace Go.Proofs.YtmjnnemhoeolgaaGreat.K
open Go.RowKit
noncomputable section
abbrev ZZ (l:List Keep)(k:Nat):Keep:=l.getD k zK
def egLt (a b:Keep):Bool:= !igt a.1 b.1&& !(ieq a.1 b.1&&ige a.2.1 b.2.1)
def G6 (n:Int)(x:Keep):Bool:= !ilt x.1 0&&(!ige x.1 n&&(!ilt x.2.1 0&&(!ige x.2.1 n&& !ieq x.1 x.2.1)))
def E0 (n:Int)(l:List Keep)(k:Nat):Bool:=G6 n (ZZ l k)&&(decide (k=0)||egLt (ZZ l (k-1)) (ZZ l k))
def J9 (n:Int)(l:List Keep)(k:Nat):Bool:=(List.range' k (l.length-k)).all (E0 n l)
theorem Qyw (n:Int)(l:List Keep):J9 n l l.length=true:=by
 unfold J9
 rw [Nat.sub_self]
 rfl
theorem Qyx {n:Int}{l:List Keep}{k:Nat}(hk:k<l.length):J9 n l k=(E0 n l k&&J9 n l (k+1)):=by
 have:l.length-k=(l.length-(k+1))+1:=by omega
 unfold J9
 rw [this,Du,BV]
theorem Qyy {β:Type}(c1 c2 c3 c4 c5 u:Bool)(R E:Option β):br c1 R (br c2 R (br c3 R (br c4 R (br c5 R (br (!u) R E)))))=br (!(((!c1&&(!c2&&(!c3&&(!c4&& !c5))))&&true)&&u)) R E:=by
 cases c1<;>cases c2<;>cases c3<;>cases c4<;>cases c5<;>rfl
theorem Qyz {β:Type}(c1 c2 c3 c4 c5 a b c u:Bool)(R E:Option β):br c1 R (br c2 R (br c3 R (br c4 R (br c5 R (br a R (br b (br c R (br (!u) R E)) (br (!u) R E)))))))=br (!(((!c1&&(!c2&&(!c3&&(!c4&& !c5))))&&(!a&& !(b&&c)))&&u)) R E:=by
 cases c1<;>cases c2<;>cases c3<;>cases c4<;>cases c5<;>cases a<;>cases b<;>cases c<;>rfl
theorem Qe2 {k:Nat}(hk:k<100000)(h0:k≠0):Q6 .i64 (k:Int) 1=((k-1:Nat):Int):=by
 rw [Xk (by omega)]
 omega
def VG (l:List Keep)(n:Int):Bool:=J9 n l 0&&ile (Qa l) 40
def Qe3 (l:List Keep)(_n:Int):Bool:=decide (l.length<=99999)
abbrev Qe4:Sh:=⟨[(0,.ty (.sl Qe)),(1,.ty tI),(7,.ty (.sl Qe)),(8,.ty tI),(9,.ty tI)],[]⟩
abbrev Qmg:Sh:=⟨[(4,.ty .bool)],[]⟩
abbrev QyA:Sh:=⟨[(0,.ty (.sl Qe))],[]⟩
def Qmh:Fg:=Qe4.f
def QyB:TC:=aF Tryz.f50 [(26,pL 0 Qmh),(421,.fg QyA.f),(27029,.fg Qmg.f),(6758,pD [(0,[]),(1,[]),(2,[]),(3,[]),(4,[]),(5,[]),(6,[]),(7,[]),(8,[]),(9,[6]),(10,[6]),(11,[]),(12,[]),(13,[]),(14,[]),(15,[]),(16,[]),(17,[]),(18,[]),(19,[6]),(20,[6]),(21,[]),(22,[]),(23,[]),(24,[]),(25,[]),(26,[]),(27,[]),(28,[]),(29,[6]),(30,[6]),(31,[]),(32,[]),(33,[]),(34,[])] (.of [0,1,2,3,4,5,6,7,8,9,10,11,12,13,14,15,16,17,18,19,20,21,22,23,24,25,26,27,28,29,30,31,32,33,34])),(27037,.fg Qmg.f)]
def QyC:TC:=lb 0 QyB
def QyD (x0:List Keep)(x1:Int)(x7:List Keep)(x8 x9:Int):VS:=Qe4.st (x0,x1,x7,x8,x9,()) ()
def Ul (x4:Bool):VS:=Qmg.st (x4,()) ()
def Qmi (x0:List Keep):VS:=QyA.st (x0,()) ()
def QKV:VS->Option (Bool×List (Bool×Exit×VS)):=mkL Qe4 (fun x y=>(x.2.2.1==x.1&&(Qz x.2.2.1 x.2.2.2.1 x.2.2.2.2.1&&decide (x.2.2.1.length<=99999)))) (fun x y=>[((!J9 x.2.1 x.2.2.1 x.2.2.2.2.1.toNat),.ret,Ul (false)),(true,.exit 0,Qmi (x.1))])
def Qmj:G:=gG 80 [] (Ls [QKV])
def Qe5 (x0:List Keep)(x1:Int)(x7:List Keep)(x8 x9:Int):OX:=Qv (QB Qmj Qmh QyC) (QyD x0 x1 x7 x8 x9)
def VH (kk:List Keep->Int->List Keep->Int->Int->OX)(x0:List Keep)(x1:Int)(x7:List Keep)(x8 x9:Int):OX:=
 let a1:=lgt Qe x7 (Int.toNat x9)
 let a2:=lgt Qe x0 (Int.toNat (Q6 .i64 x9 1))
 let a3:=cIx x0 (Q6 .i64 x9 1)
 let a4:=Qf .i64 x9 1
 br (ilt x9 x8) (br (cIx x7 x9) (br (ilt (a1.1) 0) (some (.ret,Ul false)) (br (ige (a1.1) x1) (some (.ret,Ul false)) (br (ilt ((a1.2).1) 0) (some (.ret,Ul false)) (br (ige ((a1.2).1) x1) (some (.ret,Ul false)) (br (ieq (a1.1) ((a1.2).1)) (some (.ret,Ul false)) (br (igt x9 0) (br a3 (br (igt (a2.1) (a1.1)) (some (.ret,Ul false)) (br a3 (br (ieq (a2.1) (a1.1)) (br a3 (br (ige ((a2.2).1) ((a1.2).1)) (some (.ret,Ul false)) (kk x0 x1 x7 x8 a4)) none) (kk x0 x1 x7 x8 a4)) none)) none) (kk x0 x1 x7 x8 a4))))))) none) (some (.exit 0,Qmi x0))
def Qe6 (x0:List Keep)(x1:Int)(x7:List Keep)(x8 x9:Int):OX:=br (!J9 x1 x7 x9.toNat) (some (.ret,Ul (false)))<|some (.exit 0,Qmi (x0))
theorem QyE (x0:List Keep)(x1:Int)(x7:List Keep)(x8 x9:Int):Qe5 x0 x1 x7 x8 x9=VH Qe5 x0 x1 x7 x8 x9:=lnT (x:=VH (fun x0 x1 x7 x8 x9=>some (.normal,QyD x0 x1 x7 x8 x9)) x0 x1 x7 x8 x9) (by simp only [VH,nxA];rfl)
def r_f50 (p0:List Keep)(p1:Int):OV:=br (p0==p0&&(Qz p0 (Qa p0) (0:Int)&&decide (p0.length<=99999))) (br (!J9 p1 p0 (0:Int).toNat) (some (.t .bool (false),[])) (some (.t .bool (ile (Qa (p0)) 40),[]))) none
theorem QKW (x0:List Keep)(x1:Int)(x7:List Keep)(x8 x9:Int)(h:(x7==x0&&(Qz x7 x8 x9&&decide (x7.length<=99999)))=true):Qe5 x0 x1 x7 x8 x9=Qe6 x0 x1 x7 x8 x9:=by
 simp only [Bc,Dj,Ba] at h
 obtain ⟨rfl,h0,hl⟩:=h
 obtain ⟨rfl,h3,k,rfl,hk⟩:=JJ h0
 clear h0
 refine QU x7 (fun k=>Qe5 x7 x1 x7 (x7.length:Int) (k:Int)=Qe6 x7 x1 x7 (x7.length:Int) (k:Int)) ?_ ?_ k hk
 ·rw [QyE]
  simp only [VH,Qe6,QD,B0,B4,Qh,Bd,Qyw,BH]
 ·intro k hk ih
  rw [QyE]
  simp only [VH,QD,QJ,hk,Bv,Qd,Bd,QT (show k<4611686018427387904 by omega),ih]
  simp only [Qe6,Bd,Qyx hk]
  by_cases hk0:k=0
  ·subst hk0
   rw [show igt ((0:Nat):Int) 0=false from rfl]
   simp only [Qh]
   exact Qyy ..
  ·rw [show igt (k:Int) 0=true from Be (by omega),Qe2 (by omega) hk0]
   simp only [Qd,QJ,show k-1<x7.length by omega,Bv,Bd]
   unfold E0
   rw [show decide (k=0)=false from Bo hk0,Dk]
   exact Qyz ..
theorem QKX:LO Qmj Qmh QyC 0:=QH (s:=Qe4) fun x y h _ q=>by simp only [QE,QF] at q;exact (QKW x.1 x.2.1 x.2.2.1 x.2.2.2.1 x.2.2.2.2.1 h).trans q
theorem s_f50 (l:List Keep)(n:Int)(h:Qe3 l n=true):r_f50 l n=some (.t .bool (VG l n),[]):=by
 have hl:l.length<=99999:=Bx h
 simp only [r_f50,beq_self_eq_true,BC,JK (show l.length<=100000 by omega),Be hl,Qd,Bw]
 unfold VG
 cases J9 n l 0<;>rfl
def QyF:Ent:=Ql (.pr (.sl Qe) (.pr tI .nil)) (fun x=>(Qe3 x.1 x.2.1)) (fun x=>(.t .bool (VG x.1 x.2.1)))
theorem ms_f50:EM 50 QyF:=mS (lk:=lkL (lkc QKX lkn)) Qmj QyB [((.t 4),some .bool)] false (gB gN) fun m=>Qn m fun x hok=>kT (s_f50 x.1 x.2.1 hok)
def YC (i:Item):Bool:=ine (Z5 i) 0
theorem QyG (i:Item):YC i= !J0 i:=by
 unfold YC Z5
 cases J0 i<;>rfl
def tc_f48:TC:=aF Tryz.f48 []
def g_f48:G:=gG 6 [(49,Qqw)] (fun _ _=>none)
def r_f48 (p0:Item):OV:=br (Z6 p0) (some (.t .bool (ine (Z5 p0) 0),[])) none
theorem s_f48 (i:Item)(h:Z6 i=true):r_f48 i=some (.t .bool (YC i),[]):=by
 simp only [r_f48,h,Qd]
 rfl
def QyH:Ent:=Ql (.pr Je .nil) (fun x=>(Z6 x.1)) (fun x=>(.t .bool (YC x.1)))
theorem ms_f48:EM 48 QyH:=mS g_f48 tc_f48 [((.t 2),some .bool)] false (gB (gD ms_f49 gN)) fun m=>Qn m fun x hok=>kT (s_f48 x.1 hok)
def Z0 (l:List Item):Bool:=decide (l.length<=100000)&&l.all Z6
theorem QKY {l:List Item}(h:Z0 l=true){k:Nat}(hk:k<l.length):Z6 l[k]=true:=by
 simp only [Z0,Bc,Bf] at h
 exact h.2 _ (Bu hk)
theorem QyI {l:List Item}(h:Z0 l=true):l.length<=100000:=by
 simp only [Z0,Bc,Ba] at h
 exact h.1
def E1 (l:List Item):Int:=match QC YC l with|some k=>(k:Int)|none=> -1
abbrev Qe7:Sh:=⟨[(0,.ty (.sl Je)),(1,.cf 48),(7,.ty tI),(8,.ty tI)],[]⟩
abbrev QyJ:Sh:=⟨[(4,.ty tI)],[]⟩
abbrev Qe8:Sh:=⟨[],[]⟩
def Qmk:Fg:=Qe7.f
def QyK:TC:=aF Tryz.f85 [(26,pL 0 Qmk),(421,.fg Qe8.f),(13517,.fg QyJ.f)]
def QyL:TC:=lb 0 QyK
def QyM (x0:List Item)(x7 x8:Int):VS:=Qe7.st (x0,(),x7,x8,()) ()
def Qml (x4:Int):VS:=QyJ.st (x4,()) ()
def Qmm  : VS:=Qe8.st () ()
def QKZ:VS->Option (Bool×List (Bool×Exit×VS)):=mkL Qe7 (fun x y=>(Qz x.1 x.2.2.1 x.2.2.2.1&&Z0 x.1)) (fun x y=>[(((QC YC (x.1.drop x.2.2.2.1.toNat)).isSome),.ret,Qml (x.2.2.2.1+((QC YC (x.1.drop x.2.2.2.1.toNat)).getD 0:Nat))),(true,.exit 0,Qmm)])
def Qmn:G:=gG 19 [(48,QyH)] (Ls [QKZ])
def Qe9 (x0:List Item)(x7 x8:Int):OX:=Qv (QB Qmn Qmk QyL) (QyM x0 x7 x8)
def VI (kk:List Item->Int->Int->OX)(x0:List Item)(x7 x8:Int):OX:=
 let a1:=lgt Je x0 (Int.toNat x8)
 br (ilt x8 x7) (br (cIx x0 x8) (br (Z6 a1) (br (YC a1) (some (.ret,Qml x8)) (kk x0 x7 (Qf .i64 x8 1))) none) none) (some (.exit 0,Qmm))
def Qfa (x0:List Item)(x7 x8:Int):OX:=
 let a1:=QC YC (x0.drop x8.toNat)
 br (a1.isSome) (some (.ret,Qml (x8+(a1.getD 0:Nat))))<|some (.exit 0,Qmm)
theorem QyN (x0:List Item)(x7 x8:Int):Qe9 x0 x7 x8=VI Qe9 x0 x7 x8:=lnT (x:=VI (fun x0 x7 x8=>some (.normal,QyM x0 x7 x8)) x0 x7 x8) (by simp only [VI,nxA];rfl)
def QyO (p0:List Item):OV:=
 let a1:=(QC YC (p0.drop (0:Int).toNat))
 br (Qz p0 (Qa p0) (0:Int)&&Z0 p0) (br (a1.isSome) (some (.t tI ((0:Int)+(a1.getD 0:Nat)),[])) (some (.t tI (-1),[]))) none
theorem QK0 (x0:List Item)(x7 x8:Int)(h:(Qz x0 x7 x8&&Z0 x0)=true):Qe9 x0 x7 x8=Qfa x0 x7 x8:=by
 simp only [Bc] at h
 obtain ⟨h0,hc⟩:=h
 obtain ⟨rfl,h3,k,rfl,hk⟩:=JJ h0
 clear h0
 refine QU x0 (fun k=>Qe9 x0 (x0.length:Int) (k:Int)=Qfa x0 (x0.length:Int) (k:Int)) ?_ ?_ k hk
 ·rw [QyN]
  simp [VI,Qfa,QD,Qh,QC]
 ·intro k hk ih
  rw [QyN]
  have hx:=QKY hc hk
  simp only [VI,QD,QJ,hk,Bv,Qd,Bd,QT (show k<4611686018427387904 by omega),ih,QS (y:=Je) hk,hx]
  simp only [Qfa,Bd,Bj hk,QC]
  cases h:(YC x0[k]) with
  |true=>simp [Qd]
  |false=>
   simp only [Qh,BK,Do]
   cases hq:QC YC (x0.drop (k+1)) with
   |none=>rfl
   |some j=>
    simp only [B1,B6,BI,Qd]
    congr 3
    omega
theorem QK1:LO Qmn Qmk QyL 0:=QH (s:=Qe7) fun x y h _ q=>by simp only [QE,QF] at q;exact (QK0 x.1 x.2.2.1 x.2.2.2.1 h).trans q
theorem QK2 (l:List Item)(h:Z0 l=true):QyO l=some (.t tI (E1 l),[]):=by
 have hl:=QyI h
 simp only [QyO,JK hl,h,B2,Qd,Bw,BD,E1]
 cases QC YC l<;>simp [Qd,Qh]
def QyP:Ent:=ZP [.ty (.sl Je),.cf 48] [] (fun x d=>(Z0 x.1)) (fun x d=>(.t tI (E1 x.1)))
theorem QK3:EM 85 QyP:=mS (lk:=lkL (lkc QK1 lkn)) Qmn QyK [((.t 4),some tI)] false (gB (gD ms_f48 gN)) fun m=>ZG m fun x d hok=>kT (QK2 x.1 hok)
def G7 (l:List Item):Bool:=l.any YC
def QK4:TC:=aF Tryz.f47 []
def QK5:G:=gG 9 [(85,QyP)] (fun _ _=>none)
def QyQ (p0:List Item):OV:=br (Z0 p0) (some (.t .bool (ige (E1 p0) 0),[])) none
theorem QK6 (l:List Item)(h:Z0 l=true):QyQ l=some (.t .bool (G7 l),[]):=by
 simp only [QyQ,h,Qd]
 have e:ige (E1 l) 0=G7 l:=by
  unfold E1 G7
  cases hq:QC YC l with
  |none=>rw [I9.1 hq];rfl
  |some k=>
   rw [←Qb8,hq]
   simp only [ige,B6,Ba]
   omega
 rw [e]
def QyR:Ent:=ZP [.ty (.sl Je),.cf 48] [] (fun x d=>(Z0 x.1)) (fun x d=>(.t .bool (G7 x.1)))
theorem QK7:EM 47 QyR:=mS QK5 QK4 [((.t 4),some .bool)] false (gB (gD QK3 gN)) fun m=>ZG m fun x d hok=>kT (QK6 x.1 hok)
abbrev zEp:Endpoint:=Ty.zero Qo
abbrev Jl (l:List Endpoint)(k:Nat):Endpoint:=l.getD k zEp
def VJ (l m:List Endpoint)(k:Nat):Bool:=QN (Jl l k)&&(decide (k=0)||slt (Jl m (k-1)).1 (Jl l k).1)
def Ys (l m:List Endpoint)(k:Nat):Bool:=(List.range' k (l.length-k)).all (VJ l m)
abbrev Wy (l:List Endpoint)(k:Nat):Bool:=Ys l l k
theorem QyS (l m:List Endpoint):Ys l m l.length=true:=by
 unfold Ys
 rw [Nat.sub_self]
 rfl
theorem QyT {l m:List Endpoint}{k:Nat}(hk:k<l.length):Ys l m k=(VJ l m k&&Ys l m (k+1)):=by
 have:l.length-k=(l.length-(k+1))+1:=by omega
 unfold Ys
 rw [this,Du,BV]
abbrev Qu (e:Estate):List Endpoint:=e.1
abbrev Q7 (e:Estate):List Keep:=e.2.1
abbrev Zs (e:Estate):List Item:=e.2.2.1
def JC (e:Estate):Bool:=Wy (Qu e) 0&&((Zs e).all J0&&(ile (Qa (Qu e)) 16&&(ile (Qa (Zs e)) 30&&(J9 (Qa (Qu e)) (Q7 e) 0&&ile (Qa (Q7 e)) 40))))
def Yt (e:Estate):Int:=bif JC e then 0 else 31
theorem Qfb (e:Estate):ine (Yt e) 0= !JC e:=by
 unfold Yt
 cases JC e<;>rfl
def Jr (e:Estate):Bool:=decide ((Qu e).length<=99999/\(Q7 e).length<=99999)&&((Qu e).all Q0&&Z0 (Zs e))
theorem QK8 (l:List Item):G7 l= !l.all J0:=by
 unfold G7
 rw [List.not_all_eq_any_not]
 congr 1
 funext x
 exact QyG x
theorem VK (a b:Int):ile a b= !igt a b:=by
 simp only [ile,igt, ← decide_not,Int.not_lt]
theorem QyU {β:Type}(v s u:Bool)(R E:Option β):br (!v) R (br (!s) R (br (!u) R E))=br (!((v&&s)&&u)) R E:=by
 cases v<;>cases s<;>rfl
theorem QyV {β:Type}(v u:Bool)(R E:Option β):br (!v) R (br (!u) R E)=br (!((v&&true)&&u)) R E:=by
 cases v<;>rfl
abbrev Qfc:Sh:=⟨[(1,.ptr 1 0),(7,.ty (.sl Qo)),(8,.ty tI),(9,.ty tI)],[(1,.box Qw)]⟩
abbrev E2:Sh:=⟨[(2,.ty tI)],[]⟩
abbrev Qfd:Sh:=⟨[(1,.ptr 1 0)],[(1,.box Qw)]⟩
def Qmo:Fg:=Qfc.f
def QyW:TC:=aF Tryz.f27 [(26,pL 0 Qmo),(421,.fg Qfd.f),(3378,pD [(0,[4]),(1,[]),(2,[]),(3,[]),(4,[]),(5,[]),(6,[]),(7,[1]),(8,[1]),(9,[]),(10,[]),(11,[]),(12,[]),(13,[]),(14,[4]),(15,[4]),(16,[]),(17,[]),(18,[])] (.of [0,1,2,3,4,5,6,7,8,9,10,11,12,13,14,15,16,17,18])),(13517,.fg E2.f)]
def QyX:TC:=lb 0 QyW
def QyY (x7:List Endpoint)(x8 x9:Int)(y1:Estate):VS:=Qfc.st ((),x7,x8,x9,()) (y1,())
def ZD (x2:Int):VS:=E2.st (x2,()) ()
def Um (y1:Estate):VS:=Qfd.st ((),()) (y1,())
def QK9:VS->Option (Bool×List (Bool×Exit×VS)):=mkL Qfc (fun x y=>(decide (x.2.1.length=y.1.1.length/\x.2.1.length<=99999)&&(Qz x.2.1 x.2.2.1 x.2.2.2.1&&x.2.1.all Q0))) (fun x y=>[((!Ys x.2.1 y.1.1 x.2.2.2.1.toNat),.ret,ZD (31)),(true,.exit 0,Um (y.1))])
def Qmp:G:=gG 59 [(46,QcE),(47,QyR),(50,QyF)] (Ls [QK9])
def Qfe (x7:List Endpoint)(x8 x9:Int)(y1:Estate):OX:=Qv (QB Qmp Qmo QyX) (QyY x7 x8 x9 y1)
def VL (kk:List Endpoint->Int->Int->Estate->OX)(x7:List Endpoint)(x8 x9:Int)(y1:Estate):OX:=
 let a1:=lgt Qo x7 (Int.toNat x9)
 br (ilt x9 x8) (br (cIx x7 x9) (br (Q0 a1) (br (ine (Zb a1) 0) (some (.ret,ZD 31)) (br (igt x9 0) (br (cIx y1.1 (Q6 .i64 x9 1)) (br (!slt ((lgt Qo y1.1 (Int.toNat (Q6 .i64 x9 1))).1) (a1.1)) (some (.ret,ZD 31)) (kk x7 x8 (Qf .i64 x9 1) y1)) none) (kk x7 x8 (Qf .i64 x9 1) y1))) none) none) (some (.exit 0,Um y1))
def Qff (x7:List Endpoint)(x8 x9:Int)(y1:Estate):OX:=br (!Ys x7 y1.1 x9.toNat) (some (.ret,ZD (31)))<|some (.exit 0,Um (y1))
theorem QyZ (x7:List Endpoint)(x8 x9:Int)(y1:Estate):Qfe x7 x8 x9 y1=VL Qfe x7 x8 x9 y1:=lnT (x:=VL (fun x7 x8 x9 y1=>some (.normal,QyY x7 x8 x9 y1)) x7 x8 x9 y1) (by simp only [VL,nxA];rfl)
def r_f27 (p0:Estate):OV:=
 let a1:=((((p0).2).2).1)
 let a2:=Qa ((p0).1)
 br (decide (p0.1.length=p0.1.length/\p0.1.length<=99999)&&(Qz p0.1 (Qa p0.1) (0:Int)&&p0.1.all Q0)) (br (!Ys p0.1 p0.1 (0:Int).toNat) (some (.t tI (31),[])) (br (Z0 a1) (br (G7 a1) (some (.t tI 31,[])) (br (igt a2 16) (some (.t tI 31,[])) (br (igt (Qa a1) 30) (some (.t tI 31,[])) (br (Qe3 (((p0).2).1) a2) (br (!(VG (((p0).2).1) a2)) (some (.t tI 31,[])) (some (.t tI 0,[]))) none)))) none)) none
theorem QLa (x7:List Endpoint)(x8 x9:Int)(y1:Estate)(h:(decide (x7.length=y1.1.length/\x7.length<=99999)&&(Qz x7 x8 x9&&x7.all Q0))=true):Qfe x7 x8 x9 y1=Qff x7 x8 x9 y1:=by
 simp only [Bc,Ba,Bf] at h
 obtain ⟨⟨hx,hl⟩,h0,ha⟩:=h
 obtain ⟨rfl,h3,k,rfl,hk⟩:=JJ h0
 clear h0
 refine QU x7 (fun k=>Qfe x7 (x7.length:Int) (k:Int) y1=Qff x7 (x7.length:Int) (k:Int) y1) ?_ ?_ k hk
 ·rw [QyZ]
  simp only [VL,Qff,QD,B0,B4,Qh,Bd,QyS,BH]
 ·intro k hk ih
  rw [QyZ]
  have he:Q0 (lgt Qo x7 k)=true:=by rw [QS (y:=Qo) hk];exact ha _ (Bu hk)
  simp only [VL,QD,QJ,hk,Bv,Qd,Bd,QT (show k<4611686018427387904 by omega),ih,he,QcA]
  simp only [Qff,Bd,QyT hk]
  by_cases hk0:k=0
  ·subst hk0
   rw [show igt ((0:Nat):Int) 0=false from rfl]
   simp only [Qh]
   exact QyV ..
  ·rw [show igt (k:Int) 0=true from Be (by omega),Qe2 (by omega) hk0]
   simp only [Qd,QJ,show k-1<y1.1.length by omega,Bv,Bd]
   unfold VJ
   rw [show decide (k=0)=false from Bo hk0,Dk]
   exact QyU ..
theorem QLb:LO Qmp Qmo QyX 0:=QH (s:=Qfc) fun x y h _ q=>by simp only [QE,QF] at q;exact (QLa x.2.1 x.2.2.1 x.2.2.2.1 y.1 h).trans q
theorem s_f27 (e:Estate)(h:Jr e=true):r_f27 e=some (.t tI (Yt e),[]):=by
 simp only [Jr,Bc,Ba] at h
 obtain ⟨⟨h1,h2⟩,h3,h4⟩:=h
 have h5:Qe3 (Q7 e) (Qa (Qu e))=true:=Be h2
 simp only [Qu,Q7,Zs] at h1 h2 h3 h4 h5
 simp only [r_f27,JK (show e.1.length<=100000 by omega),Be h1,true_and,BC,h3,h4,h5,Qd,Bw,QK8]
 unfold Yt JC VG
 simp only [Qu,Q7,Zs,Wy]
 rw [VK (Qa e.1),VK (Qa e.2.2.1)]
 cases Ys e.1 e.1 0<;>cases e.2.2.1.all J0<;>cases igt (Qa e.1) 16<;>cases igt (Qa e.2.2.1) 30<;>cases (J9 (Qa e.1) e.2.1 0&&ile (Qa e.2.1) 40)<;>rfl
def Qfg:Ent:=Ql (.pr Qw .nil) (fun x=>(Jr x.1)) (fun x=>(.t tI (Yt x.1)))
theorem Qmq:EM 27 Qfg:=mS (lk:=lkL (lkc QLb lkn)) Qmp QyW [((.t 2),some tI)] false (gB (gD Qi6 (gD QK7 (gD ms_f50 gN)))) fun m=>Qn m fun x hok=>kT (s_f27 x.1 hok)
abbrev Qfh:Sh:=⟨[(1,.ptr 1 0),(3,.ty tI)],[(1,.box Qw)]⟩
abbrev Qfi:Sh:=⟨[(1,.ptr 1 0),(4,.ty tI)],[(1,.box Qw)]⟩
abbrev Qfj:Sh:=⟨[(1,.ptr 1 0),(6,.ty tI)],[(1,.box Qw)]⟩
def Qmr:Fg:=Qfh.f
def Qms:Fg:=Qfi.f
def Qmt:Fg:=Qfj.f
def Qfk:TC:=aF Tryz.f42 [(58,pL 0 Qmr),(931,.fg Qfd.f),(1864,pD [(0,[1]),(1,[1]),(2,[]),(3,[]),(4,[]),(5,[]),(6,[]),(7,[]),(8,[]),(9,[]),(10,[]),(11,[1]),(12,[1]),(13,[]),(14,[]),(15,[]),(16,[]),(17,[]),(18,[1]),(19,[1]),(20,[]),(21,[]),(22,[]),(23,[]),(24,[]),(25,[]),(26,[])] (.of [0,1,2,3,4,5,6,7,8,9,10,11,12,13,14,15,16,17,18,19,20,21,22,23,24,25,26])),(7461,.fg E2.f),(122,pL 1 Qms),(1955,.fg Qfd.f),(62613,.fg E2.f),(15654,pD [(0,[]),(1,[]),(2,[]),(3,[1]),(4,[1]),(5,[]),(6,[]),(7,[]),(8,[]),(9,[]),(10,[5]),(11,[5]),(12,[]),(13,[]),(14,[1]),(15,[1]),(16,[]),(17,[]),(18,[]),(19,[]),(20,[]),(21,[5]),(22,[5]),(23,[]),(24,[]),(25,[1]),(26,[1]),(27,[]),(28,[]),(29,[]),(30,[]),(31,[]),(32,[5]),(33,[5]),(34,[]),(35,[]),(36,[]),(37,[])] (.of [0,1,2,3,4,5,6,7,8,9,10,11,12,13,14,15,16,17,18,19,20,21,22,23,24,25,26,27,28,29,30,31,32,33,34,35,36,37])),(62621,.fg E2.f),(250,pL 2 Qmt),(4003,.fg Qe8.f),(32037,.fg E2.f)]
def Qy0:TC:=lb 0 Qfk
def Qy1:TC:=lb 1 Qfk
def Qy2:TC:=lb 2 Qfk
def Qy3 (x3:Int)(y1:Estate):VS:=Qfh.st ((),x3,()) (y1,())
def Qy4 (x4:Int)(y1:Estate):VS:=Qfi.st ((),x4,()) (y1,())
def Qy5 (x6:Int)(y1:Estate):VS:=Qfj.st ((),x6,()) (y1,())
def Qmu  : VS:=Qe8.st () ()
def QLc:VS->Option (Bool×List (Bool×Exit×VS)):=mkL Qfh (fun x y=>(decide (0<=x.2.1/\x.2.1<=y.1.1.length/\y.1.1.length<=16)&&y.1.1.all Q0)) (fun x y=>[((!Wy y.1.1 x.2.1.toNat),.ret,ZD (31)),(true,.exit 0,Um (y.1))])
def QLd:VS->Option (Bool×List (Bool×Exit×VS)):=mkL Qfi (fun x y=>(decide (0<=x.2.1/\x.2.1<=y.1.2.1.length/\y.1.2.1.length<=40))) (fun x y=>[((!J9 (Qa y.1.1) y.1.2.1 x.2.1.toNat),.ret,ZD (31)),(true,.exit 2,Um (y.1))])
def QLe:VS->Option (Bool×List (Bool×Exit×VS)):=mkL Qfj (fun x y=>(decide (0<=x.2.1/\x.2.1<=y.1.2.2.1.length/\y.1.2.2.1.length<=30)&&y.1.2.2.1.all Z6)) (fun x y=>[((!((y.1.2.2.1.drop x.2.1.toNat).all J0)),.ret,ZD (31)),(true,.exit 4,Qmu)])
def G8:G:=gG 152 [(61,QcR),(69,QqC)] (Ls [QLc,QLd,QLe])
def Qfl (x3:Int)(y1:Estate):OX:=Qv (QB G8 Qmr Qy0) (Qy3 x3 y1)
def VM (kk:Int->Estate->OX)(x3:Int)(y1:Estate):OX:=
 let a1:=lgt Qo y1.1 (Int.toNat x3)
 br (ilt x3 (Qa y1.1)) (br (cIx y1.1 x3) (br (Q0 a1) (br (ine (Zb a1) 0) (some (.ret,ZD 31)) (br (igt x3 0) (br (cIx y1.1 (Q6 .i64 x3 1)) (br (cIx y1.1 x3) (br (!slt ((lgt Qo y1.1 (Int.toNat (Q6 .i64 x3 1))).1) (a1.1)) (some (.ret,ZD 31)) (kk (Qf .i64 x3 1) y1)) none) none) (kk (Qf .i64 x3 1) y1))) none) none) (some (.exit 0,Um y1))
def Qfm (x3:Int)(y1:Estate):OX:=br (!Wy y1.1 x3.toNat) (some (.ret,ZD (31)))<|some (.exit 0,Um (y1))
theorem Qy6 (x3:Int)(y1:Estate):Qfl x3 y1=VM Qfl x3 y1:=lnT (x:=VM (fun x3 y1=>some (.normal,Qy3 x3 y1)) x3 y1) (by simp only [VM,nxA];rfl)
def Qfn (x4:Int)(y1:Estate):OX:=Qv (QB G8 Qms Qy1) (Qy4 x4 y1)
def VN (kk:Int->Estate->OX)(x4:Int)(y1:Estate):OX:=
 let a1:=lgt Qe y1.2.1 (Int.toNat x4)
 let a2:=lgt Qe y1.2.1 (Int.toNat (Q6 .i64 x4 1))
 let a3:=cIx y1.2.1 (Q6 .i64 x4 1)
 let a4:=Qf .i64 x4 1
 br (ilt x4 (Qa y1.2.1)) (br (cIx y1.2.1 x4) (br (ilt (a1.1) 0) (some (.ret,ZD 31)) (br (ige (a1.1) (Qa y1.1)) (some (.ret,ZD 31)) (br (ilt ((a1.2).1) 0) (some (.ret,ZD 31)) (br (ige ((a1.2).1) (Qa y1.1)) (some (.ret,ZD 31)) (br (ieq (a1.1) ((a1.2).1)) (some (.ret,ZD 31)) (br (igt x4 0) (br a3 (br (igt (a2.1) (a1.1)) (some (.ret,ZD 31)) (br a3 (br (ieq (a2.1) (a1.1)) (br a3 (br (ige ((a2.2).1) ((a1.2).1)) (some (.ret,ZD 31)) (kk a4 y1)) none) (kk a4 y1)) none)) none) (kk a4 y1))))))) none) (some (.exit 2,Um y1))
def Qfo (x4:Int)(y1:Estate):OX:=br (!J9 (Qa y1.1) y1.2.1 x4.toNat) (some (.ret,ZD (31)))<|some (.exit 2,Um (y1))
theorem Qy7 (x4:Int)(y1:Estate):Qfn x4 y1=VN Qfn x4 y1:=lnT (x:=VN (fun x4 y1=>some (.normal,Qy4 x4 y1)) x4 y1) (by simp only [VN,nxA];rfl)
def Qfp (x6:Int)(y1:Estate):OX:=Qv (QB G8 Qmt Qy2) (Qy5 x6 y1)
def VP (kk:Int->Estate->OX)(x6:Int)(y1:Estate):OX:=
 let a1:=lgt Je y1.2.2.1 (Int.toNat x6)
 br (ilt x6 (Qa y1.2.2.1)) (br (cIx y1.2.2.1 x6) (br (Z6 a1) (br (ine (Z5 a1) 0) (some (.ret,ZD 31)) (kk (Qf .i64 x6 1) y1)) none) none) (some (.exit 4,Qmu))
def Qfq (x6:Int)(y1:Estate):OX:=br (!((y1.2.2.1.drop x6.toNat).all J0)) (some (.ret,ZD (31)))<|some (.exit 4,Qmu)
theorem Qy8 (x6:Int)(y1:Estate):Qfp x6 y1=VP Qfp x6 y1:=lnT (x:=VP (fun x6 y1=>some (.normal,Qy5 x6 y1)) x6 y1) (by simp only [VP,nxA];rfl)
def r_f42 (p0:Estate):OV:=br (igt (Qa p0.1) 16) (some (.t tI 31,[])) (br (igt (Qa p0.2.1) 40) (some (.t tI 31,[])) (br (igt (Qa p0.2.2.1) 30) (some (.t tI 31,[])) (br (decide (0<=(0:Int)/\(0:Int)<=p0.1.length/\p0.1.length<=16)&&p0.1.all Q0) (br (!Wy p0.1 (0:Int).toNat) (some (.t tI (31),[])) (br (decide (0<=(0:Int)/\(0:Int)<=(p0).2.1.length/\(p0).2.1.length<=40)) (br (!J9 (Qa (p0).1) (p0).2.1 (0:Int).toNat) (some (.t tI (31),[])) (br (decide (0<=(0:Int)/\(0:Int)<=(p0).2.2.1.length/\(p0).2.2.1.length<=30)&&(p0).2.2.1.all Z6) (br (!(((p0).2.2.1.drop (0:Int).toNat).all J0)) (some (.t tI (31),[])) (some (.t tI 0,[]))) none)) none)) none)))
theorem QLf (x3:Int)(y1:Estate)(h:(decide (0<=x3/\x3<=y1.1.length/\y1.1.length<=16)&&y1.1.all Q0)=true):Qfl x3 y1=Qfm x3 y1:=by
 simp only [Bc,Ba,Bf] at h
 obtain ⟨⟨h0,h1,h2⟩,ha⟩:=h
 obtain ⟨k,rfl⟩:=Bq h0
 refine QU y1.1 (fun k=>Qfl (k:Int) y1=Qfm (k:Int) y1) ?_ ?_ k (by omega)
 ·rw [Qy6]
  simp only [VM,Qfm,Qa,QD,B0,B4,Qh,Bd,QyS,BH]
 ·intro k hk ih
  rw [Qy6]
  have he:Q0 (lgt Qo y1.1 k)=true:=by rw [QS (y:=Qo) hk];exact ha _ (Bu hk)
  simp only [VM,Qa,QD,QJ,hk,Bv,Qd,Bd,QT (show k<4611686018427387904 by omega),ih,he,QcA]
  simp only [Qfm,Bd,QyT hk]
  by_cases hk0:k=0
  ·subst hk0
   rw [show igt ((0:Nat):Int) 0=false from rfl]
   simp only [Qh]
   exact QyV ..
  ·rw [show igt (k:Int) 0=true from Be (by omega),Qe2 (by omega) hk0]
   simp only [Qd,QJ,show k-1<y1.1.length by omega,Bv,Bd]
   unfold VJ
   rw [show decide (k=0)=false from Bo hk0,Dk]
   exact QyU ..
theorem QLg (x4:Int)(y1:Estate)(h:(decide (0<=x4/\x4<=y1.2.1.length/\y1.2.1.length<=40))=true):Qfn x4 y1=Qfo x4 y1:=by
 obtain ⟨h0,h1,h2⟩:=Bx h
 obtain ⟨k,rfl⟩:=Bq h0
 refine QU y1.2.1 (fun k=>Qfn (k:Int) y1=Qfo (k:Int) y1) ?_ ?_ k (by omega)
 ·rw [Qy7]
  simp only [VN,Qfo,show Qa y1.2.1=(y1.2.1.length:Int) from rfl,QD,B0,B4,Qh,Bd,Qyw,BH]
 ·intro k hk ih
  rw [Qy7]
  simp only [VN,show Qa y1.2.1=(y1.2.1.length:Int) from rfl,QD,QJ,hk,Bv,Qd,Bd,QT (show k<4611686018427387904 by omega),ih]
  simp only [Qfo,Bd,Qyx hk]
  by_cases hk0:k=0
  ·subst hk0
   rw [show igt ((0:Nat):Int) 0=false from rfl]
   simp only [Qh]
   exact Qyy ..
  ·rw [show igt (k:Int) 0=true from Be (by omega),Qe2 (by omega) hk0]
   simp only [Qd,QJ,show k-1<y1.2.1.length by omega,Bv,Bd]
   unfold E0
   rw [show decide (k=0)=false from Bo hk0,Dk]
   exact Qyz ..
theorem QLh (x6:Int)(y1:Estate)(h:(decide (0<=x6/\x6<=y1.2.2.1.length/\y1.2.2.1.length<=30)&&y1.2.2.1.all Z6)=true):Qfp x6 y1=Qfq x6 y1:=by
 simp only [Bc,Ba,Bf] at h
 obtain ⟨⟨h0,h1,h2⟩,ha⟩:=h
 obtain ⟨k,rfl⟩:=Bq h0
 refine QU y1.2.2.1 (fun k=>Qfp (k:Int) y1=Qfq (k:Int) y1) ?_ ?_ k (by omega)
 ·rw [Qy8]
  simp only [VP,Qfq,Qa,QD,B0,B4,Qh,Bd,BU,Dw,BH]
 ·intro k hk ih
  rw [Qy8]
  have he:Z6 y1.2.2.1[k]=true:=ha _ (Bu hk)
  have hb:ine (Z5 y1.2.2.1[k]) 0= !J0 y1.2.2.1[k]:=QyG _
  simp only [VP,Qa,QD,QJ,hk,Bv,Qd,Bd,QT (show k<4611686018427387904 by omega),ih,QS (y:=Je) hk,he,hb]
  simp only [Qfq,Bd,Bj hk,BV]
  cases J0 y1.2.2.1[k]<;>rfl
theorem QLi:LO G8 Qmr Qy0 0:=QH (s:=Qfh) fun x y h _ q=>by simp only [QE,QF] at q;exact (QLf x.2.1 y.1 h).trans q
theorem QLj:LO G8 Qms Qy1 1:=QH (s:=Qfi) fun x y h _ q=>by simp only [QE,QF] at q;exact (QLg x.2.1 y.1 h).trans q
theorem QLk:LO G8 Qmt Qy2 2:=QH (s:=Qfj) fun x y h _ q=>by simp only [QE,QF] at q;exact (QLh x.2.1 y.1 h).trans q
theorem s_f42 (e:Estate)(h:Jr e=true):r_f42 e=some (.t tI (Yt e),[]):=by
 simp only [Jr,Bc,Ba] at h
 obtain ⟨⟨h1,h2⟩,h3,h4⟩:=h
 have h6:(Zs e).all Z6=true:=by
  simp only [Z0,Bc] at h4
  exact h4.2
 simp only [Qu,Q7,Zs] at h1 h2 h3 h6
 simp only [r_f42,h3,h6,Db,Bw,BD]
 unfold Yt JC
 simp only [Qu,Q7,Zs,Wy]
 rw [VK (Qa e.1),VK (Qa e.2.2.1),VK (Qa e.2.1)]
 cases g1:igt (Qa e.1) 16 with
 |true=>cases Ys e.1 e.1 0<;>cases e.2.2.1.all J0<;>rfl
 |false=>
  cases g2:igt (Qa e.2.1) 40 with
  |true=>cases Ys e.1 e.1 0<;>cases e.2.2.1.all J0<;>cases igt (Qa e.2.2.1) 30<;>cases J9 (Qa e.1) e.2.1 0<;>rfl
  |false=>
   cases g3:igt (Qa e.2.2.1) 30 with
   |true=>cases Ys e.1 e.1 0<;>cases e.2.2.1.all J0<;>rfl
   |false=>
    simp only [igt,Qa,Bn] at g1 g2 g3
    rw [Be (show (0:Int)<=0/\(0:Int)<=e.1.length/\e.1.length<=16 by omega),Be (show (0:Int)<=0/\(0:Int)<=e.2.1.length/\e.2.1.length<=40 by omega),Be (show (0:Int)<=0/\(0:Int)<=e.2.2.1.length/\e.2.2.1.length<=30 by omega)]
    cases Ys e.1 e.1 0<;>cases e.2.2.1.all J0<;>cases J9 (Qa e.1) e.2.1 0<;>rfl
def Qy9:Ent:=Ql (.pr Qw .nil) (fun x=>(Jr x.1)) (fun x=>(.t tI (Yt x.1)))
theorem ms_f42:EM 42 Qy9:=mS (lk:=lkL (lkc QLi (lkc QLj (lkc QLk lkn)))) G8 Qfk [((.t 2),some tI)] false (gB (gD Qjc (gD ms_f69 gN))) fun m=>Qn m fun x hok=>kT (s_f42 x.1 hok)
end
end Go.Proofs.YtmjnnemhoeolgaaGreat.K
noncomputable section
namespace Go.Proofs.YtmjnnemhoeolgaaGreat.K
open Go.RowKit
noncomputable section
theorem brY {β:Type}{c:Bool}{a b r:Option β}(h:c=true)(k:a=r):br c a b=r:=by
 subst h
 exact k
def Xj (e:Estate)(i:Int):Endpoint×Endpoint:=(Jl (Qu e) (ZZ (Q7 e) i.toNat).1.toNat,Jl (Qu e) (ZZ (Q7 e) i.toNat).2.1.toNat)
def Fa (e:Estate)(i:Int):Bool:=cIx (Q7 e) i&&(cIx (Qu e) (ZZ (Q7 e) i.toNat).1&&cIx (Qu e) (ZZ (Q7 e) i.toNat).2.1)
theorem eg_all {n:Int}{l:List Keep}(h:J9 n l 0=true){k:Nat}(hk:k<l.length):G6 n (ZZ l k)=true:=by
 unfold J9 at h
 rw [Bf] at h
 have:=h k (by rw [List.mem_range'];exact ⟨k,by omega,by omega⟩)
 unfold E0 at this
 exact (Bi.1 this).1
theorem eg_in {n:Int}{x:Keep}(h:G6 n x=true):(0<=x.1/\x.1<n)/\(0<=x.2.1/\x.2.1<n)/\x.1≠x.2.1:=by
 simp only [G6,ilt,ige,YE,Bc,Br,Bn] at h
 refine ⟨⟨by omega,by omega⟩,⟨by omega,by omega⟩,h.2.2.2.2⟩
theorem Un {e:Estate}(h:JC e=true):Wy (Qu e) 0=true/\(Zs e).all J0=true/\(Qu e).length<=16/\(Zs e).length<=30/\J9 (Qa (Qu e)) (Q7 e) 0=true/\(Q7 e).length<=40:=by
 simp only [JC,ile,Qa,Bc,Ba] at h
 exact ⟨h.1,h.2.1,by omega,by omega,h.2.2.2.2.1,by omega⟩
theorem QmB {e:Estate}(h:JC e=true){k:Nat}(hk:k<(Q7 e).length):(0<=(ZZ (Q7 e) k).1/\(ZZ (Q7 e) k).1<(Qu e).length)/\(0<=(ZZ (Q7 e) k).2.1/\(ZZ (Q7 e) k).2.1<(Qu e).length)/\(ZZ (Q7 e) k).1≠(ZZ (Q7 e) k).2.1:=
 eg_in (eg_all (Un h).2.2.2.2.1 hk)
theorem QmC {e:Estate}{i:Int}(h:JC e=true)(h0:0<=i)(h1:i<(Q7 e).length):Fa e i=true:=by
 obtain ⟨k,rfl⟩:=Bq h0
 have:=QmB h (k:=k) (by omega)
 simp only [Fa,cIx,Bd,Bc,Ba]
 exact ⟨⟨by omega,by omega⟩,⟨this.1.1,this.1.2⟩,this.2.1.1,this.2.1.2⟩
theorem QmD {e:Estate}(h:Jr e=true):(Qu e).all Q0=true:=by
 simp only [Jr,Bc] at h
 exact h.2.1
theorem QmE {l:List Endpoint}(h:l.all Q0=true){c:Int}(hc:cIx l c=true):Q0 (Jl l c.toNat)=true:=by
 simp only [cIx,Ba] at hc
 obtain ⟨k,rfl⟩:=Bq hc.1
 have hk:k<l.length:=by omega
 rw [Bd,show Jl l k=l[k] by simp only [Jl,Bk,Bh hk,BI]]
 exact Bf.1 h _ (Bu hk)
theorem Qzh {e:Estate}{i:Int}(h:Jr e=true)(hi:Fa e i=true):W4 (Xj e i).1 (Xj e i).2=true:=by
 simp only [Fa,Bc] at hi
 exact Bi.2 ⟨QmE (QmD h) hi.2.1,QmE (QmD h) hi.2.2⟩
end
end Go.Proofs.YtmjnnemhoeolgaaGreat.K
noncomputable section
namespace Go.Proofs.YtmjnnemhoeolgaaGreat.K
open Go.RowKit
noncomputable section
theorem I0 {x:Int}(h:ine x 0=false):x=0:=by
 simpa [ine] using h
theorem QDN (s:Endpoint)(o:List Int): ∀ (n v:Nat),(Ub s o v n).length<=16*n:=by
 intro n
 induction n with
 |zero=>intro v;simp [Ub]
 |succ n ih=>
  intro v
  have h1:(EF s o (v:Int) 1).length<=16:=by
   unfold EF
   rw [BM]
   exact Dc (List.length_filter_le _ _) (by rw [List.length_range'];omega)
  have h2:=ih (v+1)
  unfold Ub at h2 ⊢
  rw [Du,BJ,Bl]
  omega
theorem I1 {c s:Endpoint}:(XC c s).length<=64:=by
 unfold XC
 cases h:W0 c s with
 |false=>exact B3 _
 |true=>
  obtain ⟨hv,hw⟩:=Bi.1 h
  have v1:=QbR hv
  have v2:=QbR hw
  refine Dc (QDN _ _ _ _) ?_
  simp only [hiC,loC,imn,imx]
  split<;>split<;>omega
end
end Go.Proofs.YtmjnnemhoeolgaaGreat.K
noncomputable section
namespace Go.Proofs.YtmjnnemhoeolgaaGreat.K
open Go.RowKit Go.Shelf
end Go.Proofs.YtmjnnemhoeolgaaGreat.K
noncomputable section
namespace Go.Proofs.YtmjnnemhoeolgaaGreat.K
open Go.RowKit
noncomputable section
end
end Go.Proofs.YtmjnnemhoeolgaaGreat.K
noncomputable section
namespace Go.Proofs.YtmjnnemhoeolgaaGreat.K
open Go.RowKit
noncomputable section
end
end Go.Proofs.YtmjnnemhoeolgaaGreat.K
