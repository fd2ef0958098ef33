import Derived.Test.YtmjnnemhoeolgaaGreatQ5
import Derived.Test.YtmjnnemhoeolgaaGreatQ3
import Derived.Test.YtmjnnemhoeolgaaGreatQ4
import Derived.RangeFuncCalls
import Derived.RangeFuncBound
import Derived.Shelf.RegionOpen
import Derived.OwnWalkIn
import Derived.TacticsInMore
import Derived.LoopNIn
import Derived.LoopIn
import Derived.Lib.SliceRun
set_option linter.unusedSimpArgs false
set_option linter.unusedVariables false
noncomputable section
namespace Go.Proofs.YtmjnnemhoeolgaaGreat.K
open Go.RowKit
noncomputable section
theorem Qsk {c:Int}(h:ieq (QW c).2 0=true):1<=c/\c<=16:=by
 unfold QW at h
 split at h
 ·simp [ieq] at h
 ·omega
theorem Qis {l:List Int}(h:ZA l=true): ∀ (k:Nat) (hk:k<l.length),(1<=l[k]/\l[k]<=16)∧ ¬ l[k]∈l.take k:=by
 intro k hk
 simp only [ZA,Ym,Bg,List.mem_range'_1,Bc,Br] at h
 obtain ⟨h1,h2⟩:=h k ⟨by omega,by omega⟩
 simp only [Bk,Bf hk,BI] at h1 h2
 refine ⟨Qsk h1,fun hm=> ?_⟩
 simp only [QO] at h2
 rw [BH.2 hm] at h2
 cases h2
theorem Qsl {l:List Int}(h:ZA l=true):l.Nodup:=by
 have h2:=Qis h
 rw [List.nodup_iff_pairwise_ne,List.pairwise_iff_getElem]
 intro i j hi hj hij he
 refine (h2 j hj).2 ?_
 rw [←he]
 exact List.mem_iff_getElem.2 ⟨i,by rw [B7];omega,by rw [List.getElem_take]⟩
theorem Qsm {l:List Int}(h:ZA l=true):l.length<=16:=by
 have h1:=Qsl h
 have h2:=Qis h
 have h3:l ⊆ [1,2,3,4,5,6,7,8,9,10,11,12,13,14,15,16]:=by
  intro x hx
  obtain ⟨k,hk,rfl⟩:=List.mem_iff_getElem.1 hx
  have:=(h2 k hk).1
  simp only [BY,Dk,or_false]
  omega
 exact h1.length_le_of_subset h3
abbrev Qu (e:Endpoint):List Int:=e.2.2.2.1
abbrev QA (e:Endpoint):List Identity:=e.2.2.2.2.2.1
abbrev Q3 (e:Endpoint):List Int:=e.2.2.2.2.2.2.1
abbrev Q6 (e:Endpoint):List Int:=e.2.2.2.2.2.2.2.1
def Xv (x:Identity):Bool:=YV x.1 x.2.1 x.2.2.1
def Jm (x:Identity):Bool:=Js x.2.2.1
def QU (e:Endpoint):Bool:=Ja e.1&&decide ((Qu e).length<=100000/\(QA e).length<=100000/\(Q3 e).length<=100000/\(Q6 e).length<=100000)&&(QA e).all Jm
def QT (e:Endpoint):Bool:=
 XH e.1&&(!ilt e.2.1 1&&(!igt e.2.1 e.2.2.1&&(!igt e.2.2.1 4&&(ZA (Qu e)&&(!igt (Qa (QA e)) 4&&(!igt (Qa (Q3 e)) 16&&(Y0 (Q3 e)&&(Y0 (Q6 e)&&((QA e).all Xv&&((Q3 e).all JY&&(Q6 e).all XI))))))))))
def J2 (e:Endpoint):Int:=bif QT e then 0 else 19
theorem QEg (e:Endpoint):ieq (J2 e) 0=QT e:=by
 unfold J2
 cases QT e<;>rfl
theorem Ob (e:Endpoint):ine (J2 e) 0= !QT e:=by
 unfold J2
 cases QT e<;>rfl
abbrev Qce:Sh:=⟨[(1,.ptr 1 0),(56,.ty (.sl Q0)),(57,.ty tI),(58,.ty tI)],[(1,.box Qo)]⟩
abbrev F7:Sh:=⟨[(2,.ty tI)],[]⟩
abbrev Oc:Sh:=⟨[(1,.ptr 1 0)],[(1,.box Qo)]⟩
def Qit:Fg:=Qce.f
def Qsn:TC:=aF Tryz.f46 [(122,pL 0 Qit),(1957,.fg Oc.f),(62669,.fg F7.f),(252,pD [(0,[1]),(1,[1]),(2,[]),(3,[74,5074,10074,15074]),(4,[74,75,5074,5075,10074,10075,15074,15075]),(5,[]),(6,[1]),(7,[1]),(8,[]),(9,[80,5080,10080,15080]),(10,[80,81,5080,5081,10080,10081,15080,15081]),(11,[])] (.of [0,1,2,3,4,5,6,7,8,9,10,11]))]
def Qso:TC:=lb 0 Qsn
def Qsp (x56:List Identity)(x57 x58:Int)(y1:Endpoint):VS:=Qce.st ((),x56,x57,x58,()) (y1,())
def ZF (x2:Int):VS:=F7.st (x2,()) ()
def Xw (y1:Endpoint):VS:=Oc.st ((),()) (y1,())
def QEh:VS->Option (Bool×List (Bool×Exit×VS)):=mkL Qce (fun x y=>(Qt x.2.1 x.2.2.1 x.2.2.2.1&&x.2.1.all Jm)) (fun x y=>[((!(x.2.1.drop x.2.2.2.1.toNat).all Xv),.ret,ZF (19)),(true,.exit 0,Xw (y.1))])
def Qiu:G:=gG 83 [(76,Qn1),(77,Qol),(78,Qob),(79,Qmj),(80,QoC),(80,QoT),(82,QoO),(82,Qox)] (Ls [QEh])
def Qcf (x56:List Identity)(x57 x58:Int)(y1:Endpoint):OX:=Qv (QB Qiu Qit Qso) (Qsp x56 x57 x58 y1)
def Od (kk:List Identity->Int->Int->Endpoint->OX)(x56:List Identity)(x57 x58:Int)(y1:Endpoint):OX:=
 let a1:=lgt Q0 x56 (Int.toNat x58)
 br (ilt x58 x57) (br (cIx x56 x58) (br (Uj (a1.1) ((a1.2).1) (((a1.2).2).1)) (br (!(YV (a1.1) ((a1.2).1) (((a1.2).2).1))) (some (.ret,ZF 19)) (kk x56 x57 (Qg .i64 x58 1) y1)) none) none) (some (.exit 0,Xw y1))
def Qcg (x56:List Identity)(x57 x58:Int)(y1:Endpoint):OX:=br (!(x56.drop x58.toNat).all Xv) (some (.ret,ZF (19)))<|some (.exit 0,Xw (y1))
theorem Qsq (x56:List Identity)(x57 x58:Int)(y1:Endpoint):Qcf x56 x57 x58 y1=Od Qcf x56 x57 x58 y1:=lnT (x:=Od (fun x56 x57 x58 y1=>some (.normal,Qsp x56 x57 x58 y1)) x56 x57 x58 y1) (by simp only [Od,nxA];rfl)
def r_f46 (p0:Endpoint):OV:=
 let a1:=(((((((p0).2).2).2).2).2).2)
 br (Ja p0.1) (br (!(XH p0.1)) (some (.t tI 19,[])) (br (ilt p0.2.1 1) (some (.t tI 19,[])) (br (igt p0.2.1 p0.2.2.1) (some (.t tI 19,[])) (br (igt p0.2.2.1 4) (some (.t tI 19,[])) (br (JU p0.2.2.2.1) (br (!(ZA p0.2.2.2.1)) (some (.t tI 19,[])) (br (igt (Qa p0.2.2.2.2.2.1) 4) (some (.t tI 19,[])) (br (igt (Qa p0.2.2.2.2.2.2.1) 16) (some (.t tI 19,[])) (br (JU p0.2.2.2.2.2.2.1) (br (!(Y0 p0.2.2.2.2.2.2.1)) (some (.t tI 19,[])) (br (JU p0.2.2.2.2.2.2.2.1) (br (!(Y0 p0.2.2.2.2.2.2.2.1)) (some (.t tI 19,[])) (br (Qt p0.2.2.2.2.2.1 (Qa p0.2.2.2.2.2.1) (0:Int)&&p0.2.2.2.2.2.1.all Jm) (br (!(p0.2.2.2.2.2.1.drop (0:Int).toNat).all Xv) (some (.t tI (19),[])) (br (JU (a1.1)) (br (U8 (a1.1)) (some (.t tI 19,[])) (br (JU ((a1.2).1)) (br (U9 ((a1.2).1)) (some (.t tI 19,[])) (some (.t tI 0,[]))) none)) none)) none)) none)) none)))) none))))) none
theorem QEi (x56:List Identity)(x57 x58:Int)(y1:Endpoint)(h:(Qt x56 x57 x58&&x56.all Jm)=true):Qcf x56 x57 x58 y1=Qcg x56 x57 x58 y1:=by
 simp only [Bc,Bg] at h
 obtain ⟨h0,hc⟩:=h
 obtain ⟨rfl,h3,k,rfl,hk⟩:=Jy h0
 clear h0
 refine QR x56 (fun k=>Qcf x56 (x56.length:Int) (k:Int) y1=Qcg x56 (x56.length:Int) (k:Int) y1) ?_ ?_ k hk
 ·rw [Qsq]
  simp only [Od,Qcg,QC,BV,B2,Qf,Bd,BQ,Dw,BG]
 ·intro k hk ih
  rw [Qsq]
  have hx:Uj x56[k].1 x56[k].2.1 x56[k].2.2.1=true:=hc x56[k] (Bw hk)
  simp only [Od,QC,QI,hk,Bv,Qc,Bd,QQ (show k<4611686018427387904 by omega),QP (y:=Q0) hk,hx,ih]
  simp only [Qcg,Bd,Bj hk,BU,Xv]
  cases YV x56[k].1 x56[k].2.1 x56[k].2.2.1<;>rfl
theorem QEj:LO Qiu Qit Qso 0:=QH (s:=Qce) fun x y h _ q=>by simp only [QF,QG] at q;exact (QEi x.2.1 x.2.2.1 x.2.2.2.1 y.1 h).trans q
theorem s_f46 (e:Endpoint)(h:QU e=true):r_f46 e=some (.t tI (J2 e),[]):=by
 simp only [QU,Bc,Ba] at h
 obtain ⟨⟨h1,h2,h3,h4,h5⟩,h6⟩:=h
 have q2:JU (Qu e)=true:=Be h2
 have q4:JU (Q3 e)=true:=Be h4
 have q5:JU (Q6 e)=true:=Be h5
 unfold J2
 simp only [r_f46,h1,q2,q4,q5,Jz h3,h6,B3,Qc,Bu,BA,U8,U9]
 refine br9 (fun g=>by simp only [Br] at g;simp [QT,g]) fun g1=>br9 (fun g=>by simp [QT,g]) fun g2=>br9 (fun g=>by simp [QT,g]) fun g3=>br9 (fun g=>by simp [QT,g]) fun g4=>br9 (fun g=>by simp only [Br] at g;simp [QT,g]) fun g5=>br9 (fun g=>by simp [QT,g]) fun g6=>br9 (fun g=>by simp [QT,g]) fun g7=>br9 (fun g=>by simp only [Br] at g;simp [QT,g]) fun g8=>br9 (fun g=>by simp only [Br] at g;simp [QT,g]) fun g9=>br9 (fun g=>by simp only [Br] at g;simp [QT,g]) fun g10=>br9 (fun g=>by simp only [Br] at g;simp [QT,g]) fun g11=>br9 (fun g=>by simp only [Br] at g;simp [QT,g]) fun g12=> ?_
 simp only [Bool.not_eq_false'] at g1 g5 g8 g9 g10 g11 g12
 have:QT e=true:=by
  simp only [QT,g1,g2,g3,g4,g5,g6,g7,g8,g9,g10,g11,g12,Bool.not_false,B3]
 rw [this]
 rfl
def Qch:Ent:=Qk (.pr Qo .nil) (fun x=>(QU x.1)) (fun x=>(.t tI (J2 x.1)))
theorem Qiv:EM 46 Qch:=mS (lk:=lkL (lkc QEj lkn)) Qiu Qsn [((.t 2),some tI)] false (gB (gD ms_f76 (gD ms_f77 (gD ms_f78 (gD ms_f79 (gD QAF (gD QAV (gD QAS (gD QAC gN))))))))) fun m=>Qm m fun x hok=>kT (s_f46 x.1 hok)
abbrev Qci:Sh:=⟨[(1,.ptr 1 0),(3,.ty tI)],[(1,.box Qo)]⟩
abbrev Qcj:Sh:=⟨[(1,.ptr 1 0),(6,.ty tI)],[(1,.box Qo)]⟩
abbrev Qck:Sh:=⟨[(1,.ptr 1 0),(7,.ty tI)],[(1,.box Qo)]⟩
abbrev Qcl:Sh:=⟨[(1,.ptr 1 0),(8,.ty tI)],[(1,.box Qo)]⟩
abbrev Qsr:Sh:=⟨[],[]⟩
def Qiw:Fg:=Qci.f
def Qix:Fg:=Qcj.f
def Qiy:Fg:=Qck.f
def Qiz:Fg:=Qcl.f
def Oe:TC:=aF Tryz.f61 [(58,pL 0 Qiw),(931,.fg Oc.f),(3730,pD [(0,[]),(1,[]),(2,[]),(3,[1]),(4,[1]),(5,[]),(6,[]),(7,[1]),(8,[1]),(9,[]),(10,[]),(11,[]),(12,[]),(13,[])] (.of [0,1,2,3,4,5,6,7,8,9,10,11,12,13])),(14925,.fg F7.f),(122,pL 1 Qix),(1955,.fg Oc.f),(3912,pD [(0,[1]),(1,[1]),(2,[]),(3,[]),(4,[]),(5,[]),(6,[1]),(7,[1]),(8,[]),(9,[]),(10,[]),(11,[]),(12,[1]),(13,[1]),(14,[]),(15,[]),(16,[]),(17,[]),(18,[]),(19,[])] (.of [0,1,2,3,4,5,6,7,8,9,10,11,12,13,14,15,16,17,18,19])),(15653,.fg F7.f),(250,pL 2 Qiy),(4003,.fg Oc.f),(8008,pD [(0,[1]),(1,[1]),(2,[]),(3,[]),(4,[]),(5,[]),(6,[]),(7,[1]),(8,[1]),(9,[]),(10,[]),(11,[]),(12,[]),(13,[]),(14,[]),(15,[]),(16,[]),(17,[]),(18,[1]),(19,[1]),(20,[]),(21,[]),(22,[]),(23,[]),(24,[1]),(25,[1]),(26,[]),(27,[]),(28,[]),(29,[]),(30,[]),(31,[])] (.of [0,1,2,3,4,5,6,7,8,9,10,11,12,13,14,15,16,17,18,19,20,21,22,23,24,25,26,27,28,29,30,31])),(32037,.fg F7.f),(506,pL 3 Qiz),(8099,.fg Qsr.f),(16200,pD [(0,[1]),(1,[1]),(2,[]),(3,[]),(4,[]),(5,[]),(6,[]),(7,[]),(8,[]),(9,[]),(10,[]),(11,[1]),(12,[1]),(13,[]),(14,[]),(15,[]),(16,[]),(17,[1]),(18,[1]),(19,[]),(20,[]),(21,[]),(22,[]),(23,[]),(24,[])] (.of [0,1,2,3,4,5,6,7,8,9,10,11,12,13,14,15,16,17,18,19,20,21,22,23,24])),(64805,.fg F7.f)]
def Qss:TC:=lb 0 Oe
def Qst:TC:=lb 1 Oe
def Qsu:TC:=lb 2 Oe
def Qsv:TC:=lb 3 Oe
def Qsw (x3:Int)(y1:Endpoint):VS:=Qci.st ((),x3,()) (y1,())
def Qsx (x6:Int)(y1:Endpoint):VS:=Qcj.st ((),x6,()) (y1,())
def Qsy (x7:Int)(y1:Endpoint):VS:=Qck.st ((),x7,()) (y1,())
def Qsz (x8:Int)(y1:Endpoint):VS:=Qcl.st ((),x8,()) (y1,())
def QiA  : VS:=Qsr.st () ()
def QEk:VS->Option (Bool×List (Bool×Exit×VS)):=mkL Qci (fun x y=>(decide (0<=x.2.1/\x.2.1<=(Qu y.1).length/\(Qu y.1).length<=100000))) (fun x y=>[((!Ym (Qu y.1) x.2.1.toNat),.ret,ZF (19)),(true,.exit 0,Xw (y.1))])
def QEl:VS->Option (Bool×List (Bool×Exit×VS)):=mkL Qcj (fun x y=>(decide (0<=x.2.1/\x.2.1<=(QA y.1).length/\(QA y.1).length<=100000)&&(QA y.1).all Jm)) (fun x y=>[((!((QA y.1).drop x.2.1.toNat).all Xv),.ret,ZF (19)),(true,.exit 2,Xw (y.1))])
def QEm:VS->Option (Bool×List (Bool×Exit×VS)):=mkL Qck (fun x y=>(decide (0<=x.2.1/\x.2.1<=(Q3 y.1).length/\(Q3 y.1).length<=100000))) (fun x y=>[((!(((Q3 y.1).drop x.2.1.toNat).all JY&&Yc (Q3 y.1) x.2.1.toNat)),.ret,ZF (19)),(true,.exit 4,Xw (y.1))])
def QEn:VS->Option (Bool×List (Bool×Exit×VS)):=mkL Qcl (fun x y=>(decide (0<=x.2.1/\x.2.1<=(Q6 y.1).length/\(Q6 y.1).length<=100000))) (fun x y=>[((!(((Q6 y.1).drop x.2.1.toNat).all XI&&Yc (Q6 y.1) x.2.1.toNat)),.ret,ZF (19)),(true,.exit 6,QiA)])
def WU:G:=gG 176 [(64,QvQ),(98,Qn6),(99,QvX),(100,Qmp),(101,QdJ)] (Ls [QEk,QEl,QEm,QEn])
def Qcm (x3:Int)(y1:Endpoint):OX:=Qv (QB WU Qiw Qss) (Qsw x3 y1)
def Of (kk:Int->Endpoint->OX)(x3:Int)(y1:Endpoint):OX:=
 let a1:=lgt tI y1.2.2.2.1 (Int.toNat x3)
 br (ilt x3 (Qa y1.2.2.2.1)) (br (cIx y1.2.2.2.1 x3) (br (ine ((QW a1).2) 0) (some (.ret,ZF 19)) (br (cSl y1.2.2.2.1 0 x3 ((List.length y1.2.2.2.1:Nat):Int)) (br (cIx y1.2.2.2.1 x3) (br (Jk (lsl y1.2.2.2.1 0 x3) a1) (br (QO (lsl y1.2.2.2.1 0 x3) a1) (some (.ret,ZF 19)) (kk (Qg .i64 x3 1) y1)) none) none) none)) none) (some (.exit 0,Xw y1))
def Qcn (x3:Int)(y1:Endpoint):OX:=br (!Ym (Qu y1) x3.toNat) (some (.ret,ZF (19)))<|some (.exit 0,Xw (y1))
theorem QsA (x3:Int)(y1:Endpoint):Qcm x3 y1=Of Qcm x3 y1:=lnT (x:=Of (fun x3 y1=>some (.normal,Qsw x3 y1)) x3 y1) (by simp only [Of,nxA];rfl)
def Qco (x6:Int)(y1:Endpoint):OX:=Qv (QB WU Qix Qst) (Qsx x6 y1)
def Og (kk:Int->Endpoint->OX)(x6:Int)(y1:Endpoint):OX:=
 let a1:=lgt Q0 y1.2.2.2.2.2.1 (Int.toNat x6)
 let a2:=cIx y1.2.2.2.2.2.1 x6
 br (ilt x6 (Qa y1.2.2.2.2.2.1)) (br a2 (br a2 (br a2 (br (Uj (a1.1) ((a1.2).1) (((a1.2).2).1)) (br (!(YV (a1.1) ((a1.2).1) (((a1.2).2).1))) (some (.ret,ZF 19)) (kk (Qg .i64 x6 1) y1)) none) none) none) none) (some (.exit 2,Xw y1))
def Qcp (x6:Int)(y1:Endpoint):OX:=br (!((QA y1).drop x6.toNat).all Xv) (some (.ret,ZF (19)))<|some (.exit 2,Xw (y1))
theorem QsB (x6:Int)(y1:Endpoint):Qco x6 y1=Og Qco x6 y1:=lnT (x:=Og (fun x6 y1=>some (.normal,Qsx x6 y1)) x6 y1) (by simp only [Og,nxA];rfl)
def Qcq (x7:Int)(y1:Endpoint):OX:=Qv (QB WU Qiy Qsu) (Qsy x7 y1)
def Oh (kk:Int->Endpoint->OX)(x7:Int)(y1:Endpoint):OX:=
 let a1:=lgt tI y1.2.2.2.2.2.2.1 (Int.toNat x7)
 let a2:=cIx y1.2.2.2.2.2.2.1 x7
 br (ilt x7 (Qa y1.2.2.2.2.2.2.1)) (br a2 (br (ilt a1 0) (some (.ret,ZF 19)) (br a2 (br (igt a1 2147483648) (some (.ret,ZF 19)) (br (igt x7 0) (br (cIx y1.2.2.2.2.2.2.1 (Jc .i64 x7 1)) (br a2 (br (ige (lgt tI y1.2.2.2.2.2.2.1 (Int.toNat (Jc .i64 x7 1))) a1) (some (.ret,ZF 19)) (kk (Qg .i64 x7 1) y1)) none) none) (kk (Qg .i64 x7 1) y1))) none)) none) (some (.exit 4,Xw y1))
def Qcr (x7:Int)(y1:Endpoint):OX:=br (!(((Q3 y1).drop x7.toNat).all JY&&Yc (Q3 y1) x7.toNat)) (some (.ret,ZF (19)))<|some (.exit 4,Xw (y1))
theorem QsC (x7:Int)(y1:Endpoint):Qcq x7 y1=Oh Qcq x7 y1:=lnT (x:=Oh (fun x7 y1=>some (.normal,Qsy x7 y1)) x7 y1) (by simp only [Oh,nxA];rfl)
def Qcs (x8:Int)(y1:Endpoint):OX:=Qv (QB WU Qiz Qsv) (Qsz x8 y1)
def Oi (kk:Int->Endpoint->OX)(x8:Int)(y1:Endpoint):OX:=
 let a1:=lgt tI y1.2.2.2.2.2.2.2.1 (Int.toNat x8)
 let a2:=cIx y1.2.2.2.2.2.2.2.1 x8
 br (ilt x8 (Qa y1.2.2.2.2.2.2.2.1)) (br a2 (br (ine (Z5 a1) 1) (some (.ret,ZF 19)) (br (igt x8 0) (br (cIx y1.2.2.2.2.2.2.2.1 (Jc .i64 x8 1)) (br a2 (br (ige (lgt tI y1.2.2.2.2.2.2.2.1 (Int.toNat (Jc .i64 x8 1))) a1) (some (.ret,ZF 19)) (kk (Qg .i64 x8 1) y1)) none) none) (kk (Qg .i64 x8 1) y1))) none) (some (.exit 6,QiA))
def Qct (x8:Int)(y1:Endpoint):OX:=br (!(((Q6 y1).drop x8.toNat).all XI&&Yc (Q6 y1) x8.toNat)) (some (.ret,ZF (19)))<|some (.exit 6,QiA)
theorem QsD (x8:Int)(y1:Endpoint):Qcs x8 y1=Oi Qcs x8 y1:=lnT (x:=Oi (fun x8 y1=>some (.normal,Qsz x8 y1)) x8 y1) (by simp only [Oi,nxA];rfl)
def r_f61 (p0:Endpoint):OV:=br (Ja p0.1) (br (!(XH p0.1)) (some (.t tI 19,[])) (br (ilt p0.2.1 1) (some (.t tI 19,[])) (br (igt p0.2.1 p0.2.2.1) (some (.t tI 19,[])) (br (igt p0.2.2.1 4) (some (.t tI 19,[])) (br (igt (Qa p0.2.2.2.1) 16) (some (.t tI 19,[])) (br (igt (Qa p0.2.2.2.2.2.1) 4) (some (.t tI 19,[])) (br (igt (Qa p0.2.2.2.2.2.2.1) 16) (some (.t tI 19,[])) (br (decide (0<=(0:Int)/\(0:Int)<=(Qu p0).length/\(Qu p0).length<=100000)) (br (!Ym (Qu p0) (0:Int).toNat) (some (.t tI (19),[])) (br (decide (0<=(0:Int)/\(0:Int)<=(QA (p0)).length/\(QA (p0)).length<=100000)&&(QA (p0)).all Jm) (br (!((QA (p0)).drop (0:Int).toNat).all Xv) (some (.t tI (19),[])) (br (decide (0<=(0:Int)/\(0:Int)<=(Q3 (p0)).length/\(Q3 (p0)).length<=100000)) (br (!(((Q3 (p0)).drop (0:Int).toNat).all JY&&Yc (Q3 (p0)) (0:Int).toNat)) (some (.t tI (19),[])) (br (decide (0<=(0:Int)/\(0:Int)<=(Q6 (p0)).length/\(Q6 (p0)).length<=100000)) (br (!(((Q6 (p0)).drop (0:Int).toNat).all XI&&Yc (Q6 (p0)) (0:Int).toNat)) (some (.t tI (19),[])) (some (.t tI 0,[]))) none)) none)) none)) none)))))))) none
theorem QEo (x3:Int)(y1:Endpoint)(h:(decide (0<=x3/\x3<=(Qu y1).length/\(Qu y1).length<=100000))=true):Qcm x3 y1=Qcn x3 y1:=by
 simp only [Ba] at h
 obtain ⟨h0,h1,h2⟩:=h
 obtain ⟨k,rfl⟩:=Bq h0
 refine QR (Qu y1) (fun k=>Qcm (k:Int) y1=Qcn (k:Int) y1) ?_ ?_ k (by omega)
 ·rw [QsA]
  simp only [Of,Qcn,show ilt ((Qu y1).length:Int) (Qa (Qu y1))=false from Bn (by simp only [Qa];omega),Qf,Bd,Qod,BG]
 ·intro k hk ih
  rw [QsA]
  have hi:Jk ((Qu y1).take k) (Qu y1)[k]=true:=Be (by rw [B7];omega)
  simp only [Of,show ilt (k:Int) (Qa (Qu y1))=true from Be (by simp only [Qa];omega),QI,hk,Bv,Qc,Bd,QQ (show k<4611686018427387904 by omega),QP (y:=tI) hk,ih,Qof,Qog (show k<=(Qu y1).length by omega),hi,GD]
  simp only [Qcn,Bd,Qoe hk]
  cases ieq (QW (Qu y1)[k]).2 0<;>cases QO ((Qu y1).take k) (Qu y1)[k]<;>rfl
theorem QEp (x6:Int)(y1:Endpoint)(h:(decide (0<=x6/\x6<=(QA y1).length/\(QA y1).length<=100000)&&(QA y1).all Jm)=true):Qco x6 y1=Qcp x6 y1:=by
 simp only [Bc,Ba,Bg] at h
 obtain ⟨⟨h0,h1,h2⟩,hc⟩:=h
 obtain ⟨k,rfl⟩:=Bq h0
 refine QR (QA y1) (fun k=>Qco (k:Int) y1=Qcp (k:Int) y1) ?_ ?_ k (by omega)
 ·rw [QsB]
  simp only [Og,Qcp,show ilt ((QA y1).length:Int) (Qa (QA y1))=false from Bn (by simp only [Qa];omega),Qf,Bd,BQ,Dw,BG]
 ·intro k hk ih
  rw [QsB]
  have hx:Uj (QA y1)[k].1 (QA y1)[k].2.1 (QA y1)[k].2.2.1=true:=hc (QA y1)[k] (Bw hk)
  simp only [Og,show ilt (k:Int) (Qa (QA y1))=true from Be (by simp only [Qa];omega),QI,hk,Bv,Qc,Bd,QQ (show k<4611686018427387904 by omega),QP (y:=Q0) hk,hx,ih]
  simp only [Qcp,Bd,Bj hk,BU,Xv]
  cases YV (QA y1)[k].1 (QA y1)[k].2.1 (QA y1)[k].2.2.1<;>rfl
theorem QEq (x7:Int)(y1:Endpoint)(h:(decide (0<=x7/\x7<=(Q3 y1).length/\(Q3 y1).length<=100000))=true):Qcq x7 y1=Qcr x7 y1:=by
 simp only [Ba] at h
 obtain ⟨h0,h1,h2⟩:=h
 obtain ⟨k,rfl⟩:=Bq h0
 refine QR (Q3 y1) (fun k=>Qcq (k:Int) y1=Qcr (k:Int) y1) ?_ ?_ k (by omega)
 ·rw [QsC]
  simp only [Oh,Qcr,show ilt ((Q3 y1).length:Int) (Qa (Q3 y1))=false from Bn (by simp only [Qa];omega),Qf,Bd,BQ,Dw,Qgm,B3,BG]
 ·intro k hk ih
  rw [QsC]
  simp only [Oh,show ilt (k:Int) (Qa (Q3 y1))=true from Be (by simp only [Qa];omega),QI,hk,Bv,Qc,Bd,QQ (show k<4611686018427387904 by omega),QP (y:=tI) hk,ih,Qgo hk (show k<4611686018427387904 by omega)]
  simp only [Qcr,Bd,Qgn hk,Bj hk,BU,JY]
  cases ilt (Q3 y1)[k] 0<;>cases igt (Q3 y1)[k] 2147483648<;>cases decide (k=0)||ilt ((Q3 y1).getD (k-1) 0) (Q3 y1)[k]<;>simp [Qc,Qf]
theorem QEr (x8:Int)(y1:Endpoint)(h:(decide (0<=x8/\x8<=(Q6 y1).length/\(Q6 y1).length<=100000))=true):Qcs x8 y1=Qct x8 y1:=by
 simp only [Ba] at h
 obtain ⟨h0,h1,h2⟩:=h
 obtain ⟨k,rfl⟩:=Bq h0
 refine QR (Q6 y1) (fun k=>Qcs (k:Int) y1=Qct (k:Int) y1) ?_ ?_ k (by omega)
 ·rw [QsD]
  simp only [Oi,Qct,show ilt ((Q6 y1).length:Int) (Qa (Q6 y1))=false from Bn (by simp only [Qa];omega),Qf,Bd,BQ,Dw,Qgm,B3,BG]
 ·intro k hk ih
  rw [QsD]
  simp only [Oi,show ilt (k:Int) (Qa (Q6 y1))=true from Be (by simp only [Qa];omega),QI,hk,Bv,Qc,Bd,QQ (show k<4611686018427387904 by omega),QP (y:=tI) hk,ih,Qgo hk (show k<4611686018427387904 by omega),GD]
  simp only [Qct,Bd,Qgn hk,Bj hk,BU,XI]
  cases ieq (Z5 (Q6 y1)[k]) 1<;>cases decide (k=0)||ilt ((Q6 y1).getD (k-1) 0) (Q6 y1)[k]<;>simp [Qc,Qf]
theorem QEs:LO WU Qiw Qss 0:=QH (s:=Qci) fun x y h _ q=>by simp only [QF,QG] at q;exact (QEo x.2.1 y.1 h).trans q
theorem QEt:LO WU Qix Qst 1:=QH (s:=Qcj) fun x y h _ q=>by simp only [QF,QG] at q;exact (QEp x.2.1 y.1 h).trans q
theorem QEu:LO WU Qiy Qsu 2:=QH (s:=Qck) fun x y h _ q=>by simp only [QF,QG] at q;exact (QEq x.2.1 y.1 h).trans q
theorem QEv:LO WU Qiz Qsv 3:=QH (s:=Qcl) fun x y h _ q=>by simp only [QF,QG] at q;exact (QEr x.2.1 y.1 h).trans q
theorem s_f61 (e:Endpoint)(h:QU e=true):r_f61 e=some (.t tI (J2 e),[]):=by
 simp only [QU,Bc,Ba] at h
 obtain ⟨⟨h1,h2,h3,h4,h5⟩,h6⟩:=h
 have q2:decide ((0:Int)<=0/\(0:Int)<=(Qu e).length/\(Qu e).length<=100000)=true:=Be (by omega)
 have q3:decide ((0:Int)<=0/\(0:Int)<=(QA e).length/\(QA e).length<=100000)=true:=Be (by omega)
 have q4:decide ((0:Int)<=0/\(0:Int)<=(Q3 e).length/\(Q3 e).length<=100000)=true:=Be (by omega)
 have q5:decide ((0:Int)<=0/\(0:Int)<=(Q6 e).length/\(Q6 e).length<=100000)=true:=Be (by omega)
 unfold J2
 simp only [r_f61,h1,q2,q3,q4,q5,h6,B3,Qc,Bu,BA]
 refine br9 (fun g=>by simp only [Br] at g;simp [QT,g]) fun g1=>br9 (fun g=>by simp [QT,g]) fun g2=>br9 (fun g=>by simp [QT,g]) fun g3=>br9 (fun g=>by simp [QT,g]) fun g4=>br9 (fun g=> ?_) fun g5=>br9 (fun g=>by simp [QT,g]) fun g6=>br9 (fun g=>by simp [QT,g]) fun g7=>br9 (fun g=>by simp only [Br] at g;have:ZA (Qu e)=false:=g;simp [QT,this]) fun g8=>br9 (fun g=>by simp only [Br] at g;simp [QT,g]) fun g9=>br9 (fun g=> ?_) fun g10=>br9 (fun g=> ?_) fun g11=> ?_
 ·have:ZA (Qu e)=false:=by
   cases hs:ZA (Qu e) with
   |false=>rfl
   |true=>
    have h16:e.2.2.2.1.length<=16:=Qsm hs
    simp only [igt,Qa,Ba] at g
    omega
  simp [QT,this]
 ·simp only [Br,Bool.and_eq_false_iff] at g
  rcases g with g|g
  ·simp [QT,g]
  ·have:Y0 (Q3 e)=false:=g
   simp [QT,this]
 ·simp only [Br,Bool.and_eq_false_iff] at g
  rcases g with g|g
  ·simp [QT,g]
  ·have:Y0 (Q6 e)=false:=g
   simp [QT,this]
 simp only [Bool.not_eq_false',Bc] at g1 g8 g9 g10 g11
 have k1:ZA (Qu e)=true:=g8
 have k2:Y0 (Q3 e)=true:=g10.2
 have k3:Y0 (Q6 e)=true:=g11.2
 have:QT e=true:=by
  simp only [QT,g1,g2,g3,g4,k1,g6,g7,k2,k3,g9,g10.1,g11.1,Bool.not_false,B3]
 rw [this]
 rfl
def Qcu:Ent:=Qk (.pr Qo .nil) (fun x=>(QU x.1)) (fun x=>(.t tI (J2 x.1)))
theorem QiB:EM 61 Qcu:=mS (lk:=lkL (lkc QEs (lkc QEt (lkc QEu (lkc QEv lkn))))) WU Oe [((.t 2),some tI)] false (gB (gD ms_f64 (gD ms_f98 (gD ms_f99 (gD QyV (gD Qkl gN)))))) fun m=>Qm m fun x hok=>kT (s_f61 x.1 hok)
end
end Go.Proofs.YtmjnnemhoeolgaaGreat.K
noncomputable section
namespace Go.Proofs.YtmjnnemhoeolgaaGreat.K
open Go.RowKit
def Fh (b:Ty):VO->VO
 |.box (.ag [.t b' x])=>if b'=b/\b'.row=false then .box (.t b' x) else .box (.ag [.t b' x])
 |o=>o
def Un:List Ty->List VO->List VO
 |b::bs,o::os=>Fh b o::Un bs os
 |_,os=>os
def Fi (l:List SV)(bs:List Ty)(ok:SVt l->Y4 bs->Bool)(F:SVt l->Y4 bs->V):Ent:=fun args objs=>ZM l bs ok F args (Un bs objs)
section
variable {P:Program}{X:Nat->Nat->Prop}{w:World}{σ:Pl}
theorem Qz2 {b:Ty}{o:VO}{k:Nat}(h:OAt X w σ k o):OAt X w σ k (Fh b o):=by
 unfold Fh
 split
 ·rename_i b' x
  split
  ·rename_i hq
   obtain ⟨g,ty,vs,h1,h2,h3,h4⟩:=h
   refine ⟨g,ty,vs,h1,h2, ?_,h4⟩
   have e1:(V.ag [.t b' x]).d.cells=[b'.d x]:=rfl
   have e2:(V.t b' x).d.cells=[b'.d x]:=by
    show (b'.d x).cells=_
    rw [Ty.d_cells,Ty.d_one b' x hq.2]
   rw [e2, ← e1]
   exact h3
  ·exact h
 ·exact h
theorem Qz3 {b:Ty}{o:VO}(h:o≠ .no):Fh b o≠ .no:=by
 unfold Fh
 split
 ·split<;>simp
 ·exact h
theorem Qaw: ∀ (bs:List Ty) (os:List VO),(Un bs os).length=os.length
 | [],os=>rfl
 |b::bs,[]=>rfl
 |b::bs,o::os=>by rw [Un,Bt,Bt,Qaw bs os]
theorem QnQ: ∀ (bs:List Ty) (os:List VO) (j:Nat) (o:VO),(Un bs os)[j]? = some o→ ∃ o',os[j]? = some o'/\(o=o'∨ ∃ b,o=Fh b o')
 | [],os,j,o,h=>⟨o,h,.inl rfl⟩
 |b::bs,[],j,o,h=>⟨o,h,.inl rfl⟩
 |b::bs,o1::os,0,o,h=>by
  simp only [Un,BZ,Bb] at h
  exact ⟨o1,rfl,.inr ⟨b,h.symm⟩⟩
 |b::bs,o1::os,j+1,o,h=>by
  simp only [Un,BS] at h
  obtain ⟨o',h1,h2⟩:=QnQ bs os j o h
  exact ⟨o',by rw [BS];exact h1,h2⟩
theorem Ih {f:FuncId}{l:List SV}{bs:List Ty}{ok:SVt l->Y4 bs->Bool}{F:SVt l->Y4 bs->V}(hM:Qz P f (Qy (ZM l bs ok F))):Qz P f (Qy (Fi l bs ok F)):=by
 intro args objs r os hF X w σ vs hfin hl hc
 have:=hM args (Un bs objs) r os hF X w σ vs hfin ⟨fun j o hj=>by
  obtain ⟨o',h1,h2⟩:=QnQ bs objs j o hj
  obtain ⟨g1,g2⟩:=hl.at_ j o' h1
  rcases h2 with rfl|⟨b,rfl⟩
  ·exact ⟨g1,g2⟩
  ·exact ⟨Qz2 g1,Qz3 g2⟩,fun i j b hij hi hj=>hl.apart i j b hij (by rwa [Qaw] at hi) (by rwa [Qaw] at hj)⟩ hc
 rw [Qaw] at this
 exact this
end
end Go.Proofs.YtmjnnemhoeolgaaGreat.K
noncomputable section
namespace Go.Proofs.YtmjnnemhoeolgaaGreat.K
open Go.RowKit
noncomputable section
theorem QnR {l:List Certificate}(h:Js l=true){k:Nat}(hk:k<l.length):JM l[k]=true:=by
 simp only [Js,Bc,Bg] at h
 exact h.2 _ (Bw hk)
theorem QnS {l:List Certificate}(h:Js l=true):l.length<=100000:=by
 simp only [Js,Bc,Ba] at h
 exact h.1
abbrev cAt (l:List Certificate)(k:Nat):Certificate:=l.getD k VL
theorem Qz4 {l:List Certificate}{k:Nat}(hk:k<l.length):cAt l k=l[k]:=by
 simp only [cAt,Bk,Bf hk,BI]
def pathF (l:List Certificate)(i:Int):Bool:= !ilt i 0&&(!ige i (Qa l)&&(ieq i 0||((cAt l i.toNat).2.2.2.2.2.2.2.2.1&&ige (cAt l i.toNat).2.2.2.2.2.2.2.2.2.1 (i-1))))
def Qz5 (l:List Certificate)(k:Nat):Int:=if k+1<l.length then (cAt l (k+1)).2.2.2.2.1 else (Wr (cAt l k)).1
def Qz6 (l:List Certificate)(e:Int)(k:Nat):Bool:=
 bif ieq e 11 then decide (k+1<l.length)&&sne (cAt l k).2.1 (cAt l (k+1)).2.2.1
 else bif ieq e 15 then !pathF l k else !QyM (cAt l k) (Qz5 l k)
def failUp (l:List Certificate)(e:Int)(k:Nat):Bool:=(List.range' k (l.length-k)).any (Qz6 l e)
def Qgd (l:List Certificate)(e:Int):Bool:=failUp l e 0
end
end Go.Proofs.YtmjnnemhoeolgaaGreat.K
noncomputable section
namespace Go.Proofs.YtmjnnemhoeolgaaGreat.K
open Go.RowKit
noncomputable section
-- loop 0: (x0 : (List ByteArray)) (x1 : ByteArray) (x5 : Int); out: ('ret',) (x4 : Bool); ('exit', 0)
-- loop 0: (x0 : (List Certificate)) (x1 : (List Int)) (x2 : (List Int)) (x3 : Int) (x4 : ByteArray) (x11 : (List Int)) (x12 : Int) (x13 : Int); out: ('ret',) (x10 : Int); ('exit', 2) (x0 : (List Certificate)) (x1 : (List Int)) (x2 : (List Int)) (x3 : Int) (x4 : ByteArray) (x11 : (List Int)) (x12 : Int)
-- loop 1: (x0 : (List Certificate)) (x1 : (List Int)) (x2 : (List Int)) (x3 : Int) (x4 : ByteArray) (x11 : (List Int)) (x12 : Int); out: ('ret',) (x10 : Int); ('exit', 0)
end
end Go.Proofs.YtmjnnemhoeolgaaGreat.K
noncomputable section
namespace Go.Proofs.YtmjnnemhoeolgaaGreat.K
open Go.RowKit
noncomputable section
def Yq (x:Identity)(s:Suite):Bool:=ieq s.2.2.2.1.1 0||ieq x.1.1 s.2.2.2.1.1
def QE5:TC:=aF Tryz.f173 []
def g_f173:G:=gG 17 [] (fun _ _=>none)
def Qs4 (p0:Identity)(d0:Suite):OV:=br (ieq d0.2.2.2.1.1 0) (some (.t .bool true,[.box (.t Q2 d0)])) (some (.t .bool (ieq p0.1.1 d0.2.2.2.1.1),[.box (.t Q2 d0)]))
theorem s_f173 (x:Identity)(s:Suite):Qs4 x s=some (.t .bool (Yq x s),[.box (.t Q2 s)]):=by
 simp only [Qs4]
 unfold Yq
 cases ieq s.2.2.2.1.1 0<;>rfl
def Qs5:Ent:=Fi [.ty Q0,.ptr 50000 0] [Q2] (fun x d=>true) (fun x d=>(.t .bool (Yq x.1 d.1)))
theorem QE6:EM 173 Qs5:=mS g_f173 QE5 [((.t 3),some .bool)] false (gB gN) fun m=>Ih (ZC m fun x d _=>kT (s_f173 x.1 d.1))
def QcC (l:List Identity)(_s:Suite):Bool:=decide (l.length<=100000)
def Gt (l:List Identity)(s:Suite):Int:=match QD (fun x=>Yq x s) l with|some k=>(k:Int)|none=> -1
abbrev QcD:Sh:=⟨[(0,.ty (.sl Q0)),(1,.fn 173 [(50000,0)]),(7,.ty tI),(8,.ty tI)],[(50000,.box Q2)]⟩
abbrev Qs6:Sh:=⟨[(4,.ty tI)],[(50000,.box Q2)]⟩
abbrev Qs7:Sh:=⟨[],[(50000,.box Q2)]⟩
def QiW:Fg:=QcD.f
def Qs8:TC:=aF Tryz.f172 [(26,pL 0 QiW),(421,.fg Qs7.f),(13517,.fg Qs6.f)]
def Qs9:TC:=lb 0 Qs8
def Qta (x0:List Identity)(x7 x8:Int)(Qb:Suite):VS:=QcD.st (x0,(),x7,x8,()) (Qb,())
def QiX (x4:Int)(Qb:Suite):VS:=Qs6.st (x4,()) (Qb,())
def QiY (Qb:Suite):VS:=Qs7.st () (Qb,())
def QE7:VS->Option (Bool×List (Bool×Exit×VS)):=mkL QcD (fun x y=>(Qt x.1 x.2.2.1 x.2.2.2.1)) (fun x y=>[(((QD (fun x=>Yq x y.1) (x.1.drop x.2.2.2.1.toNat)).isSome),.ret,QiX (x.2.2.2.1+((QD (fun x=>Yq x y.1) (x.1.drop x.2.2.2.1.toNat)).getD 0:Nat)) (y.1)),(true,.exit 0,QiY (y.1))])
def QiZ:G:=gG 19 [(173,Qs5)] (Ls [QE7])
def QcE (x0:List Identity)(x7 x8:Int)(Qb:Suite):OX:=Qv (QB QiZ QiW Qs9) (Qta x0 x7 x8 Qb)
def Om (kk:List Identity->Int->Int->Suite->OX)(x0:List Identity)(x7 x8:Int)(Qb:Suite):OX:=br (ilt x8 x7) (br (cIx x0 x8) (br (Yq (lgt Q0 x0 (Int.toNat x8)) Qb) (some (.ret,QiX x8 Qb)) (kk x0 x7 (Qg .i64 x8 1) Qb)) none) (some (.exit 0,QiY Qb))
def QcF (x0:List Identity)(x7 x8:Int)(Qb:Suite):OX:=br ((QD (fun x=>Yq x Qb) (x0.drop x8.toNat)).isSome) (some (.ret,QiX (x8+((QD (fun x=>Yq x Qb) (x0.drop x8.toNat)).getD 0:Nat)) (Qb)))<|some (.exit 0,QiY (Qb))
theorem Qtb (x0:List Identity)(x7 x8:Int)(Qb:Suite):QcE x0 x7 x8 Qb=Om QcE x0 x7 x8 Qb:=lnT (x:=Om (fun x0 x7 x8 Qb=>some (.normal,Qta x0 x7 x8 Qb)) x0 x7 x8 Qb) (by simp only [Om,nxA];rfl)
def Qtc (p0:List Identity)(d0:Suite):OV:=
 let a1:=(p0.drop (0:Int).toNat)
 br (Qt p0 (Qa p0) (0:Int)) (br ((QD (fun x=>Yq x d0) a1).isSome) (some (.t tI ((0:Int)+((QD (fun x=>Yq x d0) a1).getD 0:Nat)),[.box (.t Q2 (d0))])) (some (.t tI (-1),[.box (.t Q2 (d0))]))) none
theorem QE8 (x0:List Identity)(x7 x8:Int)(Qb:Suite)(h:(Qt x0 x7 x8)=true):QcE x0 x7 x8 Qb=QcF x0 x7 x8 Qb:=by
 obtain ⟨rfl,h3,k,rfl,hk⟩:=Jy h
 clear h
 refine QR x0 (fun k=>QcE x0 (x0.length:Int) (k:Int) Qb=QcF x0 (x0.length:Int) (k:Int) Qb) ?_ ?_ k hk
 ·rw [Qtb]
  simp [Om,QcF,QC,Qf,QD]
 ·intro k hk ih
  rw [Qtb]
  simp only [Om,QC,QI,hk,Bv,Qc,Bd,QQ (show k<4611686018427387904 by omega),ih,QP (y:=Q0) hk]
  simp only [QcF,Bd,Bj hk,QD]
  cases h:(Yq x0[k] Qb) with
  |true=>simp [Qc]
  |false=>
   simp only [Qf,BK,Do]
   cases hq:QD (fun x=>Yq x Qb) (x0.drop (k+1)) with
   |none=>rfl
   |some j=>
    simp only [B0,B8,BI,Qc]
    congr 3
    omega
theorem QE9:LO QiZ QiW Qs9 0:=QH (s:=QcD) fun x y h _ q=>by simp only [QF,QG] at q;exact (QE8 x.1 x.2.2.1 x.2.2.2.1 y.1 h).trans q
theorem QFa (l:List Identity)(s:Suite)(h:QcC l s=true):Qtc l s=some (.t tI (Gt l s),[.box (.t Q2 s)]):=by
 have hl:l.length<=100000:=Bx h
 simp only [Qtc,Jz hl,Qc,Bu,BA,Gt]
 cases QD (fun x=>Yq x s) l<;>simp [Qc,Qf]
def Qtd:Ent:=Fi [.ty (.sl Q0),.fn 173 [(50000,0)]] [Q2] (fun x d=>(QcC x.1 d.1)) (fun x d=>(.t tI (Gt x.1 d.1)))
theorem QFb:EM 172 Qtd:=mS (lk:=lkL (lkc QE9 lkn)) QiZ Qs8 [((.t 4),some tI)] false (gB (gD QE6 gN)) fun m=>Ih (ZC m fun x d hok=>kT (QFa x.1 d.1 hok))
def Zh (e:Endpoint)(c:Int):Int×Bool:=bif ine (QW c).2 0 then (-1,false) else (Gt (QA e) (QW c).1,ige (Gt (QA e) (QW c).1) 0)
def Xx (e:Endpoint)(_c:Int):Bool:=decide ((QA e).length<=100000)
def QFc:TC:=aF Tryz.f136 []
def g_f136:G:=gG 23 [(124,OU),(172,Qtd)] (fun _ _=>none)
def Qte (p0:Endpoint)(p1:Int):OV:=
 let a1:=Gt p0.2.2.2.2.2.1 ((QW p1).1)
 br (ine ((QW p1).2) 0) (some (.tu [(.t tI (-1)),(.t .bool false)],[])) (br (QcC p0.2.2.2.2.2.1 ((QW p1).1)) (some (.tu [(.t tI a1),(.t .bool (ige a1 0))],[])) none)
theorem s_f136 (e:Endpoint)(c:Int)(h:Xx e c=true):Qte e c=some (.tu [.t tI (Zh e c).1,.t .bool (Zh e c).2],[]):=by
 have hk:QcC (QA e) (QW c).1=true:=h
 simp only [Qte,hk,Qc]
 unfold Zh
 cases ine (QW c).2 0<;>rfl
def Qi0:Ent:=Qk (.pr Qo (.pr tI .nil)) (fun x=>(Xx x.1 x.2.1)) (fun x=>(.tu [(.t tI ((Zh x.1 x.2.1).1)),(.t .bool ((Zh x.1 x.2.1).2))]))
theorem Qtf:EM 136 Qi0:=mS g_f136 QFc [((.t 4),some tI),((.t 5),some .bool)] false (gB (gD QdO (gD QFb gN))) fun m=>Qm m fun x hok=>kT (s_f136 x.1 x.2.1 hok)
def Gu (e:Endpoint)(o:List Int):Bool:=decide ((QA e).length<=100000/\(Qu e).length<=100000/\o.length<=100000)
def Z2 (e:Endpoint)(o:List Int)(v c:Int):Bool:=
 ieq (QW c).2 0&&(ige v (QW c).1.2.2.2.2.2.2.1&&(ige (QW c).1.2.2.2.2.2.2.2.1 v&&(QO o c&&(QO (Qu e) c&&(Zh e c).2))))
abbrev tkE (t:Talk):Endpoint:=t.1
abbrev tkV (t:Talk):Int:=t.2.1
abbrev tkO (t:Talk):List Int:=t.2.2.1
def UC (t:Talk)(c:Int):Bool:=Z2 (tkE t) (tkO t) (tkV t) c
def WW (t:Talk)(_c:Int):Bool:=Gu (tkE t) (tkO t)
def QFd:TC:=aF Tryz.f135 []
def g_f135:G:=gG 53 [(124,OU),(125,Qai),(136,Qi0)] (fun _ _=>none)
def Qtg (p0:Talk)(p1:Int):OV:=
 let a1:=((((((((QW p1).1).2).2).2).2).2).2)
 br (ine ((QW p1).2) 0) (some (.t .bool false,[])) (br (ilt p0.2.1 (a1.1)) (some (.t .bool false,[])) (br (igt p0.2.1 ((a1.2).1)) (some (.t .bool false,[])) (br (Jk p0.2.2.1 p1) (br (!(QO p0.2.2.1 p1)) (some (.t .bool false,[])) (br (Jk p0.1.2.2.2.1 p1) (br (!(QO p0.1.2.2.2.1 p1)) (some (.t .bool false,[])) (br (Xx p0.1 p1) (some (.t .bool ((Zh p0.1 p1).2),[])) none)) none)) none)))
theorem QFe (a b:Int):ine a b= !ieq a b:=rfl
theorem QFf (a b:Int):ilt a b= !ige a b:=by simp only [ilt,ige];by_cases h:a<b<;>simp [h]<;>omega
theorem s_f135 (t:Talk)(c:Int)(h:WW t c=true):Qtg t c=some (.t .bool (UC t c),[]):=by
 simp only [WW,Gu,Ba] at h
 have c1:Jk t.2.2.1 c=true:=Be h.2.2
 have c2:Jk t.1.2.2.2.1 c=true:=Be h.2.1
 have c3:Xx t.1 c=true:=Be h.1
 simp only [Qtg,c1,c2,c3,Qc,QFe,QFf]
 show _=some (V.t .bool (Z2 t.1 t.2.2.1 t.2.1 c),[])
 unfold Z2
 cases ieq (QW c).2 0 with
 |false=>rfl
 |true=>
  cases ige t.2.1 (QW c).1.2.2.2.2.2.2.1 with
  |false=>rfl
  |true=>
   cases ige (QW c).1.2.2.2.2.2.2.2.1 t.2.1 with
   |false=>rfl
   |true=>
    cases QO t.2.2.1 c with
    |false=>rfl
    |true=>cases QO t.1.2.2.2.1 c<;>rfl
def Qi1:Ent:=Qk (.pr OS (.pr tI .nil)) (fun x=>(WW x.1 x.2.1)) (fun x=>(.t .bool (UC x.1 x.2.1)))
theorem Qth:EM 135 Qi1:=mS g_f135 QFd [((.t 4),some .bool)] false (gB (gD QdO (gD QfO (gD Qtf gN)))) fun m=>Qm m fun x hok=>kT (s_f135 x.1 x.2.1 hok)
def XV (c s:Endpoint):Bool:=QT c&&QT s
def WX (c s:Endpoint):Bool:=QU c&&QU s
def QFg:TC:=aF Tryz.f132 []
def g_f132:G:=gG 13 [(46,Qch)] (fun _ _=>none)
def Qti (p0 p1:Endpoint):OV:=br (QU p0) (br (ieq (J2 p0) 0) (br (QU p1) (some (.t .bool (ieq (J2 p1) 0),[])) none) (some (.t .bool false,[]))) none
theorem s_f132 (c s:Endpoint)(h:WX c s=true):Qti c s=some (.t .bool (XV c s),[]):=by
 simp only [WX,Bc] at h
 simp only [Qti,h.1,h.2,Qc,QEg]
 unfold XV
 cases QT c<;>rfl
def Qtj:Ent:=Qk (.pr Qo (.pr Qo .nil)) (fun x=>(WX x.1 x.2.1)) (fun x=>(.t .bool (XV x.1 x.2.1)))
theorem QFh:EM 132 Qtj:=mS g_f132 QFg [((.t 4),some .bool)] false (gB (gD Qiv gN)) fun m=>Qm m fun x hok=>kT (s_f132 x.1 x.2.1 hok)
end
end Go.Proofs.YtmjnnemhoeolgaaGreat.K
noncomputable section
namespace Go.Proofs.YtmjnnemhoeolgaaGreat.K
open Go.RowKit
noncomputable section
def okPos (l:List Int)(t:Talk):Bool:=decide (l.length<=100000)&&Gu (tkE t) (tkO t)
abbrev QC1:Sh:=⟨[(0,.ty (.sl tI)),(1,.bf 135 OS),(7,.ty tI),(8,.ty tI)],[]⟩
abbrev QC2:Sh:=⟨[(4,.ty tI)],[]⟩
def QC3 (x4:Int):VS:=QC2.st (x4,()) ()
abbrev QC4:Sh:=⟨[],[]⟩
def QC5  : VS:=QC4.st () ()
def QC6:VS->Option (Bool×List (Bool×Exit×VS)):=mkL QC1 (fun x y=>(Qt x.1 x.2.2.1 x.2.2.2.1&&okPos x.1 x.2.1)) (fun x y=>[(((QD (UC x.2.1) (x.1.drop x.2.2.2.1.toNat)).isSome),.ret,QC3 (x.2.2.2.1+((QD (UC x.2.1) (x.1.drop x.2.2.2.1.toNat)).getD 0:Nat))),(true,.exit 0,QC5)])
def QC7:G:=gG 19 [(135,Qi1)] (Ls [QC6])
theorem QKL:GOk Tryz.prog QC7:=ZW _ (gA (gD Qth gN))
abbrev zK:Keep:=(0,(0,()))
theorem Gm {e:Endpoint}(h:QU e=true):Ja e.1=true/\(Qu e).length<=100000/\(QA e).length<=100000/\(Q3 e).length<=100000/\(Q6 e).length<=100000/\(QA e).all Jm=true:=by
 simp only [QU,Bc,Ba] at h
 exact ⟨h.1.1,h.1.2.1,h.1.2.2.1,h.1.2.2.2.1,h.1.2.2.2.2,h.2⟩
theorem QC8 {e:Endpoint}{c:Int}(h:(Zh e c).2=true): ∃ k,(Zh e c).1=((k:Nat):Int)/\k<(QA e).length:=by
 unfold Zh Gt at h ⊢
 cases hi:ine (QW c).2 0 with
 |true=>rw [hi] at h;cases h
 |false=>
  rw [hi] at h
  cases hq:QD (fun x=>Yq x (QW c).1) (QA e) with
  |none=>rw [hq] at h;cases h
  |some k=>exact ⟨k,rfl,(QbS hq).1⟩
theorem eEta (p1:Endpoint):(p1.1,(p1.2.1,(p1.2.2.1,(p1.2.2.2.1,(p1.2.2.2.2.1,(p1.2.2.2.2.2.1,(p1.2.2.2.2.2.2.1,(p1.2.2.2.2.2.2.2.1,(p1.2.2.2.2.2.2.2.2.1,())))))))))=p1:=rfl
-- loop 0: (x2 : Int) (x4 : (List Int)) (x12 : Int) (x13 : (List Int)) (x14 : Int) (y5 : Endpoint) (y6 : Endpoint) (y10 : Keep); out: ('ret',) (x11 : Int) (y10 : Keep); ('exit', 0) (y10 : Keep)
theorem Uv {c:Endpoint}(h:QT c=true):1<=c.2.1/\c.2.1<=c.2.2.1/\c.2.2.1<=4:=by
 simp only [QT,Bc,Br] at h
 obtain ⟨_,h1,h2,h3,_⟩:=h
 have h1:=DB h1
 have h2:=DB h2
 have h3:=DB h3
 omega
def Uw (e:Endpoint)(c:Int):List Keep:=
 [bif ieq (QW c).1.2.2.1.2.1 0 then ((QW c).1.2.2.1.1,((lgt Q0 (QA e) (Zh e c).1.toNat).1.2.1,())) else (QW c).1.2.2.1,(lgt Q0 (QA e) (Zh e c).1.toNat).1,(QW c).1.2.2.2.2.1,(QW c).1.2.2.2.2.2.1]
def Jg (e:Endpoint)(o:Keep):List Keep×Int:=
 bif !QT e then ([],19) else bif ine (QW o.2.1).2 0 then ([],(QW o.2.1).2) else bif !(Zh e o.2.1).2 then ([],4) else (Uw e o.2.1,0)
def QhG (e:Endpoint)(_o:Keep):Bool:=QU e
def outLI (p:List Keep×Int):OV:=some (.tu [.t (.sl Qd) p.1,.t tI p.2],[])
theorem QC9 {e:Endpoint}{c:Int}(h:(Zh e c).2=true):cIx (QA e) (Zh e c).1=true:=by
 obtain ⟨k,hk,hl⟩:=QC8 h
 rw [hk,QI]
 exact Be hl
def tc_f96:TC:=aF Tryz.f96 []
def g_f96:G:=gG 57 [(46,Qch),(124,OU),(136,Qi0)] (fun _ _=>none)
def r_f96 (p0:Endpoint)(p1:Keep):OV:=
 let a1:=((lgt Q0 p0.2.2.2.2.2.1 (Int.toNat ((Zh p0 p1.2.1).1))).1)
 let a2:=((((QW p1.2.1).1).2).2)
 let a3:=(((((a2.2).2).2).1).1,((((((a2.2).2).2).1).2).1,()))
 let a4:=((((a2.2).2).1).1,(((((a2.2).2).1).2).1,()))
 let a5:=((a1.2).1,())
 br (QU p0) (br (ine (J2 p0) 0) (some (.tu [(.t (.sl Qd) ([]:List Keep)),(.t tI (J2 p0))],[])) (br (ine ((QW p1.2.1).2) 0) (some (.tu [(.t (.sl Qd) ([]:List Keep)),(.t tI ((QW p1.2.1).2))],[])) (br (Xx p0 p1.2.1) (br (!((Zh p0 p1.2.1).2)) (some (.tu [(.t (.sl Qd) ([]:List Keep)),(.t tI 4)],[])) (br (cIx p0.2.2.2.2.2.1 ((Zh p0 p1.2.1).1)) (br (ieq (((a2.1).2).1) 0) (some (.tu [(.t (.sl Qd) ([((a2.1).1,a5),(a1.1,a5),a4,a3])),(.t tI 0)],[])) (some (.tu [(.t (.sl Qd) ([((a2.1).1,(((a2.1).2).1,())),(a1.1,a5),a4,a3])),(.t tI 0)],[]))) none)) none))) none
theorem s_f96 (e:Endpoint)(o:Keep)(h:QhG e o=true):r_f96 e o=some (.tu [.t (.sl Qd) (Jg e o).1,.t tI (Jg e o).2],[]):=by
 have hr:QU e=true:=h
 have hid: ∀ x,Xx e x=true:=fun x=>Be (Gm hr).2.2.1
 simp only [r_f96,hr,hid,Qc,Ob]
 show _=outLI (Jg e o)
 unfold Jg J2
 cases QT e with
 |false=>rfl
 |true=>
  rw [BG,Qf,Di]
  cases ine (QW o.2.1).2 0 with
  |true=>rfl
  |false=>
   rw [Qf,Di]
   cases hi:(Zh e o.2.1).2 with
   |false=>rfl
   |true=>
    rw [BG,Qf,Di]
    refine Eq.trans (congrArg (fun b=>br b _ _) (QC9 hi)) ?_
    rw [Qc]
    unfold Uw
    cases ieq (QW o.2.1).1.2.2.1.2.1 0<;>rfl
def QbD:Ent:=Qk (.pr Qo (.pr Qd .nil)) (fun x=>(QhG x.1 x.2.1)) (fun x=>(.tu [(.t (.sl Qd) ((Jg x.1 x.2.1).1)),(.t tI ((Jg x.1 x.2.1).2))]))
theorem QqM:EM 96 QbD:=mS g_f96 tc_f96 [((.t 4),some (.sl Qd)),((.t 5),some tI)] false (gB (gD Qiv (gD QdO (gD Qtf gN)))) fun m=>Qm m fun x hok=>kT (s_f96 x.1 x.2.1 hok)
end
end Go.Proofs.YtmjnnemhoeolgaaGreat.K
noncomputable section
namespace Go.Proofs.YtmjnnemhoeolgaaGreat.K
open Go.RowKit
noncomputable section
theorem brN {β:Type}{p q:Bool}{X:Option β}:br p (br q X none) none=br (p&&q) X none:=by cases p<;>rfl
def QqO (c:Int):Int:=bif ine (QW c).2 0 then 0 else Xj (QW c).1.2.2.2.2.1
def QhJ (x:Int)(l:List Int):Nat->Nat
 |0=>0
 |k+1=>if ilt (QqO (l.getD k 0)) (QqO x)=true then QhJ x l k else k+1
def insS (l:List Int)(x:Int):List Int:=(l.take (QhJ x l l.length)++[x])++l.drop (QhJ x l l.length)
def sortS (l:List Int):List Int:=l.foldl insS []
-- loop 0: (x0 : (List Int)) (x4 : Int) (x5 : Int) (y3 : (List Int)); out: ('exit', 2) (x0 : (List Int)) (x4 : Int) (x5 : Int) (y3 : (List Int))
-- loop 1: (x0 : (List Int)) (x4 : Int) (y3 : (List Int)); out: ('exit', 0) (y3 : (List Int))
end
end Go.Proofs.YtmjnnemhoeolgaaGreat.K
noncomputable section
namespace Go.Proofs.YtmjnnemhoeolgaaGreat.K
open Go.RowKit
noncomputable section
theorem QDP {d:Dice}{l:List Int}(h:dOk d=true)(h1:l≠[])(h2:l.length<=100):YB d l=true:=by
 have:0<l.length:=List.length_pos_iff.2 h1
 simp only [YB,h,BE,Ba]
 omega
theorem I5 {d:Dice}{n:Int}(h:dOk d=true)(hn:n<=1000000):Jf d n=true:=by
 simp only [Jf,h,BE,Ba]
 omega
theorem QrG {d:Dice}{n:Int}(h:dOk d=true)(h0:0<=n)(hn:n<=1000000):Xk d n=true:=by
 simp only [Xk,I5 h hn,BE,Ba]
 omega
abbrev Qh7 (d:Dice):Int:=dof d [5,7,5,6,8,9]
def keyV (d:Dice):Keep:=(Qh7 d,(sizeV (QM d [5,7,5,6,8,9]) (Qh7 d),()))
def keyN (d:Dice):Dice:=sizeN (QM d [5,7,5,6,8,9]) (Qh7 d)
abbrev cD1 (d:Dice):Dice:=Qh d 1000
abbrev cD2 (d:Dice):Dice:=QM (cD1 d) [3,2,4,1]
abbrev cD3 (d:Dice):Dice:=QM (cD2 d) [0,5,10]
abbrev cD4 (d:Dice):Dice:=QM (cD3 d) [1000,100,50,20]
def cD5 (d:Dice)(a:Bool):Dice:=bif a then QM (cD4 d) [3,0,1] else cD4 d
def cPath (d:Dice)(a:Bool):Int:=bif a then dof (cD4 d) [3,0,1] else 0
def cNm (d:Dice)(a:Bool)(s:ByteArray):List ByteArray:=bif done (cD5 d a) 3 then [s,scat s (ByteArray.mk #[120])] else [s]
def cRaw (d:Dice)(i s:ByteArray)(k:Keep)(id:Int)(a:Bool):Certificate:=
 (Qn d 1000,(i,(s,(k,(id,((dof (cD1 d) [3,2,4,1],(0,())),(dof (cD2 d) [0,5,10],(dof (cD3 d) [1000,100,50,20],(a,(cPath d a,(cNm d a s,((0,(0,())),()))))))))))))
def cerV (d:Dice)(i s:ByteArray)(k:Keep)(id g:Int)(a:Bool):Certificate:=(Wy (cRaw d i s k id a) g).1
def cerN (d:Dice)(_i _s:ByteArray)(_k:Keep)(_id _g:Int)(a:Bool):Dice:=Qh (cD5 d a) 3
theorem QDQ {i s:ByteArray}{k:Keep}{id:Int}{a:Bool}{q p:Int}{u v:Keep}{x y:Int}(hi:i.size<=1000)(hs:s.size<=1000){l:List ByteArray}(hl:l.length<=2)(hn: ∀ t∈l,t.size<=1001):
  JM (q,(i,(s,(k,(id,(u,(x,(y,(a,(p,(l,(v,()))))))))))))=true:=by
 have hg: ∀ t:ByteArray,t.size<=1001->Ja t=true:=fun t ht=>Be (by omega)
 simp only [JM,Bc]
 refine ⟨hg _ (by omega),hg _ (by omega), ?_⟩
 simp only [Yv,Bc,Bg]
 exact ⟨Be (by show l.length<=_;omega),fun t ht=>hg t (hn t ht)⟩
end
end Go.Proofs.YtmjnnemhoeolgaaGreat.K
noncomputable section
namespace Go.Proofs.YtmjnnemhoeolgaaGreat.K
open Go.RowKit
noncomputable section
abbrev sRoot:ByteArray:=ByteArray.mk #[114,111,111,116]
abbrev Qjn:List ByteArray:=[ByteArray.mk #[99,97],ByteArray.mk #[99,98],ByteArray.mk #[99,99]]
abbrev Up:Type:=List Certificate×Dice×ByteArray×Int
def abvZ:Nat->Nat->Up->Up
 |0,_,u=>u
 |m+1,i,(ab,d,iss,g)=>abvZ m (i+1) (cerV d iss (Qjn.getD i ByteArray.empty) (5,(2048,())) ((11+i:Nat):Int) g true::ab,cerN d iss (Qjn.getD i ByteArray.empty) (5,(2048,())) ((11+i:Nat):Int) g true,Qjn.getD i ByteArray.empty,((11+i:Nat):Int))
def chU (d:Dice):Up:=abvZ (dof d [1,0,2]).toNat 0 ([],Qh (QM d [1,0,2]) 2,sRoot,1+Qn (QM d [1,0,2]) 2)
def chnV (d:Dice)(nm:ByteArray)(k:Keep)(id:Int):List Certificate:=cerV (chU d).2.1 (chU d).2.2.1 nm k id (chU d).2.2.2 false::(chU d).1
def chnN (d:Dice)(nm:ByteArray)(k:Keep)(id:Int):Dice:=cerN (chU d).2.1 (chU d).2.2.1 nm k id (chU d).2.2.2 false
-- loop 0: (x1 : ByteArray) (x3 : Int) (x9 : Int) (x10 : Int) (x11 : ByteArray) (x13 : Int) (y6 : Keep) (y12 : (List Certificate)) (Qb : Dice); out: ('exit', 0) (x1 : ByteArray) (x3 : Int) (x10 : Int) (x11 : ByteArray) (y6 : Keep) (y12 : (List Certificate)) (Qb : Dice)
end
end Go.Proofs.YtmjnnemhoeolgaaGreat.K
noncomputable section
namespace Go.Proofs.YtmjnnemhoeolgaaGreat.K
open Go.RowKit
noncomputable section
def suZ:Nat->List Int->Dice->List Int×Dice
 |0,l,d=>(l,d)
 |n+1,l,d=>suZ n (bif !QO l (1+Qn d 16) then l++[1+Qn d 16] else l) (Qh d 16)
def suI (d:Dice):List Int×Dice:=suZ (2+Qn d 9).toNat [] (Qh d 9)
def suiV (d:Dice):List Int:=bif done (suI d).2 4 then sortS (suI d).1 else (suI d).1
def suiN (d:Dice):Dice:=Qh (suI d).2 4
-- loop 0: (x4 : Int) (y3 : (List Int)) (Qb : Dice); out: ('exit', 0) (y3 : (List Int)) (Qb : Dice)
end
end Go.Proofs.YtmjnnemhoeolgaaGreat.K
noncomputable section
namespace Go.Proofs.YtmjnnemhoeolgaaGreat.K
open Go.RowKit
noncomputable section
abbrev iB (d:Dice):Bool:=igt (Qn (keyN d) 3) 0
abbrev iD2 (d:Dice):Dice:=Qh (keyN d) 3
abbrev iA (d:Dice):Int:=dof (iD2 d) [5,7]
def QfV (d:Dice):Keep:=bif iB d then (iA d,(sizeV (QM (iD2 d) [5,7]) (iA d),())) else keyV d
def iD3 (d:Dice):Dice:=bif iB d then sizeN (QM (iD2 d) [5,7]) (iA d) else iD2 d
def iId (d:Dice):Int:=100+Qn (iD3 d) 20
abbrev iD4 (d:Dice):Dice:=Qh (iD3 d) 20
abbrev iD5 (d:Dice):Dice:=Qh (iD4 d) 9
def iCh (d:Dice)(nm:ByteArray):List Certificate:=bif !done (iD4 d) 9 then chnV (iD5 d) nm (QfV d) (iId d) else []
def iD6 (d:Dice)(nm:ByteArray):Dice:=bif !done (iD4 d) 9 then chnN (iD5 d) nm (QfV d) (iId d) else iD5 d
def idV (d:Dice)(nm:ByteArray):Identity:=(QfV d,(iId d,(iCh d nm,())))
def QfW:Nat->ByteArray->Dice->List Identity×Dice
 |0,_,d=>([],d)
 |n+1,nm,d=>(idV d nm::(QfW n nm (iD6 d nm)).1,(QfW n nm (iD6 d nm)).2)
abbrev eL0 (d:Dice):Int:=dof d [1,1,2,3]
abbrev eD1 (d:Dice):Dice:=QM d [1,1,2,3]
abbrev eD2 (d:Dice):Dice:=suiN (eD1 d)
abbrev eD3 (d:Dice):Dice:=Qh (eD2 d) 2
abbrev eD4 (d:Dice):Dice:=Qh (eD3 d) 2
abbrev eD5 (d:Dice):Dice:=Qh (eD4 d) (5-eL0 d)
abbrev eD6 (d:Dice):Dice:=Qh (eD5 d) 3
abbrev eB (d:Dice):Bool:=igt (Qn (eD5 d) 3) 0
def eLst (d:Dice):Int:=bif eB d then 1 else eL0 d
def eMst (d:Dice):Int:=bif eB d then dof (eD6 d) [3,4,2] else eL0 d+Qn (eD4 d) (5-eL0 d)
def eD7 (d:Dice):Dice:=bif eB d then QM (eD6 d) [3,4,2] else eD6 d
abbrev eD8 (d:Dice):Dice:=QM (eD7 d) [1,2,1,3,0]
def QfX (d:Dice)(nm:ByteArray):List Identity×Dice:=QfW (dof (eD7 d) [1,2,1,3,0]).toNat nm (eD8 d)
abbrev eAn (d:Dice)(nm:ByteArray):List Int:=lgt (.sl tI) [[1,2],[1,2],[1],[2,11],([]:List Int)] (Qn (QfX d nm).2 5).toNat
abbrev eD10 (d:Dice)(nm:ByteArray):Dice:=Qh (QfX d nm).2 5
abbrev eHs (d:Dice)(nm:ByteArray):List Int:=lgt (.sl tI) [[1,2,3,4],[2,3,4],[3,4]] (Qn (eD10 d nm) 3).toNat
def epV (d:Dice)(nm:ByteArray):Endpoint:=(nm,(eLst d,(eMst d,(suiV (eD1 d),(done (eD2 d) 2,((QfX d nm).1,(eAn d nm,(eHs d nm,(done (eD3 d) 2,())))))))))
def epN (d:Dice)(nm:ByteArray):Dice:=Qh (eD10 d nm) 3
-- loop 0: (x1 : ByteArray) (x6 : Int) (y4 : Endpoint) (y5_0 : ByteArray) (y5_1 : Int) (y5_2 : Int) (y5_4 : Bool) (y5_8 : Bool) (y15 : (List Int)) (QlW : (List Identity)) (Qb : Dice); out: ('exit', 0) (y4 : Endpoint) (y5_0 : ByteArray) (y5_1 : Int) (y5_2 : Int) (y5_4 : Bool) (y5_8 : Bool) (y15 : (List Int)) (QlW : (List Identity)) (Qb : Dice)
end
end Go.Proofs.YtmjnnemhoeolgaaGreat.K
noncomputable section
namespace Go.Proofs.YtmjnnemhoeolgaaGreat.K
open Go.RowKit
noncomputable section
def prZ:List Int->List Int->Dice->List Int×Dice
 | [],s,d=>(s,d)
 |x::r,s,d=>if ilt (Qa s) 16=true then (if QO s x=true then prZ r s d else if done d 2=true then prZ r (s++[x]) (Qh d 2) else prZ r s (Qh d 2)) else (s,d)
end
end Go.Proofs.YtmjnnemhoeolgaaGreat.K
noncomputable section
namespace Go.Proofs.YtmjnnemhoeolgaaGreat.K
open Go.RowKit
noncomputable section
end
end Go.Proofs.YtmjnnemhoeolgaaGreat.K
noncomputable section
namespace Go.Proofs.YtmjnnemhoeolgaaGreat.K
open Go.RowKit
noncomputable section
end
end Go.Proofs.YtmjnnemhoeolgaaGreat.K
noncomputable section
namespace Go.Proofs.YtmjnnemhoeolgaaGreat.K
open Go.RowKit
noncomputable section
def UH (s:Endpoint)(o:List Int)(v:Int)(k:Nat):List Keep:=((List.range' k (17-k)).filter fun (j:Nat)=>Z2 s o v (j:Int)).map fun (j:Nat)=>(v,((j:Int),()))
def Xg (s:Endpoint)(o:List Int)(v n:Nat):List Keep:=(List.range' v n).flatMap fun (j:Nat)=>UH s o (j:Int) 1
abbrev hiC (c s:Endpoint):Int:=imn c.2.2.1 s.2.2.1
abbrev loC (c s:Endpoint):Int:=imx c.2.1 s.2.1
def ZS (c s:Endpoint):List Keep:=bif !XV c s then [] else Xg s (Qu c) (loC c s).toNat (hiC c s+1-loC c s).toNat
end
end Go.Proofs.YtmjnnemhoeolgaaGreat.K
noncomputable section
namespace Go.Proofs.YtmjnnemhoeolgaaGreat.K
open Go.RowKit
noncomputable section
theorem QBs (l:List Int):(ZX l).Pairwise (· ≤ ·):=by
 have:=List.pairwise_mergeSort (le:=fun x y:Int=>decide (x<=y)) (fun a b c h1 h2=>by simp only [Ba] at *; omega) (fun a b=>by simp only [Db,Ba];omega) l
 exact this.imp fun h=>Bx h
theorem QBt {l:List Int}{p:Int->Bool}(hn:l.Nodup)(hr: ∀ x∈l,1<=x/\x<=16)(hp: ∀ x,p x=true->x∈l):(ZX l).filter p=(((List.range' 1 16).filter fun (j:Nat)=>p (j:Int)).map fun (j:Nat)=>(j:Int)):=by
 have hperm:(ZX l).Perm l:=List.mergeSort_perm _ _
 refine List.Perm.eq_of_pairwise (le:=(· ≤ ·)) (fun a b _ _ h1 h2=>by omega) ((QBs l).filter _) ?_ ?_
 ·rw [List.pairwise_map]
  refine List.Pairwise.filter _ ?_
  refine (List.pairwise_lt_range' (s:=1) (n:=16)).imp fun h=>by omega
 ·refine (List.perm_ext_iff_of_nodup ((hperm.nodup_iff.2 hn).filter _) ?_).2 fun a=> ?_
  ·rw [List.nodup_iff_pairwise_ne,List.pairwise_map]
   refine List.Pairwise.filter _ ?_
   refine (List.pairwise_lt_range' (s:=1) (n:=16)).imp fun h=>by omega
  ·simp only [List.mem_filter,B5,List.mem_range'_1,hperm.mem_iff]
   constructor
   ·rintro ⟨h1,h2⟩
    have:=hr a h1
    exact ⟨a.toNat,⟨by omega,by rw [DS (by omega)];exact h2⟩,DS (by omega)⟩
   ·rintro ⟨j,⟨_,h2⟩,rfl⟩
    exact ⟨hp _ h2,h2⟩
def rowS (s:Endpoint)(o:List Int)(v:Int)(l:List Int):List Keep:=(l.filter fun j=>Z2 s o v j).map fun j=>(v,(j,()))
theorem QBu {l:List Int}(h:ZA l=true): ∀ x∈l,1<=x/\x<=16:=by
 intro x hx
 obtain ⟨k,hk,rfl⟩:=List.mem_iff_getElem.1 hx
 exact (Qis h k hk).1
theorem QBv {s:Endpoint}{o:List Int}{v:Int}(h:ZA o=true):rowS s o v (ZX o)=UH s o v 1:=by
 unfold rowS UH
 rw [QBt (p:=fun j=>Z2 s o v j) (Qsl h) (QBu h) (fun x hx=>by
  simp only [Z2,Bc] at hx
  exact BH.1 hx.2.2.2.1),DH]
 rfl
theorem QBw {c:Endpoint}(h:QT c=true):ZA (Qu c)=true:=by
 simp only [QT,Bc] at h
 exact h.2.2.2.2.1
end
end Go.Proofs.YtmjnnemhoeolgaaGreat.K
noncomputable section
namespace Go.Proofs.YtmjnnemhoeolgaaGreat.K
open Go.RowKit Go.Shelf
attribute [local go_sem] Oper.semAt_some
set_option maxRecDepth 100000 in
set_option maxHeartbeats 1000000 in
theorem QrJ (Bs b0 off c n:Nat)(A:Option Addr)(vs:List Value)(Xf:Nat->Nat->Prop)(w:World)(hreach:n*8<=140737488351232)(hvl:vs.length=n)
  (hBs:w.cell? ⟨Bs,0,none⟩=some (.slice A n c)) (hBl:Bs<w.heap.size)
  (hA:0<n->A=some ⟨b0,off,none⟩/\b0<w.heap.size/\(∀ j,j<vs.length→ ¬ Xf b0 (off+j))∧ ∀ j v,vs[j]? = some v->w.cell? ⟨b0,off+j,none⟩=some v):
  UO Tryz.prog 171 [.pointer (some ⟨Bs,0,none⟩)] (vs.map fun v=> #[v]) Xf w:=by
 intro l J Jx W hJ hJx hK hY h0 hst
 have HA:=Lib.hid hA
 clear hA
 refine callsIn_of_wp (F:=Fw none) Tryz.func171 rfl trivial ?_ rfl
 simp only [Tryz.ntmps171,List.size_toArray,Bt,BD,Nat.reduceAdd,Nat.reduceSub,Array.replicate_succ,Array.replicate_zero,List.push_toArray,List.append_toArray,BT,Dv]
 have hb0:W.cell? ⟨Bs,0,none⟩=some (.slice A n c):=(hst Bs 0 hBl).trans hBs
 gi_wp2
 gi_loopw [7] (fun i wr=> ∃ k:Nat,k<=n/\i= .int .i64 (k:Int)/\J ((vs.drop k).map fun v=> #[v]) wr)
  (fun i _=>n-(intOf i).toNat)
 case atStart=>exact ⟨0,B4 _,rfl,h0⟩
 case round=>
  obtain ⟨k,hk,rfl,hJs⟩:=hrel
  by_cases hlt:k<n
  ·obtain ⟨rfl,hbl,hnx,hcl⟩:=HA.out (by omega)
   have hlt2:k<vs.length:=by omega
   rw [Bj hlt2,BF] at hJs
   obtain ⟨fn,tmps,assign,body,hy,hR⟩:=hY _ _ wr hJs
   have hcx':wr.cell? ⟨b0,off+k,none⟩=some vs[k]:=((hK _ wr hJs).2 b0 _ hbl (hnx _ hlt2)).trans (hcl _ _ (Bf hlt2))
   clear hnx hcl hY
   gi_wp2
   refine hR.mono ?_
   rintro e W3 (⟨rfl,hJ3⟩|⟨rfl,hJx3⟩)
   ·gi_wp2
    go_roundw
    case rel=>exact ⟨k+1,by omega,by simp,hJ3⟩
    case measure=>simp [intOf];omega
   ·gi_wp2
    refine bodyPost_ret (results_none rfl _ _ _) rfl ?_
    exact ⟨⟨_,rfl⟩,.inr hJx3⟩
  ·obtain rfl:k=n:=by omega
   rw [List.drop_of_length_le (by omega)] at hJs
   gi_wp2
   go_end0
   exact ⟨⟨_,rfl⟩,.inl hJs⟩
def Xu (l:List Int):Bool:=decide (l.length<=100000)
def Wj (l:List Int):List (Int×Unit):=l.map fun x=>(x,())
def Qb3:Itr:=Fa [.ptr 50000 0] [(.sl tI)] (.pr tI .nil) (fun d=>(Xu d.1)) (fun d=>(Wj d.1))
def QDU:TC:=aF Tryz.f134 []
def g_f134:G:=gG 4 [] (fun _ _=>none)
def r_f134 (p0:List Int):OV:=some (.fn 171 [(.ptr 50000 0)],[.box (.t (.sl tI) p0)])
def QrK:Ent:=WD (.pr (.sl tI) .nil) (fun _=>true) (fun x=> .fn 171 [.ptr 50000 0]) (fun x=>[.box (.t (.sl tI) x.1)])
theorem QDV:EM 134 QrK:=mS g_f134 QDU [((.t 2),none)] true (gB gN) fun m=>QgM m fun x _=>by kernel_rfl
theorem QrL (l:List Int):l.flatMap tI.cells=l.map fun x=>D.v (.int .i64 x):=by
 induction l with
 |nil=>rfl
 |cons x r ih=>rw [BL,ih,BF];rfl
theorem QDW:Iters Tryz.prog (171+1000000) Qb3:=by
 refine Iters.strong (enters_of Tryz.func171 (by kernel_rfl) rfl) fun caps objs yr rows h X w σ lb hfin hl hc=> ?_
 unfold Qb3 Fa at h
 split at h
 ·rename_i x d hx hd
  simp only [Bb,Bm] at h
  obtain ⟨hok,h⟩:=h
  cases h
  have hcaps:=Fu hx
  subst hcaps
  cases objs with
  |nil=>simp [ZB] at hd
  |cons o os=>
   cases o with
   |box cv=>
    cases os with
    |cons o2 os=>simp [ZB] at hd
    |nil=>
     simp only [ZB] at hd
     split at hd
     ·rename_i l u hl1 _
      simp only [Bb] at hd
      subst hd
      have hlen:l.length<=100000:=Bx hok
      have hcv:=SV.rd_mk (s:= .ty (.sl tI)) (v:=cv) (x:=l) (by simpa [Iz,Ty.row] using hl1)
      subst hcv
      obtain ⟨⟨Bs,ty,us,h1,h2,h3,h4⟩,_⟩:=hl.at_ 0 _ rfl
      have h3':Cs X w σ [.sl (List.length l) (List.flatMap tI.cells l)] us:=h3
      obtain ⟨uv,rfl,h5⟩:=h3'.one
      simp only [C] at h5
      obtain ⟨A,c,rfl,g1,g2,g3,g4⟩:=h5
      simp only [Ur,SV.mk,V.ds,V.d,Cs,C] at hc
      obtain ⟨p,ps,rfl,⟨b',e1,rfl⟩,rfl⟩:=hc
      have h1:σ 50000= .box Bs:=h1
      rw [h1] at e1
      injection e1 with e1
      subst e1
      have hcell:w.cell? ⟨Bs,0,none⟩=some (.slice A (List.length l) c):=by simp [World.cell?, h2]
      have hBl:=(BW.1 h2).1
      rcases DP (List.length l) with h0|hp
      ·have hl0:l=[]:=By h0
       subst hl0
       exact ⟨[],⟨rfl,fun i r v hr=>by simp [Wj] at hr⟩,QrJ Bs 0 0 c 0 A [] _ w (by omega) rfl hcell hBl (fun h=>absurd h (by omega))⟩
      ·obtain ⟨b0,off,vs,rfl,g5,g6⟩:=g4 hp
       have hvl:=g5.len
       rw [QrL,BM] at hvl
       refine ⟨vs.map fun v=> #[v],⟨by simp [Wj,hvl],fun i r v hr hv=> ?_⟩,QrJ Bs b0 off c (List.length l) _ vs _ w (by omega) hvl hcell hBl (fun _=>⟨rfl,g6.lt,fun j hj hx=>g6.nx j hj hx,fun j v hv=>g6.at_ j v hv⟩)⟩
       rw [QrL] at g5
       simp only [Wj,De,Bh] at hr hv
       obtain ⟨x,hx,rfl⟩:=hr
       obtain ⟨u,hu,rfl⟩:=hv
       have hd:(l.map fun x=>D.v (.int .i64 x))[i]? = some (.v (.int .i64 x)):=by rw [De,hx];rfl
       obtain ⟨u2,hu2,hcu⟩:=g5.at_ hd
       rw [hu] at hu2
       injection hu2 with hu2
       subst hu2
       simp only [Ty.canon,V.ds,V.d,Cs]
       refine ⟨_,_,rfl, ?_,rfl⟩
       rw [(C.v hcu).1]
       simp only [Ty.d,C]
       exact ⟨trivial,rfl⟩
     ·cases hd
   |no=>simp [ZB] at hd
   |arr e t l=>simp [ZB] at hd
 ·cases h
end Go.Proofs.YtmjnnemhoeolgaaGreat.K
noncomputable section
namespace Go.Proofs.YtmjnnemhoeolgaaGreat.K
open Go.RowKit
noncomputable section
def idL (l:List Int):List Int:=l
def Eg (l:List Int):List Int:=ZX l
abbrev QcQ:Sh:=⟨[(2,.ptr 60000 0)],[(60000,.bag [.ms 20200]),(11,.no),(20200,.arr 3 tI),(50000,.box (.sl tI))]⟩
def UD:Fg:=QcQ.f
def QcR:TC:=(.reg (rT Tryz.f201 2))
def QcS:TC:=(.bk 1 (.reg (rT Tryz.f201 3)))
def QFH:TC:=(.sq (.reg (rT Tryz.f201 0)) (.sq (.sq (.reg (rT Tryz.f201 1)) (.bk 0 (.nf 2 0 3 20200 (.rf 0 UD (.t 6) (.pr tI .nil) [7] [2] QcR QcS)))) (.sq (.reg (rT Tryz.f201 4)) .rt)))
def Ou (Ze Qb:List Int):VS:=QcQ.st ((),()) (((),()),(),Ze,Qb,())
def QcT:VS->List (Ty.T (.pr tI .nil))->Option (Bool×List (Bool×Exit×VS)):=mkR QcQ (fun zs x y=>(decide (zs.length+y.2.2.1.length<=100000))) (fun zs x y=>[(true,.normal,Ou (y.2.2.1++zs.map (fun z=>z.1)) (y.2.2.2.1))])
def Eh:G:=⟨TYs,[],13,EL [],Wp,(Ls [fun _=>none]),IL [(1000171,Qb3)],(RL [⟨(.pr tI .nil),QcT⟩])⟩
def QtC (z:(Int×Unit))(Ze Qb:List Int):OX:=br (QJ Ze ([z.1]) 8) (some (.normal,Ou (Ze++([z.1])) Qb)) none
def Qi9 (zs:List (Int×Unit))(Ze Qb:List Int):OX:=YR (X5 Eh UD (.pr tI .nil) [7] QcR QcS) zs (Ou Ze Qb)
def Qja (z:(Int×Unit))(zs:List (Int×Unit))(Ze Qb:List Int):OX:=br (QJ Ze ([z.1]) 8) (Qi9 zs (Ze++([z.1])) Qb) none
def Qjb (zs:List (Int×Unit))(Ze Qb:List Int):OX:=some (.normal,Ou (Ze++zs.map (fun z=>z.1)) (Qb))
theorem QFI (z:(Int×Unit))(Ze Qb:List Int):X5 Eh UD (.pr tI .nil) [7] QcR QcS z (Ou Ze Qb)=QtC z Ze Qb:=by kernel_rfl
theorem QFJ (z:(Int×Unit))(zs:List (Int×Unit))(Ze Qb:List Int):Qi9 (z::zs) Ze Qb=Qja z zs Ze Qb:=(Qpm _ _ _ _).trans (by
 rw [QFI]
 simp only [QtC,Qja,Fv,Iu,Iv,Iw,Ix]
 rfl)
def QtD (d0:List Int):OV:=br (Xu d0) (br (decide ((Wj d0).length+([]:List Int).length<=100000)) (some (.ms 50001,[.box (.t (.sl tI) (d0)),.arr 3 tI (([]:List Int)++(Wj d0).map (fun z=>z.1))])) none) none
theorem QFK (zs:List (Int×Unit))(Ze Qb:List Int)(h:(decide (zs.length+Ze.length<=100000))=true):Qi9 zs Ze Qb=Qjb zs Ze Qb:=by
 induction zs generalizing Ze with
 |nil=>
  simp only [Qjb,List.map_nil,BO]
  rfl
 |cons z zs ih=>
  rw [QFJ]
  have h:=Bx h
  rw [Bt] at h
  have c1:QJ Ze [z.1] 8=true:=Ji (by omega) (by simp only [Bp];omega)
  simp only [Qja,c1,Qc]
  rw [ih (Ze++[z.1]) (Be (by simp only [Bl,Bp];omega))]
  simp only [Qjb,BF,BR,BN]
theorem QFL: ∀ S (rows:List (Ty.T (.pr tI .nil))) l p,Eh.R 0 (fgt UD S) (.pr tI .nil) rows=some (true,l)->Z8 l=some p->YR (X5 Eh UD (.pr tI .nil) [7] QcR QcS) rows (fgt UD S)=some p:=by
 intro S rows l p hR hp
 rw [show Eh.R 0 (fgt UD S) (.pr tI .nil) rows=QcT (fgt UD S) rows from RL_at (l:=[⟨(.pr tI .nil),QcT⟩]) (j:=0) (F:=QcT) rfl _ _] at hR
 refine Qpl (s:=QcQ) ⟨by decide,by decide⟩ (by kernel_rfl) (fun zs x y hok p hp=> ?_) S rows l p hR hp
 simp only [QF,QG] at hp
 exact (QFK zs y.2.2.1 y.2.2.2.1 (by first|rfl|simpa using hok)).trans hp
theorem QFM (l:List Int):(Wj l).map (fun z=>z.1)=l:=by
 unfold Wj
 rw [DH]
 exact List.map_id _
theorem QFN (l:List Int)(h:Xu l=true):QtD l=some (.ms 50001,[.box (.t (.sl tI) l),.arr 3 tI (idL l)]):=by
 have hl:l.length<=100000:=Bx h
 have c1:decide ((Wj l).length+([]:List Int).length<=100000)=true:=Be (by simp only [Wj,BM,BD];omega)
 simp only [QtD,h,Qc]
 refine Eq.trans (congrArg (fun b=>br b _ _) c1) ?_
 rw [Qc,BT,QFM]
 rfl
def QtE:Ent:=Xo [.nl,.fn 171 [(50000,0)]] [.box (.sl tI)] (fun x y=>(Xu y.1)) (fun x y=>(.ms 50001)) (fun x y=>[.box (.t (.sl tI) y.1),.arr 3 tI (idL y.1)])
theorem QFO:EM 201 QtE:=mS (lk:=(by repeat first|exact trivial|exact QFL|constructor)) Eh QFH [((.t 4),none)] true (ZW _ (fun p hp=>by cases hp) [(1000171,Qb3)] (by
 intro p hp
 simp only [BY,Dk,or_false] at hp
 rcases hp with rfl
 ·exact QDW)) fun m=>XJ (XK m fun x y hok=>kT (QFN y.1 hok))
def QFP:TC:=aF Tryz.f169 []
def QFQ:G:=gG 5 [(201,QtE)] (fun _ _=>none)
def QtF (d0:List Int):OV:=br (Xu d0) (some (.ms 50001,[.box (.t (.sl tI) d0),.arr 3 tI (idL d0)])) none
theorem QFR (l:List Int)(h:Xu l=true):QtF l=some (.ms 50001,[.box (.t (.sl tI) l),.arr 3 tI (idL l)]):=by
 simp only [QtF,h,Qc]
def QtG:Ent:=Xo [.fn 171 [(50000,0)]] [.box (.sl tI)] (fun x y=>(Xu y.1)) (fun x y=>(.ms 50001)) (fun x y=>[.box (.t (.sl tI) y.1),.arr 3 tI (idL y.1)])
theorem QFS:EM 169 QtG:=mS QFQ QFP [((.t 2),none)] true (gB (gD QFO gN)) fun m=>XJ (XK m fun x y hok=>kT (QFR y.1 hok))
def QFT:TC:=aF Tryz.f133 []
def QFU:G:=gG 9 [(169,QtG),(170,QqP)] (fun _ _=>none)
def QtH (d0:List Int):OV:=br (Xu d0) (br (Qa4 (idL d0)) (some (.ms 50001,[.box (.t (.sl tI) d0),.arr 3 tI (ZX (idL d0))])) none) none
theorem QFV (l:List Int)(h:Xu l=true):QtH l=some (.ms 50001,[.box (.t (.sl tI) l),.arr 3 tI (Eg l)]):=by
 have hl:l.length<=100000:=Bx h
 have c1:Qa4 (idL l)=true:=Be (by show l.length<_;omega)
 simp only [QtH,h,c1,Qc]
 rfl
def QtI:Ent:=Xo [.fn 171 [(50000,0)]] [.box (.sl tI)] (fun x y=>(Xu y.1)) (fun x y=>(.ms 50001)) (fun x y=>[.box (.t (.sl tI) y.1),.arr 3 tI (Eg y.1)])
theorem QFW:EM 133 QtI:=mS QFU QFT [((.t 2),none)] true (gB (gD QFS (gC QDf QDg gN))) fun m=>XJ (XK m fun x y hok=>kT (QFV y.1 hok))
end
end Go.Proofs.YtmjnnemhoeolgaaGreat.K
noncomputable section
namespace Go.Proofs.YtmjnnemhoeolgaaGreat.K
open Go.RowKit
noncomputable section
def Xz (t:Talk)(v:Int)(l:List Int):List Keep:=(l.filter fun j=>UC t j).map fun j=>(v,(j,()))
theorem QHG {t:Talk}{v x:Int}{r:List Int}:Xz t v (x::r)=if UC t x=true then (v,(x,()))::Xz t v r else Xz t v r:=by
 unfold Xz
 rw [List.filter_cons]
 split<;>rfl
theorem QHH (t:Talk)(v:Int)(l:List Int):(Xz t v l).length<=l.length:=by
 unfold Xz
 rw [BM]
 exact List.length_filter_le _ _
def UI (s:Endpoint)(o l:List Int)(v n:Nat):List Keep:=(List.range' v n).flatMap fun (j:Nat)=>Xz (s,((j:Int),(o,()))) (j:Int) l
theorem QHI {s:Endpoint}{o:List Int}{v n:Nat}(h:ZA o=true):UI s o (ZX o) v n=Xg s o v n:=by
 unfold UI Xg
 congr 1
 funext j
 exact QBv h
abbrev QdB:Sh:=⟨[(2,.ptr 2 0),(3,.ptr 3 0),(5,.ms 5),(6,.ms 18),(7,.ty tI),(8,.ptr 8 0),(38,.ms 18),(39,.ty tI),(40,.ty tI)],[(2,.box Qo),(3,.box Qo),(5,.arr 54 Qd),(8,.box OS),(18,.arr 3 tI),(52,.no),(5018,.no),(10018,.no),(15018,.no)]⟩
abbrev OL:Sh:=⟨[(2,.ptr 2 0),(3,.ptr 3 0),(5,.ms 5),(6,.ms 18),(7,.ty tI)],[(2,.box Qo),(3,.box Qo),(5,.arr 54 Qd),(18,.arr 3 tI),(52,.no),(5018,.no),(10018,.no),(15018,.no)]⟩
abbrev Qvg:Sh:=⟨[(5,.ms 5)],[(5,.arr 54 Qd),(52,.no)]⟩
def Qkf:Fg:=QdB.f
def Qkg:Fg:=OL.f
def Qkh:TC:=aF Tryz.f95 [(250,.nw 5 54),(250,pL 1 Qkg),(4003,.fg Qvg.f),(32038,.nw 5 54),(32038,pL 0 Qkf),(512613,.fg OL.f)]
def Qvh:TC:=lb 0 Qkh
def Qvi:TC:=lb 1 Qkh
def Qvj (x7 x39 x40:Int)(y2 y3:Endpoint)(y5:List Keep)(y8:Talk)(y18:List Int):VS:=QdB.st ((),(),(),(),x7,(),(),x39,x40,()) (y2,y3,y5,y8,y18,(),(),(),(),())
def OM (x7:Int)(y2 y3:Endpoint)(y5:List Keep)(y18:List Int):VS:=OL.st ((),(),(),(),x7,()) (y2,y3,y5,y18,(),(),(),(),())
def Qki (y5:List Keep):VS:=Qvg.st ((),()) (y5,(),())
def QHJ:VS->Option (Bool×List (Bool×Exit×VS)):=mkL QdB (fun x y=>(decide (x.2.2.2.2.2.2.2.1=(y.2.2.2.2.1.length:Int)/\0<=x.2.2.2.2.2.2.2.2.1/\x.2.2.2.2.2.2.2.2.1<=x.2.2.2.2.2.2.2.1/\y.2.2.2.2.1.length<=16/\(y.2.2.1.length:Int)<=200+x.2.2.2.2.2.2.2.2.1)&&WW y.2.2.2.1 0)) (fun x y=>[(true,.exit 2,OM (x.2.2.2.2.1) (y.1) (y.2.1) (y.2.2.1++Xz y.2.2.2.1 x.2.2.2.2.1 (y.2.2.2.2.1.drop x.2.2.2.2.2.2.2.2.1.toNat)) (y.2.2.2.2.1))])
def QHK:VS->Option (Bool×List (Bool×Exit×VS)):=mkL OL (fun x y=>(decide (1<=x.2.2.2.2.1/\x.2.2.2.2.1<=5/\hiC y.1 y.2.1<=4/\(y.2.2.1.length:Int)<=16*x.2.2.2.2.1/\y.2.2.2.1.length<=16)&&Gu y.2.1 (Qu y.1))) (fun x y=>[(true,.exit 0,Qki (y.2.2.1++UI y.2.1 (Qu y.1) y.2.2.2.1 x.2.2.2.2.1.toNat (hiC y.1 y.2.1+1-x.2.2.2.2.1).toNat))])
def ON:G:=gG 55 [(132,Qtj),(133,QtI),(134,QrK),(135,Qi1)] (Ls [QHJ,QHK])
def OO (x7 x39 x40:Int)(y2 y3:Endpoint)(y5:List Keep)(y8:Talk)(y18:List Int):OX:=Qv (QB ON Qkf Qvh) (Qvj x7 x39 x40 y2 y3 y5 y8 y18)
def OP (kk:Int->Int->Int->Endpoint->Endpoint->List Keep->Talk->List Int->OX)(x7 x39 x40:Int)(y2 y3:Endpoint)(y5:List Keep)(y8:Talk)(y18:List Int):OX:=
 let a1:=lgt tI y18 (Int.toNat x40)
 br (ilt x40 x39) (br (cIx y18 x40) (br (cLd y18 (Int.toNat x40)) (br (WW y8 a1) (br (UC y8 a1) (br (QJ y5 ([(x7,(a1,()))]) 16) (kk x7 x39 (Qg .i64 x40 1) y2 y3 (y5++([(x7,(a1,()))])) y8 y18) none) (kk x7 x39 (Qg .i64 x40 1) y2 y3 y5 y8 y18)) none) none) none) (some (.exit 2,OM x7 y2 y3 y5 y18))
def OQ (x7 x39 x40:Int)(y2 y3:Endpoint)(y5:List Keep)(y8:Talk)(y18:List Int):OX:=some (.exit 2,OM (x7) (y2) (y3) (y5++Xz y8 x7 (y18.drop x40.toNat)) (y18))
theorem Qvk (x7 x39 x40:Int)(y2 y3:Endpoint)(y5:List Keep)(y8:Talk)(y18:List Int):OO x7 x39 x40 y2 y3 y5 y8 y18=OP OO x7 x39 x40 y2 y3 y5 y8 y18:=lnT (x:=OP (fun x7 x39 x40 y2 y3 y5 y8 y18=>some (.normal,Qvj x7 x39 x40 y2 y3 y5 y8 y18)) x7 x39 x40 y2 y3 y5 y8 y18) (by simp only [OP,nxA];rfl)
def QdC (x7:Int)(y2 y3:Endpoint)(y5:List Keep)(y18:List Int):OX:=Qv (QB ON Qkg Qvi) (OM x7 y2 y3 y5 y18)
def Ew (kk:Int->Endpoint->Endpoint->List Keep->List Int->OX)(x7:Int)(y2 y3:Endpoint)(y5:List Keep)(y18:List Int):OX:=
 let a1:=((y3.1,(y3.2.1,(y3.2.2.1,(y3.2.2.2.1,(y3.2.2.2.2.1,(y3.2.2.2.2.2.1,(y3.2.2.2.2.2.2.1,(y3.2.2.2.2.2.2.2.1,(y3.2.2.2.2.2.2.2.2.1,()))))))))),(x7,(y2.2.2.2.1,())))
 br (ile x7 (imn y2.2.2.1 y3.2.2.1)) (br (decide ((Qa y18)=(y18.length:Int)/\0<=(0:Int)/\(0:Int)<=(Qa y18)/\y18.length<=16/\(y5.length:Int)<=200+(0:Int))&&WW a1 0) (kk (Qg .i64 (x7) 1) (y2) (y3) (y5++Xz a1 x7 (y18.drop (0:Int).toNat)) (y18)) none) (some (.exit 0,Qki y5))
def OR (x7:Int)(y2 y3:Endpoint)(y5:List Keep)(y18:List Int):OX:=some (.exit 0,Qki (y5++UI y3 (Qu y2) y18 x7.toNat (hiC y2 y3+1-x7).toNat))
theorem Qvl (x7:Int)(y2 y3:Endpoint)(y5:List Keep)(y18:List Int):QdC x7 y2 y3 y5 y18=Ew QdC x7 y2 y3 y5 y18:=lnT (x:=Ew (fun x7 y2 y3 y5 y18=>some (.normal,OM x7 y2 y3 y5 y18)) x7 y2 y3 y5 y18) (by simp only [Ew,nxA];rfl)
def r_f95 (p0 p1:Endpoint):OV:=
 let a1:=imx p0.2.1 p1.2.1
 br (WX p0 p1) (br (!(XV p0 p1)) (some (.t (.sl Qd) ([]:List Keep),[])) (br (Xu p0.2.2.2.1) (br (decide (1<=a1/\a1<=5/\hiC p0 p1<=4/\(([]:List Keep).length:Int)<=16*a1/\(Eg p0.2.2.2.1).length<=16)&&Gu p1 (Qu p0)) (some (.t (.sl Qd) (([]:List Keep)++UI p1 (Qu p0) (Eg p0.2.2.2.1) a1.toNat (hiC p0 p1+1-a1).toNat),[])) none) none)) none
theorem QHL (x7 x39 x40:Int)(y2 y3:Endpoint)(y5:List Keep)(y8:Talk)(y18:List Int)(h:(decide (x39=(y18.length:Int)/\0<=x40/\x40<=x39/\y18.length<=16/\(y5.length:Int)<=200+x40)&&WW y8 0)=true):OO x7 x39 x40 y2 y3 y5 y8 y18=OQ x7 x39 x40 y2 y3 y5 y8 y18:=by
 obtain ⟨h,hc⟩:=Bi.1 h
 obtain ⟨rfl,h1,h2,h3,h4⟩:=Bx h
 clear h
 obtain ⟨k,rfl⟩:=Bq h1
 have key: ∀ k,k<=y18.length→ ∀ y5:List Keep,y5.length<=200+k->OO x7 (y18.length:Int) (k:Int) y2 y3 y5 y8 y18=OQ x7 (y18.length:Int) (k:Int) y2 y3 y5 y8 y18:=by
  refine QR y18 (fun k=> ∀ y5:List Keep,y5.length<=200+k->OO x7 (y18.length:Int) (k:Int) y2 y3 y5 y8 y18=OQ x7 (y18.length:Int) (k:Int) y2 y3 y5 y8 y18) ?_ ?_
  ·intro y5 _
   rw [Qvk]
   simp only [OP,OQ,QC,BV,B2,Qf,Bd,BQ,Xz,List.filter_nil,List.map_nil,BO]
  ·intro k hk ih y5 hy
   rw [Qvk]
   have c1:cLd y18 k=true:=Be (by omega)
   have c2: ∀ v,WW y8 v=true:=fun v=>hc
   have c3: ∀ v:Keep,QJ y5 [v] 16=true:=fun v=>Ji (by omega) (by simp only [Bp];omega)
   simp only [OP,QC,QI,hk,Bv,Qc,Bd,QQ (show k<4611686018427387904 by omega),QP (y:=tI) hk,c1,c2,c3]
   rw [ih y5 (by omega),ih (y5++[(x7,(y18[k],()))]) (by simp only [Bl,Bp];omega)]
   simp only [OQ,Bd,Bj hk,QHG]
   cases UC y8 y18[k] with
   |true=>simp only [Qc,if_true,BR,BN]
   |false=>simp only [Qf,BK,Do]
 exact key k (by omega) y5 (by omega)
theorem QHM (x7:Int)(y2 y3:Endpoint)(y5:List Keep)(y18:List Int)(h:(decide (1<=x7/\x7<=5/\hiC y2 y3<=4/\(y5.length:Int)<=16*x7/\y18.length<=16)&&Gu y3 (Qu y2))=true):QdC x7 y2 y3 y5 y18=OR x7 y2 y3 y5 y18:=by
 obtain ⟨h,hc⟩:=Bi.1 h
 obtain ⟨h0,h1,h2,h3,h4⟩:=Bx h
 clear h
 obtain ⟨k,rfl⟩:=Bq (show 0<=x7 by omega)
 have key: ∀ (m k:Nat) (y5:List Keep),m=5-k->1<=k->k<=5->y5.length<=16*k->QdC (k:Int) y2 y3 y5 y18=OR (k:Int) y2 y3 y5 y18:=by
  intro m
  induction m with
  |zero=>
   intro k y5 hm h0 h1 h3
   have:k=5:=by omega
   subst this
   rw [Qvl]
   have e:(hiC y2 y3+1-((5:Nat):Int)).toNat=0:=by omega
   simp only [Ew,OR,show ile ((5:Nat):Int) (imn y2.2.2.1 y3.2.2.1)=false from Bn (by show ¬ _<=hiC y2 y3;omega),Qf,e,UI,List.range'_zero,List.flatMap_nil,BO]
  |succ m ih=>
   intro k y5 hm h0 h1 h3
   rw [Qvl]
   by_cases hk:(k:Int)<=hiC y2 y3
   ·have e1:(hiC y2 y3+1-(k:Int)).toNat=(hiC y2 y3+1-((k+1:Nat):Int)).toNat+1:=by omega
    have c0:(decide (True/\(0:Int)<=0/\(0:Int)<=Qa y18/\y18.length<=16/\(y5.length:Int)<=200+0)&&WW (y3,((k:Int),(Qu y2,()))) 0)=true:=Bi.2 ⟨Be ⟨trivial,by simp only [Qa];omega⟩,hc⟩
    have hr:=QHH (y3,((k:Int),(Qu y2,()))) (k:Int) y18
    have hi:=ih (k+1) (y5++Xz (y3,((k:Int),(Qu y2,()))) (k:Int) y18) (by omega) (by omega) (by omega) (by simp only [Bl];omega)
    simp only [Ew,show ile (k:Int) (imn y2.2.2.1 y3.2.2.1)=true from Be hk,Qc,QQ (show k<4611686018427387904 by omega),eEta]
    refine Eq.trans (congrArg (fun b=>br b _ _) c0) ?_
    rw [Qc]
    refine Eq.trans hi ?_
    simp only [OR,Bd,e1,UI,Du,BL,BR]
   ·have e1:(hiC y2 y3+1-(k:Int)).toNat=0:=by omega
    simp only [Ew,show ile (k:Int) (imn y2.2.2.1 y3.2.2.1)=false from Bn hk,Qf,OR,e1,UI,List.range'_zero,List.flatMap_nil,BO]
 exact key (5-k) k y5 rfl (by omega) (by omega) (by omega)
theorem QHN:LO ON Qkf Qvh 0:=QH (s:=QdB) fun x y h _ q=>by simp only [QF,QG] at q;exact (QHL x.2.2.2.2.1 x.2.2.2.2.2.2.2.1 x.2.2.2.2.2.2.2.2.1 y.1 y.2.1 y.2.2.1 y.2.2.2.1 y.2.2.2.2.1 h).trans q
theorem QHO:LO ON Qkg Qvi 1:=QH (s:=OL) fun x y h _ q=>by simp only [QF,QG] at q;exact (QHM x.2.2.2.2.1 y.1 y.2.1 y.2.2.1 y.2.2.2.1 h).trans q
theorem s_f95 (c s:Endpoint)(h:WX c s=true):r_f95 c s=some (.t (.sl Qd) (ZS c s),[]):=by
 obtain ⟨hc,hs⟩:=Bi.1 h
 have hs':=Gm hs
 have hc':=Gm hc
 have c1:Xu (Qu c)=true:=Be hc'.2.1
 simp only [r_f95,h,c1,Qc]
 unfold ZS
 cases hr:XV c s with
 |false=>rfl
 |true=>
  obtain ⟨hv,hw⟩:=Bi.1 hr
  have v1:=Uv hv
  have v2:=Uv hw
  have hsu:=QBw hv
  have b1:1<=loC c s/\loC c s<=4:=by simp only [loC,imx];omega
  have b2:hiC c s<=4:=by simp only [hiC,imn];omega
  have b3:(Eg (Qu c)).length<=16:=by
   show (ZX (Qu c)).length<=16
   rw [show (ZX (Qu c)).length=(Qu c).length from List.length_mergeSort _]
   exact Qsm hsu
  have c0:(decide (1<=loC c s/\loC c s<=5/\hiC c s<=4/\(([]:List Keep).length:Int)<=16*loC c s/\(Eg (Qu c)).length<=16)&&Gu s (Qu c))=true:=Bi.2 ⟨Be ⟨b1.1,by omega,b2,by simp only [BD];omega,b3⟩,Be ⟨hs'.2.2.1,hs'.2.1,hc'.2.1⟩⟩
  rw [BG,Qf,Di]
  refine Eq.trans (congrArg (fun b=>br b _ _) c0) ?_
  rw [Qc, ← QHI hsu]
  rfl
def Qvm:Ent:=Qk (.pr Qo (.pr Qo .nil)) (fun x=>(WX x.1 x.2.1)) (fun x=>(.t (.sl Qd) (ZS x.1 x.2.1)))
theorem ms_f95:EM 95 Qvm:=mS (lk:=lkL (lkc QHO (lkc QHN lkn))) ON Qkh [((.t 4),some (.sl Qd))] false (gB (gD QFh (gD QFW (gD QDV (gD Qth gN))))) fun m=>Qm m fun x hok=>kT (s_f95 x.1 x.2.1 hok)
end
end Go.Proofs.YtmjnnemhoeolgaaGreat.K
noncomputable section
namespace Go.Proofs.YtmjnnemhoeolgaaGreat.K
open Go.RowKit
noncomputable section
end
end Go.Proofs.YtmjnnemhoeolgaaGreat.K
noncomputable section
namespace Go.Proofs.YtmjnnemhoeolgaaGreat.K
open Go.RowKit
noncomputable section
theorem QDR {l:List (List Int)}(h: ∀ x∈l,x.length<=4)(k:Nat):(lgt (.sl tI) l k).length<=4:=by
 show (l.getD k []).length<=4
 rw [Bk]
 cases hk:l[k]? with
 |none=>exact B4 _
 |some x=>exact h x (Dm hk)
attribute [local irreducible] epV epN prZ
end
end Go.Proofs.YtmjnnemhoeolgaaGreat.K
noncomputable section
namespace Go.Proofs.YtmjnnemhoeolgaaGreat.K
open Go.RowKit
noncomputable section
end
end Go.Proofs.YtmjnnemhoeolgaaGreat.K
noncomputable section
namespace Go.Proofs.YtmjnnemhoeolgaaGreat.K
open Go.RowKit
noncomputable section
def YH:Option Int->List Link->Bool
 |_,[]=>true
 |pv,x::r=>JR x.1&&decide (0<=x.2.1/\x.2.1<=40000)&&(match pv with|none=>true|some d=>decide (d<x.2.1))&&YH (some x.2.1) r
theorem Qhb (pv:Option Int)(x:Link)(r:List Link):YH pv (x::r)=(JR x.1&&decide (0<=x.2.1/\x.2.1<=40000)&&(match pv with|none=>true|some d=>decide (d<x.2.1))&&YH (some x.2.1) r):=by cases pv<;>rfl
def Zu (l:List Link)(k:Nat):Option Int:=if k=0 then none else (l[k-1]?).map fun x:Link=>x.2.1
def JW (i:Item):Bool:=Jt i.1&&decide (1<=i.2.1/\i.2.1<=2)&&decide (1<=i.2.2.1/\i.2.2.1<=4)&&decide (1<=i.2.2.2.1.length/\i.2.2.2.1.length<=8)&&YH none i.2.2.2.1&&decide ((i.2.2.2.1.headD ((0,(0,())),(0,()))).2.1<=i.2.2.2.2.1/\i.2.2.2.2.1<=40000)
def ZY (i:Item):Int:=if JW i then 0 else 30
def ZZ (i:Item):Bool:=Ja i.1
abbrev Qbh:Sh:=⟨[(1,.ptr 1 0),(45,.ty (.sl JX)),(46,.ty tI),(47,.ty tI)],[(1,.box Jd)]⟩
abbrev Qhc:Sh:=⟨[(2,.ty tI)],[]⟩
abbrev Qp1:Sh:=⟨[(1,.ptr 1 0)],[(1,.box Jd)]⟩
def Qhd:Fg:=Qbh.f
def Qp2:TC:=aF Tryz.f49 [(122,pL 0 Qhd),(1957,.fg Qp1.f),(15666,pD [(0,[5]),(1,[5]),(2,[]),(3,[]),(4,[]),(5,[5]),(6,[5]),(7,[]),(8,[]),(9,[]),(10,[5]),(11,[5]),(12,[]),(13,[]),(14,[]),(15,[]),(16,[]),(17,[]),(18,[1]),(19,[1]),(20,[]),(21,[]),(22,[]),(23,[]),(24,[]),(25,[5]),(26,[5]),(27,[]),(28,[]),(29,[])] (.of [0,1,2,3,4,5,6,7,8,9,10,11,12,13,14,15,16,17,18,19,20,21,22,23,24,25,26,27,28,29])),(62669,.fg Qhc.f),(124,pD [(0,[1]),(1,[1]),(2,[1]),(3,[1]),(4,[]),(5,[]),(6,[]),(7,[]),(8,[]),(9,[1]),(10,[1]),(11,[]),(12,[])] (.of [0,1,2,3,4,5,6,7,8,9,10,11,12]))]
def Qp3:TC:=lb 0 Qp2
def Qp4 (x45:List Link)(x46 x47:Int)(y1:Item):VS:=Qbh.st ((),x45,x46,x47,()) (y1,())
def YI (x2:Int):VS:=Qhc.st (x2,()) ()
def Qhe (y1:Item):VS:=Qp1.st ((),()) (y1,())
def QBS:VS->Option (Bool×List (Bool×Exit×VS)):=mkL Qbh (fun x y=>((x.2.1==y.1.2.2.2.1)&&Qt x.2.1 x.2.2.1 x.2.2.2.1)) (fun x y=>[((!(YH (Zu x.2.1 x.2.2.2.1.toNat) (x.2.1.drop x.2.2.2.1.toNat))),.ret,YI (30)),(true,.exit 0,Qhe (y.1))])
def Qhf:G:=gG 96 [(86,I3),(87,EO)] (Ls [QBS])
def Qbi (x45:List Link)(x46 x47:Int)(y1:Item):OX:=Qv (QB Qhf Qhd Qp3) (Qp4 x45 x46 x47 y1)
def II (kk:List Link->Int->Int->Item->OX)(x45:List Link)(x46 x47:Int)(y1:Item):OX:=
 let a1:=lgt JX x45 (Int.toNat x47)
 br (ilt x47 x46) (br (cIx x45 x47) (br (!(JR (a1.1))) (some (.ret,YI 30)) (br (ilt ((a1.2).1) 0) (some (.ret,YI 30)) (br (igt ((a1.2).1) 40000) (some (.ret,YI 30)) (br (igt x47 0) (br (cIx y1.2.2.2.1 (Jc .i64 x47 1)) (br (ige (((lgt JX y1.2.2.2.1 (Int.toNat (Jc .i64 x47 1))).2).1) ((a1.2).1)) (some (.ret,YI 30)) (kk x45 x46 (Qg .i64 x47 1) y1)) none) (kk x45 x46 (Qg .i64 x47 1) y1))))) none) (some (.exit 0,Qhe y1))
def FJ (x45:List Link)(x46 x47:Int)(y1:Item):OX:=br (!(YH (Zu x45 x47.toNat) (x45.drop x47.toNat))) (some (.ret,YI (30)))<|some (.exit 0,Qhe (y1))
theorem Qp5 (x45:List Link)(x46 x47:Int)(y1:Item):Qbi x45 x46 x47 y1=II Qbi x45 x46 x47 y1:=lnT (x:=II (fun x45 x46 x47 y1=>some (.normal,Qp4 x45 x46 x47 y1)) x45 x46 x47 y1) (by simp only [II,nxA];rfl)
def IJ (p0:Item):OV:=
 let a1:=((((p0).2).2).2)
 let a2:=Qa p0.2.2.2.1
 br (ilt p0.2.2.1 1) (some (.t tI 30,[])) (br (igt p0.2.2.1 4) (some (.t tI 30,[])) (br (ilt a2 1) (some (.t tI 30,[])) (br (igt a2 8) (some (.t tI 30,[])) (br ((p0.2.2.2.1==p0.2.2.2.1)&&Qt p0.2.2.2.1 a2 (0:Int)) (br (!(YH (Zu p0.2.2.2.1 (0:Int).toNat) (p0.2.2.2.1.drop (0:Int).toNat))) (some (.t tI (30),[])) (br (cIx (a1.1) 0) (br (ilt ((a1.2).1) (((lgt JX (a1.1) (Int.toNat 0)).2).1)) (some (.t tI 30,[])) (br (igt ((a1.2).1) 40000) (some (.t tI 30,[])) (some (.t tI 0,[])))) none)) none))))
def r_f49 (p0:Item):OV:=br (ieq p0.2.1 1) (br (Ja p0.1) (br (!(Jt p0.1)) (some (.t tI 30,[])) (br (!true) (some (.t tI 30,[])) (IJ p0))) none) (br (Ja p0.1) (br (!(Jt p0.1)) (some (.t tI 30,[])) (br (!(ieq p0.2.1 2)) (some (.t tI 30,[])) (IJ p0))) none)
theorem QBT (x45:List Link)(x46 x47:Int)(y1:Item)(h:((x45==y1.2.2.2.1)&&Qt x45 x46 x47)=true):Qbi x45 x46 x47 y1=FJ x45 x46 x47 y1:=by
 simp only [Bc,Dj] at h
 obtain ⟨hx,h0⟩:=h
 obtain ⟨rfl,h3,k,rfl,hk⟩:=Jy h0
 clear h0
 refine QR x45 (fun k=>Qbi x45 (x45.length:Int) (k:Int) y1=FJ x45 (x45.length:Int) (k:Int) y1) ?_ ?_ k hk
 ·rw [Qp5]
  simp [II,FJ,QC,Qf,YH]
 ·intro k hk ih
  rw [Qp5]
  have el:FJ x45 (x45.length:Int) (k:Int) y1=br (!(JR x45[k].1&&decide (0<=x45[k].2.1/\x45[k].2.1<=40000)&&(match Zu x45 k with|none=>true|some d=>decide (d<x45[k].2.1)))) (some (.ret,YI 30)) (FJ x45 (x45.length:Int) ((k+1:Nat):Int) y1):=by
   have e1:Zu x45 (k+1)=some x45[k].2.1:=by
    unfold Zu
    rw [if_neg (by omega),Nat.add_sub_cancel,Bf hk]
    rfl
   simp only [FJ,Bd,e1]
   rw [Bj hk,Qhb]
   generalize (JR x45[k].1&&decide (0<=x45[k].2.1/\x45[k].2.1<=40000)&&(match Zu x45 k with|none=>true|some d=>decide (d<x45[k].2.1)))=c
   cases c<;>rfl
  rw [el]
  simp only [II,QC,QI,hk,Bv,Qc,Bd,QQ (show k<4611686018427387904 by omega),QP (y:=JX) hk,ih, ← hx]
  cases JR x45[k].1 with
  |false=>rfl
  |true=>
   simp only [BG,Qf,BE]
   by_cases c1:x45[k].2.1<0
   ·rw [show ilt x45[k].2.1 0=true from Be c1,Qc,Bn (show ¬ (0<=x45[k].2.1/\x45[k].2.1<=40000) by omega)]
    rfl
   ·rw [show ilt x45[k].2.1 0=false from Bn c1,Qf]
    by_cases c2:40000<x45[k].2.1
    ·rw [show igt x45[k].2.1 40000=true from Be (by omega),Qc,Bn (show ¬ (0<=x45[k].2.1/\x45[k].2.1<=40000) by omega)]
     rfl
    ·rw [show igt x45[k].2.1 40000=false from Bn (by omega),Qf,Be (show 0<=x45[k].2.1/\x45[k].2.1<=40000 by omega)]
     simp only [BE]
     by_cases hk0:k=0
     ·subst hk0
      rfl
     ·have hk1:k-1<x45.length:=by omega
      have e1:Jc .i64 (k:Int) 1=((k-1:Nat):Int):=by rw [XG (by omega)];omega
      have e2:igt (k:Int) 0=true:=by simp only [igt,Ba];omega
      have e3:Zu x45 k=some x45[k-1].2.1:=by
       unfold Zu
       rw [if_neg hk0,Bf hk1]
       rfl
      rw [e1,e2,e3,Qc]
      simp only [QI,hk1,Bv,Qc,Bd,QP (y:=JX) hk1]
      by_cases c3:x45[k-1].2.1<x45[k].2.1
      ·rw [show ige x45[k-1].2.1 x45[k].2.1=false from Bn (by omega),Qf,Be c3]
       rfl
      ·rw [show ige x45[k-1].2.1 x45[k].2.1=true from Be (by omega),Qc,Bn c3]
       rfl
theorem QBU:LO Qhf Qhd Qp3 0:=QH (s:=Qbh) fun x y h _ q=>by simp only [QF,QG] at q;exact (QBT x.2.1 x.2.2.1 x.2.2.2.1 y.1 h).trans q
theorem Zf {i:Item}:JW i=true↔Jt i.1=true/\(1<=i.2.1/\i.2.1<=2)/\(1<=i.2.2.1/\i.2.2.1<=4)/\(1<=i.2.2.2.1.length/\i.2.2.2.1.length<=8)/\YH none i.2.2.2.1=true/\(i.2.2.2.1.headD ((0,(0,())),(0,()))).2.1<=i.2.2.2.2.1/\i.2.2.2.2.1<=40000:=by
 unfold JW
 simp only [Bc,Ba,and_assoc]
theorem s_f49 (i:Item)(h:ZZ i=true):r_f49 i=some (.t tI (ZY i),[]):=by
 have h:Ja i.1=true:=h
 have bad:(JW i=true->False)->some (V.t tI 30,([]:List VO))=some (V.t tI (ZY i),[]):=fun hq=>by
  cases hi:JW i with
  |false=>simp [ZY,hi]
  |true=>exact (hq hi).elim
 have tail:Jt i.1=true->(1<=i.2.1/\i.2.1<=2)->IJ i=some (.t tI (ZY i),[]):=fun k1 k2=>by
  simp only [IJ]
  refine QY (fun g=>bad fun hq=> ?_) (fun g1=>QY (fun g=>bad fun hq=> ?_) (fun g2=>QY (fun g=>bad fun hq=> ?_) (fun g3=>QY (fun g=>bad fun hq=> ?_) (fun g4=> ?_))))
  ·have:=Zf.1 hq;simp only [ilt,Ba] at g;omega
  ·have:=Zf.1 hq;simp only [igt,Ba] at g;omega
  ·have:=Zf.1 hq;simp only [ilt,Qa,Ba] at g;omega
  ·have:=Zf.1 hq;simp only [igt,Qa,Ba] at g;omega
  ·simp only [ilt,igt,Qa,Bo] at g1 g2 g3 g4
   rw [beq_self_eq_true,BE,Jz (by omega),Qc]
   have e0:Zu i.2.2.2.1 (0:Int).toNat=none:=rfl
   rw [e0,Bu,BA]
   refine QY (fun g=>bad fun hq=> ?_) (fun g5=> ?_)
   ·have:=Zf.1 hq
    rw [this.2.2.2.2.1] at g
    cases g
   ·have hl:0<i.2.2.2.1.length:=by omega
    have e1:cIx i.2.2.2.1 0=true:=by simp only [cIx,Ba];omega
    have e2:lgt JX i.2.2.2.1 0=i.2.2.2.1.headD ((0,(0,())),(0,())):=by
     cases hq:i.2.2.2.1 with
     |nil=>rw [hq] at hl;simp at hl
     |cons a l=>rfl
    rw [e1,Qc,e2]
    refine QY (fun g=>bad fun hq=> ?_) (fun g6=>QY (fun g=>bad fun hq=> ?_) (fun g7=> ?_))
    ·have:=Zf.1 hq;simp only [ilt,Ba] at g;omega
    ·have:=Zf.1 hq;simp only [igt,Ba] at g;omega
    ·simp only [ilt,igt,Bo] at g6 g7
     have:JW i=true:=Zf.2 ⟨k1,k2,by omega,by omega,by simpa using g5,by omega,by omega⟩
     simp [ZY,this]
 simp only [r_f49,IJ] at tail ⊢
 rw [h]
 simp only [Qc]
 refine QY (fun g1=>QY (fun g=>bad fun hq=> ?_) (fun g2=> ?_)) (fun g1=>QY (fun g=>bad fun hq=> ?_) (fun g2=>QY (fun g=>bad fun hq=> ?_) (fun g3=> ?_)))
 ·rw [(Zf.1 hq).1] at g;cases g
 ·simp only [YA,Ba] at g1
  exact tail (by simpa using g2) (by omega)
 ·rw [(Zf.1 hq).1] at g;cases g
 ·have:=Zf.1 hq
  simp only [YA,Bo,Br,Ba] at g1 g
  omega
 ·simp only [YA,Bo,Bool.not_eq_false',Ba] at g1 g3
  exact tail (by simpa using g2) (by omega)
def Qp6:Ent:=Qk (.pr Jd .nil) (fun x=>(ZZ x.1)) (fun x=>(.t tI (ZY x.1)))
theorem ms_f49:EM 49 Qp6:=mS (lk:=lkL (lkc QBU lkn)) Qhf Qp2 [((.t 2),some tI)] false (gB (gD QbX (gD Vr gN))) fun m=>Qm m fun x hok=>kT (s_f49 x.1 hok)
abbrev Qbj:Sh:=⟨[(1,.ptr 1 0),(3,.ty tI)],[(1,.box Jd)]⟩
abbrev Qp7:Sh:=⟨[],[]⟩
def Qhg:Fg:=Qbj.f
def Qp8:TC:=aF Tryz.f69 [(12,pD [(0,[1]),(1,[1]),(2,[]),(3,[]),(4,[]),(5,[1]),(6,[1]),(7,[]),(8,[]),(9,[1]),(10,[1]),(11,[]),(12,[]),(13,[]),(14,[]),(15,[1]),(16,[1]),(17,[]),(18,[]),(19,[]),(20,[1]),(21,[1]),(22,[]),(23,[]),(24,[]),(25,[1]),(26,[1]),(27,[]),(28,[]),(29,[]),(30,[]),(31,[1]),(32,[1]),(33,[]),(34,[]),(35,[]),(36,[]),(37,[1]),(38,[1]),(39,[]),(40,[]),(41,[]),(42,[1]),(43,[1]),(44,[1]),(45,[1]),(46,[]),(47,[]),(48,[]),(49,[]),(50,[])] (.of [0,1,2,3,4,5,6,7,8,9,10,11,12,13,14,15,16,17,18,19,20,21,22,23,24,25,26,27,28,29,30,31,32,33,34,35,36,37,38,39,40,41,42,43,44,45,46,47,48,49,50])),(58,pL 0 Qhg),(931,.fg Qp7.f),(1864,pD [(0,[1]),(1,[1]),(2,[]),(3,[]),(4,[]),(5,[]),(6,[]),(7,[]),(8,[]),(9,[1]),(10,[1]),(11,[]),(12,[]),(13,[]),(14,[]),(15,[]),(16,[]),(17,[]),(18,[1]),(19,[1]),(20,[]),(21,[]),(22,[]),(23,[]),(24,[]),(25,[]),(26,[]),(27,[]),(28,[]),(29,[]),(30,[1]),(31,[1]),(32,[]),(33,[]),(34,[]),(35,[]),(36,[]),(37,[1]),(38,[1]),(39,[]),(40,[]),(41,[]),(42,[]),(43,[]),(44,[]),(45,[])] (.of [0,1,2,3,4,5,6,7,8,9,10,11,12,13,14,15,16,17,18,19,20,21,22,23,24,25,26,27,28,29,30,31,32,33,34,35,36,37,38,39,40,41,42,43,44,45])),(7461,.fg Qhc.f)]
def Qp9:TC:=lb 0 Qp8
def Qqa (x3:Int)(y1:Item):VS:=Qbj.st ((),x3,()) (y1,())
def Qhh  : VS:=Qp7.st () ()
def QBV:VS->Option (Bool×List (Bool×Exit×VS)):=mkL Qbj (fun x y=>(decide (0<=x.2.1/\x.2.1<=y.1.2.2.2.1.length/\y.1.2.2.2.1.length<=8))) (fun x y=>[((!(YH (Zu y.1.2.2.2.1 x.2.1.toNat) (y.1.2.2.2.1.drop x.2.1.toNat))),.ret,YI (30)),(true,.exit 0,Qhh)])
def Qhi:G:=gG 108 [(116,Qh6),(117,QeF)] (Ls [QBV])
def Qbk (x3:Int)(y1:Item):OX:=Qv (QB Qhi Qhg Qp9) (Qqa x3 y1)
def IK (kk:Int->Item->OX)(x3:Int)(y1:Item):OX:=
 let a1:=lgt JX y1.2.2.2.1 (Int.toNat x3)
 let a2:=cIx y1.2.2.2.1 x3
 br (ilt x3 (Qa y1.2.2.2.1)) (br a2 (br (!(JR (a1.1))) (some (.ret,YI 30)) (br a2 (br (ilt ((a1.2).1) 0) (some (.ret,YI 30)) (br a2 (br (igt ((a1.2).1) 40000) (some (.ret,YI 30)) (br (igt x3 0) (br (cIx y1.2.2.2.1 (Jc .i64 x3 1)) (br a2 (br (ige (((lgt JX y1.2.2.2.1 (Int.toNat (Jc .i64 x3 1))).2).1) ((a1.2).1)) (some (.ret,YI 30)) (kk (Qg .i64 x3 1) y1)) none) none) (kk (Qg .i64 x3 1) y1))) none)) none)) none) (some (.exit 0,Qhh))
def FK (x3:Int)(y1:Item):OX:=br (!(YH (Zu y1.2.2.2.1 x3.toNat) (y1.2.2.2.1.drop x3.toNat))) (some (.ret,YI (30)))<|some (.exit 0,Qhh)
theorem Qqb (x3:Int)(y1:Item):Qbk x3 y1=IK Qbk x3 y1:=lnT (x:=IK (fun x3 y1=>some (.normal,Qqa x3 y1)) x3 y1) (by simp only [IK,nxA];rfl)
def Qbl (p0:Item):OV:=br (ilt p0.2.2.1 1) (some (.t tI 30,[])) (br (igt p0.2.2.1 4) (some (.t tI 30,[])) (br (ilt (Qa p0.2.2.2.1) 1) (some (.t tI 30,[])) (br (igt (Qa p0.2.2.2.1) 8) (some (.t tI 30,[])) (br (igt p0.2.2.2.2.1 40000) (some (.t tI 30,[])) (br (cIx p0.2.2.2.1 0) (br (ilt p0.2.2.2.2.1 (((lgt JX p0.2.2.2.1 (Int.toNat 0)).2).1)) (some (.t tI 30,[])) (br (decide (0<=(0:Int)/\(0:Int)<=p0.2.2.2.1.length/\p0.2.2.2.1.length<=8)) (br (!(YH (Zu p0.2.2.2.1 (0:Int).toNat) (p0.2.2.2.1.drop (0:Int).toNat))) (some (.t tI (30),[])) (some (.t tI 0,[]))) none)) none)))))
def r_f69 (p0:Item):OV:=br (Ja p0.1) (br (!(Jt p0.1)) (some (.t tI 30,[])) (br (ine p0.2.1 1) (br (ine p0.2.1 2) (some (.t tI 30,[])) (Qbl p0)) (Qbl p0))) none
theorem QBW (x3:Int)(y1:Item)(h:(decide (0<=x3/\x3<=y1.2.2.2.1.length/\y1.2.2.2.1.length<=8))=true):Qbk x3 y1=FK x3 y1:=by
 simp only [Ba] at h
 obtain ⟨h1,h2,h3⟩:=h
 obtain ⟨k,rfl⟩:=Bq h1
 refine QR y1.2.2.2.1 (fun k=>Qbk (k:Int) y1=FK (k:Int) y1) ?_ ?_ k (by omega)
 ·rw [Qqb]
  simp [IK,FK,QC,Qa,Qf,YH]
 ·intro k hk ih
  rw [Qqb]
  have el:FK (k:Int) y1=br (!(JR y1.2.2.2.1[k].1&&decide (0<=y1.2.2.2.1[k].2.1/\y1.2.2.2.1[k].2.1<=40000)&&(match Zu y1.2.2.2.1 k with|none=>true|some d=>decide (d<y1.2.2.2.1[k].2.1)))) (some (.ret,YI 30)) (FK ((k+1:Nat):Int) y1):=by
   have e1:Zu y1.2.2.2.1 (k+1)=some y1.2.2.2.1[k].2.1:=by
    unfold Zu
    rw [if_neg (by omega),Nat.add_sub_cancel,Bf hk]
    rfl
   simp only [FK,Bd,e1]
   rw [Bj hk,Qhb]
   generalize (JR y1.2.2.2.1[k].1&&decide (0<=y1.2.2.2.1[k].2.1/\y1.2.2.2.1[k].2.1<=40000)&&(match Zu y1.2.2.2.1 k with|none=>true|some d=>decide (d<y1.2.2.2.1[k].2.1)))=c
   cases c<;>rfl
  rw [el]
  simp only [IK,QC,Qa,QI,hk,Bv,Qc,Bd,QQ (show k<4611686018427387904 by omega),QP (y:=JX) hk,ih]
  cases JR y1.2.2.2.1[k].1 with
  |false=>rfl
  |true=>
   simp only [BG,Qf,BE]
   by_cases c1:y1.2.2.2.1[k].2.1<0
   ·rw [show ilt y1.2.2.2.1[k].2.1 0=true from Be c1,Qc,Bn (show ¬ (0<=y1.2.2.2.1[k].2.1/\y1.2.2.2.1[k].2.1<=40000) by omega)]
    rfl
   ·rw [show ilt y1.2.2.2.1[k].2.1 0=false from Bn c1,Qf]
    by_cases c2:40000<y1.2.2.2.1[k].2.1
    ·rw [show igt y1.2.2.2.1[k].2.1 40000=true from Be (by omega),Qc,Bn (show ¬ (0<=y1.2.2.2.1[k].2.1/\y1.2.2.2.1[k].2.1<=40000) by omega)]
     rfl
    ·rw [show igt y1.2.2.2.1[k].2.1 40000=false from Bn (by omega),Qf,Be (show 0<=y1.2.2.2.1[k].2.1/\y1.2.2.2.1[k].2.1<=40000 by omega)]
     simp only [BE]
     by_cases hk0:k=0
     ·subst hk0
      rfl
     ·have hk1:k-1<y1.2.2.2.1.length:=by omega
      have e1:Jc .i64 (k:Int) 1=((k-1:Nat):Int):=by rw [XG (by omega)];omega
      have e2:igt (k:Int) 0=true:=by simp only [igt,Ba];omega
      have e3:Zu y1.2.2.2.1 k=some y1.2.2.2.1[k-1].2.1:=by
       unfold Zu
       rw [if_neg hk0,Bf hk1]
       rfl
      rw [e1,e2,e3,Qc]
      simp only [QI,hk1,Bv,Qc,Bd,QP (y:=JX) hk1]
      by_cases c3:y1.2.2.2.1[k-1].2.1<y1.2.2.2.1[k].2.1
      ·rw [show ige y1.2.2.2.1[k-1].2.1 y1.2.2.2.1[k].2.1=false from Bn (by omega),Qf,Be c3]
       rfl
      ·rw [show ige y1.2.2.2.1[k-1].2.1 y1.2.2.2.1[k].2.1=true from Be (by omega),Qc,Bn c3]
       rfl
theorem QBX:LO Qhi Qhg Qp9 0:=QH (s:=Qbj) fun x y h _ q=>by simp only [QF,QG] at q;exact (QBW x.2.1 y.1 h).trans q
theorem s_f69 (i:Item)(h:ZZ i=true):r_f69 i=some (.t tI (ZY i),[]):=by
 have h:Ja i.1=true:=h
 have bad:(JW i=true->False)->some (V.t tI 30,([]:List VO))=some (V.t tI (ZY i),[]):=fun hq=>by
  cases hi:JW i with
  |false=>simp [ZY,hi]
  |true=>exact (hq hi).elim
 have tail:Jt i.1=true->(1<=i.2.1/\i.2.1<=2)->Qbl i=some (.t tI (ZY i),[]):=fun k1 k2=>by
  simp only [Qbl]
  refine QY (fun g=>bad fun hq=> ?_) (fun g1=>QY (fun g=>bad fun hq=> ?_) (fun g2=>QY (fun g=>bad fun hq=> ?_) (fun g3=>QY (fun g=>bad fun hq=> ?_) (fun g4=>QY (fun g=>bad fun hq=> ?_) (fun g5=> ?_)))))
  ·have:=Zf.1 hq;simp only [ilt,Ba] at g;omega
  ·have:=Zf.1 hq;simp only [igt,Ba] at g;omega
  ·have:=Zf.1 hq;simp only [ilt,Qa,Ba] at g;omega
  ·have:=Zf.1 hq;simp only [igt,Qa,Ba] at g;omega
  ·have:=Zf.1 hq;simp only [igt,Ba] at g;omega
  ·simp only [ilt,igt,Qa,Bo] at g1 g2 g3 g4 g5
   have hl:0<i.2.2.2.1.length:=by omega
   have e1:cIx i.2.2.2.1 0=true:=by simp only [cIx,Ba];omega
   have e2:lgt JX i.2.2.2.1 (Int.toNat 0)=i.2.2.2.1.headD ((0,(0,())),(0,())):=by
    cases hq:i.2.2.2.1 with
    |nil=>rw [hq] at hl;simp at hl
    |cons a l=>rfl
   rw [e1,Qc,e2]
   refine QY (fun g=>bad fun hq=> ?_) (fun g6=> ?_)
   ·have:=Zf.1 hq;simp only [ilt,Ba] at g;omega
   ·simp only [ilt,Bo] at g6
    rw [G7 ⟨BX 0,by omega,by omega⟩,Qc]
    have e0:Zu i.2.2.2.1 (0:Int).toNat=none:=rfl
    rw [e0,Bu,BA]
    refine QY (fun g=>bad fun hq=> ?_) (fun g7=> ?_)
    ·have:=Zf.1 hq
     rw [this.2.2.2.2.1] at g
     cases g
    ·have:JW i=true:=Zf.2 ⟨k1,k2,by omega,by omega,by simpa using g7,by omega,by omega⟩
     simp [ZY,this]
 simp only [r_f69]
 rw [h]
 simp only [Qc]
 refine QY (fun g=>bad fun hq=> ?_) (fun g1=>QY (fun g2=>QY (fun g=>bad fun hq=> ?_) (fun g3=> ?_)) (fun g2=> ?_))
 ·rw [(Zf.1 hq).1] at g;cases g
 ·have:=Zf.1 hq
  simp only [ine,bne_iff_ne,ne_eq] at g g2
  omega
 ·simp only [ine,bne_eq_false_iff_eq] at g3
  exact tail (by simpa using g1) (by omega)
 ·simp only [ine,bne_eq_false_iff_eq] at g2
  exact tail (by simpa using g1) (by omega)
def Qqc:Ent:=Qk (.pr Jd .nil) (fun x=>(ZZ x.1)) (fun x=>(.t tI (ZY x.1)))
theorem ms_f69:EM 69 Qqc:=mS (lk:=lkL (lkc QBX lkn)) Qhi Qp8 [((.t 2),some tI)] false (gB (gD QrE (gD QlB gN))) fun m=>Qm m fun x hok=>kT (s_f69 x.1 hok)
end
end Go.Proofs.YtmjnnemhoeolgaaGreat.K
noncomputable section
namespace Go.Proofs.YtmjnnemhoeolgaaGreat.K
open Go.RowKit
noncomputable section
abbrev Jn (l:List Keep)(k:Nat):Keep:=l.getD k zK
def egLt (a b:Keep):Bool:= !igt a.1 b.1&& !(ieq a.1 b.1&&ige a.2.1 b.2.1)
def GW (n:Int)(x:Keep):Bool:= !ilt x.1 0&&(!ige x.1 n&&(!ilt x.2.1 0&&(!ige x.2.1 n&& !ieq x.1 x.2.1)))
def EP (n:Int)(l:List Keep)(k:Nat):Bool:=GW n (Jn l k)&&(decide (k=0)||egLt (Jn l (k-1)) (Jn l k))
def J4 (n:Int)(l:List Keep)(k:Nat):Bool:=(List.range' k (l.length-k)).all (EP n l)
theorem QxP (n:Int)(l:List Keep):J4 n l l.length=true:=by
 unfold J4
 rw [Nat.sub_self]
 rfl
theorem QxQ {n:Int}{l:List Keep}{k:Nat}(hk:k<l.length):J4 n l k=(EP n l k&&J4 n l (k+1)):=by
 have:l.length-k=(l.length-(k+1))+1:=by omega
 unfold J4
 rw [this,Du,BU]
theorem QxR {β:Type}(c1 c2 c3 c4 c5 u:Bool)(R E:Option β):br c1 R (br c2 R (br c3 R (br c4 R (br c5 R (br (!u) R E)))))=br (!(((!c1&&(!c2&&(!c3&&(!c4&& !c5))))&&true)&&u)) R E:=by
 cases c1<;>cases c2<;>cases c3<;>cases c4<;>cases c5<;>rfl
theorem QxS {β:Type}(c1 c2 c3 c4 c5 a b c u:Bool)(R E:Option β):br c1 R (br c2 R (br c3 R (br c4 R (br c5 R (br a R (br b (br c R (br (!u) R E)) (br (!u) R E)))))))=br (!(((!c1&&(!c2&&(!c3&&(!c4&& !c5))))&&(!a&& !(b&&c)))&&u)) R E:=by
 cases c1<;>cases c2<;>cases c3<;>cases c4<;>cases c5<;>cases a<;>cases b<;>cases c<;>rfl
theorem QeG {k:Nat}(hk:k<100000)(h0:k≠0):Jc .i64 (k:Int) 1=((k-1:Nat):Int):=by
 rw [XG (by omega)]
 omega
def Vv (l:List Keep)(n:Int):Bool:=J4 n l 0&&ile (Qa l) 40
def QeH (l:List Keep)(_n:Int):Bool:=decide (l.length<=99999)
abbrev QeI:Sh:=⟨[(0,.ty (.sl Qd)),(1,.ty tI),(7,.ty (.sl Qd)),(8,.ty tI),(9,.ty tI)],[]⟩
abbrev QlD:Sh:=⟨[(4,.ty .bool)],[]⟩
abbrev QxT:Sh:=⟨[(0,.ty (.sl Qd))],[]⟩
def QlE:Fg:=QeI.f
def QxU:TC:=aF Tryz.f50 [(26,pL 0 QlE),(421,.fg QxT.f),(27029,.fg QlD.f),(6758,pD [(0,[]),(1,[]),(2,[]),(3,[]),(4,[]),(5,[]),(6,[]),(7,[]),(8,[]),(9,[6]),(10,[6]),(11,[]),(12,[]),(13,[]),(14,[]),(15,[]),(16,[]),(17,[]),(18,[]),(19,[6]),(20,[6]),(21,[]),(22,[]),(23,[]),(24,[]),(25,[]),(26,[]),(27,[]),(28,[]),(29,[6]),(30,[6]),(31,[]),(32,[]),(33,[]),(34,[])] (.of [0,1,2,3,4,5,6,7,8,9,10,11,12,13,14,15,16,17,18,19,20,21,22,23,24,25,26,27,28,29,30,31,32,33,34])),(27037,.fg QlD.f)]
def QxV:TC:=lb 0 QxU
def QxW (x0:List Keep)(x1:Int)(x7:List Keep)(x8 x9:Int):VS:=QeI.st (x0,x1,x7,x8,x9,()) ()
def Uf (x4:Bool):VS:=QlD.st (x4,()) ()
def QlF (x0:List Keep):VS:=QxT.st (x0,()) ()
def QKf:VS->Option (Bool×List (Bool×Exit×VS)):=mkL QeI (fun x y=>(x.2.2.1==x.1&&(Qt x.2.2.1 x.2.2.2.1 x.2.2.2.2.1&&decide (x.2.2.1.length<=99999)))) (fun x y=>[((!J4 x.2.1 x.2.2.1 x.2.2.2.2.1.toNat),.ret,Uf (false)),(true,.exit 0,QlF (x.1))])
def QlG:G:=gG 80 [] (Ls [QKf])
def QeJ (x0:List Keep)(x1:Int)(x7:List Keep)(x8 x9:Int):OX:=Qv (QB QlG QlE QxV) (QxW x0 x1 x7 x8 x9)
def Vw (kk:List Keep->Int->List Keep->Int->Int->OX)(x0:List Keep)(x1:Int)(x7:List Keep)(x8 x9:Int):OX:=
 let a1:=lgt Qd x7 (Int.toNat x9)
 let a2:=lgt Qd x0 (Int.toNat (Jc .i64 x9 1))
 let a3:=cIx x0 (Jc .i64 x9 1)
 let a4:=Qg .i64 x9 1
 br (ilt x9 x8) (br (cIx x7 x9) (br (ilt (a1.1) 0) (some (.ret,Uf false)) (br (ige (a1.1) x1) (some (.ret,Uf false)) (br (ilt ((a1.2).1) 0) (some (.ret,Uf false)) (br (ige ((a1.2).1) x1) (some (.ret,Uf false)) (br (ieq (a1.1) ((a1.2).1)) (some (.ret,Uf false)) (br (igt x9 0) (br a3 (br (igt (a2.1) (a1.1)) (some (.ret,Uf false)) (br a3 (br (ieq (a2.1) (a1.1)) (br a3 (br (ige ((a2.2).1) ((a1.2).1)) (some (.ret,Uf false)) (kk x0 x1 x7 x8 a4)) none) (kk x0 x1 x7 x8 a4)) none)) none) (kk x0 x1 x7 x8 a4))))))) none) (some (.exit 0,QlF x0))
def QeK (x0:List Keep)(x1:Int)(x7:List Keep)(x8 x9:Int):OX:=br (!J4 x1 x7 x9.toNat) (some (.ret,Uf (false)))<|some (.exit 0,QlF (x0))
theorem QxX (x0:List Keep)(x1:Int)(x7:List Keep)(x8 x9:Int):QeJ x0 x1 x7 x8 x9=Vw QeJ x0 x1 x7 x8 x9:=lnT (x:=Vw (fun x0 x1 x7 x8 x9=>some (.normal,QxW x0 x1 x7 x8 x9)) x0 x1 x7 x8 x9) (by simp only [Vw,nxA];rfl)
def r_f50 (p0:List Keep)(p1:Int):OV:=br (p0==p0&&(Qt p0 (Qa p0) (0:Int)&&decide (p0.length<=99999))) (br (!J4 p1 p0 (0:Int).toNat) (some (.t .bool (false),[])) (some (.t .bool (ile (Qa (p0)) 40),[]))) none
theorem QKg (x0:List Keep)(x1:Int)(x7:List Keep)(x8 x9:Int)(h:(x7==x0&&(Qt x7 x8 x9&&decide (x7.length<=99999)))=true):QeJ x0 x1 x7 x8 x9=QeK x0 x1 x7 x8 x9:=by
 simp only [Bc,Dj,Ba] at h
 obtain ⟨rfl,h0,hl⟩:=h
 obtain ⟨rfl,h3,k,rfl,hk⟩:=Jy h0
 clear h0
 refine QR x7 (fun k=>QeJ x7 x1 x7 (x7.length:Int) (k:Int)=QeK x7 x1 x7 (x7.length:Int) (k:Int)) ?_ ?_ k hk
 ·rw [QxX]
  simp only [Vw,QeK,QC,BV,B2,Qf,Bd,QxP,BG]
 ·intro k hk ih
  rw [QxX]
  simp only [Vw,QC,QI,hk,Bv,Qc,Bd,QQ (show k<4611686018427387904 by omega),ih]
  simp only [QeK,Bd,QxQ hk]
  by_cases hk0:k=0
  ·subst hk0
   rw [show igt ((0:Nat):Int) 0=false from rfl]
   simp only [Qf]
   exact QxR ..
  ·rw [show igt (k:Int) 0=true from Be (by omega),QeG (by omega) hk0]
   simp only [Qc,QI,show k-1<x7.length by omega,Bv,Bd]
   unfold EP
   rw [show decide (k=0)=false from Bn hk0,Df]
   exact QxS ..
theorem QKh:LO QlG QlE QxV 0:=QH (s:=QeI) fun x y h _ q=>by simp only [QF,QG] at q;exact (QKg x.1 x.2.1 x.2.2.1 x.2.2.2.1 x.2.2.2.2.1 h).trans q
theorem s_f50 (l:List Keep)(n:Int)(h:QeH l n=true):r_f50 l n=some (.t .bool (Vv l n),[]):=by
 have hl:l.length<=99999:=Bx h
 simp only [r_f50,beq_self_eq_true,BE,Jz (show l.length<=100000 by omega),Be hl,Qc,Bu]
 unfold Vv
 cases J4 n l 0<;>rfl
def QxY:Ent:=Qk (.pr (.sl Qd) (.pr tI .nil)) (fun x=>(QeH x.1 x.2.1)) (fun x=>(.t .bool (Vv x.1 x.2.1)))
theorem ms_f50:EM 50 QxY:=mS (lk:=lkL (lkc QKh lkn)) QlG QxU [((.t 4),some .bool)] false (gB gN) fun m=>Qm m fun x hok=>kT (s_f50 x.1 x.2.1 hok)
def Yy (i:Item):Bool:=ine (ZY i) 0
theorem QxZ (i:Item):Yy i= !JW i:=by
 unfold Yy ZY
 cases JW i<;>rfl
def tc_f48:TC:=aF Tryz.f48 []
def g_f48:G:=gG 6 [(49,Qp6)] (fun _ _=>none)
def r_f48 (p0:Item):OV:=br (ZZ p0) (some (.t .bool (ine (ZY p0) 0),[])) none
theorem s_f48 (i:Item)(h:ZZ i=true):r_f48 i=some (.t .bool (Yy i),[]):=by
 simp only [r_f48,h,Qc]
 rfl
def Qx0:Ent:=Qk (.pr Jd .nil) (fun x=>(ZZ x.1)) (fun x=>(.t .bool (Yy x.1)))
theorem ms_f48:EM 48 Qx0:=mS g_f48 tc_f48 [((.t 2),some .bool)] false (gB (gD ms_f49 gN)) fun m=>Qm m fun x hok=>kT (s_f48 x.1 hok)
def ZU (l:List Item):Bool:=decide (l.length<=100000)&&l.all ZZ
theorem QKi {l:List Item}(h:ZU l=true){k:Nat}(hk:k<l.length):ZZ l[k]=true:=by
 simp only [ZU,Bc,Bg] at h
 exact h.2 _ (Bw hk)
theorem Qx1 {l:List Item}(h:ZU l=true):l.length<=100000:=by
 simp only [ZU,Bc,Ba] at h
 exact h.1
def EQ (l:List Item):Int:=match QD Yy l with|some k=>(k:Int)|none=> -1
abbrev QeL:Sh:=⟨[(0,.ty (.sl Jd)),(1,.cf 48),(7,.ty tI),(8,.ty tI)],[]⟩
abbrev Qx2:Sh:=⟨[(4,.ty tI)],[]⟩
abbrev QeM:Sh:=⟨[],[]⟩
def QlH:Fg:=QeL.f
def Qx3:TC:=aF Tryz.f85 [(26,pL 0 QlH),(421,.fg QeM.f),(13517,.fg Qx2.f)]
def Qx4:TC:=lb 0 Qx3
def Qx5 (x0:List Item)(x7 x8:Int):VS:=QeL.st (x0,(),x7,x8,()) ()
def QlI (x4:Int):VS:=Qx2.st (x4,()) ()
def QlJ  : VS:=QeM.st () ()
def QKj:VS->Option (Bool×List (Bool×Exit×VS)):=mkL QeL (fun x y=>(Qt x.1 x.2.2.1 x.2.2.2.1&&ZU x.1)) (fun x y=>[(((QD Yy (x.1.drop x.2.2.2.1.toNat)).isSome),.ret,QlI (x.2.2.2.1+((QD Yy (x.1.drop x.2.2.2.1.toNat)).getD 0:Nat))),(true,.exit 0,QlJ)])
def QlK:G:=gG 19 [(48,Qx0)] (Ls [QKj])
def QeN (x0:List Item)(x7 x8:Int):OX:=Qv (QB QlK QlH Qx4) (Qx5 x0 x7 x8)
def Vx (kk:List Item->Int->Int->OX)(x0:List Item)(x7 x8:Int):OX:=
 let a1:=lgt Jd x0 (Int.toNat x8)
 br (ilt x8 x7) (br (cIx x0 x8) (br (ZZ a1) (br (Yy a1) (some (.ret,QlI x8)) (kk x0 x7 (Qg .i64 x8 1))) none) none) (some (.exit 0,QlJ))
def QeO (x0:List Item)(x7 x8:Int):OX:=
 let a1:=QD Yy (x0.drop x8.toNat)
 br (a1.isSome) (some (.ret,QlI (x8+(a1.getD 0:Nat))))<|some (.exit 0,QlJ)
theorem Qx6 (x0:List Item)(x7 x8:Int):QeN x0 x7 x8=Vx QeN x0 x7 x8:=lnT (x:=Vx (fun x0 x7 x8=>some (.normal,Qx5 x0 x7 x8)) x0 x7 x8) (by simp only [Vx,nxA];rfl)
def Qx7 (p0:List Item):OV:=
 let a1:=(QD Yy (p0.drop (0:Int).toNat))
 br (Qt p0 (Qa p0) (0:Int)&&ZU p0) (br (a1.isSome) (some (.t tI ((0:Int)+(a1.getD 0:Nat)),[])) (some (.t tI (-1),[]))) none
theorem QKk (x0:List Item)(x7 x8:Int)(h:(Qt x0 x7 x8&&ZU x0)=true):QeN x0 x7 x8=QeO x0 x7 x8:=by
 simp only [Bc] at h
 obtain ⟨h0,hc⟩:=h
 obtain ⟨rfl,h3,k,rfl,hk⟩:=Jy h0
 clear h0
 refine QR x0 (fun k=>QeN x0 (x0.length:Int) (k:Int)=QeO x0 (x0.length:Int) (k:Int)) ?_ ?_ k hk
 ·rw [Qx6]
  simp [Vx,QeO,QC,Qf,QD]
 ·intro k hk ih
  rw [Qx6]
  have hx:=QKi hc hk
  simp only [Vx,QC,QI,hk,Bv,Qc,Bd,QQ (show k<4611686018427387904 by omega),ih,QP (y:=Jd) hk,hx]
  simp only [QeO,Bd,Bj hk,QD]
  cases h:(Yy x0[k]) with
  |true=>simp [Qc]
  |false=>
   simp only [Qf,BK,Do]
   cases hq:QD Yy (x0.drop (k+1)) with
   |none=>rfl
   |some j=>
    simp only [B0,B8,BI,Qc]
    congr 3
    omega
theorem QKl:LO QlK QlH Qx4 0:=QH (s:=QeL) fun x y h _ q=>by simp only [QF,QG] at q;exact (QKk x.1 x.2.2.1 x.2.2.2.1 h).trans q
theorem QKm (l:List Item)(h:ZU l=true):Qx7 l=some (.t tI (EQ l),[]):=by
 have hl:=Qx1 h
 simp only [Qx7,Jz hl,h,B3,Qc,Bu,BA,EQ]
 cases QD Yy l<;>simp [Qc,Qf]
def Qx8:Ent:=ZM [.ty (.sl Jd),.cf 48] [] (fun x d=>(ZU x.1)) (fun x d=>(.t tI (EQ x.1)))
theorem QKn:EM 85 Qx8:=mS (lk:=lkL (lkc QKl lkn)) QlK Qx3 [((.t 4),some tI)] false (gB (gD ms_f48 gN)) fun m=>ZC m fun x d hok=>kT (QKm x.1 hok)
def GX (l:List Item):Bool:=l.any Yy
def QKo:TC:=aF Tryz.f47 []
def QKp:G:=gG 9 [(85,Qx8)] (fun _ _=>none)
def Qx9 (p0:List Item):OV:=br (ZU p0) (some (.t .bool (ige (EQ p0) 0),[])) none
theorem QKq (l:List Item)(h:ZU l=true):Qx9 l=some (.t .bool (GX l),[]):=by
 simp only [Qx9,h,Qc]
 have e:ige (EQ l) 0=GX l:=by
  unfold EQ GX
  cases hq:QD Yy l with
  |none=>rw [I1.1 hq];rfl
  |some k=>
   rw [←QbT,hq]
   simp only [ige,B8,Ba]
   omega
 rw [e]
def Qya:Ent:=ZM [.ty (.sl Jd),.cf 48] [] (fun x d=>(ZU x.1)) (fun x d=>(.t .bool (GX x.1)))
theorem QKr:EM 47 Qya:=mS QKp QKo [((.t 4),some .bool)] false (gB (gD QKn gN)) fun m=>ZC m fun x d hok=>kT (QKq x.1 hok)
abbrev zEp:Endpoint:=Ty.zero Qo
abbrev Jo (l:List Endpoint)(k:Nat):Endpoint:=l.getD k zEp
def Vy (l m:List Endpoint)(k:Nat):Bool:=QT (Jo l k)&&(decide (k=0)||slt (Jo m (k-1)).1 (Jo l k).1)
def Yl (l m:List Endpoint)(k:Nat):Bool:=(List.range' k (l.length-k)).all (Vy l m)
abbrev Wx (l:List Endpoint)(k:Nat):Bool:=Yl l l k
theorem Qyb (l m:List Endpoint):Yl l m l.length=true:=by
 unfold Yl
 rw [Nat.sub_self]
 rfl
theorem Qyc {l m:List Endpoint}{k:Nat}(hk:k<l.length):Yl l m k=(Vy l m k&&Yl l m (k+1)):=by
 have:l.length-k=(l.length-(k+1))+1:=by omega
 unfold Yl
 rw [this,Du,BU]
abbrev Qw (e:Estate):List Endpoint:=e.1
abbrev QL (e:Estate):List Keep:=e.2.1
abbrev Zn (e:Estate):List Item:=e.2.2.1
def JO (e:Estate):Bool:=Wx (Qw e) 0&&((Zn e).all JW&&(ile (Qa (Qw e)) 16&&(ile (Qa (Zn e)) 30&&(J4 (Qa (Qw e)) (QL e) 0&&ile (Qa (QL e)) 40))))
def Z9 (e:Estate):Int:=bif JO e then 0 else 31
theorem ER (e:Estate):ine (Z9 e) 0= !JO e:=by
 unfold Z9
 cases JO e<;>rfl
def Jv (e:Estate):Bool:=decide ((Qw e).length<=99999/\(QL e).length<=99999)&&((Qw e).all QU&&ZU (Zn e))
theorem QKs (l:List Item):GX l= !l.all JW:=by
 unfold GX
 rw [List.not_all_eq_any_not]
 congr 1
 funext x
 exact QxZ x
theorem Vz (a b:Int):ile a b= !igt a b:=by
 simp only [ile,igt, ← decide_not,Int.not_lt]
theorem Qyd {β:Type}(v s u:Bool)(R E:Option β):br (!v) R (br (!s) R (br (!u) R E))=br (!((v&&s)&&u)) R E:=by
 cases v<;>cases s<;>rfl
theorem Qye {β:Type}(v u:Bool)(R E:Option β):br (!v) R (br (!u) R E)=br (!((v&&true)&&u)) R E:=by
 cases v<;>rfl
abbrev QeP:Sh:=⟨[(1,.ptr 1 0),(7,.ty (.sl Qo)),(8,.ty tI),(9,.ty tI)],[(1,.box QE)]⟩
abbrev ES:Sh:=⟨[(2,.ty tI)],[]⟩
abbrev QeQ:Sh:=⟨[(1,.ptr 1 0)],[(1,.box QE)]⟩
def QlL:Fg:=QeP.f
def Qyf:TC:=aF Tryz.f27 [(26,pL 0 QlL),(421,.fg QeQ.f),(3378,pD [(0,[4]),(1,[]),(2,[]),(3,[]),(4,[]),(5,[]),(6,[]),(7,[1]),(8,[1]),(9,[]),(10,[]),(11,[]),(12,[]),(13,[]),(14,[4]),(15,[4]),(16,[]),(17,[]),(18,[])] (.of [0,1,2,3,4,5,6,7,8,9,10,11,12,13,14,15,16,17,18])),(13517,.fg ES.f)]
def Qyg:TC:=lb 0 Qyf
def Qyh (x7:List Endpoint)(x8 x9:Int)(y1:Estate):VS:=QeP.st ((),x7,x8,x9,()) (y1,())
def Zy (x2:Int):VS:=ES.st (x2,()) ()
def Ug (y1:Estate):VS:=QeQ.st ((),()) (y1,())
def QKt:VS->Option (Bool×List (Bool×Exit×VS)):=mkL QeP (fun x y=>(decide (x.2.1.length=y.1.1.length/\x.2.1.length<=99999)&&(Qt x.2.1 x.2.2.1 x.2.2.2.1&&x.2.1.all QU))) (fun x y=>[((!Yl x.2.1 y.1.1 x.2.2.2.1.toNat),.ret,Zy (31)),(true,.exit 0,Ug (y.1))])
def QlM:G:=gG 59 [(46,Qch),(47,Qya),(50,QxY)] (Ls [QKt])
def QeR (x7:List Endpoint)(x8 x9:Int)(y1:Estate):OX:=Qv (QB QlM QlL Qyg) (Qyh x7 x8 x9 y1)
def VA (kk:List Endpoint->Int->Int->Estate->OX)(x7:List Endpoint)(x8 x9:Int)(y1:Estate):OX:=
 let a1:=lgt Qo x7 (Int.toNat x9)
 br (ilt x9 x8) (br (cIx x7 x9) (br (QU a1) (br (ine (J2 a1) 0) (some (.ret,Zy 31)) (br (igt x9 0) (br (cIx y1.1 (Jc .i64 x9 1)) (br (!slt ((lgt Qo y1.1 (Int.toNat (Jc .i64 x9 1))).1) (a1.1)) (some (.ret,Zy 31)) (kk x7 x8 (Qg .i64 x9 1) y1)) none) (kk x7 x8 (Qg .i64 x9 1) y1))) none) none) (some (.exit 0,Ug y1))
def QeS (x7:List Endpoint)(x8 x9:Int)(y1:Estate):OX:=br (!Yl x7 y1.1 x9.toNat) (some (.ret,Zy (31)))<|some (.exit 0,Ug (y1))
theorem Qyi (x7:List Endpoint)(x8 x9:Int)(y1:Estate):QeR x7 x8 x9 y1=VA QeR x7 x8 x9 y1:=lnT (x:=VA (fun x7 x8 x9 y1=>some (.normal,Qyh x7 x8 x9 y1)) x7 x8 x9 y1) (by simp only [VA,nxA];rfl)
def r_f27 (p0:Estate):OV:=
 let a1:=((((p0).2).2).1)
 let a2:=Qa ((p0).1)
 br (decide (p0.1.length=p0.1.length/\p0.1.length<=99999)&&(Qt p0.1 (Qa p0.1) (0:Int)&&p0.1.all QU)) (br (!Yl p0.1 p0.1 (0:Int).toNat) (some (.t tI (31),[])) (br (ZU a1) (br (GX a1) (some (.t tI 31,[])) (br (igt a2 16) (some (.t tI 31,[])) (br (igt (Qa a1) 30) (some (.t tI 31,[])) (br (QeH (((p0).2).1) a2) (br (!(Vv (((p0).2).1) a2)) (some (.t tI 31,[])) (some (.t tI 0,[]))) none)))) none)) none
theorem QKu (x7:List Endpoint)(x8 x9:Int)(y1:Estate)(h:(decide (x7.length=y1.1.length/\x7.length<=99999)&&(Qt x7 x8 x9&&x7.all QU))=true):QeR x7 x8 x9 y1=QeS x7 x8 x9 y1:=by
 simp only [Bc,Ba,Bg] at h
 obtain ⟨⟨hx,hl⟩,h0,ha⟩:=h
 obtain ⟨rfl,h3,k,rfl,hk⟩:=Jy h0
 clear h0
 refine QR x7 (fun k=>QeR x7 (x7.length:Int) (k:Int) y1=QeS x7 (x7.length:Int) (k:Int) y1) ?_ ?_ k hk
 ·rw [Qyi]
  simp only [VA,QeS,QC,BV,B2,Qf,Bd,Qyb,BG]
 ·intro k hk ih
  rw [Qyi]
  have he:QU (lgt Qo x7 k)=true:=by rw [QP (y:=Qo) hk];exact ha _ (Bw hk)
  simp only [VA,QC,QI,hk,Bv,Qc,Bd,QQ (show k<4611686018427387904 by omega),ih,he,Ob]
  simp only [QeS,Bd,Qyc hk]
  by_cases hk0:k=0
  ·subst hk0
   rw [show igt ((0:Nat):Int) 0=false from rfl]
   simp only [Qf]
   exact Qye ..
  ·rw [show igt (k:Int) 0=true from Be (by omega),QeG (by omega) hk0]
   simp only [Qc,QI,show k-1<y1.1.length by omega,Bv,Bd]
   unfold Vy
   rw [show decide (k=0)=false from Bn hk0,Df]
   exact Qyd ..
theorem QKv:LO QlM QlL Qyg 0:=QH (s:=QeP) fun x y h _ q=>by simp only [QF,QG] at q;exact (QKu x.2.1 x.2.2.1 x.2.2.2.1 y.1 h).trans q
theorem s_f27 (e:Estate)(h:Jv e=true):r_f27 e=some (.t tI (Z9 e),[]):=by
 simp only [Jv,Bc,Ba] at h
 obtain ⟨⟨h1,h2⟩,h3,h4⟩:=h
 have h5:QeH (QL e) (Qa (Qw e))=true:=Be h2
 simp only [Qw,QL,Zn] at h1 h2 h3 h4 h5
 simp only [r_f27,Jz (show e.1.length<=100000 by omega),Be h1,true_and,BE,h3,h4,h5,Qc,Bu,QKs]
 unfold Z9 JO Vv
 simp only [Qw,QL,Zn,Wx]
 rw [Vz (Qa e.1),Vz (Qa e.2.2.1)]
 cases Yl e.1 e.1 0<;>cases e.2.2.1.all JW<;>cases igt (Qa e.1) 16<;>cases igt (Qa e.2.2.1) 30<;>cases (J4 (Qa e.1) e.2.1 0&&ile (Qa e.2.1) 40)<;>rfl
def QeT:Ent:=Qk (.pr QE .nil) (fun x=>(Jv x.1)) (fun x=>(.t tI (Z9 x.1)))
theorem QlN:EM 27 QeT:=mS (lk:=lkL (lkc QKv lkn)) QlM Qyf [((.t 2),some tI)] false (gB (gD Qiv (gD QKr (gD ms_f50 gN)))) fun m=>Qm m fun x hok=>kT (s_f27 x.1 hok)
abbrev QeU:Sh:=⟨[(1,.ptr 1 0),(3,.ty tI)],[(1,.box QE)]⟩
abbrev QeV:Sh:=⟨[(1,.ptr 1 0),(4,.ty tI)],[(1,.box QE)]⟩
abbrev QeW:Sh:=⟨[(1,.ptr 1 0),(6,.ty tI)],[(1,.box QE)]⟩
def QlO:Fg:=QeU.f
def QlP:Fg:=QeV.f
def QlQ:Fg:=QeW.f
def QeX:TC:=aF Tryz.f42 [(58,pL 0 QlO),(931,.fg QeQ.f),(1864,pD [(0,[1]),(1,[1]),(2,[]),(3,[]),(4,[]),(5,[]),(6,[]),(7,[]),(8,[]),(9,[]),(10,[]),(11,[1]),(12,[1]),(13,[]),(14,[]),(15,[]),(16,[]),(17,[]),(18,[1]),(19,[1]),(20,[]),(21,[]),(22,[]),(23,[]),(24,[]),(25,[]),(26,[])] (.of [0,1,2,3,4,5,6,7,8,9,10,11,12,13,14,15,16,17,18,19,20,21,22,23,24,25,26])),(7461,.fg ES.f),(122,pL 1 QlP),(1955,.fg QeQ.f),(62613,.fg ES.f),(15654,pD [(0,[]),(1,[]),(2,[]),(3,[1]),(4,[1]),(5,[]),(6,[]),(7,[]),(8,[]),(9,[]),(10,[5]),(11,[5]),(12,[]),(13,[]),(14,[1]),(15,[1]),(16,[]),(17,[]),(18,[]),(19,[]),(20,[]),(21,[5]),(22,[5]),(23,[]),(24,[]),(25,[1]),(26,[1]),(27,[]),(28,[]),(29,[]),(30,[]),(31,[]),(32,[5]),(33,[5]),(34,[]),(35,[]),(36,[]),(37,[])] (.of [0,1,2,3,4,5,6,7,8,9,10,11,12,13,14,15,16,17,18,19,20,21,22,23,24,25,26,27,28,29,30,31,32,33,34,35,36,37])),(62621,.fg ES.f),(250,pL 2 QlQ),(4003,.fg QeM.f),(32037,.fg ES.f)]
def Qyj:TC:=lb 0 QeX
def Qyk:TC:=lb 1 QeX
def Qyl:TC:=lb 2 QeX
def Qym (x3:Int)(y1:Estate):VS:=QeU.st ((),x3,()) (y1,())
def Qyn (x4:Int)(y1:Estate):VS:=QeV.st ((),x4,()) (y1,())
def Qyo (x6:Int)(y1:Estate):VS:=QeW.st ((),x6,()) (y1,())
def QlR  : VS:=QeM.st () ()
def QKw:VS->Option (Bool×List (Bool×Exit×VS)):=mkL QeU (fun x y=>(decide (0<=x.2.1/\x.2.1<=y.1.1.length/\y.1.1.length<=16)&&y.1.1.all QU)) (fun x y=>[((!Wx y.1.1 x.2.1.toNat),.ret,Zy (31)),(true,.exit 0,Ug (y.1))])
def QKx:VS->Option (Bool×List (Bool×Exit×VS)):=mkL QeV (fun x y=>(decide (0<=x.2.1/\x.2.1<=y.1.2.1.length/\y.1.2.1.length<=40))) (fun x y=>[((!J4 (Qa y.1.1) y.1.2.1 x.2.1.toNat),.ret,Zy (31)),(true,.exit 2,Ug (y.1))])
def QKy:VS->Option (Bool×List (Bool×Exit×VS)):=mkL QeW (fun x y=>(decide (0<=x.2.1/\x.2.1<=y.1.2.2.1.length/\y.1.2.2.1.length<=30)&&y.1.2.2.1.all ZZ)) (fun x y=>[((!((y.1.2.2.1.drop x.2.1.toNat).all JW)),.ret,Zy (31)),(true,.exit 4,QlR)])
def GY:G:=gG 152 [(61,Qcu),(69,Qqc)] (Ls [QKw,QKx,QKy])
def QeY (x3:Int)(y1:Estate):OX:=Qv (QB GY QlO Qyj) (Qym x3 y1)
def VB (kk:Int->Estate->OX)(x3:Int)(y1:Estate):OX:=
 let a1:=lgt Qo y1.1 (Int.toNat x3)
 br (ilt x3 (Qa y1.1)) (br (cIx y1.1 x3) (br (QU a1) (br (ine (J2 a1) 0) (some (.ret,Zy 31)) (br (igt x3 0) (br (cIx y1.1 (Jc .i64 x3 1)) (br (cIx y1.1 x3) (br (!slt ((lgt Qo y1.1 (Int.toNat (Jc .i64 x3 1))).1) (a1.1)) (some (.ret,Zy 31)) (kk (Qg .i64 x3 1) y1)) none) none) (kk (Qg .i64 x3 1) y1))) none) none) (some (.exit 0,Ug y1))
def QeZ (x3:Int)(y1:Estate):OX:=br (!Wx y1.1 x3.toNat) (some (.ret,Zy (31)))<|some (.exit 0,Ug (y1))
theorem Qyp (x3:Int)(y1:Estate):QeY x3 y1=VB QeY x3 y1:=lnT (x:=VB (fun x3 y1=>some (.normal,Qym x3 y1)) x3 y1) (by simp only [VB,nxA];rfl)
def Qe0 (x4:Int)(y1:Estate):OX:=Qv (QB GY QlP Qyk) (Qyn x4 y1)
def VC (kk:Int->Estate->OX)(x4:Int)(y1:Estate):OX:=
 let a1:=lgt Qd y1.2.1 (Int.toNat x4)
 let a2:=lgt Qd y1.2.1 (Int.toNat (Jc .i64 x4 1))
 let a3:=cIx y1.2.1 (Jc .i64 x4 1)
 let a4:=Qg .i64 x4 1
 br (ilt x4 (Qa y1.2.1)) (br (cIx y1.2.1 x4) (br (ilt (a1.1) 0) (some (.ret,Zy 31)) (br (ige (a1.1) (Qa y1.1)) (some (.ret,Zy 31)) (br (ilt ((a1.2).1) 0) (some (.ret,Zy 31)) (br (ige ((a1.2).1) (Qa y1.1)) (some (.ret,Zy 31)) (br (ieq (a1.1) ((a1.2).1)) (some (.ret,Zy 31)) (br (igt x4 0) (br a3 (br (igt (a2.1) (a1.1)) (some (.ret,Zy 31)) (br a3 (br (ieq (a2.1) (a1.1)) (br a3 (br (ige ((a2.2).1) ((a1.2).1)) (some (.ret,Zy 31)) (kk a4 y1)) none) (kk a4 y1)) none)) none) (kk a4 y1))))))) none) (some (.exit 2,Ug y1))
def Qe1 (x4:Int)(y1:Estate):OX:=br (!J4 (Qa y1.1) y1.2.1 x4.toNat) (some (.ret,Zy (31)))<|some (.exit 2,Ug (y1))
theorem Qyq (x4:Int)(y1:Estate):Qe0 x4 y1=VC Qe0 x4 y1:=lnT (x:=VC (fun x4 y1=>some (.normal,Qyn x4 y1)) x4 y1) (by simp only [VC,nxA];rfl)
def Qe2 (x6:Int)(y1:Estate):OX:=Qv (QB GY QlQ Qyl) (Qyo x6 y1)
def VD (kk:Int->Estate->OX)(x6:Int)(y1:Estate):OX:=
 let a1:=lgt Jd y1.2.2.1 (Int.toNat x6)
 br (ilt x6 (Qa y1.2.2.1)) (br (cIx y1.2.2.1 x6) (br (ZZ a1) (br (ine (ZY a1) 0) (some (.ret,Zy 31)) (kk (Qg .i64 x6 1) y1)) none) none) (some (.exit 4,QlR))
def Qe3 (x6:Int)(y1:Estate):OX:=br (!((y1.2.2.1.drop x6.toNat).all JW)) (some (.ret,Zy (31)))<|some (.exit 4,QlR)
theorem Qyr (x6:Int)(y1:Estate):Qe2 x6 y1=VD Qe2 x6 y1:=lnT (x:=VD (fun x6 y1=>some (.normal,Qyo x6 y1)) x6 y1) (by simp only [VD,nxA];rfl)
def r_f42 (p0:Estate):OV:=br (igt (Qa p0.1) 16) (some (.t tI 31,[])) (br (igt (Qa p0.2.1) 40) (some (.t tI 31,[])) (br (igt (Qa p0.2.2.1) 30) (some (.t tI 31,[])) (br (decide (0<=(0:Int)/\(0:Int)<=p0.1.length/\p0.1.length<=16)&&p0.1.all QU) (br (!Wx p0.1 (0:Int).toNat) (some (.t tI (31),[])) (br (decide (0<=(0:Int)/\(0:Int)<=(p0).2.1.length/\(p0).2.1.length<=40)) (br (!J4 (Qa (p0).1) (p0).2.1 (0:Int).toNat) (some (.t tI (31),[])) (br (decide (0<=(0:Int)/\(0:Int)<=(p0).2.2.1.length/\(p0).2.2.1.length<=30)&&(p0).2.2.1.all ZZ) (br (!(((p0).2.2.1.drop (0:Int).toNat).all JW)) (some (.t tI (31),[])) (some (.t tI 0,[]))) none)) none)) none)))
theorem QKz (x3:Int)(y1:Estate)(h:(decide (0<=x3/\x3<=y1.1.length/\y1.1.length<=16)&&y1.1.all QU)=true):QeY x3 y1=QeZ x3 y1:=by
 simp only [Bc,Ba,Bg] at h
 obtain ⟨⟨h0,h1,h2⟩,ha⟩:=h
 obtain ⟨k,rfl⟩:=Bq h0
 refine QR y1.1 (fun k=>QeY (k:Int) y1=QeZ (k:Int) y1) ?_ ?_ k (by omega)
 ·rw [Qyp]
  simp only [VB,QeZ,Qa,QC,BV,B2,Qf,Bd,Qyb,BG]
 ·intro k hk ih
  rw [Qyp]
  have he:QU (lgt Qo y1.1 k)=true:=by rw [QP (y:=Qo) hk];exact ha _ (Bw hk)
  simp only [VB,Qa,QC,QI,hk,Bv,Qc,Bd,QQ (show k<4611686018427387904 by omega),ih,he,Ob]
  simp only [QeZ,Bd,Qyc hk]
  by_cases hk0:k=0
  ·subst hk0
   rw [show igt ((0:Nat):Int) 0=false from rfl]
   simp only [Qf]
   exact Qye ..
  ·rw [show igt (k:Int) 0=true from Be (by omega),QeG (by omega) hk0]
   simp only [Qc,QI,show k-1<y1.1.length by omega,Bv,Bd]
   unfold Vy
   rw [show decide (k=0)=false from Bn hk0,Df]
   exact Qyd ..
theorem QKA (x4:Int)(y1:Estate)(h:(decide (0<=x4/\x4<=y1.2.1.length/\y1.2.1.length<=40))=true):Qe0 x4 y1=Qe1 x4 y1:=by
 obtain ⟨h0,h1,h2⟩:=Bx h
 obtain ⟨k,rfl⟩:=Bq h0
 refine QR y1.2.1 (fun k=>Qe0 (k:Int) y1=Qe1 (k:Int) y1) ?_ ?_ k (by omega)
 ·rw [Qyq]
  simp only [VC,Qe1,show Qa y1.2.1=(y1.2.1.length:Int) from rfl,QC,BV,B2,Qf,Bd,QxP,BG]
 ·intro k hk ih
  rw [Qyq]
  simp only [VC,show Qa y1.2.1=(y1.2.1.length:Int) from rfl,QC,QI,hk,Bv,Qc,Bd,QQ (show k<4611686018427387904 by omega),ih]
  simp only [Qe1,Bd,QxQ hk]
  by_cases hk0:k=0
  ·subst hk0
   rw [show igt ((0:Nat):Int) 0=false from rfl]
   simp only [Qf]
   exact QxR ..
  ·rw [show igt (k:Int) 0=true from Be (by omega),QeG (by omega) hk0]
   simp only [Qc,QI,show k-1<y1.2.1.length by omega,Bv,Bd]
   unfold EP
   rw [show decide (k=0)=false from Bn hk0,Df]
   exact QxS ..
theorem QKB (x6:Int)(y1:Estate)(h:(decide (0<=x6/\x6<=y1.2.2.1.length/\y1.2.2.1.length<=30)&&y1.2.2.1.all ZZ)=true):Qe2 x6 y1=Qe3 x6 y1:=by
 simp only [Bc,Ba,Bg] at h
 obtain ⟨⟨h0,h1,h2⟩,ha⟩:=h
 obtain ⟨k,rfl⟩:=Bq h0
 refine QR y1.2.2.1 (fun k=>Qe2 (k:Int) y1=Qe3 (k:Int) y1) ?_ ?_ k (by omega)
 ·rw [Qyr]
  simp only [VD,Qe3,Qa,QC,BV,B2,Qf,Bd,BQ,Dw,BG]
 ·intro k hk ih
  rw [Qyr]
  have he:ZZ y1.2.2.1[k]=true:=ha _ (Bw hk)
  have hb:ine (ZY y1.2.2.1[k]) 0= !JW y1.2.2.1[k]:=QxZ _
  simp only [VD,Qa,QC,QI,hk,Bv,Qc,Bd,QQ (show k<4611686018427387904 by omega),ih,QP (y:=Jd) hk,he,hb]
  simp only [Qe3,Bd,Bj hk,BU]
  cases JW y1.2.2.1[k]<;>rfl
theorem QKC:LO GY QlO Qyj 0:=QH (s:=QeU) fun x y h _ q=>by simp only [QF,QG] at q;exact (QKz x.2.1 y.1 h).trans q
theorem QKD:LO GY QlP Qyk 1:=QH (s:=QeV) fun x y h _ q=>by simp only [QF,QG] at q;exact (QKA x.2.1 y.1 h).trans q
theorem QKE:LO GY QlQ Qyl 2:=QH (s:=QeW) fun x y h _ q=>by simp only [QF,QG] at q;exact (QKB x.2.1 y.1 h).trans q
theorem s_f42 (e:Estate)(h:Jv e=true):r_f42 e=some (.t tI (Z9 e),[]):=by
 simp only [Jv,Bc,Ba] at h
 obtain ⟨⟨h1,h2⟩,h3,h4⟩:=h
 have h6:(Zn e).all ZZ=true:=by
  simp only [ZU,Bc] at h4
  exact h4.2
 simp only [Qw,QL,Zn] at h1 h2 h3 h6
 simp only [r_f42,h3,h6,B6,Bu,BA]
 unfold Z9 JO
 simp only [Qw,QL,Zn,Wx]
 rw [Vz (Qa e.1),Vz (Qa e.2.2.1),Vz (Qa e.2.1)]
 cases g1:igt (Qa e.1) 16 with
 |true=>cases Yl e.1 e.1 0<;>cases e.2.2.1.all JW<;>rfl
 |false=>
  cases g2:igt (Qa e.2.1) 40 with
  |true=>cases Yl e.1 e.1 0<;>cases e.2.2.1.all JW<;>cases igt (Qa e.2.2.1) 30<;>cases J4 (Qa e.1) e.2.1 0<;>rfl
  |false=>
   cases g3:igt (Qa e.2.2.1) 30 with
   |true=>cases Yl e.1 e.1 0<;>cases e.2.2.1.all JW<;>rfl
   |false=>
    simp only [igt,Qa,Bo] at g1 g2 g3
    rw [Be (show (0:Int)<=0/\(0:Int)<=e.1.length/\e.1.length<=16 by omega),Be (show (0:Int)<=0/\(0:Int)<=e.2.1.length/\e.2.1.length<=40 by omega),Be (show (0:Int)<=0/\(0:Int)<=e.2.2.1.length/\e.2.2.1.length<=30 by omega)]
    cases Yl e.1 e.1 0<;>cases e.2.2.1.all JW<;>cases J4 (Qa e.1) e.2.1 0<;>rfl
def Qys:Ent:=Qk (.pr QE .nil) (fun x=>(Jv x.1)) (fun x=>(.t tI (Z9 x.1)))
theorem ms_f42:EM 42 Qys:=mS (lk:=lkL (lkc QKC (lkc QKD (lkc QKE lkn)))) GY QeX [((.t 2),some tI)] false (gB (gD QiB (gD ms_f69 gN))) fun m=>Qm m fun x hok=>kT (s_f42 x.1 hok)
end
end Go.Proofs.YtmjnnemhoeolgaaGreat.K
noncomputable section
namespace Go.Proofs.YtmjnnemhoeolgaaGreat.K
open Go.RowKit
noncomputable section
theorem brY {β:Type}{c:Bool}{a b r:Option β}(h:c=true)(k:a=r):br c a b=r:=by
 subst h
 exact k
def X7 (e:Estate)(i:Int):Endpoint×Endpoint:=(Jo (Qw e) (Jn (QL e) i.toNat).1.toNat,Jo (Qw e) (Jn (QL e) i.toNat).2.1.toNat)
def G0 (e:Estate)(i:Int):Bool:=cIx (QL e) i&&(cIx (Qw e) (Jn (QL e) i.toNat).1&&cIx (Qw e) (Jn (QL e) i.toNat).2.1)
theorem eg_all {n:Int}{l:List Keep}(h:J4 n l 0=true){k:Nat}(hk:k<l.length):GW n (Jn l k)=true:=by
 unfold J4 at h
 rw [Bg] at h
 have:=h k (by rw [List.mem_range'];exact ⟨k,by omega,by omega⟩)
 unfold EP at this
 exact (Bi.1 this).1
theorem eg_in {n:Int}{x:Keep}(h:GW n x=true):(0<=x.1/\x.1<n)/\(0<=x.2.1/\x.2.1<n)/\x.1≠x.2.1:=by
 simp only [GW,ilt,ige,YA,Bc,Br,Bo] at h
 refine ⟨⟨by omega,by omega⟩,⟨by omega,by omega⟩,h.2.2.2.2⟩
theorem UW {e:Estate}(h:JO e=true):Wx (Qw e) 0=true/\(Zn e).all JW=true/\(Qw e).length<=16/\(Zn e).length<=30/\J4 (Qa (Qw e)) (QL e) 0=true/\(QL e).length<=40:=by
 simp only [JO,ile,Qa,Bc,Ba] at h
 exact ⟨h.1,h.2.1,by omega,by omega,h.2.2.2.2.1,by omega⟩
theorem Qfa {e:Estate}(h:JO e=true){k:Nat}(hk:k<(QL e).length):(0<=(Jn (QL e) k).1/\(Jn (QL e) k).1<(Qw e).length)/\(0<=(Jn (QL e) k).2.1/\(Jn (QL e) k).2.1<(Qw e).length)/\(Jn (QL e) k).1≠(Jn (QL e) k).2.1:=
 eg_in (eg_all (UW h).2.2.2.2.1 hk)
theorem QlY {e:Estate}{i:Int}(h:JO e=true)(h0:0<=i)(h1:i<(QL e).length):G0 e i=true:=by
 obtain ⟨k,rfl⟩:=Bq h0
 have:=Qfa h (k:=k) (by omega)
 simp only [G0,cIx,Bd,Bc,Ba]
 exact ⟨⟨by omega,by omega⟩,⟨this.1.1,this.1.2⟩,this.2.1.1,this.2.1.2⟩
theorem QlZ {e:Estate}(h:Jv e=true):(Qw e).all QU=true:=by
 simp only [Jv,Bc] at h
 exact h.2.1
theorem Ql0 {l:List Endpoint}(h:l.all QU=true){c:Int}(hc:cIx l c=true):QU (Jo l c.toNat)=true:=by
 simp only [cIx,Ba] at hc
 obtain ⟨k,rfl⟩:=Bq hc.1
 have hk:k<l.length:=by omega
 rw [Bd,show Jo l k=l[k] by simp only [Jo,Bk,Bf hk,BI]]
 exact Bg.1 h _ (Bw hk)
theorem QyA {e:Estate}{i:Int}(h:Jv e=true)(hi:G0 e i=true):WX (X7 e i).1 (X7 e i).2=true:=by
 simp only [G0,Bc] at hi
 exact Bi.2 ⟨Ql0 (QlZ h) hi.2.1,Ql0 (QlZ h) hi.2.2⟩
end
end Go.Proofs.YtmjnnemhoeolgaaGreat.K
noncomputable section
namespace Go.Proofs.YtmjnnemhoeolgaaGreat.K
open Go.RowKit
noncomputable section
theorem IS {x:Int}(h:ine x 0=false):x=0:=by
 simpa [ine] using h
theorem QDh (s:Endpoint)(o:List Int): ∀ (n v:Nat),(Xg s o v n).length<=16*n:=by
 intro n
 induction n with
 |zero=>intro v;simp [Xg]
 |succ n ih=>
  intro v
  have h1:(UH s o (v:Int) 1).length<=16:=by
   unfold UH
   rw [BM]
   exact Da (List.length_filter_le _ _) (by rw [List.length_range'];omega)
  have h2:=ih (v+1)
  unfold Xg at h2 ⊢
  rw [Du,BL,Bl]
  omega
theorem IT {c s:Endpoint}:(ZS c s).length<=64:=by
 unfold ZS
 cases h:XV c s with
 |false=>exact B4 _
 |true=>
  obtain ⟨hv,hw⟩:=Bi.1 h
  have v1:=Uv hv
  have v2:=Uv hw
  refine Da (QDh _ _ _ _) ?_
  simp only [hiC,loC,imn,imx]
  split<;>split<;>omega
end
end Go.Proofs.YtmjnnemhoeolgaaGreat.K
noncomputable section
namespace Go.Proofs.YtmjnnemhoeolgaaGreat.K
open Go.RowKit Go.Shelf
end Go.Proofs.YtmjnnemhoeolgaaGreat.K
noncomputable section
namespace Go.Proofs.YtmjnnemhoeolgaaGreat.K
open Go.RowKit
noncomputable section
end
end Go.Proofs.YtmjnnemhoeolgaaGreat.K
noncomputable section
namespace Go.Proofs.YtmjnnemhoeolgaaGreat.K
open Go.RowKit
noncomputable section
end
end Go.Proofs.YtmjnnemhoeolgaaGreat.K
