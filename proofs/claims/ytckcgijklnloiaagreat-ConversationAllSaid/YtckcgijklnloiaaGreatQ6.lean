import Derived.Test.YtckcgijklnloiaaGreatQ5
import Derived.Test.YtckcgijklnloiaaGreatQ3
import Derived.Shelf.Small.Strs
import Derived.Ground.NamesProg
set_option linter.unusedSimpArgs false
set_option linter.unusedVariables false
noncomputable section
namespace Go.Proofs.YtckcgijklnloiaaGreat.K
open Go.RowKit
noncomputable section
def Zv (c:Qf):List Int×Int:=bif Q5 c then Xn (XO c) else ([],9)
theorem QSB {c:Qf}(h:Q5 c=true):Zv c=(ZK (XO c),0):=by
 have:=Qq6 h
 rw [Zv,h,BZ,Xn,if_neg (by omega)]
theorem QSC (c:Qf):(Zv c).1.length<=1000:=by
 cases h:Q5 c with
 |true=>
  rw [QSB h]
  exact Qq6 h
 |false=>
  rw [Zv,h]
  simp
def QSD:TC:=aF Tryz.f166 []
def g_f166:G:=gG 12 [(138,Qnd),(201,QGs),(202,QFh)] (fun _ _=>none)
def Qqs (p0:Qf):OV:=br (Jr p0) (br (!(Q5 p0)) (some (.tu [(.t (.sl (.int .u8)) ([]:List Int)),(.t tI 9)],[])) (br (Ur p0) (br (Yh (XO p0)) (some (.tu [(.t (.sl (.int .u8)) ((Xn (XO p0)).1)),(.t tI ((Xn (XO p0)).2))],[])) none) none)) none
theorem s_f166 (c:Qf)(h:Jr c=true):Qqs c=some (.tu [.t (.sl (.int .u8)) (Zv c).1,.t tI (Zv c).2],[]):=by
 unfold Zv
 cases hv:Q5 c with
 |true=>simp only [Qqs,h,hv,QE8 hv,show Ur c=true from by rw [Ur,h,hv];rfl,BC,Qe,Qi,BZ]
 |false=>simp only [Qqs,h,hv,Dy,Qe,BM]
def QD2:Ent:=Qq (.pr QE .nil) (fun x=>(Jr x.1)) (fun x=>(.tu [(.t (.sl (.int .u8)) ((Zv x.1).1)),(.t tI ((Zv x.1).2))]))
theorem QSE:EM 166 QD2:=mS g_f166 QSD [((.t 2),some (.sl (.int .u8))),((.t 3),some tI)] false (gB (gD QxR (gD QUJ (gD QTD gN)))) fun m=>Qu m fun x hok=>kT (s_f166 x.1 hok)
def QSF:TC:=aF Tryz.f131 []
def g_f131:G:=gG 12 [(130,Qa2),(157,QGc),(158,QFo)] (fun _ _=>none)
def Qqt (p0:Qf):OV:=br (Jr p0) (br (ine (We p0) 0) (some (.tu [(.t (.sl (.int .u8)) ([]:List Int)),(.t tI 9)],[])) (br (Ur p0) (br (Yh (XO p0)) (some (.tu [(.t (.sl (.int .u8)) ((Xn (XO p0)).1)),(.t tI ((Xn (XO p0)).2))],[])) none) none)) none
theorem s_f131 (c:Qf)(h:Jr c=true):Qqt c=some (.tu [.t (.sl (.int .u8)) (Zv c).1,.t tI (Zv c).2],[]):=by
 unfold Zv
 cases hv:Q5 c with
 |true=>simp only [Qqt,h,hv,EB,QE8 hv,show Ur c=true from by rw [Ur,h,hv];rfl,BC,Qe,Qi,BZ]
 |false=>simp only [Qqt,h,hv,EB,Dy,Qe,BM]
def Qqu:Ent:=Qq (.pr QE .nil) (fun x=>(Jr x.1)) (fun x=>(.tu [(.t (.sl (.int .u8)) ((Zv x.1).1)),(.t tI ((Zv x.1).2))]))
theorem QD3:EM 131 Qqu:=mS g_f131 QSF [((.t 2),some (.sl (.int .u8))),((.t 3),some tI)] false (gB (gD Qfz (gD QUp (gD QTH gN)))) fun m=>Qu m fun x hok=>kT (s_f131 x.1 hok)
def YY (s x:Int):Int:=Fu .u32 (V0 .u32 s (icv .u32 x)) 16777619
def XM (b:List Int):Int:=icv .i64 (b.foldl YY 2166136261)
def Gi (b:List Int):Bool:=decide (b.length<=100000)
abbrev Qij:Sh:=⟨[(3,.ty (.int .u32)),(6,.ty (.sl (.int .u8))),(7,.ty tI),(8,.ty tI)],[]⟩
abbrev Qqv:Sh:=⟨[(3,.ty (.int .u32))],[]⟩
def Qqw:Fg:=Qij.f
def QD4:TC:=aF Tryz.f167 [(58,pL 0 Qqw),(933,.fg Qqv.f)]
def QD5:TC:=lb 0 QD4
def QD6 (x3:Int)(x6:List Int)(x7 x8:Int):VS:=Qij.st (x3,x6,x7,x8,()) ()
def Vj (x3:Int):VS:=Qqv.st (x3,()) ()
def QSG:VS->Option (Bool×List (Bool×Exit×VS)):=mkL Qij (fun x y=>(Qz x.2.1 x.2.2.1 x.2.2.2.1)) (fun x y=>[(true,.exit 0,Vj ((x.2.1.drop x.2.2.2.1.toNat).foldl YY x.1))])
def Qqx:G:=gG 20 [] (Ls [QSG])
def Qik (x3:Int)(x6:List Int)(x7 x8:Int):OX:=QB (QD Qqx Qqw QD5) (QD6 x3 x6 x7 x8)
def Qcp (kk:Int->List Int->Int->Int->OX)(x3:Int)(x6:List Int)(x7 x8:Int):OX:=br (ilt x8 x7) (br (cIx x6 x8) (kk (Fu .u32 (V0 .u32 x3 (icv .u32 (lgt (.int .u8) x6 (Int.toNat x8)))) 16777619) x6 x7 (Qk .i64 x8 1)) none) (some (.exit 0,Vj x3))
def Qil (x3:Int)(x6:List Int)(x7 x8:Int):OX:=some (.exit 0,Vj ((x6.drop x8.toNat).foldl YY x3))
theorem QD7 (x3:Int)(x6:List Int)(x7 x8:Int):Qik x3 x6 x7 x8=Qcp Qik x3 x6 x7 x8:=lnT (x:=Qcp (fun x3 x6 x7 x8=>some (.normal,QD6 x3 x6 x7 x8)) x3 x6 x7 x8) (by simp only [Qcp,nxA];rfl)
def QD8 (p0:List Int):OV:=br (Qz p0 (Qc p0) (0:Int)) (some (.t tI (icv .i64 ((p0.drop (0:Int).toNat).foldl YY (2166136261:Int))),[])) none
theorem QSH (x3:Int)(x6:List Int)(x7 x8:Int)(h:(Qz x6 x7 x8)=true):Qik x3 x6 x7 x8=Qil x3 x6 x7 x8:=by
 obtain ⟨rfl,h3,k,rfl,hk⟩:=Js h
 clear h
 revert x3
 refine QW x6 (fun k=> ∀ x3:Int,Qik x3 x6 (x6.length:Int) (k:Int)=Qil x3 x6 (x6.length:Int) (k:Int)) ?_ ?_ k hk
 ·intro x3
  rw [QD7]
  simp only [Qcp,Qil,QC,BI,BQ,Qi,Bb,BE,List.foldl_nil]
 ·intro k hk ih x3
  rw [QD7]
  simp only [Qcp,QC,QS,hk,Bu,Qe,Bb,QU (show k<4611686018427387904 by omega),QX (y:= .int .u8) hk,ih]
  simp only [Qil,Bb,Bi hk,Dz,YY]
theorem QSI:LO Qqx Qqw QD5 0:=QN (s:=Qij) fun x y h _ q=>by simp only [QJ,QK] at q;exact (QSH x.1 x.2.1 x.2.2.1 x.2.2.2.1 h).trans q
theorem s_f167 (b:List Int)(h:Gi b=true):QD8 b=some (.t tI (XM b),[]):=by
 simp only [Gi,Ba] at h
 simp only [QD8,Jy h,Qe,Bt,Bx]
 rfl
def QD9:Ent:=Qq (.pr (.sl (.int .u8)) .nil) (fun x=>(Gi x.1)) (fun x=>(.t tI (XM x.1)))
theorem QSJ:EM 167 QD9:=mS (lk:=lkL (lkc QSI lkn)) Qqx QD4 [((.t 2),some tI)] false (gB gN) fun m=>Qu m fun x hok=>kT (s_f167 x.1 hok)
abbrev Qim:Sh:=⟨[(0,.ty (.sl (.int .u8))),(3,.ty (.int .u32)),(4,.ty tI)],[]⟩
def Qqy:Fg:=Qim.f
def QEa:TC:=aF Tryz.f132 [(58,pL 0 Qqy),(931,.fg Qqv.f)]
def QEb:TC:=lb 0 QEa
def QEc (x0:List Int)(x3 x4:Int):VS:=Qim.st (x0,x3,x4,()) ()
def QSK:VS->Option (Bool×List (Bool×Exit×VS)):=mkL Qim (fun x y=>(XE x.1 x.2.2.1)) (fun x y=>[(true,.exit 0,Vj ((x.1.drop x.2.2.1.toNat).foldl YY x.2.1))])
def Qqz:G:=gG 21 [] (Ls [QSK])
def Qin (x0:List Int)(x3 x4:Int):OX:=QB (QD Qqz Qqy QEb) (QEc x0 x3 x4)
def Qcq (kk:List Int->Int->Int->OX)(x0:List Int)(x3 x4:Int):OX:=br (ilt x4 (Qc x0)) (br (cIx x0 x4) (kk x0 (Fu .u32 (V0 .u32 x3 (icv .u32 (lgt (.int .u8) x0 (Int.toNat x4)))) 16777619) (Qk .i64 x4 1)) none) (some (.exit 0,Vj x3))
def Qio (x0:List Int)(x3 x4:Int):OX:=some (.exit 0,Vj ((x0.drop x4.toNat).foldl YY x3))
theorem QEd (x0:List Int)(x3 x4:Int):Qin x0 x3 x4=Qcq Qin x0 x3 x4:=lnT (x:=Qcq (fun x0 x3 x4=>some (.normal,QEc x0 x3 x4)) x0 x3 x4) (by simp only [Qcq,nxA];rfl)
def QEe (p0:List Int):OV:=br (XE p0 (0:Int)) (some (.t tI (icv .i64 ((p0.drop (0:Int).toNat).foldl YY (2166136261:Int))),[])) none
theorem QSL (x0:List Int)(x3 x4:Int)(h:(XE x0 x4)=true):Qin x0 x3 x4=Qio x0 x3 x4:=by
 simp only [XE,Ba] at h
 obtain ⟨h0,h1,h2⟩:=h
 obtain ⟨k,rfl⟩:=Bm h0
 revert x3
 refine QW x0 (fun k=> ∀ x3:Int,Qin x0 x3 (k:Int)=Qio x0 x3 (k:Int)) ?_ ?_ k (by omega)
 ·intro x3
  rw [QEd]
  simp only [Qcq,Qio,show ilt (x0.length:Int) (Qc x0)=false from Bn (by simp only [Qc];omega),Qi,Bb,BE,List.foldl_nil]
 ·intro k hk ih x3
  rw [QEd]
  simp only [Qcq,show ilt (k:Int) (Qc x0)=true from Bd (by simp only [Qc];omega),QS,hk,Bu,Qe,Bb,QU (show k<4611686018427387904 by omega),QX (y:= .int .u8) hk,ih]
  simp only [Qio,Bb,Bi hk,Dz,YY]
theorem QSM:LO Qqz Qqy QEb 0:=QN (s:=Qim) fun x y h _ q=>by simp only [QJ,QK] at q;exact (QSL x.1 x.2.1 x.2.2.1 h).trans q
theorem s_f132 (b:List Int)(h:Gi b=true):QEe b=some (.t tI (XM b),[]):=by
 simp only [Gi,Ba] at h
 simp only [QEe,show XE b 0=true from Bd (by omega),Qe,Bt,Bx]
 rfl
def QqA:Ent:=Qq (.pr (.sl (.int .u8)) .nil) (fun x=>(Gi x.1)) (fun x=>(.t tI (XM x.1)))
theorem QEf:EM 132 QqA:=mS (lk:=lkL (lkc QSM lkn)) Qqz QEa [((.t 2),some tI)] false (gB gN) fun m=>Qu m fun x hok=>kT (s_f132 x.1 hok)
theorem QqB (c:Qf):Gi (Zv c).1=true:=Bd (by have:=QSC c;omega)
def Gj (c:Qf)(k:Int):Bool:=ieq (Zv c).2 0&&(ieq (Xb c).1 k&&ieq (Xb c).2.1 (XM (Zv c).1))
def YJ (c:Qf)(_k:Int):Bool:=Jr c
def QSN:TC:=aF Tryz.f141 [(14,pD [(0,[]),(1,[]),(2,[]),(3,[2]),(4,[2]),(5,[]),(6,[]),(7,[]),(8,[]),(9,[]),(10,[]),(11,[])] (.of [0,1,2,3,4,5,6,7,8,9,10,11]))]
def g_f141:G:=gG 23 [(166,QD2),(167,QD9)] (fun _ _=>none)
def QEg (p0:Qf)(p1:Int):OV:=br (Jr p0) (br (ieq ((Zv p0).2) 0) (br (Gi ((Zv p0).1)) (some (.t .bool (and (ieq p0.2.2.2.2.2.2.2.2.2.2.2.1.1 p1) (and (ieq p0.2.2.2.2.2.2.2.2.2.2.2.1.2.1 (XM ((Zv p0).1))) true)),[])) none) (some (.t .bool false,[]))) none
theorem s_f141 (c:Qf)(k:Int)(h:YJ c k=true):QEg c k=some (.t .bool (Gj c k),[]):=by
 simp only [QEg,show Jr c=true from h,QqB,Qe,B8]
 exact brA rfl
def QEh:Ent:=Qq (.pr QE (.pr tI .nil)) (fun x=>(YJ x.1 x.2.1)) (fun x=>(.t .bool (Gj x.1 x.2.1)))
theorem QSO:EM 141 QEh:=mS g_f141 QSN [((.t 4),some .bool)] false (gB (gD QSE (gD QSJ gN))) fun m=>Qu m fun x hok=>kT (s_f141 x.1 x.2.1 hok)
def QSP:TC:=aF Tryz.f152 [(14,pD [(0,[]),(1,[]),(2,[]),(3,[2]),(4,[2]),(5,[2]),(6,[]),(7,[]),(8,[]),(9,[]),(10,[2]),(11,[2]),(12,[2]),(13,[]),(14,[]),(15,[]),(16,[]),(17,[])] (.of [0,1,2,3,4,5,6,7,8,9,10,11,12,13,14,15,16,17]))]
def g_f152:G:=gG 29 [(131,Qqu),(132,QqA)] (fun _ _=>none)
def QEi (p0:Qf)(p1:Int):OV:=br (Jr p0) (br (ieq ((Zv p0).2) 0) (br (ieq p0.2.2.2.2.2.2.2.2.2.2.2.1.1 p1) (br (Gi ((Zv p0).1)) (some (.t .bool (ieq p0.2.2.2.2.2.2.2.2.2.2.2.1.2.1 (XM ((Zv p0).1))),[])) none) (some (.t .bool false,[]))) (some (.t .bool false,[]))) none
theorem s_f152 (c:Qf)(k:Int)(h:YJ c k=true):QEi c k=some (.t .bool (Gj c k),[]):=by
 simp only [QEi,show Jr c=true from h,QqB,Qe]
 exact brA (brA rfl)
def QEj:Ent:=Qq (.pr QE (.pr tI .nil)) (fun x=>(YJ x.1 x.2.1)) (fun x=>(.t .bool (Gj x.1 x.2.1)))
theorem QSQ:EM 152 QEj:=mS g_f152 QSP [((.t 4),some .bool)] false (gB (gD QD3 (gD QEf gN))) fun m=>Qu m fun x hok=>kT (s_f152 x.1 x.2.1 hok)
def YK (c:Qf):Qf:=c
def QSR:TC:=aF Tryz.f129 []
def g_f129:G:=⟨TYs,[3],9,EL [],YD,(fun _ _=>none),IL [],RL []⟩
def QEk (p0:Qf):OV:=br (Qr ([]:List ByteArray) p0.2.2.2.2.2.2.2.2.2.2.1 16) (some (.t QE (p0.1,(p0.2.1,(p0.2.2.1,((p0.2.2.2.1.1,(p0.2.2.2.1.2.1,())),(p0.2.2.2.2.1,((p0.2.2.2.2.2.1.1,(p0.2.2.2.2.2.1.2.1,())),(p0.2.2.2.2.2.2.1,(p0.2.2.2.2.2.2.2.1,(p0.2.2.2.2.2.2.2.2.1,(p0.2.2.2.2.2.2.2.2.2.1,((([]:List ByteArray)++p0.2.2.2.2.2.2.2.2.2.2.1),((p0.2.2.2.2.2.2.2.2.2.2.2.1.1,(p0.2.2.2.2.2.2.2.2.2.2.2.1.2.1,())),())))))))))))),[])) none
theorem Qip {c:Qf}(h:Jr c=true):(QO c).length<=100000:=by
 simp only [Jr,XB,Bc,Ba] at h
 exact h.2.2.1
theorem s_f129 (c:Qf)(h:Jr c=true):QEk c=some (.t QE (YK c),[]):=by
 have hn:c.2.2.2.2.2.2.2.2.2.2.1.length<=100000:=Qip h
 simp only [QEk]
 rw [Q7 (by omega) (by simp only [Bw];omega),Qe]
 rfl
def QEl:Ent:=Qq (.pr QE .nil) (fun x=>(Jr x.1)) (fun x=>(.t QE (YK x.1)))
theorem QSS:EM 129 QEl:=mS g_f129 QSR [((.c 2 true 15),some QE)] false (Zz _ (fun p hp=>by cases hp)) fun m=>Qu m fun x hok=>kT (s_f129 x.1 hok)
def Qcr (c:Qf)(s:Qb):Qf:=(c.1,(c.2.1,(c.2.2.1,(c.2.2.2.1,(c.2.2.2.2.1,(c.2.2.2.2.2.1,(c.2.2.2.2.2.2.1,(c.2.2.2.2.2.2.2.1,(c.2.2.2.2.2.2.2.2.1,(c.2.2.2.2.2.2.2.2.2.1,(c.2.2.2.2.2.2.2.2.2.2.1,(s,()))))))))))))
def FQ (c:Qf):Qf:=Qcr c (0,(0,()))
def Qcs (c:Qf)(k:Int):Bool:= !Q5 (FQ c)||(ilt k 0||igt k 2147483648)
abbrev Qct:Qf:=Ty.zero QE
def XN (c:Qf)(k:Int):Qf×Int:=bif Qcs c k then (Qct,9) else (Qcr c (k,(XM (Zv (FQ c)).1,())),0)
def tc_f84:TC:=aF Tryz.f84 []
def g_f84:G:=gG 35 [(129,QEl),(130,Qa2),(131,Qqu),(132,QqA)] (fun _ _=>none)
def r_f84 (p0:Qf)(p1:Int):OV:=
 let a4:=((YK p0).2)
 let a1:=((((a4.2).2).2).2)
 let a5:=(((a1.2).2).2)
 let a2:=((Zv ((YK p0).1,(a4.1,((a4.2).1,(((a4.2).2).1,((((a4.2).2).2).1,(a1.1,((a1.2).1,(((a1.2).2).1,(a5.1,((a5.2).1,(((a5.2).2).1,((0,(0,())),(((a5.2).2).2).2))))))))))))).1)
 let a3:=(Jr ((YK p0).1,(a4.1,((a4.2).1,(((a4.2).2).1,((((a4.2).2).2).1,(a1.1,((a1.2).1,(((a1.2).2).1,(a5.1,((a5.2).1,(((a5.2).2).1,((0,(0,())),(((a5.2).2).2).2)))))))))))))
 let a6:=ByteArray.mk #[]
 br (Jr p0) (br a3 (br (ine (We ((YK p0).1,(a4.1,((a4.2).1,(((a4.2).2).1,((((a4.2).2).2).1,(a1.1,((a1.2).1,(((a1.2).2).1,(a5.1,((a5.2).1,(((a5.2).2).1,((0,(0,())),(((a5.2).2).2).2))))))))))))) 0) (some (.tu [(.t QE (0,(a6,(a6,((0,(0,())),(0,((0,(0,())),(0,(0,(false,(0,(([]:List ByteArray),((0,(0,())),()))))))))))))),(.t tI 9)],[])) (br (ilt p1 0) (some (.tu [(.t QE (0,(a6,(a6,((0,(0,())),(0,((0,(0,())),(0,(0,(false,(0,(([]:List ByteArray),((0,(0,())),()))))))))))))),(.t tI 9)],[])) (br (igt p1 2147483648) (some (.tu [(.t QE (0,(a6,(a6,((0,(0,())),(0,((0,(0,())),(0,(0,(false,(0,(([]:List ByteArray),((0,(0,())),()))))))))))))),(.t tI 9)],[])) (br a3 (br (Gi a2) (some (.tu [(.t QE ((YK p0).1,(a4.1,((a4.2).1,(((a4.2).2).1,((((a4.2).2).2).1,(a1.1,((a1.2).1,(((a1.2).2).1,(a5.1,((a5.2).1,(((a5.2).2).1,((p1,((XM a2),())),(((a5.2).2).2).2))))))))))))),(.t tI 0)],[])) none) none)))) none) none
theorem s_f84 (c:Qf)(k:Int)(h:YJ c k=true):r_f84 c k=some (.tu [.t QE (XN c k).1,.t tI (XN c k).2],[]):=by
 have h:Jr c=true:=h
 have hu:Jr (FQ c)=true:=h
 have e:((YK c).1,((YK c).2.1,((YK c).2.2.1,((YK c).2.2.2.1,((YK c).2.2.2.2.1,((YK c).2.2.2.2.2.1,((YK c).2.2.2.2.2.2.1,((YK c).2.2.2.2.2.2.2.1,((YK c).2.2.2.2.2.2.2.2.1,((YK c).2.2.2.2.2.2.2.2.2.1,((YK c).2.2.2.2.2.2.2.2.2.2.1,((0,(0,())),()))))))))))))=FQ c:=rfl
 simp only [r_f84,h,e,hu,EB,QqB,Qe]
 unfold XN Qcs
 cases Q5 (FQ c) with
 |false=>rfl
 |true=>
  rw [BC,Qi,Di]
  cases ilt k 0 with
  |true=>rfl
  |false=>
   rw [Qi,Di]
   cases igt k 2147483648<;>rfl
def QqC:Ent:=Qq (.pr QE (.pr tI .nil)) (fun x=>(YJ x.1 x.2.1)) (fun x=>(.tu [(.t QE ((XN x.1 x.2.1).1)),(.t tI ((XN x.1 x.2.1).2))]))
theorem QEm:EM 84 QqC:=mS g_f84 tc_f84 [((.c 4 true 15),some QE),((.t 5),some tI)] false (gB (gD QSS (gD Qfz (gD QD3 (gD QEf gN))))) fun m=>Qu m fun x hok=>kT (s_f84 x.1 x.2.1 hok)
def Jf (l:List Qf):Bool:=decide (l.length<=100000)&&l.all Jr
def E2 (key:Qb)(id:Int)(l:List Qf):Bool:=ieq (Qc l) 0||(((l.getD 0 Qct).2.2.2.1==key)&&ieq (l.getD 0 Qct).2.2.2.2.1 id)
def Wn (key:Qb)(id:Int)(l:List Qf):Bool:=Zr key&&(!ine (ZM key.1) 2&&(JI id&&(!igt (Qc l) 8&&(l.all Q5&&E2 key id l))))
def FR (_key:Qb)(_id:Int)(l:List Qf):Bool:=Jf l
theorem QEn (key:Qb)(id:Int)(l:List Qf):br (ieq (Qc l) 0) (some (V.t .bool true,([]:List VO))) (br (cIx l 0) (br ((lgt QE l 0).2.2.2.1==key) (br (cIx l 0) (some (V.t .bool (ieq (lgt QE l 0).2.2.2.2.1 id),[])) none) (some (V.t .bool false,[]))) none)=some (V.t .bool (E2 key id l),[]):=by
 unfold E2
 cases l with
 |nil=>rfl
 |cons c l=>
  have h1:ieq (Qc (c::l)) 0=false:=by
   simp only [ieq,Qc,Bp,Dr]
   omega
  have h2:cIx (c::l) 0=true:=by simp only [cIx,Bp,Ba];omega
  rw [h1,Qi,h2,Qe,Di,Qe]
  show br (c.2.2.2.1==key) _ _=some (V.t .bool ((c.2.2.2.1==key)&&ieq c.2.2.2.2.1 id),[])
  cases c.2.2.2.1==key<;>rfl
abbrev Qiq:Sh:=⟨[(1,.ty tI),(2,.ty (.sl QE)),(3,.ptr 3 0),(28,.ty (.sl QE)),(29,.ty tI),(30,.ty tI)],[(3,.box Qh)]⟩
abbrev QqD:Sh:=⟨[(6,.ty .bool)],[]⟩
abbrev QqE:Sh:=⟨[(1,.ty tI),(2,.ty (.sl QE)),(3,.ptr 3 0)],[(3,.box Qh)]⟩
def QqF:Fg:=Qiq.f
def QEo:TC:=aF Tryz.f117 [(58,pL 0 QqF),(933,.fg QqE.f),(29901,.fg QqD.f),(30,pD [(0,[]),(1,[]),(2,[]),(3,[]),(4,[]),(5,[]),(6,[]),(7,[]),(8,[3]),(9,[]),(10,[]),(11,[]),(12,[]),(13,[]),(14,[]),(15,[]),(16,[]),(17,[]),(18,[]),(19,[])] (.of [0,1,2,3,4,5,6,7,8,9,10,11,12,13,14,15,16,17,18,19]))]
def QEp:TC:=lb 0 QEo
def QEq (x1:Int)(x2 x28:List Qf)(x29 x30:Int)(y3:Qb):VS:=Qiq.st (x1,x2,(),x28,x29,x30,()) (y3,())
def Vk (x6:Bool):VS:=QqD.st (x6,()) ()
def Vl (x1:Int)(x2:List Qf)(y3:Qb):VS:=QqE.st (x1,x2,(),()) (y3,())
def QST:VS->Option (Bool×List (Bool×Exit×VS)):=mkL Qiq (fun x y=>(Qz x.2.2.2.1 x.2.2.2.2.1 x.2.2.2.2.2.1&&Jf x.2.2.2.1)) (fun x y=>[((!(x.2.2.2.1.drop x.2.2.2.2.2.1.toNat).all Q5),.ret,Vk (false)),(true,.exit 0,Vl (x.1) (x.2.1) (y.1))])
def QqG:G:=gG 57 [(96,Qne),(121,Qfq),(125,QiY),(155,QhB)] (Ls [QST])
def Qir (x1:Int)(x2 x28:List Qf)(x29 x30:Int)(y3:Qb):OX:=QB (QD QqG QqF QEp) (QEq x1 x2 x28 x29 x30 y3)
def Qcu (kk:Int->List Qf->List Qf->Int->Int->Qb->OX)(x1:Int)(x2 x28:List Qf)(x29 x30:Int)(y3:Qb):OX:=
 let a1:=lgt QE x28 (Int.toNat x30)
 br (ilt x30 x29) (br (cIx x28 x30) (br (Jr a1) (br (ine (We a1) 0) (some (.ret,Vk false)) (kk x1 x2 x28 x29 (Qk .i64 x30 1) y3)) none) none) (some (.exit 0,Vl x1 x2 y3))
def Qis (x1:Int)(x2 x28:List Qf)(x29 x30:Int)(y3:Qb):OX:=br (!(x28.drop x30.toNat).all Q5) (some (.ret,Vk (false)))<|some (.exit 0,Vl (x1) (x2) (y3))
theorem QEr (x1:Int)(x2 x28:List Qf)(x29 x30:Int)(y3:Qb):Qir x1 x2 x28 x29 x30 y3=Qcu Qir x1 x2 x28 x29 x30 y3:=lnT (x:=Qcu (fun x1 x2 x28 x29 x30 y3=>some (.normal,QEq x1 x2 x28 x29 x30 y3)) x1 x2 x28 x29 x30 y3) (by simp only [Qcu,nxA];rfl)
def QEs (p0:Qb)(p1:Int)(p2:List Qf):OV:=
 let a1:=((((lgt QE (p2) (Int.toNat 0)).2).2).2)
 br (!(Zr p0)) (some (.t .bool false,[])) (br (ine (ZM p0.1) 2) (some (.t .bool false,[])) (br (!(JI p1)) (some (.t .bool false,[])) (br (igt (Qc p2) 8) (some (.t .bool false,[])) (br (Qz p2 (Qc p2) (0:Int)&&Jf p2) (br (!(p2.drop (0:Int).toNat).all Q5) (some (.t .bool (false),[])) (br (ieq (Qc (p2)) 0) (some (.t .bool true,[])) (br (cIx (p2) 0) (br (and (ieq ((a1.1).1) ((p0).1)) (and (ieq (((a1.1).2).1) (((p0).2).1)) true)) (br (cIx (p2) 0) (some (.t .bool (ieq ((a1.2).1) (p1)),[])) none) (some (.t .bool false,[]))) none))) none))))
theorem QSU (x1:Int)(x2 x28:List Qf)(x29 x30:Int)(y3:Qb)(h:(Qz x28 x29 x30&&Jf x28)=true):Qir x1 x2 x28 x29 x30 y3=Qis x1 x2 x28 x29 x30 y3:=by
 simp only [Bc] at h
 obtain ⟨h0,hc⟩:=h
 obtain ⟨rfl,h3,k,rfl,hk⟩:=Js h0
 clear h0
 simp only [Jf,Bc,Bg] at hc
 refine QW x28 (fun k=>Qir x1 x2 x28 (x28.length:Int) (k:Int) y3=Qis x1 x2 x28 (x28.length:Int) (k:Int) y3) ?_ ?_ k hk
 ·rw [QEr]
  simp only [Qcu,Qis,QC,BI,BQ,Qi,Bb,BE,Dw,BC]
 ·intro k hk ih
  rw [QEr]
  have hx:=hc.2 x28[k] (BA hk)
  simp only [Qcu,QC,QS,hk,Bu,Qe,Bb,QU (show k<4611686018427387904 by omega),QX (y:=QE) hk,hx,EB,ih]
  simp only [Qis,Bb,Bi hk,BV]
  cases Q5 x28[k]<;>rfl
theorem QSV:LO QqG QqF QEp 0:=QN (s:=Qiq) fun x y h _ q=>by simp only [QJ,QK] at q;exact (QSU x.1 x.2.1 x.2.2.2.1 x.2.2.2.2.1 x.2.2.2.2.2.1 y.1 h).trans q
theorem s_f117 (key:Qb)(id:Int)(l:List Qf)(h:FR key id l=true):QEs key id l=some (.t .bool (Wn key id l),[]):=by
 have h:Jf l=true:=h
 have hl:l.length<=100000:=by simp only [Jf,Bc,Ba] at h;exact h.1
 simp only [QEs,Jy hl,h,BX,Qe,Bt,Bx,QCK]
 unfold Wn
 refine (brB<|brB<|brB<|brB<|brB (QEn key id l)).trans ?_
 simp only [Bool.not_not]
def QEt:Ent:=Qq (.pr Qh (.pr tI (.pr (.sl QE) .nil))) (fun x=>(FR x.1 x.2.1 x.2.2.1)) (fun x=>(.t .bool (Wn x.1 x.2.1 x.2.2.1)))
theorem QSW:EM 117 QEt:=mS (lk:=lkL (lkc QSV lkn)) QqG QEo [((.t 6),some .bool)] false (gB (gD QxS (gD Qm8 (gD Qri (gD QpE gN))))) fun m=>Qu m fun x hok=>kT (s_f117 x.1 x.2.1 x.2.2.1 hok)
abbrev Qit:Sh:=⟨[(1,.ty tI),(2,.ty (.sl QE)),(3,.ptr 3 0),(7,.ty tI)],[(3,.box Qh)]⟩
def QqH:Fg:=Qit.f
def QEu:TC:=aF Tryz.f105 [(58,pL 0 QqH),(931,.fg QqE.f),(7461,.fg QqD.f),(30,pD [(0,[]),(1,[]),(2,[]),(3,[]),(4,[]),(5,[]),(6,[]),(7,[]),(8,[3]),(9,[]),(10,[]),(11,[]),(12,[]),(13,[]),(14,[]),(15,[]),(16,[]),(17,[]),(18,[]),(19,[])] (.of [0,1,2,3,4,5,6,7,8,9,10,11,12,13,14,15,16,17,18,19]))]
def QEv:TC:=lb 0 QEu
def QEw (x1:Int)(x2:List Qf)(x7:Int)(y3:Qb):VS:=Qit.st (x1,x2,(),x7,()) (y3,())
def QSX:VS->Option (Bool×List (Bool×Exit×VS)):=mkL Qit (fun x y=>(decide (0<=x.2.2.2.1/\x.2.2.2.1<=x.2.1.length)&&Jf x.2.1)) (fun x y=>[((!(x.2.1.drop x.2.2.2.1.toNat).all Q5),.ret,Vk (false)),(true,.exit 0,Vl (x.1) (x.2.1) (y.1))])
def QqI:G:=gG 55 [(130,Qa2),(145,Qnc)] (Ls [QSX])
def Qiu (x1:Int)(x2:List Qf)(x7:Int)(y3:Qb):OX:=QB (QD QqI QqH QEv) (QEw x1 x2 x7 y3)
def Qcv (kk:Int->List Qf->Int->Qb->OX)(x1:Int)(x2:List Qf)(x7:Int)(y3:Qb):OX:=
 let a1:=lgt QE x2 (Int.toNat x7)
 br (ilt x7 (Qc x2)) (br (cIx x2 x7) (br (Jr a1) (br (ine (We a1) 0) (some (.ret,Vk false)) (kk x1 x2 (Qk .i64 x7 1) y3)) none) none) (some (.exit 0,Vl x1 x2 y3))
def Qiv (x1:Int)(x2:List Qf)(x7:Int)(y3:Qb):OX:=br (!(x2.drop x7.toNat).all Q5) (some (.ret,Vk (false)))<|some (.exit 0,Vl (x1) (x2) (y3))
theorem QEx (x1:Int)(x2:List Qf)(x7:Int)(y3:Qb):Qiu x1 x2 x7 y3=Qcv Qiu x1 x2 x7 y3:=lnT (x:=Qcv (fun x1 x2 x7 y3=>some (.normal,QEw x1 x2 x7 y3)) x1 x2 x7 y3) (by simp only [Qcv,nxA];rfl)
def QEy (p0:Qb)(p1:Int)(p2:List Qf):OV:=
 let a1:=((((lgt QE (p2) (Int.toNat 0)).2).2).2)
 br (!(EA p0)) (some (.t .bool false,[])) (br (ilt p1 0) (some (.t .bool false,[])) (br (igt p1 2147483648) (some (.t .bool false,[])) (br (igt (Qc p2) 8) (some (.t .bool false,[])) (br (decide (0<=(0:Int)/\(0:Int)<=p2.length)&&Jf p2) (br (!(p2.drop (0:Int).toNat).all Q5) (some (.t .bool (false),[])) (br (ieq (Qc (p2)) 0) (some (.t .bool true,[])) (br (cIx (p2) 0) (br (and (ieq ((a1.1).1) ((p0).1)) (and (ieq (((a1.1).2).1) (((p0).2).1)) true)) (br (cIx (p2) 0) (some (.t .bool (ieq ((a1.2).1) (p1)),[])) none) (some (.t .bool false,[]))) none))) none))))
theorem QSY (x1:Int)(x2:List Qf)(x7:Int)(y3:Qb)(h:(decide (0<=x7/\x7<=x2.length)&&Jf x2)=true):Qiu x1 x2 x7 y3=Qiv x1 x2 x7 y3:=by
 simp only [Jf,Bc,Ba,Bg] at h
 obtain ⟨⟨h0,h1⟩,h3,hc⟩:=h
 obtain ⟨k,rfl⟩:=Bm h0
 refine QW x2 (fun k=>Qiu x1 x2 (k:Int) y3=Qiv x1 x2 (k:Int) y3) ?_ ?_ k (by omega)
 ·rw [QEx]
  simp only [Qcv,Qiv,show ilt (x2.length:Int) (Qc x2)=false from Bn (by simp only [Qc];omega),Qi,Bb,BE,Dw,BC]
 ·intro k hk ih
  rw [QEx]
  have hx:=hc x2[k] (BA hk)
  simp only [Qcv,show ilt (k:Int) (Qc x2)=true from Bd (by simp only [Qc];omega),QS,hk,Bu,Qe,Bb,QU (show k<4611686018427387904 by omega),QX (y:=QE) hk,hx,EB,ih]
  simp only [Qiv,Bb,Bi hk,BV]
  cases Q5 x2[k]<;>rfl
theorem QSZ:LO QqI QqH QEv 0:=QN (s:=Qit) fun x y h _ q=>by simp only [QJ,QK] at q;exact (QSY x.1 x.2.1 x.2.2.2.1 y.1 h).trans q
theorem s_f105 (key:Qb)(id:Int)(l:List Qf)(h:FR key id l=true):QEy key id l=some (.t .bool (Wn key id l),[]):=by
 have h:Jf l=true:=h
 have hl:l.length<=100000:=by simp only [Jf,Bc,Ba] at h;exact h.1
 have hd:(0:Int)<=0/\(0:Int)<=l.length:=⟨by omega,by omega⟩
 simp only [QEy,h,Bd hd,BX,Qe,Bt,Bx,QCK]
 unfold Wn EA J0 JI
 refine (brB<|brB<|brB<|brB<|brB (QEn key id l)).trans ?_
 simp only [Bool.not_not,Ez,Bool.and_assoc]
def QEz:Ent:=Qq (.pr Qh (.pr tI (.pr (.sl QE) .nil))) (fun x=>(FR x.1 x.2.1 x.2.2.1)) (fun x=>(.t .bool (Wn x.1 x.2.1 x.2.2.1)))
theorem QS0:EM 105 QEz:=mS (lk:=lkL (lkc QSZ lkn)) QqI QEu [((.t 6),some .bool)] false (gB (gD Qfz (gD QxP gN))) fun m=>Qu m fun x hok=>kT (s_f105 x.1 x.2.1 x.2.2.1 hok)
end
end Go.Proofs.YtckcgijklnloiaaGreat.K
noncomputable section
namespace Go.Proofs
open Go.Shelf
def Tryz.lays137_ren:Go.Shelf.Ren:=⟨fun|137=>179|217=>208|266=>229|n=>n,fun|9=>9|5=>5|3=>3|n=>n,fun|n=>n⟩
theorem Tryz.lays137:Go.Proofs.Lays.n137 Tryz.prog Tryz.lays137_ren:={
 mixed:=by kernel_rfl
 f137:=Tryz.func179.trans (congrArg some (by kernel_rfl))
 f217:=Tryz.func208.trans (congrArg some (by kernel_rfl))
 f266:=Tryz.func229.trans (congrArg some (by kernel_rfl))
 t3:=Tryz.underlying3
 a3:=Tryz.isAgg3
 z3:=Tryz.sizeOf3
 v3:=Tryz.zeroValue3
 t5:=Tryz.underlying5
 a5:=Tryz.isAgg5
 z5:=Tryz.sizeOf5
 v5:=Tryz.zeroValue5
 t9:=Tryz.underlying9
 a9:=Tryz.isAgg9
 z9:=Tryz.sizeOf9
 v9:=Tryz.zeroValue9}
end Go.Proofs
namespace Go.Proofs.YtckcgijklnloiaaGreat.K
open Go.RowKit Go.Shelf
noncomputable section
def ixB (s:ByteArray)(c:Int):Int:=Lib.indexByte s.data.toList c.toNat.toUInt8
def QI5:Ent:=Qq (.pr .str (.pr (.int .u8) .nil)) (fun x=>true) (fun x=>(.t tI (ixB x.1 x.2.1)))
theorem QXg:JX Tryz.prog 179:= .inr ⟨by decide,_,Tryz.func179,by kernel_rfl,by kernel_rfl⟩
theorem QXh:QQ Tryz.prog 179 (QP QI5):=QM9 fun x hok X w σ vs hfin hc=>by
 obtain ⟨s,c,u⟩:=x
 simp only [Ty.canon,V.ds,V.d,Ty.d,Cs,C] at hc
 obtain ⟨v1,r1,rfl,⟨rfl,_⟩,v2,r2,rfl,⟨rfl,_⟩,rfl⟩:=hc
 refine (Any.strings_IndexByte Tryz.lays137 s c w).mono ?_
 rintro e w' ⟨rfl,rfl⟩
 refine ⟨_,rfl, ?_,Below.refl _ _⟩
 simp only [V.d,Ty.d,C]
 exact ⟨rfl,rfl⟩
def VU (c:Int)(o:ByteArray):Bool:=(ige c 97&&ile c 122)||((ige c 65&&ile c 90)||((ige c 48&&ile c 57)||ige (ixB o c) 0))
def QXi:TC:=aF Tryz.f154 []
def g_f154:G:=gG 33 [(179,QI5)] (fun _ _=>none)
def QtB (p0:Int)(p1:ByteArray):OV:=br (ige p0 48) (br (ile p0 57) (some (.t .bool true,[])) (some (.t .bool (ige (ixB p1 p0) 0),[]))) (some (.t .bool (ige (ixB p1 p0) 0),[]))
def QtC (p0:Int)(p1:ByteArray):OV:=br (ige p0 65) (br (ile p0 90) (some (.t .bool true,[])) (QtB p0 p1)) (QtB p0 p1)
def QI6 (p0:Int)(p1:ByteArray):OV:=br (ige p0 97) (br (ile p0 122) (some (.t .bool true,[])) (QtC p0 p1)) (QtC p0 p1)
theorem brO {a b r:Bool}{X:OV}(h:X=some (.t .bool r,[])):br a (br b (some (.t .bool true,[])) X) X=some (.t .bool ((a&&b)||r),[]):=by
 subst h
 cases a<;>cases b<;>rfl
theorem s_f154 (c:Int)(o:ByteArray):QI6 c o=some (.t .bool (VU c o),[]):=by
 simp only [QI6,QtC,QtB]
 exact brO (brO (brO rfl))
def QI7:Ent:=Qq (.pr (.int .u8) (.pr .str .nil)) (fun x=>true) (fun x=>(.t .bool (VU x.1 x.2.1)))
theorem QXj:EM 154 QI7:=mS g_f154 QXi [((.t 4),some .bool)] false (gB (gC QXg QXh gN)) fun m=>Qu m fun x _=>kT (s_f154 x.1 x.2.1)
def Xv (c:Int):Bool:= !(ilt c 97||igt c 122)||(!(ilt c 65||igt c 90)||(!(ilt c 48||igt c 57)||(ieq c 45||(ieq c 95||ieq c 46))))
def XU (s:ByteArray):Bool:=(Jd s).all Xv&&decide (1<=s.size/\s.size<=32)
set_option maxRecDepth 100000 in
theorem QXk:((List.range 256).all fun n=>VU (n:Int) (ByteArray.mk #[45,95,46])==Xv (n:Int))=true:=by kernel_rfl
theorem QXl {s:ByteArray}{c:Int}(h:c∈Jd s):VU c (ByteArray.mk #[45,95,46])=Xv c:=by
 obtain ⟨b,_,rfl⟩:=Dc.1 h
 have:=Bg.1 QXk b.toNat (by rw [Dg];exact b.toNat_lt)
 exact eq_of_beq this
abbrev Qkw:Sh:=⟨[(0,.ty .str),(6,.ty (.sl (.int .u8))),(7,.ty tI),(8,.ty tI)],[]⟩
abbrev QdG:Sh:=⟨[(2,.ty .bool)],[]⟩
abbrev QI8:Sh:=⟨[(0,.ty .str)],[]⟩
def QtD:Fg:=Qkw.f
def QI9:TC:=aF Tryz.f114 [(26,pL 0 QtD),(421,.fg QI8.f),(13517,.fg QdG.f)]
def QJa:TC:=lb 0 QI9
def QJb (x0:ByteArray)(x6:List Int)(x7 x8:Int):VS:=Qkw.st (x0,x6,x7,x8,()) ()
def WS (x2:Bool):VS:=QdG.st (x2,()) ()
def QtE (x0:ByteArray):VS:=QI8.st (x0,()) ()
def QXm:VS->Option (Bool×List (Bool×Exit×VS)):=mkL Qkw (fun x y=>(WJ x.2.1 x.2.2.1 x.2.2.2.1&&WF x.2.1 (Jd x.1))) (fun x y=>[((!((x.2.1.drop x.2.2.2.1.toNat).all Xv)),.ret,WS (false)),(true,.exit 0,QtE (x.1))])
def QtF:G:=gG 24 [(154,QI7),(30120144,Qac)] (Ls [QXm])
def Qkx (x0:ByteArray)(x6:List Int)(x7 x8:Int):OX:=QB (QD QtF QtD QJa) (QJb x0 x6 x7 x8)
def QdH (kk:ByteArray->List Int->Int->Int->OX)(x0:ByteArray)(x6:List Int)(x7 x8:Int):OX:=br (ilt x8 x7) (br (cIx x6 x8) (br (!(VU (lgt (.int .u8) x6 (Int.toNat x8)) (ByteArray.mk #[45,95,46]))) (some (.ret,WS false)) (kk x0 x6 x7 (Qk .i64 x8 1))) none) (some (.exit 0,QtE x0))
def Qky (x0:ByteArray)(x6:List Int)(x7 x8:Int):OX:=br (!((x6.drop x8.toNat).all Xv)) (some (.ret,WS (false)))<|some (.exit 0,QtE (x0))
theorem QJc (x0:ByteArray)(x6:List Int)(x7 x8:Int):Qkx x0 x6 x7 x8=QdH Qkx x0 x6 x7 x8:=lnT (x:=QdH (fun x0 x6 x7 x8=>some (.normal,QJb x0 x6 x7 x8)) x0 x6 x7 x8) (by simp only [QdH,nxA];rfl)
def QJd (p0:ByteArray):OV:=br (Yq p0) (br (WJ (Jd p0) (Qc (Jd p0)) (0:Int)&&WF (Jd p0) (Jd p0)) (br (!(((Jd p0).drop (0:Int).toNat).all Xv)) (some (.t .bool (false),[])) (br (ige (Zm (p0)) 1) (some (.t .bool (ile (Zm (p0)) 32),[])) (some (.t .bool false,[])))) none) none
theorem QXn (x0:ByteArray)(x6:List Int)(x7 x8:Int)(h:(WJ x6 x7 x8&&WF x6 (Jd x0))=true):Qkx x0 x6 x7 x8=Qky x0 x6 x7 x8:=by
 simp only [Bc] at h
 obtain ⟨h,hs⟩:=h
 have hs:=Qm7 hs
 obtain ⟨rfl,h3,k,rfl,hk⟩:=Qok h
 clear h
 refine QW x6 (fun k=>Qkx x0 x6 (x6.length:Int) (k:Int)=Qky x0 x6 (x6.length:Int) (k:Int)) ?_ ?_ k hk
 ·rw [QJc]
  simp [QdH,Qky,QC,Qi]
 ·intro k hk ih
  rw [QJc]
  have hw:VU x6[k] (ByteArray.mk #[45,95,46])=Xv x6[k]:=QXl (s:=x0) (by rw [←hs];exact BA hk)
  simp only [QdH,QC,QS,hk,Bu,Qe,Bb,Qbr (show k<9223372036854775807 by omega),QX (y:= .int .u8) hk,ih,hw]
  simp only [Qky,Bb,Bi hk,BV]
  cases Xv x6[k]<;>rfl
theorem QXo:LO QtF QtD QJa 0:=QN (s:=Qkw) fun x y h _ q=>by simp only [QJ,QK] at q;exact (QXn x.1 x.2.1 x.2.2.1 x.2.2.2.1 h).trans q
theorem s_f114 (s:ByteArray)(h:JB s=true):QJd s=some (.t .bool (XU s),[]):=by
 simp only [JB,Ba] at h
 have hl:=EJ s
 simp only [QJd,show Yq s=true from Bd (by omega),Qol (show (Jd s).length<=9223372036854775807 by omega),Qm6,BX,Qe,Bt,Bx,XU]
 cases (Jd s).all Xv with
 |false=>rfl
 |true=>
  simp only [BC,Qi,BB]
  refine Jp (fun g=> ?_) (fun g=> ?_)
  ·simp only [ige,Zm,Ba] at g
   apply Qbp
   rw [DQ]
   simp only [ile,Zm,Ba]
   omega
  ·simp only [ige,Zm,Bq] at g
   apply Qbp
   rw [eq_comm,Bq]
   omega
def QJe:Ent:=Qq (.pr .str .nil) (fun x=>(JB x.1)) (fun x=>(.t .bool (XU x.1)))
theorem QXp:EM 114 QJe:=mS (lk:=lkL (lkc QXo lkn)) QtF QI9 [((.t 2),some .bool)] false (gB (gD QXj (gC QdX QdY gN))) fun m=>Qu m fun x hok=>kT (s_f114 x.1 hok)
abbrev Qkz:Sh:=⟨[(0,.ty .str),(3,.ty tI)],[]⟩
abbrev VV:Sh:=⟨[],[]⟩
def QtG:Fg:=Qkz.f
def QJf:TC:=aF Tryz.f102 [(58,pL 0 QtG),(931,.fg VV.f),(14925,.fg QdG.f)]
def QJg:TC:=lb 0 QJf
def QJh (x0:ByteArray)(x3:Int):VS:=Qkz.st (x0,x3,()) ()
def QtH  : VS:=VV.st () ()
def QXq:VS->Option (Bool×List (Bool×Exit×VS)):=mkL Qkz (fun x y=>(JB x.1&&decide (0<=x.2.1/\x.2.1<=x.1.size))) (fun x y=>[((!(((Jd x.1).drop x.2.1.toNat).all Xv)),.ret,WS (false)),(true,.exit 0,QtH)])
def QtI:G:=gG 56 [] (Ls [QXq])
def QkA (x0:ByteArray)(x3:Int):OX:=QB (QD QtI QtG QJg) (QJh x0 x3)
def QkB (kk:ByteArray->Int->OX)(x0:ByteArray)(x3:Int):OX:=
 let a1:=Qk .i64 x3 1
 br (ine (sgt x0 x3) 45) (br (ine (sgt x0 x3) 95) (br (ine (sgt x0 x3) 46) (some (.ret,WS false)) (kk x0 a1)) (kk x0 a1)) (kk x0 a1)
def QkC (kk:ByteArray->Int->OX)(x0:ByteArray)(x3:Int):OX:=br (ilt (sgt x0 x3) 48) (QkB kk x0 x3) (br (igt (sgt x0 x3) 57) (QkB kk x0 x3) (kk x0 (Qk .i64 x3 1)))
def QkD (kk:ByteArray->Int->OX)(x0:ByteArray)(x3:Int):OX:=br (ilt (sgt x0 x3) 65) (QkC kk x0 x3) (br (igt (sgt x0 x3) 90) (QkC kk x0 x3) (kk x0 (Qk .i64 x3 1)))
def QdI (kk:ByteArray->Int->OX)(x0:ByteArray)(x3:Int):OX:=br (ilt x3 (Zm x0)) (br (cSx x0 x3) (br (ilt (sgt x0 x3) 97) (QkD kk x0 x3) (br (igt (sgt x0 x3) 122) (QkD kk x0 x3) (kk x0 (Qk .i64 x3 1)))) none) (some (.exit 0,QtH))
def QkE (x0:ByteArray)(x3:Int):OX:=br (!(((Jd x0).drop x3.toNat).all Xv)) (some (.ret,WS (false)))<|some (.exit 0,QtH)
theorem QJi (x0:ByteArray)(x3:Int):QkA x0 x3=QdI QkA x0 x3:=lnT (x:=QdI (fun x0 x3=>some (.normal,QJh x0 x3)) x0 x3) (by simp only [QdI,QkD,QkC,QkB,nxA];rfl)
def QJj (p0:ByteArray):OV:=br (ilt (Zm p0) 1) (some (.t .bool false,[])) (br (igt (Zm p0) 32) (some (.t .bool false,[])) (br (JB p0&&decide (0<=(0:Int)/\(0:Int)<=p0.size)) (br (!(((Jd p0).drop (0:Int).toNat).all Xv)) (some (.t .bool (false),[])) (some (.t .bool true,[]))) none))
theorem QXr {β:Type}(c:Int)(bad ok:Option β):(br (ilt c 97) (br (ilt c 65) (br (ilt c 48) (br (ine c 45) (br (ine c 95) (br (ine c 46) bad ok) ok) ok) (br (igt c 57) (br (ine c 45) (br (ine c 95) (br (ine c 46) bad ok) ok) ok) ok)) (br (igt c 90) (br (ilt c 48) (br (ine c 45) (br (ine c 95) (br (ine c 46) bad ok) ok) ok) (br (igt c 57) (br (ine c 45) (br (ine c 95) (br (ine c 46) bad ok) ok) ok) ok)) ok)) (br (igt c 122) (br (ilt c 65) (br (ilt c 48) (br (ine c 45) (br (ine c 95) (br (ine c 46) bad ok) ok) ok) (br (igt c 57) (br (ine c 45) (br (ine c 95) (br (ine c 46) bad ok) ok) ok) ok)) (br (igt c 90) (br (ilt c 48) (br (ine c 45) (br (ine c 95) (br (ine c 46) bad ok) ok) ok) (br (igt c 57) (br (ine c 45) (br (ine c 95) (br (ine c 46) bad ok) ok) ok) ok)) ok)) ok))=br (Xv c) ok bad:=by
 simp only [Xv,Ez]
 cases ilt c 97<;>cases igt c 122<;>cases ilt c 65<;>cases igt c 90<;>cases ilt c 48<;>cases igt c 57<;>cases ieq c 45<;>cases ieq c 95<;>cases ieq c 46<;>rfl
theorem QXs (x0:ByteArray)(x3:Int)(h:(JB x0&&decide (0<=x3/\x3<=x0.size))=true):QkA x0 x3=QkE x0 x3:=by
 simp only [JB,Bc,Ba] at h
 obtain ⟨h0,h1,h2⟩:=h
 obtain ⟨k,rfl⟩:=Bm h1
 have hl:=EJ x0
 refine QW (Jd x0) (fun k=>QkA x0 (k:Int)=QkE x0 (k:Int)) ?_ ?_ k (by omega)
 ·rw [QJi]
  simp [QdI,QkE,ilt,Zm,hl,Qi,DX (show (Jd x0).length<=x0.size by omega)]
 ·intro k hk ih
  have hk2:k<x0.size:=by omega
  rw [QJi]
  simp only [QdI,QkD,QkC,QkB,show ilt (k:Int) (Zm x0)=true from by simp only [ilt,Zm,Ba];omega,show cSx x0 (k:Int)=true from by simp only [cSx,Ba];omega,Qe,QAl hk2,Qbr (show k<9223372036854775807 by omega),ih,QXr]
  simp only [QkE,Bb,Bi hk,BV]
  cases Xv (Jd x0)[k]<;>rfl
theorem QXt:LO QtI QtG QJg 0:=QN (s:=Qkz) fun x y h _ q=>by simp only [QJ,QK] at q;exact (QXs x.1 x.2.1 h).trans q
theorem s_f102 (s:ByteArray)(h:JB s=true):QJj s=some (.t .bool (XU s),[]):=by
 simp only [QJj]
 unfold XU
 refine Jp (fun g=> ?_) (fun g=>Jp (fun g2=> ?_) (fun g2=> ?_))
 ·simp only [ilt,Zm,Ba] at g
  rw [Bn (show ¬ (1<=s.size/\s.size<=32) by omega),Bool.and_false]
 ·simp only [igt,Zm,Ba] at g2
  rw [Bn (show ¬ (1<=s.size/\s.size<=32) by omega),Bool.and_false]
 ·simp only [ilt,igt,Zm,Bq] at g g2
  rw [h,Bd (show (0:Int)<=0/\(0:Int)<=s.size by omega),Bd (show 1<=s.size/\s.size<=32 by omega),B8,B8,Qe,Bt,Bx]
  cases (Jd s).all Xv<;>rfl
def QJk:Ent:=Qq (.pr .str .nil) (fun x=>(JB x.1)) (fun x=>(.t .bool (XU x.1)))
theorem QXu:EM 102 QJk:=mS (lk:=lkL (lkc QXt lkn)) QtI QJf [((.t 2),some .bool)] false (gB gN) fun m=>Qu m fun x hok=>kT (s_f102 x.1 hok)
def ZF {α:Type}(l:List α):Bool:=decide (l.length<=100000)
def Xw (l:List Int)(k:Nat):Bool:=(List.range' k (l.length-k)).all fun j=>decide (j=0)||ilt (l.getD (j-1) 0) (l.getD j 0)
def WT (l:List Int):Bool:=Xw l 0
theorem QtJ (l:List Int):Xw l l.length=true:=by
 unfold Xw
 rw [DA]
 rfl
theorem QtK {l:List Int}{k:Nat}(hk:k<l.length):Xw l k=((decide (k=0)||ilt (l.getD (k-1) 0) l[k])&&Xw l (k+1)):=by
 have:l.length-k=(l.length-(k+1))+1:=by omega
 unfold Xw
 rw [this,Dd,BV]
 simp only [Bo,Bl hk,BK]
theorem QtL {β:Type}{l:List Int}{k:Nat}(hk:k<l.length)(hb:k<4611686018427387904)(bad ok:Option β):
  br (igt (k:Int) 0) (br (cIx l (QT .i64 (k:Int) 1)) (br (ige (lgt tI l (Int.toNat (QT .i64 (k:Int) 1))) l[k]) bad ok) none) ok=br (decide (k=0)||ilt (l.getD (k-1) 0) l[k]) ok bad:=by
 by_cases h0:k=0
 ·subst h0
  rw [show igt ((0:Nat):Int) 0=false from rfl,Qi,Bd rfl,Bool.true_or,Qe]
 ·have e:QT .i64 (k:Int) 1=((k-1:Nat):Int):=by rw [Zu (by omega)];omega
  rw [show igt (k:Int) 0=true from Bd (by omega),Qe,e,Bb,QS,Bd (show k-1<l.length by omega),Qe,Bn h0,Di,Qfp]
  show br (!ilt (l.getD (k-1) 0) l[k]) bad ok=_
  cases ilt (l.getD (k-1) 0) l[k]<;>rfl
abbrev QkF:Sh:=⟨[(0,.ty (.sl tI)),(5,.ty tI),(6,.ty tI)],[]⟩
def QtM:Fg:=QkF.f
def QJl:TC:=aF Tryz.f116 [(26,pL 0 QtM),(421,.fg VV.f),(3378,pD [(0,[]),(1,[]),(2,[]),(3,[]),(4,[]),(5,[]),(6,[]),(7,[]),(8,[]),(9,[]),(10,[]),(11,[]),(12,[]),(13,[])] (.of [0,1,2,3,4,5,6,7,8,9,10,11,12,13])),(13517,.fg QdG.f)]
def QJm:TC:=lb 0 QJl
def QJn (x0:List Int)(x5 x6:Int):VS:=QkF.st (x0,x5,x6,()) ()
def QtN  : VS:=VV.st () ()
def QXv:VS->Option (Bool×List (Bool×Exit×VS)):=mkL QkF (fun x y=>(Qz x.1 x.2.1 x.2.2.1)) (fun x y=>[((!Xw x.1 x.2.2.1.toNat),.ret,WS (false)),(true,.exit 0,QtN)])
def QtO:G:=gG 24 [] (Ls [QXv])
def QkG (x0:List Int)(x5 x6:Int):OX:=QB (QD QtO QtM QJm) (QJn x0 x5 x6)
def QdJ (kk:List Int->Int->Int->OX)(x0:List Int)(x5 x6:Int):OX:=br (ilt x6 x5) (br (igt x6 0) (br (cIx x0 (QT .i64 x6 1)) (br (cIx x0 x6) (br (ige (lgt tI x0 (Int.toNat (QT .i64 x6 1))) (lgt tI x0 (Int.toNat x6))) (some (.ret,WS false)) (kk x0 x5 (Qk .i64 x6 1))) none) none) (kk x0 x5 (Qk .i64 x6 1))) (some (.exit 0,QtN))
def QkH (x0:List Int)(x5 x6:Int):OX:=br (!Xw x0 x6.toNat) (some (.ret,WS (false)))<|some (.exit 0,QtN)
theorem QJo (x0:List Int)(x5 x6:Int):QkG x0 x5 x6=QdJ QkG x0 x5 x6:=lnT (x:=QdJ (fun x0 x5 x6=>some (.normal,QJn x0 x5 x6)) x0 x5 x6) (by simp only [QdJ,nxA];rfl)
def QJp (p0:List Int):OV:=br (Qz p0 (Qc p0) (0:Int)) (br (!Xw p0 (0:Int).toNat) (some (.t .bool (false),[])) (some (.t .bool true,[]))) none
theorem QXw (x0:List Int)(x5 x6:Int)(h:(Qz x0 x5 x6)=true):QkG x0 x5 x6=QkH x0 x5 x6:=by
 obtain ⟨rfl,h3,k,rfl,hk⟩:=Js h
 clear h
 refine QW x0 (fun k=>QkG x0 (x0.length:Int) (k:Int)=QkH x0 (x0.length:Int) (k:Int)) ?_ ?_ k hk
 ·rw [QJo]
  simp only [QdJ,QkH,QC,BI,BQ,Qi,Bb,QtJ,BC]
 ·intro k hk ih
  rw [QJo]
  simp only [QdJ,QC,QS,hk,Bu,Qe,Bb,QU (show k<4611686018427387904 by omega),QX (y:=tI) hk,ih,QtL hk (show k<4611686018427387904 by omega)]
  simp only [QkH,Bb,QtK hk]
  cases decide (k=0)||ilt (x0.getD (k-1) 0) x0[k]<;>rfl
theorem QXx:LO QtO QtM QJm 0:=QN (s:=QkF) fun x y h _ q=>by simp only [QJ,QK] at q;exact (QXw x.1 x.2.1 x.2.2.1 h).trans q
theorem s_f116 (l:List Int)(h:ZF l=true):QJp l=some (.t .bool (WT l),[]):=by
 simp only [ZF,Ba] at h
 simp only [QJp,Jy h,Qe,Bt]
 unfold WT
 cases Xw l 0<;>rfl
def QJq:Ent:=Qq (.pr (.sl tI) .nil) (fun x=>(ZF x.1)) (fun x=>(.t .bool (WT x.1)))
theorem QXy:EM 116 QJq:=mS (lk:=lkL (lkc QXx lkn)) QtO QJl [((.t 2),some .bool)] false (gB gN) fun m=>Qu m fun x hok=>kT (s_f116 x.1 hok)
def UT (a:Int):Bool:=ieq (ZM a) 1
def QXz:TC:=aF Tryz.f122 []
def g_f122:G:=gG 6 [(155,QhB)] (fun _ _=>none)
def r_f122 (p0:Int):OV:=some (.t .bool (ieq (ZM p0) 1),[])
theorem s_f122 (a:Int):r_f122 a=some (.t .bool (UT a),[]):=rfl
def QJr:Ent:=Qq (.pr tI .nil) (fun x=>true) (fun x=>(.t .bool (UT x.1)))
theorem QXA:EM 122 QJr:=mS g_f122 QXz [((.t 2),some .bool)] false (gB (gD QpE gN)) fun m=>Qu m fun x _=>kT (s_f122 x.1)
def XV (l:List Int)(k:Nat):Bool:=(List.range' k (l.length-k)).all fun j=>ieq (Q4 (l.getD j 0)).2 0&& !QY (l.take j) (l.getD j 0)
def YA (l:List Int):Bool:=XV l 0
theorem QJs (l:List Int):XV l l.length=true:=by
 unfold XV
 rw [DA]
 rfl
theorem QJt {l:List Int}{k:Nat}(hk:k<l.length):XV l k=((ieq (Q4 l[k]).2 0&& !QY (l.take k) l[k])&&XV l (k+1)):=by
 have:l.length-k=(l.length-(k+1))+1:=by omega
 unfold XV
 rw [this,Dd,BV]
 simp only [Bo,Bl hk,BK]
theorem QJu (l:List Int)(k:Nat):lsl l 0 (k:Int)=l.take k:=by
 simp [lsl]
theorem QJv {l:List Int}{k:Nat}(hk:k<=l.length):cSl l 0 (k:Int) ((List.length l:Nat):Int)=true:=by
 simp only [cSl,Ba]
 omega
abbrev QkI:Sh:=⟨[(0,.ty (.sl tI)),(7,.ty (.sl tI)),(8,.ty tI),(9,.ty tI)],[]⟩
def QtP:Fg:=QkI.f
def QJw:TC:=aF Tryz.f115 [(26,pL 0 QtP),(421,.fg VV.f),(27037,.fg QdG.f)]
def QJx:TC:=lb 0 QJw
def QJy (x0 x7:List Int)(x8 x9:Int):VS:=QkI.st (x0,x7,x8,x9,()) ()
def QtQ  : VS:=VV.st () ()
def QXB:VS->Option (Bool×List (Bool×Exit×VS)):=mkL QkI (fun x y=>(Qz x.2.1 x.2.2.1 x.2.2.2.1&&WF x.1 x.2.1)) (fun x y=>[((!XV x.2.1 x.2.2.2.1.toNat),.ret,WS (false)),(true,.exit 0,QtQ)])
def QtR:G:=gG 29 [(85,Qb2),(101,Vb)] (Ls [QXB])
def QkJ (x0 x7:List Int)(x8 x9:Int):OX:=QB (QD QtR QtP QJx) (QJy x0 x7 x8 x9)
def QdK (kk:List Int->List Int->Int->Int->OX)(x0 x7:List Int)(x8 x9:Int):OX:=
 let a1:=lgt tI x7 (Int.toNat x9)
 br (ilt x9 x8) (br (cIx x7 x9) (br (ine ((Q4 a1).2) 0) (some (.ret,WS false)) (br (cSl x0 0 x9 ((List.length x0:Nat):Int)) (br (Q9 (lsl x0 0 x9) a1) (br (QY (lsl x0 0 x9) a1) (some (.ret,WS false)) (kk x0 x7 x8 (Qk .i64 x9 1))) none) none)) none) (some (.exit 0,QtQ))
def QkK (x0 x7:List Int)(x8 x9:Int):OX:=br (!XV x7 x9.toNat) (some (.ret,WS (false)))<|some (.exit 0,QtQ)
theorem QJz (x0 x7:List Int)(x8 x9:Int):QkJ x0 x7 x8 x9=QdK QkJ x0 x7 x8 x9:=lnT (x:=QdK (fun x0 x7 x8 x9=>some (.normal,QJy x0 x7 x8 x9)) x0 x7 x8 x9) (by simp only [QdK,nxA];rfl)
def QJA (p0:List Int):OV:=br (Qz p0 (Qc p0) (0:Int)&&WF p0 p0) (br (!XV p0 (0:Int).toNat) (some (.t .bool (false),[])) (some (.t .bool true,[]))) none
theorem QXC (x0 x7:List Int)(x8 x9:Int)(h:(Qz x7 x8 x9&&WF x0 x7)=true):QkJ x0 x7 x8 x9=QkK x0 x7 x8 x9:=by
 simp only [Bc] at h
 obtain ⟨h0,hs⟩:=h
 have hs:=Qm7 hs
 subst hs
 obtain ⟨rfl,h3,k,rfl,hk⟩:=Js h0
 clear h0
 refine QW x0 (fun k=>QkJ x0 x0 (x0.length:Int) (k:Int)=QkK x0 x0 (x0.length:Int) (k:Int)) ?_ ?_ k hk
 ·rw [QJz]
  simp only [QdK,QkK,QC,BI,BQ,Qi,Bb,QJs,BC]
 ·intro k hk ih
  rw [QJz]
  have hi:Q9 (x0.take k) x0[k]=true:=Bd (by rw [B5];omega)
  simp only [QdK,QC,QS,hk,Bu,Qe,Bb,QU (show k<4611686018427387904 by omega),QX (y:=tI) hk,ih,QJu,QJv (show k<=x0.length by omega),hi,Ez]
  simp only [QkK,Bb,QJt hk]
  cases ieq (Q4 x0[k]).2 0<;>cases QY (x0.take k) x0[k]<;>rfl
theorem QXD:LO QtR QtP QJx 0:=QN (s:=QkI) fun x y h _ q=>by simp only [QJ,QK] at q;exact (QXC x.1 x.2.1 x.2.2.1 x.2.2.2.1 h).trans q
theorem s_f115 (l:List Int)(h:ZF l=true):QJA l=some (.t .bool (YA l),[]):=by
 simp only [ZF,Ba] at h
 simp only [QJA,Jy h,Qm6,BX,Qe,Bt]
 unfold YA
 cases XV l 0<;>rfl
def QJB:Ent:=Qq (.pr (.sl tI) .nil) (fun x=>(ZF x.1)) (fun x=>(.t .bool (YA x.1)))
theorem QXE:EM 115 QJB:=mS (lk:=lkL (lkc QXD lkn)) QtR QJw [((.t 2),some .bool)] false (gB (gD QhI (gD Qb8 gN))) fun m=>Qu m fun x hok=>kT (s_f115 x.1 hok)
def WU (n:Int):Bool:= !JI n
def QXF:TC:=aF Tryz.f119 []
def QXG:G:=gG 8 [(121,Qfq)] (fun _ _=>none)
def QJC (p0:Int):OV:=some (.t .bool (!(JI p0)),[.box (.c (.func (.func 121) #[] #[]))])
theorem QXH (n:Int):QJC n=some (.t .bool (WU n),[.box (.c (.func (.func 121) #[] #[]))]):=by
 simp only [QJC]
 rfl
def QJD:Ent:=Wb [.ty tI,.ptr 50000 0] [.bc 121] (fun x y=>true) (fun x y=>(.t .bool (WU x.1))) (fun x y=>[.box (.c (.func (.func 121) #[] #[]))])
theorem QXI:EM 119 QJD:=mS QXG QXF [((.t 3),some .bool)] false (gB (gD Qm8 gN)) fun m=>WD (YR m fun x y _=>kT (QXH x.1))
def VW (l:List Int):Int:=match Qx WU l with|some k=>(k:Int)|none=> -1
abbrev QkL:Sh:=⟨[(0,.ty (.sl tI)),(1,.fn 119 [(50000,0)]),(7,.ty tI),(8,.ty tI)],[(50000,.bc 121)]⟩
abbrev QJE:Sh:=⟨[(4,.ty tI)],[(50000,.bc 121)]⟩
abbrev QJF:Sh:=⟨[],[(50000,.bc 121)]⟩
def QtS:Fg:=QkL.f
def QJG:TC:=aF Tryz.f128 [(26,pL 0 QtS),(421,.fg QJF.f),(13517,.fg QJE.f)]
def QJH:TC:=lb 0 QJG
def QJI (x0:List Int)(x7 x8:Int):VS:=QkL.st (x0,(),x7,x8,()) ((),())
def QtT (x4:Int):VS:=QJE.st (x4,()) ((),())
def QtU  : VS:=QJF.st () ((),())
def QXJ:VS->Option (Bool×List (Bool×Exit×VS)):=mkL QkL (fun x y=>(Qz x.1 x.2.2.1 x.2.2.2.1)) (fun x y=>[(((Qx WU (x.1.drop x.2.2.2.1.toNat)).isSome),.ret,QtT (x.2.2.2.1+((Qx WU (x.1.drop x.2.2.2.1.toNat)).getD 0:Nat))),(true,.exit 0,QtU)])
def QtV:G:=gG 19 [(119,QJD)] (Ls [QXJ])
def QkM (x0:List Int)(x7 x8:Int):OX:=QB (QD QtV QtS QJH) (QJI x0 x7 x8)
def QdL (kk:List Int->Int->Int->OX)(x0:List Int)(x7 x8:Int):OX:=br (ilt x8 x7) (br (cIx x0 x8) (br (WU (lgt tI x0 (Int.toNat x8))) (some (.ret,QtT x8)) (kk x0 x7 (Qk .i64 x8 1))) none) (some (.exit 0,QtU))
def QkN (x0:List Int)(x7 x8:Int):OX:=
 let a1:=Qx WU (x0.drop x8.toNat)
 br (a1.isSome) (some (.ret,QtT (x8+(a1.getD 0:Nat))))<|some (.exit 0,QtU)
theorem QJJ (x0:List Int)(x7 x8:Int):QkM x0 x7 x8=QdL QkM x0 x7 x8:=lnT (x:=QdL (fun x0 x7 x8=>some (.normal,QJI x0 x7 x8)) x0 x7 x8) (by simp only [QdL,nxA];rfl)
def QJK (p0:List Int):OV:=
 let a1:=(Qx WU (p0.drop (0:Int).toNat))
 br (Qz p0 (Qc p0) (0:Int)) (br (a1.isSome) (some (.t tI ((0:Int)+(a1.getD 0:Nat)),[.box (.c (.func (.func 121) #[] #[]))])) (some (.t tI (-1),[.box (.c (.func (.func 121) #[] #[]))]))) none
theorem QXK (x0:List Int)(x7 x8:Int)(h:(Qz x0 x7 x8)=true):QkM x0 x7 x8=QkN x0 x7 x8:=by
 obtain ⟨rfl,h3,k,rfl,hk⟩:=Js h
 clear h
 refine QW x0 (fun k=>QkM x0 (x0.length:Int) (k:Int)=QkN x0 (x0.length:Int) (k:Int)) ?_ ?_ k hk
 ·rw [QJJ]
  simp [QdL,QkN,QC,Qi,Qx]
 ·intro k hk ih
  rw [QJJ]
  simp only [QdL,QC,QS,hk,Bu,Qe,Bb,QU (show k<4611686018427387904 by omega),ih,QX (y:=tI) hk]
  simp only [QkN,Bb,Bi hk,Qx]
  cases h:WU x0[k] with
  |true=>simp [Qe]
  |false=>
   simp only [Qi,BW,Ds]
   cases hq:Qx WU (x0.drop (k+1)) with
   |none=>rfl
   |some j=>
    simp only [B6,B1,BK,Qe]
    congr 3
    omega
theorem QXL:LO QtV QtS QJH 0:=QN (s:=QkL) fun x y h _ q=>by simp only [QJ,QK] at q;exact (QXK x.1 x.2.2.1 x.2.2.2.1 h).trans q
theorem QXM (l:List Int)(h:ZF l=true):QJK l=some (.t tI (VW l),[.box (.c (.func (.func 121) #[] #[]))]):=by
 simp only [ZF,Ba] at h
 simp only [QJK,Jy h,Qe,Bt,Bx,VW]
 cases Qx WU l<;>simp [Qe,Qi]
def QJL:Ent:=Wb [.ty (.sl tI),.fn 119 [(50000,0)]] [.bc 121] (fun x y=>(ZF x.1)) (fun x y=>(.t tI (VW x.1))) (fun x y=>[.box (.c (.func (.func 121) #[] #[]))])
theorem QXN:EM 128 QJL:=mS (lk:=lkL (lkc QXL lkn)) QtV QJG [((.t 4),some tI)] false (gB (gD QXI gN)) fun m=>WD (YR m fun x y hok=>kT (QXM x.1 hok))
def It (l:List Int):Bool:= !l.all JI
def QXO:TC:=aF Tryz.f120 []
def QXP:G:=gG 9 [(128,QJL)] (fun _ _=>none)
def QJM (p0:List Int):OV:=br (ZF p0) (some (.t .bool (ige (VW p0) 0),[.box (.c (.func (.func 121) #[] #[]))])) none
theorem QXQ (l:List Int)(h:ZF l=true):QJM l=some (.t .bool (It l),[.box (.c (.func (.func 121) #[] #[]))]):=by
 simp only [QJM,h,Qe]
 have e:ige (VW l) 0=It l:=by
  have e2:It l=l.any WU:=by
   unfold It
   rw [List.not_all_eq_any_not]
   rfl
  rw [e2]
  unfold VW
  cases hq:Qx WU l with
  |none=>rw [Gf.1 hq];rfl
  |some k=>
   rw [←FE,hq]
   simp only [ige,B1,Ba]
   omega
 rw [e]
def QJN:Ent:=Wb [.ty (.sl tI),.fn 119 [(50000,0)]] [.bc 121] (fun x y=>(ZF x.1)) (fun x y=>(.t .bool (It x.1))) (fun x y=>[.box (.c (.func (.func 121) #[] #[]))])
theorem QXR:EM 120 QJN:=mS QXP QXO [((.t 4),some .bool)] false (gB (gD QXN gN)) fun m=>WD (YR m fun x y hok=>kT (QXQ x.1 hok))
def QJO:TC:=aF Tryz.f118 []
def QJP:List (RV×Option Ty):=[((.t 2),none)]
def QJQ:G:=gG 4 [] (fun _ _=>none)
def QJR  : OV:=some (.fn 119 [(.ptr 50000 0)],[.box (.c (.func (.func 121) #[] #[]))])
theorem QXS  : JR QJQ QJO QJP true [.c (.func (.func 121) ⟨[]⟩ ⟨[]⟩)] []=QJR  :=by kernel_rfl
theorem QXT:QJR=some (.fn 119 [.ptr 50000 0],[.box (.c (.func (.func 121) #[] #[]))]):=rfl
def QJS:Ent:=Wb [.cf 121] [] (fun x y=>true) (fun x y=>(.fn 119 [(.ptr 50000 0)])) (fun x y=>[.box (.c (.func (.func 121) #[] #[]))])
theorem QXU:EM 118 QJS:=mS QJQ QJO QJP true (gB gN) fun m=>WD (YR m fun x y _=>(QXS ).trans (QXT ))
def WV (n:Int):Bool:= !UT n
def QXV:TC:=aF Tryz.f119 []
def QXW:G:=gG 8 [(122,QJr)] (fun _ _=>none)
def QJT (p0:Int):OV:=some (.t .bool (!(UT p0)),[.box (.c (.func (.func 122) #[] #[]))])
theorem QXX (n:Int):QJT n=some (.t .bool (WV n),[.box (.c (.func (.func 122) #[] #[]))]):=by
 simp only [QJT]
 rfl
def QJU:Ent:=Wb [.ty tI,.ptr 50000 0] [.bc 122] (fun x y=>true) (fun x y=>(.t .bool (WV x.1))) (fun x y=>[.box (.c (.func (.func 122) #[] #[]))])
theorem QXY:EM 119 QJU:=mS QXW QXV [((.t 3),some .bool)] false (gB (gD QXA gN)) fun m=>WD (YR m fun x y _=>kT (QXX x.1))
def VX (l:List Int):Int:=match Qx WV l with|some k=>(k:Int)|none=> -1
abbrev QkO:Sh:=⟨[(0,.ty (.sl tI)),(1,.fn 119 [(50000,0)]),(7,.ty tI),(8,.ty tI)],[(50000,.bc 122)]⟩
abbrev QJV:Sh:=⟨[(4,.ty tI)],[(50000,.bc 122)]⟩
abbrev QJW:Sh:=⟨[],[(50000,.bc 122)]⟩
def QtW:Fg:=QkO.f
def QJX:TC:=aF Tryz.f128 [(26,pL 0 QtW),(421,.fg QJW.f),(13517,.fg QJV.f)]
def QJY:TC:=lb 0 QJX
def QJZ (x0:List Int)(x7 x8:Int):VS:=QkO.st (x0,(),x7,x8,()) ((),())
def QtX (x4:Int):VS:=QJV.st (x4,()) ((),())
def QtY  : VS:=QJW.st () ((),())
def QXZ:VS->Option (Bool×List (Bool×Exit×VS)):=mkL QkO (fun x y=>(Qz x.1 x.2.2.1 x.2.2.2.1)) (fun x y=>[(((Qx WV (x.1.drop x.2.2.2.1.toNat)).isSome),.ret,QtX (x.2.2.2.1+((Qx WV (x.1.drop x.2.2.2.1.toNat)).getD 0:Nat))),(true,.exit 0,QtY)])
def QtZ:G:=gG 19 [(119,QJU)] (Ls [QXZ])
def QkP (x0:List Int)(x7 x8:Int):OX:=QB (QD QtZ QtW QJY) (QJZ x0 x7 x8)
def QdM (kk:List Int->Int->Int->OX)(x0:List Int)(x7 x8:Int):OX:=br (ilt x8 x7) (br (cIx x0 x8) (br (WV (lgt tI x0 (Int.toNat x8))) (some (.ret,QtX x8)) (kk x0 x7 (Qk .i64 x8 1))) none) (some (.exit 0,QtY))
def QkQ (x0:List Int)(x7 x8:Int):OX:=
 let a1:=Qx WV (x0.drop x8.toNat)
 br (a1.isSome) (some (.ret,QtX (x8+(a1.getD 0:Nat))))<|some (.exit 0,QtY)
theorem QJ0 (x0:List Int)(x7 x8:Int):QkP x0 x7 x8=QdM QkP x0 x7 x8:=lnT (x:=QdM (fun x0 x7 x8=>some (.normal,QJZ x0 x7 x8)) x0 x7 x8) (by simp only [QdM,nxA];rfl)
def QJ1 (p0:List Int):OV:=
 let a1:=(Qx WV (p0.drop (0:Int).toNat))
 br (Qz p0 (Qc p0) (0:Int)) (br (a1.isSome) (some (.t tI ((0:Int)+(a1.getD 0:Nat)),[.box (.c (.func (.func 122) #[] #[]))])) (some (.t tI (-1),[.box (.c (.func (.func 122) #[] #[]))]))) none
theorem QX0 (x0:List Int)(x7 x8:Int)(h:(Qz x0 x7 x8)=true):QkP x0 x7 x8=QkQ x0 x7 x8:=by
 obtain ⟨rfl,h3,k,rfl,hk⟩:=Js h
 clear h
 refine QW x0 (fun k=>QkP x0 (x0.length:Int) (k:Int)=QkQ x0 (x0.length:Int) (k:Int)) ?_ ?_ k hk
 ·rw [QJ0]
  simp [QdM,QkQ,QC,Qi,Qx]
 ·intro k hk ih
  rw [QJ0]
  simp only [QdM,QC,QS,hk,Bu,Qe,Bb,QU (show k<4611686018427387904 by omega),ih,QX (y:=tI) hk]
  simp only [QkQ,Bb,Bi hk,Qx]
  cases h:WV x0[k] with
  |true=>simp [Qe]
  |false=>
   simp only [Qi,BW,Ds]
   cases hq:Qx WV (x0.drop (k+1)) with
   |none=>rfl
   |some j=>
    simp only [B6,B1,BK,Qe]
    congr 3
    omega
theorem QX1:LO QtZ QtW QJY 0:=QN (s:=QkO) fun x y h _ q=>by simp only [QJ,QK] at q;exact (QX0 x.1 x.2.2.1 x.2.2.2.1 h).trans q
theorem QX2 (l:List Int)(h:ZF l=true):QJ1 l=some (.t tI (VX l),[.box (.c (.func (.func 122) #[] #[]))]):=by
 simp only [ZF,Ba] at h
 simp only [QJ1,Jy h,Qe,Bt,Bx,VX]
 cases Qx WV l<;>simp [Qe,Qi]
def QJ2:Ent:=Wb [.ty (.sl tI),.fn 119 [(50000,0)]] [.bc 122] (fun x y=>(ZF x.1)) (fun x y=>(.t tI (VX x.1))) (fun x y=>[.box (.c (.func (.func 122) #[] #[]))])
theorem QX3:EM 128 QJ2:=mS (lk:=lkL (lkc QX1 lkn)) QtZ QJX [((.t 4),some tI)] false (gB (gD QXY gN)) fun m=>WD (YR m fun x y hok=>kT (QX2 x.1 hok))
def Iu (l:List Int):Bool:= !l.all UT
def QX4:TC:=aF Tryz.f120 []
def QX5:G:=gG 9 [(128,QJ2)] (fun _ _=>none)
def QJ3 (p0:List Int):OV:=br (ZF p0) (some (.t .bool (ige (VX p0) 0),[.box (.c (.func (.func 122) #[] #[]))])) none
theorem QX6 (l:List Int)(h:ZF l=true):QJ3 l=some (.t .bool (Iu l),[.box (.c (.func (.func 122) #[] #[]))]):=by
 simp only [QJ3,h,Qe]
 have e:ige (VX l) 0=Iu l:=by
  have e2:Iu l=l.any WV:=by
   unfold Iu
   rw [List.not_all_eq_any_not]
   rfl
  rw [e2]
  unfold VX
  cases hq:Qx WV l with
  |none=>rw [Gf.1 hq];rfl
  |some k=>
   rw [←FE,hq]
   simp only [ige,B1,Ba]
   omega
 rw [e]
def QJ4:Ent:=Wb [.ty (.sl tI),.fn 119 [(50000,0)]] [.bc 122] (fun x y=>(ZF x.1)) (fun x y=>(.t .bool (Iu x.1))) (fun x y=>[.box (.c (.func (.func 122) #[] #[]))])
theorem QX7:EM 120 QJ4:=mS QX5 QX4 [((.t 4),some .bool)] false (gB (gD QX3 gN)) fun m=>WD (YR m fun x y hok=>kT (QX6 x.1 hok))
def QJ5:TC:=aF Tryz.f118 []
def QJ6:List (RV×Option Ty):=[((.t 2),none)]
def QJ7:G:=gG 4 [] (fun _ _=>none)
def QJ8  : OV:=some (.fn 119 [(.ptr 50000 0)],[.box (.c (.func (.func 122) #[] #[]))])
theorem QX8  : JR QJ7 QJ5 QJ6 true [.c (.func (.func 122) ⟨[]⟩ ⟨[]⟩)] []=QJ8  :=by kernel_rfl
theorem QX9:QJ8=some (.fn 119 [.ptr 50000 0],[.box (.c (.func (.func 122) #[] #[]))]):=rfl
def QJ9:Ent:=Wb [.cf 122] [] (fun x y=>true) (fun x y=>(.fn 119 [(.ptr 50000 0)])) (fun x y=>[.box (.c (.func (.func 122) #[] #[]))])
theorem QYa:EM 118 QJ9:=mS QJ7 QJ5 QJ6 true (gB gN) fun m=>WD (YR m fun x y _=>(QX8 ).trans (QX9 ))
end
end Go.Proofs.YtckcgijklnloiaaGreat.K
noncomputable section
namespace Go.Proofs.YtckcgijklnloiaaGreat.K
open Go.RowKit
noncomputable section
theorem QPW {c:Int}(h:ieq (Q4 c).2 0=true):1<=c/\c<=16:=by
 unfold Q4 at h
 split at h
 ·simp [ieq] at h
 ·omega
theorem QoF {l:List Int}(h:YA l=true): ∀ (k:Nat) (hk:k<l.length),(1<=l[k]/\l[k]<=16)∧ ¬ l[k]∈l.take k:=by
 intro k hk
 simp only [YA,XV,Bg,List.mem_range'_1,Bc,By] at h
 obtain ⟨h1,h2⟩:=h k ⟨by omega,by omega⟩
 simp only [Bo,Bl hk,BK] at h1 h2
 refine ⟨QPW h1,fun hm=> ?_⟩
 simp only [QY] at h2
 rw [BN.2 hm] at h2
 cases h2
theorem QAD {l:List Int}(h:YA l=true):l.Nodup:=by
 have h2:=QoF h
 rw [List.nodup_iff_pairwise_ne,List.pairwise_iff_getElem]
 intro i j hi hj hij he
 refine (h2 j hj).2 ?_
 rw [←he]
 exact List.mem_iff_getElem.2 ⟨i,by rw [B5];omega,by rw [List.getElem_take]⟩
theorem QAE {l:List Int}(h:YA l=true):l.length<=16:=by
 have h1:=QAD h
 have h2:=QoF h
 have h3:l ⊆ [1,2,3,4,5,6,7,8,9,10,11,12,13,14,15,16]:=by
  intro x hx
  obtain ⟨k,hk,rfl⟩:=List.mem_iff_getElem.1 hx
  have:=(h2 k hk).1
  simp only [BT,B0,Dn]
  omega
 exact h1.length_le_of_subset h3
abbrev QI (e:Endpoint):List Int:=e.2.2.2.1
abbrev QH (e:Endpoint):List QA:=e.2.2.2.2.2.1
abbrev Jh (e:Endpoint):List Int:=e.2.2.2.2.2.2.1
abbrev Jj (e:Endpoint):List Int:=e.2.2.2.2.2.2.2.1
def XH (x:QA):Bool:=Wn x.1 x.2.1 x.2.2.1
def Jz (x:QA):Bool:=Jf x.2.2.1
def Q2 (e:Endpoint):Bool:=JB e.1&&decide ((QI e).length<=100000/\(QH e).length<=100000/\(Jh e).length<=100000/\(Jj e).length<=100000)&&(QH e).all Jz
def Q3 (e:Endpoint):Bool:=
 XU e.1&&(!ilt e.2.1 1&&(!igt e.2.1 e.2.2.1&&(!igt e.2.2.1 4&&(YA (QI e)&&(!igt (Qc (QH e)) 4&&(!igt (Qc (Jh e)) 16&&(WT (Jh e)&&(WT (Jj e)&&((QH e).all XH&&((Jh e).all JI&&(Jj e).all UT))))))))))
def Zp (e:Endpoint):Int:=bif Q3 e then 0 else 19
theorem QPX (e:Endpoint):ieq (Zp e) 0=Q3 e:=by
 unfold Zp
 cases Q3 e<;>rfl
theorem OP (e:Endpoint):ine (Zp e) 0= !Q3 e:=by
 unfold Zp
 cases Q3 e<;>rfl
abbrev Qgz:Sh:=⟨[(1,.ptr 1 0),(56,.ty (.sl Q1)),(57,.ty tI),(58,.ty tI)],[(1,.box Qj)]⟩
abbrev OQ:Sh:=⟨[(2,.ty tI)],[]⟩
abbrev QbA:Sh:=⟨[(1,.ptr 1 0)],[(1,.box Qj)]⟩
def QoG:Fg:=Qgz.f
def QAF:TC:=aF Tryz.f76 [(122,pL 0 QoG),(1957,.fg QbA.f),(62669,.fg OQ.f),(252,pD [(0,[1]),(1,[1]),(2,[]),(3,[74,5074,10074,15074]),(4,[74,75,5074,5075,10074,10075,15074,15075]),(5,[]),(6,[1]),(7,[1]),(8,[]),(9,[80,5080,10080,15080]),(10,[80,81,5080,5081,10080,10081,15080,15081]),(11,[])] (.of [0,1,2,3,4,5,6,7,8,9,10,11]))]
def QAG:TC:=lb 0 QAF
def QAH (x56:List QA)(x57 x58:Int)(y1:Endpoint):VS:=Qgz.st ((),x56,x57,x58,()) (y1,())
def Ys (x2:Int):VS:=OQ.st (x2,()) ()
def Un (y1:Endpoint):VS:=QbA.st ((),()) (y1,())
def QPY:VS->Option (Bool×List (Bool×Exit×VS)):=mkL Qgz (fun x y=>(Qz x.2.1 x.2.2.1 x.2.2.2.1&&x.2.1.all Jz)) (fun x y=>[((!(x.2.1.drop x.2.2.2.1.toNat).all XH),.ret,Ys (19)),(true,.exit 0,Un (y.1))])
def QoH:G:=gG 83 [(114,QJe),(115,QJB),(116,QJq),(117,QEt),(118,QJ9),(118,QJS),(120,QJ4),(120,QJN)] (Ls [QPY])
def QgA (x56:List QA)(x57 x58:Int)(y1:Endpoint):OX:=QB (QD QoH QoG QAG) (QAH x56 x57 x58 y1)
def QbB (kk:List QA->Int->Int->Endpoint->OX)(x56:List QA)(x57 x58:Int)(y1:Endpoint):OX:=
 let a1:=lgt Q1 x56 (Int.toNat x58)
 br (ilt x58 x57) (br (cIx x56 x58) (br (FR (a1.1) ((a1.2).1) (((a1.2).2).1)) (br (!(Wn (a1.1) ((a1.2).1) (((a1.2).2).1))) (some (.ret,Ys 19)) (kk x56 x57 (Qk .i64 x58 1) y1)) none) none) (some (.exit 0,Un y1))
def QgB (x56:List QA)(x57 x58:Int)(y1:Endpoint):OX:=br (!(x56.drop x58.toNat).all XH) (some (.ret,Ys (19)))<|some (.exit 0,Un (y1))
theorem QAI (x56:List QA)(x57 x58:Int)(y1:Endpoint):QgA x56 x57 x58 y1=QbB QgA x56 x57 x58 y1:=lnT (x:=QbB (fun x56 x57 x58 y1=>some (.normal,QAH x56 x57 x58 y1)) x56 x57 x58 y1) (by simp only [QbB,nxA];rfl)
def r_f76 (p0:Endpoint):OV:=
 let a1:=(((((((p0).2).2).2).2).2).2)
 br (JB p0.1) (br (!(XU p0.1)) (some (.t tI 19,[])) (br (ilt p0.2.1 1) (some (.t tI 19,[])) (br (igt p0.2.1 p0.2.2.1) (some (.t tI 19,[])) (br (igt p0.2.2.1 4) (some (.t tI 19,[])) (br (ZF p0.2.2.2.1) (br (!(YA p0.2.2.2.1)) (some (.t tI 19,[])) (br (igt (Qc p0.2.2.2.2.2.1) 4) (some (.t tI 19,[])) (br (igt (Qc p0.2.2.2.2.2.2.1) 16) (some (.t tI 19,[])) (br (ZF p0.2.2.2.2.2.2.1) (br (!(WT p0.2.2.2.2.2.2.1)) (some (.t tI 19,[])) (br (ZF p0.2.2.2.2.2.2.2.1) (br (!(WT p0.2.2.2.2.2.2.2.1)) (some (.t tI 19,[])) (br (Qz p0.2.2.2.2.2.1 (Qc p0.2.2.2.2.2.1) (0:Int)&&p0.2.2.2.2.2.1.all Jz) (br (!(p0.2.2.2.2.2.1.drop (0:Int).toNat).all XH) (some (.t tI (19),[])) (br (ZF (a1.1)) (br (It (a1.1)) (some (.t tI 19,[])) (br (ZF ((a1.2).1)) (br (Iu ((a1.2).1)) (some (.t tI 19,[])) (some (.t tI 0,[]))) none)) none)) none)) none)) none)))) none))))) none
theorem QPZ (x56:List QA)(x57 x58:Int)(y1:Endpoint)(h:(Qz x56 x57 x58&&x56.all Jz)=true):QgA x56 x57 x58 y1=QgB x56 x57 x58 y1:=by
 simp only [Bc,Bg] at h
 obtain ⟨h0,hc⟩:=h
 obtain ⟨rfl,h3,k,rfl,hk⟩:=Js h0
 clear h0
 refine QW x56 (fun k=>QgA x56 (x56.length:Int) (k:Int) y1=QgB x56 (x56.length:Int) (k:Int) y1) ?_ ?_ k hk
 ·rw [QAI]
  simp only [QbB,QgB,QC,BI,BQ,Qi,Bb,BE,Dw,BC]
 ·intro k hk ih
  rw [QAI]
  have hx:FR x56[k].1 x56[k].2.1 x56[k].2.2.1=true:=hc x56[k] (BA hk)
  simp only [QbB,QC,QS,hk,Bu,Qe,Bb,QU (show k<4611686018427387904 by omega),QX (y:=Q1) hk,hx,ih]
  simp only [QgB,Bb,Bi hk,BV,XH]
  cases Wn x56[k].1 x56[k].2.1 x56[k].2.2.1<;>rfl
theorem QP0:LO QoH QoG QAG 0:=QN (s:=Qgz) fun x y h _ q=>by simp only [QJ,QK] at q;exact (QPZ x.2.1 x.2.2.1 x.2.2.2.1 y.1 h).trans q
theorem s_f76 (e:Endpoint)(h:Q2 e=true):r_f76 e=some (.t tI (Zp e),[]):=by
 simp only [Q2,Bc,Ba] at h
 obtain ⟨⟨h1,h2,h3,h4,h5⟩,h6⟩:=h
 have q2:ZF (QI e)=true:=Bd h2
 have q4:ZF (Jh e)=true:=Bd h4
 have q5:ZF (Jj e)=true:=Bd h5
 unfold Zp
 simp only [r_f76,h1,q2,q4,q5,Jy h3,h6,BX,Qe,Bt,Bx,It,Iu]
 refine br9 (fun g=>by simp only [By] at g;simp [Q3,g]) fun g1=>br9 (fun g=>by simp [Q3,g]) fun g2=>br9 (fun g=>by simp [Q3,g]) fun g3=>br9 (fun g=>by simp [Q3,g]) fun g4=>br9 (fun g=>by simp only [By] at g;simp [Q3,g]) fun g5=>br9 (fun g=>by simp [Q3,g]) fun g6=>br9 (fun g=>by simp [Q3,g]) fun g7=>br9 (fun g=>by simp only [By] at g;simp [Q3,g]) fun g8=>br9 (fun g=>by simp only [By] at g;simp [Q3,g]) fun g9=>br9 (fun g=>by simp only [By] at g;simp [Q3,g]) fun g10=>br9 (fun g=>by simp only [By] at g;simp [Q3,g]) fun g11=>br9 (fun g=>by simp only [By] at g;simp [Q3,g]) fun g12=> ?_
 simp only [Bool.not_eq_false'] at g1 g5 g8 g9 g10 g11 g12
 have:Q3 e=true:=by
  simp only [Q3,g1,g2,g3,g4,g5,g6,g7,g8,g9,g10,g11,g12,Dy,BX]
 rw [this]
 rfl
def QgC:Ent:=Qq (.pr Qj .nil) (fun x=>(Q2 x.1)) (fun x=>(.t tI (Zp x.1)))
theorem QoI:EM 76 QgC:=mS (lk:=lkL (lkc QP0 lkn)) QoH QAF [((.t 2),some tI)] false (gB (gD QXp (gD QXE (gD QXy (gD QSW (gD QYa (gD QXU (gD QX7 (gD QXR gN))))))))) fun m=>Qu m fun x hok=>kT (s_f76 x.1 hok)
abbrev QgD:Sh:=⟨[(1,.ptr 1 0),(3,.ty tI)],[(1,.box Qj)]⟩
abbrev QgE:Sh:=⟨[(1,.ptr 1 0),(6,.ty tI)],[(1,.box Qj)]⟩
abbrev QgF:Sh:=⟨[(1,.ptr 1 0),(7,.ty tI)],[(1,.box Qj)]⟩
abbrev QgG:Sh:=⟨[(1,.ptr 1 0),(8,.ty tI)],[(1,.box Qj)]⟩
abbrev QAJ:Sh:=⟨[],[]⟩
def QoJ:Fg:=QgD.f
def QoK:Fg:=QgE.f
def QoL:Fg:=QgF.f
def QoM:Fg:=QgG.f
def QbC:TC:=aF Tryz.f58 [(58,pL 0 QoJ),(931,.fg QbA.f),(3730,pD [(0,[]),(1,[]),(2,[]),(3,[1]),(4,[1]),(5,[]),(6,[]),(7,[1]),(8,[1]),(9,[]),(10,[]),(11,[]),(12,[]),(13,[])] (.of [0,1,2,3,4,5,6,7,8,9,10,11,12,13])),(14925,.fg OQ.f),(122,pL 1 QoK),(1955,.fg QbA.f),(3912,pD [(0,[1]),(1,[1]),(2,[]),(3,[]),(4,[]),(5,[]),(6,[1]),(7,[1]),(8,[]),(9,[]),(10,[]),(11,[]),(12,[1]),(13,[1]),(14,[]),(15,[]),(16,[]),(17,[]),(18,[]),(19,[])] (.of [0,1,2,3,4,5,6,7,8,9,10,11,12,13,14,15,16,17,18,19])),(15653,.fg OQ.f),(250,pL 2 QoL),(4003,.fg QbA.f),(8008,pD [(0,[1]),(1,[1]),(2,[]),(3,[]),(4,[]),(5,[]),(6,[]),(7,[1]),(8,[1]),(9,[]),(10,[]),(11,[]),(12,[]),(13,[]),(14,[]),(15,[]),(16,[]),(17,[]),(18,[1]),(19,[1]),(20,[]),(21,[]),(22,[]),(23,[]),(24,[1]),(25,[1]),(26,[]),(27,[]),(28,[]),(29,[]),(30,[]),(31,[])] (.of [0,1,2,3,4,5,6,7,8,9,10,11,12,13,14,15,16,17,18,19,20,21,22,23,24,25,26,27,28,29,30,31])),(32037,.fg OQ.f),(506,pL 3 QoM),(8099,.fg QAJ.f),(16200,pD [(0,[1]),(1,[1]),(2,[]),(3,[]),(4,[]),(5,[]),(6,[]),(7,[]),(8,[]),(9,[]),(10,[]),(11,[1]),(12,[1]),(13,[]),(14,[]),(15,[]),(16,[]),(17,[1]),(18,[1]),(19,[]),(20,[]),(21,[]),(22,[]),(23,[]),(24,[])] (.of [0,1,2,3,4,5,6,7,8,9,10,11,12,13,14,15,16,17,18,19,20,21,22,23,24])),(64805,.fg OQ.f)]
def QAK:TC:=lb 0 QbC
def QAL:TC:=lb 1 QbC
def QAM:TC:=lb 2 QbC
def QAN:TC:=lb 3 QbC
def QAO (x3:Int)(y1:Endpoint):VS:=QgD.st ((),x3,()) (y1,())
def QAP (x6:Int)(y1:Endpoint):VS:=QgE.st ((),x6,()) (y1,())
def QAQ (x7:Int)(y1:Endpoint):VS:=QgF.st ((),x7,()) (y1,())
def QAR (x8:Int)(y1:Endpoint):VS:=QgG.st ((),x8,()) (y1,())
def QoN  : VS:=QAJ.st () ()
def QP1:VS->Option (Bool×List (Bool×Exit×VS)):=mkL QgD (fun x y=>(decide (0<=x.2.1/\x.2.1<=(QI y.1).length/\(QI y.1).length<=100000))) (fun x y=>[((!XV (QI y.1) x.2.1.toNat),.ret,Ys (19)),(true,.exit 0,Un (y.1))])
def QP2:VS->Option (Bool×List (Bool×Exit×VS)):=mkL QgE (fun x y=>(decide (0<=x.2.1/\x.2.1<=(QH y.1).length/\(QH y.1).length<=100000)&&(QH y.1).all Jz)) (fun x y=>[((!((QH y.1).drop x.2.1.toNat).all XH),.ret,Ys (19)),(true,.exit 2,Un (y.1))])
def QP3:VS->Option (Bool×List (Bool×Exit×VS)):=mkL QgF (fun x y=>(decide (0<=x.2.1/\x.2.1<=(Jh y.1).length/\(Jh y.1).length<=100000))) (fun x y=>[((!(((Jh y.1).drop x.2.1.toNat).all JI&&Xw (Jh y.1) x.2.1.toNat)),.ret,Ys (19)),(true,.exit 4,Un (y.1))])
def QP4:VS->Option (Bool×List (Bool×Exit×VS)):=mkL QgG (fun x y=>(decide (0<=x.2.1/\x.2.1<=(Jj y.1).length/\(Jj y.1).length<=100000))) (fun x y=>[((!(((Jj y.1).drop x.2.1.toNat).all UT&&Xw (Jj y.1) x.2.1.toNat)),.ret,Ys (19)),(true,.exit 6,QoN)])
def GQ:G:=gG 176 [(70,Qb1),(102,QJk),(103,O7),(104,Qb5),(105,QEz)] (Ls [QP1,QP2,QP3,QP4])
def QgH (x3:Int)(y1:Endpoint):OX:=QB (QD GQ QoJ QAK) (QAO x3 y1)
def QbD (kk:Int->Endpoint->OX)(x3:Int)(y1:Endpoint):OX:=
 let a1:=lgt tI y1.2.2.2.1 (Int.toNat x3)
 br (ilt x3 (Qc y1.2.2.2.1)) (br (cIx y1.2.2.2.1 x3) (br (ine ((Q4 a1).2) 0) (some (.ret,Ys 19)) (br (cSl y1.2.2.2.1 0 x3 ((List.length y1.2.2.2.1:Nat):Int)) (br (cIx y1.2.2.2.1 x3) (br (Q9 (lsl y1.2.2.2.1 0 x3) a1) (br (QY (lsl y1.2.2.2.1 0 x3) a1) (some (.ret,Ys 19)) (kk (Qk .i64 x3 1) y1)) none) none) none)) none) (some (.exit 0,Un y1))
def QgI (x3:Int)(y1:Endpoint):OX:=br (!XV (QI y1) x3.toNat) (some (.ret,Ys (19)))<|some (.exit 0,Un (y1))
theorem QAS (x3:Int)(y1:Endpoint):QgH x3 y1=QbD QgH x3 y1:=lnT (x:=QbD (fun x3 y1=>some (.normal,QAO x3 y1)) x3 y1) (by simp only [QbD,nxA];rfl)
def QgJ (x6:Int)(y1:Endpoint):OX:=QB (QD GQ QoK QAL) (QAP x6 y1)
def QbE (kk:Int->Endpoint->OX)(x6:Int)(y1:Endpoint):OX:=
 let a1:=lgt Q1 y1.2.2.2.2.2.1 (Int.toNat x6)
 let a2:=cIx y1.2.2.2.2.2.1 x6
 br (ilt x6 (Qc y1.2.2.2.2.2.1)) (br a2 (br a2 (br a2 (br (FR (a1.1) ((a1.2).1) (((a1.2).2).1)) (br (!(Wn (a1.1) ((a1.2).1) (((a1.2).2).1))) (some (.ret,Ys 19)) (kk (Qk .i64 x6 1) y1)) none) none) none) none) (some (.exit 2,Un y1))
def QgK (x6:Int)(y1:Endpoint):OX:=br (!((QH y1).drop x6.toNat).all XH) (some (.ret,Ys (19)))<|some (.exit 2,Un (y1))
theorem QAT (x6:Int)(y1:Endpoint):QgJ x6 y1=QbE QgJ x6 y1:=lnT (x:=QbE (fun x6 y1=>some (.normal,QAP x6 y1)) x6 y1) (by simp only [QbE,nxA];rfl)
def QgL (x7:Int)(y1:Endpoint):OX:=QB (QD GQ QoL QAM) (QAQ x7 y1)
def QbF (kk:Int->Endpoint->OX)(x7:Int)(y1:Endpoint):OX:=
 let a1:=lgt tI y1.2.2.2.2.2.2.1 (Int.toNat x7)
 let a2:=cIx y1.2.2.2.2.2.2.1 x7
 br (ilt x7 (Qc y1.2.2.2.2.2.2.1)) (br a2 (br (ilt a1 0) (some (.ret,Ys 19)) (br a2 (br (igt a1 2147483648) (some (.ret,Ys 19)) (br (igt x7 0) (br (cIx y1.2.2.2.2.2.2.1 (QT .i64 x7 1)) (br a2 (br (ige (lgt tI y1.2.2.2.2.2.2.1 (Int.toNat (QT .i64 x7 1))) a1) (some (.ret,Ys 19)) (kk (Qk .i64 x7 1) y1)) none) none) (kk (Qk .i64 x7 1) y1))) none)) none) (some (.exit 4,Un y1))
def QgM (x7:Int)(y1:Endpoint):OX:=br (!(((Jh y1).drop x7.toNat).all JI&&Xw (Jh y1) x7.toNat)) (some (.ret,Ys (19)))<|some (.exit 4,Un (y1))
theorem QAU (x7:Int)(y1:Endpoint):QgL x7 y1=QbF QgL x7 y1:=lnT (x:=QbF (fun x7 y1=>some (.normal,QAQ x7 y1)) x7 y1) (by simp only [QbF,nxA];rfl)
def QgN (x8:Int)(y1:Endpoint):OX:=QB (QD GQ QoM QAN) (QAR x8 y1)
def QbG (kk:Int->Endpoint->OX)(x8:Int)(y1:Endpoint):OX:=
 let a1:=lgt tI y1.2.2.2.2.2.2.2.1 (Int.toNat x8)
 let a2:=cIx y1.2.2.2.2.2.2.2.1 x8
 br (ilt x8 (Qc y1.2.2.2.2.2.2.2.1)) (br a2 (br (ine (ZM a1) 1) (some (.ret,Ys 19)) (br (igt x8 0) (br (cIx y1.2.2.2.2.2.2.2.1 (QT .i64 x8 1)) (br a2 (br (ige (lgt tI y1.2.2.2.2.2.2.2.1 (Int.toNat (QT .i64 x8 1))) a1) (some (.ret,Ys 19)) (kk (Qk .i64 x8 1) y1)) none) none) (kk (Qk .i64 x8 1) y1))) none) (some (.exit 6,QoN))
def QgO (x8:Int)(y1:Endpoint):OX:=br (!(((Jj y1).drop x8.toNat).all UT&&Xw (Jj y1) x8.toNat)) (some (.ret,Ys (19)))<|some (.exit 6,QoN)
theorem QAV (x8:Int)(y1:Endpoint):QgN x8 y1=QbG QgN x8 y1:=lnT (x:=QbG (fun x8 y1=>some (.normal,QAR x8 y1)) x8 y1) (by simp only [QbG,nxA];rfl)
def r_f58 (p0:Endpoint):OV:=br (JB p0.1) (br (!(XU p0.1)) (some (.t tI 19,[])) (br (ilt p0.2.1 1) (some (.t tI 19,[])) (br (igt p0.2.1 p0.2.2.1) (some (.t tI 19,[])) (br (igt p0.2.2.1 4) (some (.t tI 19,[])) (br (igt (Qc p0.2.2.2.1) 16) (some (.t tI 19,[])) (br (igt (Qc p0.2.2.2.2.2.1) 4) (some (.t tI 19,[])) (br (igt (Qc p0.2.2.2.2.2.2.1) 16) (some (.t tI 19,[])) (br (decide (0<=(0:Int)/\(0:Int)<=(QI p0).length/\(QI p0).length<=100000)) (br (!XV (QI p0) (0:Int).toNat) (some (.t tI (19),[])) (br (decide (0<=(0:Int)/\(0:Int)<=(QH (p0)).length/\(QH (p0)).length<=100000)&&(QH (p0)).all Jz) (br (!((QH (p0)).drop (0:Int).toNat).all XH) (some (.t tI (19),[])) (br (decide (0<=(0:Int)/\(0:Int)<=(Jh (p0)).length/\(Jh (p0)).length<=100000)) (br (!(((Jh (p0)).drop (0:Int).toNat).all JI&&Xw (Jh (p0)) (0:Int).toNat)) (some (.t tI (19),[])) (br (decide (0<=(0:Int)/\(0:Int)<=(Jj (p0)).length/\(Jj (p0)).length<=100000)) (br (!(((Jj (p0)).drop (0:Int).toNat).all UT&&Xw (Jj (p0)) (0:Int).toNat)) (some (.t tI (19),[])) (some (.t tI 0,[]))) none)) none)) none)) none)))))))) none
theorem QP5 (x3:Int)(y1:Endpoint)(h:(decide (0<=x3/\x3<=(QI y1).length/\(QI y1).length<=100000))=true):QgH x3 y1=QgI x3 y1:=by
 simp only [Ba] at h
 obtain ⟨h0,h1,h2⟩:=h
 obtain ⟨k,rfl⟩:=Bm h0
 refine QW (QI y1) (fun k=>QgH (k:Int) y1=QgI (k:Int) y1) ?_ ?_ k (by omega)
 ·rw [QAS]
  simp only [QbD,QgI,show ilt ((QI y1).length:Int) (Qc (QI y1))=false from Bn (by simp only [Qc];omega),Qi,Bb,QJs,BC]
 ·intro k hk ih
  rw [QAS]
  have hi:Q9 ((QI y1).take k) (QI y1)[k]=true:=Bd (by rw [B5];omega)
  simp only [QbD,show ilt (k:Int) (Qc (QI y1))=true from Bd (by simp only [Qc];omega),QS,hk,Bu,Qe,Bb,QU (show k<4611686018427387904 by omega),QX (y:=tI) hk,ih,QJu,QJv (show k<=(QI y1).length by omega),hi,Ez]
  simp only [QgI,Bb,QJt hk]
  cases ieq (Q4 (QI y1)[k]).2 0<;>cases QY ((QI y1).take k) (QI y1)[k]<;>rfl
theorem QP6 (x6:Int)(y1:Endpoint)(h:(decide (0<=x6/\x6<=(QH y1).length/\(QH y1).length<=100000)&&(QH y1).all Jz)=true):QgJ x6 y1=QgK x6 y1:=by
 simp only [Bc,Ba,Bg] at h
 obtain ⟨⟨h0,h1,h2⟩,hc⟩:=h
 obtain ⟨k,rfl⟩:=Bm h0
 refine QW (QH y1) (fun k=>QgJ (k:Int) y1=QgK (k:Int) y1) ?_ ?_ k (by omega)
 ·rw [QAT]
  simp only [QbE,QgK,show ilt ((QH y1).length:Int) (Qc (QH y1))=false from Bn (by simp only [Qc];omega),Qi,Bb,BE,Dw,BC]
 ·intro k hk ih
  rw [QAT]
  have hx:FR (QH y1)[k].1 (QH y1)[k].2.1 (QH y1)[k].2.2.1=true:=hc (QH y1)[k] (BA hk)
  simp only [QbE,show ilt (k:Int) (Qc (QH y1))=true from Bd (by simp only [Qc];omega),QS,hk,Bu,Qe,Bb,QU (show k<4611686018427387904 by omega),QX (y:=Q1) hk,hx,ih]
  simp only [QgK,Bb,Bi hk,BV,XH]
  cases Wn (QH y1)[k].1 (QH y1)[k].2.1 (QH y1)[k].2.2.1<;>rfl
theorem QP7 (x7:Int)(y1:Endpoint)(h:(decide (0<=x7/\x7<=(Jh y1).length/\(Jh y1).length<=100000))=true):QgL x7 y1=QgM x7 y1:=by
 simp only [Ba] at h
 obtain ⟨h0,h1,h2⟩:=h
 obtain ⟨k,rfl⟩:=Bm h0
 refine QW (Jh y1) (fun k=>QgL (k:Int) y1=QgM (k:Int) y1) ?_ ?_ k (by omega)
 ·rw [QAU]
  simp only [QbF,QgM,show ilt ((Jh y1).length:Int) (Qc (Jh y1))=false from Bn (by simp only [Qc];omega),Qi,Bb,BE,Dw,QtJ,BX,BC]
 ·intro k hk ih
  rw [QAU]
  simp only [QbF,show ilt (k:Int) (Qc (Jh y1))=true from Bd (by simp only [Qc];omega),QS,hk,Bu,Qe,Bb,QU (show k<4611686018427387904 by omega),QX (y:=tI) hk,ih,QtL hk (show k<4611686018427387904 by omega)]
  simp only [QgM,Bb,QtK hk,Bi hk,BV,JI]
  cases ilt (Jh y1)[k] 0<;>cases igt (Jh y1)[k] 2147483648<;>cases decide (k=0)||ilt ((Jh y1).getD (k-1) 0) (Jh y1)[k]<;>simp [Qe,Qi]
theorem QP8 (x8:Int)(y1:Endpoint)(h:(decide (0<=x8/\x8<=(Jj y1).length/\(Jj y1).length<=100000))=true):QgN x8 y1=QgO x8 y1:=by
 simp only [Ba] at h
 obtain ⟨h0,h1,h2⟩:=h
 obtain ⟨k,rfl⟩:=Bm h0
 refine QW (Jj y1) (fun k=>QgN (k:Int) y1=QgO (k:Int) y1) ?_ ?_ k (by omega)
 ·rw [QAV]
  simp only [QbG,QgO,show ilt ((Jj y1).length:Int) (Qc (Jj y1))=false from Bn (by simp only [Qc];omega),Qi,Bb,BE,Dw,QtJ,BX,BC]
 ·intro k hk ih
  rw [QAV]
  simp only [QbG,show ilt (k:Int) (Qc (Jj y1))=true from Bd (by simp only [Qc];omega),QS,hk,Bu,Qe,Bb,QU (show k<4611686018427387904 by omega),QX (y:=tI) hk,ih,QtL hk (show k<4611686018427387904 by omega),Ez]
  simp only [QgO,Bb,QtK hk,Bi hk,BV,UT]
  cases ieq (ZM (Jj y1)[k]) 1<;>cases decide (k=0)||ilt ((Jj y1).getD (k-1) 0) (Jj y1)[k]<;>simp [Qe,Qi]
theorem QP9:LO GQ QoJ QAK 0:=QN (s:=QgD) fun x y h _ q=>by simp only [QJ,QK] at q;exact (QP5 x.2.1 y.1 h).trans q
theorem QQa:LO GQ QoK QAL 1:=QN (s:=QgE) fun x y h _ q=>by simp only [QJ,QK] at q;exact (QP6 x.2.1 y.1 h).trans q
theorem QQb:LO GQ QoL QAM 2:=QN (s:=QgF) fun x y h _ q=>by simp only [QJ,QK] at q;exact (QP7 x.2.1 y.1 h).trans q
theorem QQc:LO GQ QoM QAN 3:=QN (s:=QgG) fun x y h _ q=>by simp only [QJ,QK] at q;exact (QP8 x.2.1 y.1 h).trans q
theorem s_f58 (e:Endpoint)(h:Q2 e=true):r_f58 e=some (.t tI (Zp e),[]):=by
 simp only [Q2,Bc,Ba] at h
 obtain ⟨⟨h1,h2,h3,h4,h5⟩,h6⟩:=h
 have q2:decide ((0:Int)<=0/\(0:Int)<=(QI e).length/\(QI e).length<=100000)=true:=Bd (by omega)
 have q3:decide ((0:Int)<=0/\(0:Int)<=(QH e).length/\(QH e).length<=100000)=true:=Bd (by omega)
 have q4:decide ((0:Int)<=0/\(0:Int)<=(Jh e).length/\(Jh e).length<=100000)=true:=Bd (by omega)
 have q5:decide ((0:Int)<=0/\(0:Int)<=(Jj e).length/\(Jj e).length<=100000)=true:=Bd (by omega)
 unfold Zp
 simp only [r_f58,h1,q2,q3,q4,q5,h6,BX,Qe,Bt,Bx]
 refine br9 (fun g=>by simp only [By] at g;simp [Q3,g]) fun g1=>br9 (fun g=>by simp [Q3,g]) fun g2=>br9 (fun g=>by simp [Q3,g]) fun g3=>br9 (fun g=>by simp [Q3,g]) fun g4=>br9 (fun g=> ?_) fun g5=>br9 (fun g=>by simp [Q3,g]) fun g6=>br9 (fun g=>by simp [Q3,g]) fun g7=>br9 (fun g=>by simp only [By] at g;have:YA (QI e)=false:=g;simp [Q3,this]) fun g8=>br9 (fun g=>by simp only [By] at g;simp [Q3,g]) fun g9=>br9 (fun g=> ?_) fun g10=>br9 (fun g=> ?_) fun g11=> ?_
 ·have:YA (QI e)=false:=by
   cases hs:YA (QI e) with
   |false=>rfl
   |true=>
    have h16:e.2.2.2.1.length<=16:=QAE hs
    simp only [igt,Qc,Ba] at g
    omega
  simp [Q3,this]
 ·simp only [By,Bool.and_eq_false_iff] at g
  rcases g with g|g
  ·simp [Q3,g]
  ·have:WT (Jh e)=false:=g
   simp [Q3,this]
 ·simp only [By,Bool.and_eq_false_iff] at g
  rcases g with g|g
  ·simp [Q3,g]
  ·have:WT (Jj e)=false:=g
   simp [Q3,this]
 simp only [Bool.not_eq_false',Bc] at g1 g8 g9 g10 g11
 have k1:YA (QI e)=true:=g8
 have k2:WT (Jh e)=true:=g10.2
 have k3:WT (Jj e)=true:=g11.2
 have:Q3 e=true:=by
  simp only [Q3,g1,g2,g3,g4,k1,g6,g7,k2,k3,g9,g10.1,g11.1,Dy,BX]
 rw [this]
 rfl
def EP:Ent:=Qq (.pr Qj .nil) (fun x=>(Q2 x.1)) (fun x=>(.t tI (Zp x.1)))
theorem OR:EM 58 EP:=mS (lk:=lkL (lkc QP9 (lkc QQa (lkc QQb (lkc QQc lkn))))) GQ QbC [((.t 2),some tI)] false (gB (gD QhD (gD QXu (gD Qb3 (gD Qb6 (gD QS0 gN)))))) fun m=>Qu m fun x hok=>kT (s_f58 x.1 hok)
end
end Go.Proofs.YtckcgijklnloiaaGreat.K
noncomputable section
namespace Go.Proofs.YtckcgijklnloiaaGreat.K
open Go.RowKit
def IW (b:Ty):VO->VO
 |.box (.ag [.t b' x])=>if b'=b/\b'.row=false then .box (.t b' x) else .box (.ag [.t b' x])
 |o=>o
def Fp:List Ty->List VO->List VO
 |b::bs,o::os=>IW b o::Fp bs os
 |_,os=>os
def W8 (l:List SV)(bs:List Ty)(ok:SVt l->WC bs->Bool)(F:SVt l->WC bs->V):Ent:=fun args objs=>U5 l bs ok F args (Fp bs objs)
section
variable {P:Program}{X:Nat->Nat->Prop}{w:World}{σ:Pl}
theorem QMU {b:Ty}{o:VO}{k:Nat}(h:OAt X w σ k o):OAt X w σ k (IW b o):=by
 unfold IW
 split
 ·rename_i b' x
  split
  ·rename_i hq
   obtain ⟨g,ty,vs,h1,h2,h3,h4⟩:=h
   refine ⟨g,ty,vs,h1,h2, ?_,h4⟩
   have e1:(V.ag [.t b' x]).d.cells=[b'.d x]:=rfl
   have e2:(V.t b' x).d.cells=[b'.d x]:=by
    show (b'.d x).cells=_
    rw [Ty.d_cells,Ty.d_one b' x hq.2]
   rw [e2, ← e1]
   exact h3
  ·exact h
 ·exact h
theorem QMV {b:Ty}{o:VO}(h:o≠ .no):IW b o≠ .no:=by
 unfold IW
 split
 ·split<;>simp
 ·exact h
theorem QeX: ∀ (bs:List Ty) (os:List VO),(Fp bs os).length=os.length
 | [],os=>rfl
 |b::bs,[]=>rfl
 |b::bs,o::os=>by rw [Fp,Bp,Bp,QeX bs os]
theorem QwL: ∀ (bs:List Ty) (os:List VO) (j:Nat) (o:VO),(Fp bs os)[j]? = some o→ ∃ o',os[j]? = some o'/\(o=o'∨ ∃ b,o=IW b o')
 | [],os,j,o,h=>⟨o,h,.inl rfl⟩
 |b::bs,[],j,o,h=>⟨o,h,.inl rfl⟩
 |b::bs,o1::os,0,o,h=>by
  simp only [Fp,Do,Be] at h
  exact ⟨o1,rfl,.inr ⟨b,h.symm⟩⟩
 |b::bs,o1::os,j+1,o,h=>by
  simp only [Fp,DS] at h
  obtain ⟨o',h1,h2⟩:=QwL bs os j o h
  exact ⟨o',by rw [DS];exact h1,h2⟩
theorem UA {f:FuncId}{l:List SV}{bs:List Ty}{ok:SVt l->WC bs->Bool}{F:SVt l->WC bs->V}(hM:QQ P f (QP (U5 l bs ok F))):QQ P f (QP (W8 l bs ok F)):=by
 intro args objs r os hF X w σ vs hfin hl hc
 have:=hM args (Fp bs objs) r os hF X w σ vs hfin ⟨fun j o hj=>by
  obtain ⟨o',h1,h2⟩:=QwL bs objs j o hj
  obtain ⟨g1,g2⟩:=hl.at_ j o' h1
  rcases h2 with rfl|⟨b,rfl⟩
  ·exact ⟨g1,g2⟩
  ·exact ⟨QMU g1,QMV g2⟩,fun i j b hij hi hj=>hl.apart i j b hij (by rwa [QeX] at hi) (by rwa [QeX] at hj)⟩ hc
 rw [QeX] at this
 exact this
end
end Go.Proofs.YtckcgijklnloiaaGreat.K
noncomputable section
namespace Go.Proofs.YtckcgijklnloiaaGreat.K
open Go.RowKit
noncomputable section
theorem Qa3 {l:List Qf}(h:Jf l=true){k:Nat}(hk:k<l.length):Jr l[k]=true:=by
 simp only [Jf,Bc,Bg] at h
 exact h.2 _ (BA hk)
theorem U8 {l:List Qf}(h:Jf l=true):l.length<=100000:=by
 simp only [Jf,Bc,Ba] at h
 exact h.1
abbrev cAt (l:List Qf)(k:Nat):Qf:=l.getD k Qct
theorem Qnj {l:List Qf}{k:Nat}(hk:k<l.length):cAt l k=l[k]:=by
 simp only [cAt,Bo,Bl hk,BK]
theorem Qnk {l:List Qf}(h:Jf l=true){k:Nat}(hk:k<l.length):Jr (cAt l k)=true:=by
 rw [Qnj hk]
 exact Qa3 h hk
def U9 (l:List Qf)(i:Int):Bool:= !ilt i 0&&(!ige i (Qc l)&&(ieq i 0||((cAt l i.toNat).2.2.2.2.2.2.2.2.1&&ige (cAt l i.toNat).2.2.2.2.2.2.2.2.2.1 (i-1))))
def Ga (l:List Qf)(_i:Int):Bool:=decide (l.length<=100000)
theorem Qx0 (l:List Qf)(i:Int)(h:Ga l i=true):br (ilt i 0) (some (V.t .bool false,([]:List VO))) (br (ige i (Qc l)) (some (V.t .bool false,[])) (br (ieq i 0) (some (V.t .bool true,[])) (br (cIx l i) (br (lgt QE l (Int.toNat i)).2.2.2.2.2.2.2.2.1 (br (cIx l i) (some (V.t .bool (ige (lgt QE l (Int.toNat i)).2.2.2.2.2.2.2.2.2.1 (QT .i64 i 1)),[])) none) (some (V.t .bool false,[]))) none)))=some (V.t .bool (U9 l i),[]):=by
 simp only [Ga,Ba] at h
 unfold U9
 cases hi:ilt i 0 with
 |true=>rfl
 |false=>
  have hn:=DN hi
  rw [Qi,Dy,BB]
  cases h1:ige i (Qc l) with
  |true=>rfl
  |false=>
   have h2:=DN h1
   rw [Qi,Dy,BB]
   cases h0:ieq i 0 with
   |true=>rfl
   |false=>
    have hl:Qc l<=100000:=by simp only [Qc];omega
    have hc:cIx l i=true:=Bd ⟨by omega,by simp only [Qc] at h2;omega⟩
    rw [Qi,Di,hc,Qe,Zu (by omega)]
    exact brA rfl
def QNV:TC:=aF Tryz.f140 []
def g_f140:G:=gG 32 [] (fun _ _=>none)
def Qx1 (p0:List Qf)(p1:Int):OV:=
 let a1:=(((((((((lgt QE p0 (Int.toNat p1)).2).2).2).2).2).2).2).2)
 br (ilt p1 0) (some (.t .bool false,[])) (br (ige p1 (Qc p0)) (some (.t .bool false,[])) (br (ieq p1 0) (some (.t .bool true,[])) (br (cIx p0 p1) (br (a1.1) (br (cIx p0 p1) (some (.t .bool (ige ((a1.2).1) (QT .i64 p1 1)),[])) none) (some (.t .bool false,[]))) none)))
theorem s_f140 (l:List Qf)(i:Int)(h:Ga l i=true):Qx1 l i=some (.t .bool (U9 l i),[]):=by
 simp only [Qx1]
 exact Qx0 l i h
def Qx2:Ent:=Qq (.pr (.sl QE) (.pr tI .nil)) (fun x=>(Ga x.1 x.2.1)) (fun x=>(.t .bool (U9 x.1 x.2.1)))
theorem QNW:EM 140 Qx2:=mS g_f140 QNV [((.t 4),some .bool)] false (gB gN) fun m=>Qu m fun x hok=>kT (s_f140 x.1 x.2.1 hok)
def QNX:TC:=aF Tryz.f151 []
def g_f151:G:=gG 32 [] (fun _ _=>none)
def Qx3 (p0:List Qf)(p1:Int):OV:=
 let a1:=(((((((((lgt QE p0 (Int.toNat p1)).2).2).2).2).2).2).2).2)
 br (ilt p1 0) (some (.t .bool false,[])) (br (ige p1 (Qc p0)) (some (.t .bool false,[])) (br (ieq p1 0) (some (.t .bool true,[])) (br (cIx p0 p1) (br (a1.1) (br (cIx p0 p1) (some (.t .bool (ige ((a1.2).1) (QT .i64 p1 1)),[])) none) (some (.t .bool false,[]))) none)))
theorem s_f151 (l:List Qf)(i:Int)(h:Ga l i=true):Qx3 l i=some (.t .bool (U9 l i),[]):=by
 simp only [Qx3]
 exact Qx0 l i h
def Qx4:Ent:=Qq (.pr (.sl QE) (.pr tI .nil)) (fun x=>(Ga x.1 x.2.1)) (fun x=>(.t .bool (U9 x.1 x.2.1)))
theorem QNY:EM 151 Qx4:=mS g_f151 QNX [((.t 4),some .bool)] false (gB gN) fun m=>Qu m fun x hok=>kT (s_f151 x.1 x.2.1 hok)
def Ob (l:List Qf)(k:Nat):Int:=if k+1<l.length then (cAt l (k+1)).2.2.2.2.1 else (Xb (cAt l k)).1
def Oc (l:List Qf)(i:Int):Int:=Ob l i.toNat
def Qa4 (l:List Qf)(i:Int):Bool:=decide (0<=i/\i<l.length/\l.length<=100000)
theorem Qnl {k:Nat}(h:k<4611686018427387904):Int.toNat (Qk .i64 (k:Int) 1)=k+1:=by rw [QU h];rfl
def QNZ:TC:=aF Tryz.f142 []
def g_f142:G:=gG 22 [] (fun _ _=>none)
def Qx5 (p0:List Qf)(p1:Int):OV:=
 let a1:=Qk .i64 p1 1
 br (ilt a1 (Qc p0)) (br (cIx p0 a1) (some (.t tI ((((((lgt QE p0 (Int.toNat a1)).2).2).2).2).1),[])) none) (br (cIx p0 p1) (some (.t tI ((((((((((((((lgt QE p0 (Int.toNat p1)).2).2).2).2).2).2).2).2).2).2).2).1).1),[])) none)
theorem s_f142 (l:List Qf)(i:Int)(h:Qa4 l i=true):Qx5 l i=some (.t tI (Oc l i),[]):=by
 simp only [Qa4,Ba] at h
 obtain ⟨h1,h2,h3⟩:=h
 obtain ⟨k,rfl⟩:=Bm h1
 simp only [Qx5,Qnl (show k<4611686018427387904 by omega),QU (show k<4611686018427387904 by omega),QS,Bb]
 unfold Oc Ob
 rw [Bb]
 by_cases hk:k+1<l.length
 ·rw [show ilt ((k+1:Nat):Int) (Qc l)=true from Bd (by simp only [Qc];omega),Qe,Bd hk,Qe,if_pos hk]
 ·rw [show ilt ((k+1:Nat):Int) (Qc l)=false from Bn (by simp only [Qc];omega),Qi,Bd (show k<l.length by omega),Qe,if_neg hk]
def Qx6:Ent:=Qq (.pr (.sl QE) (.pr tI .nil)) (fun x=>(Qa4 x.1 x.2.1)) (fun x=>(.t tI (Oc x.1 x.2.1)))
theorem QN0:EM 142 Qx6:=mS g_f142 QNZ [((.t 4),some tI)] false (gB gN) fun m=>Qu m fun x hok=>kT (s_f142 x.1 x.2.1 hok)
def Od (l:List Qf)(e:Int)(k:Nat):Bool:=
 bif ieq e 11 then decide (k+1<l.length)&&sne (cAt l k).2.1 (cAt l (k+1)).2.2.1
 else bif ieq e 15 then !U9 l k else !Gj (cAt l k) (Ob l k)
def Gb (l:List Qf)(e:Int)(k:Nat):Bool:=(List.range' k (l.length-k)).any (Od l e)
def ZR (l:List Qf)(e:Int):Bool:=Gb l e 0
theorem QN1 (l:List Qf)(e:Int):Gb l e l.length=false:=by
 unfold Gb
 rw [DA]
 rfl
theorem QN2 {l:List Qf}{e:Int}{k:Nat}(hk:k<l.length):Gb l e k=(Od l e k||Gb l e (k+1)):=by
 have:l.length-k=(l.length-(k+1))+1:=by omega
 unfold Gb
 rw [this,Dd,List.any_cons]
def QfA (l:List Qf)(_e:Int):Bool:=Jf l
abbrev QfB:Sh:=⟨[(0,.ty (.sl QE)),(1,.ty tI),(8,.ty tI),(9,.ty tI)],[]⟩
abbrev Qx7:Sh:=⟨[(4,.ty .bool)],[]⟩
abbrev QfC:Sh:=⟨[],[]⟩
def Qnm:Fg:=QfB.f
def Qx8:TC:=aF Tryz.f100 [(26,pL 0 Qnm),(421,.fg QfC.f),(108138,pD [(0,[]),(1,[]),(2,[]),(3,[]),(4,[]),(5,[]),(6,[]),(7,[]),(8,[]),(9,[]),(10,[]),(11,[]),(12,[]),(13,[]),(14,[]),(15,[]),(16,[]),(17,[]),(18,[]),(19,[])] (.of [0,1,2,3,4,5,6,7,8,9,10,11,12,13,14,15,16,17,18,19])),(432559,pD [(0,[]),(1,[]),(2,[]),(3,[]),(4,[]),(5,[]),(6,[]),(7,[]),(8,[]),(9,[])] (.of [0,1,2,3,4,5,6,7,8,9])),(54077,.fg Qx7.f)]
def Qx9:TC:=lb 0 Qx8
def Qya (x0:List Qf)(x1 x8 x9:Int):VS:=QfB.st (x0,x1,x8,x9,()) ()
def Qa5 (x4:Bool):VS:=Qx7.st (x4,()) ()
def Qnn  : VS:=QfC.st () ()
def QN3:VS->Option (Bool×List (Bool×Exit×VS)):=mkL QfB (fun x y=>(decide (x.2.2.1=x.1.length/\0<=x.2.2.2.1/\x.2.2.2.1<=x.2.2.1)&&Jf x.1)) (fun x y=>[((Gb x.1 x.2.1 x.2.2.2.1.toNat),.ret,Qa5 (true)),(true,.exit 0,Qnn)])
def Qno:G:=gG 51 [(140,Qx2),(141,QEh),(142,Qx6)] (Ls [QN3])
def QfD (x0:List Qf)(x1 x8 x9:Int):OX:=QB (QD Qno Qnm Qx9) (Qya x0 x1 x8 x9)
def Qa6 (kk:List Qf->Int->Int->Int->OX)(x0:List Qf)(x1 x8 x9:Int):OX:=
 let a1:=Qk .i64 x9 1
 let a2:=lgt QE x0 (Int.toNat x9)
 br (ilt x9 x8) (br (ieq x1 11) (br (ilt a1 (Qc x0)) (br (cIx x0 x9) (br (cIx x0 a1) (br (sne ((a2.2).1) ((((lgt QE x0 (Int.toNat a1)).2).2).1)) (some (.ret,Qa5 true)) (kk x0 x1 x8 a1)) none) none) (kk x0 x1 x8 a1)) (br (ieq x1 15) (br (Ga x0 x9) (br (!(U9 x0 x9)) (some (.ret,Qa5 true)) (kk x0 x1 x8 a1)) none) (br (cIx x0 x9) (br (Qa4 x0 x9) (br (YJ a2 (Oc x0 x9)) (br (!(Gj a2 (Oc x0 x9))) (some (.ret,Qa5 true)) (kk x0 x1 x8 a1)) none) none) none))) (some (.exit 0,Qnn))
def QfE (x0:List Qf)(x1 x8 x9:Int):OX:=br (Gb x0 x1 x9.toNat) (some (.ret,Qa5 (true)))<|some (.exit 0,Qnn)
theorem Qyb (x0:List Qf)(x1 x8 x9:Int):QfD x0 x1 x8 x9=Qa6 QfD x0 x1 x8 x9:=lnT (x:=Qa6 (fun x0 x1 x8 x9=>some (.normal,Qya x0 x1 x8 x9)) x0 x1 x8 x9) (by simp only [Qa6,nxA];rfl)
def Qyc (p0:List Qf)(p1:Int):OV:=br (decide ((Qc p0)=p0.length/\0<=(0:Int)/\(0:Int)<=(Qc p0))&&Jf p0) (br (Gb p0 p1 (0:Int).toNat) (some (.t .bool (true),[])) (some (.t .bool false,[]))) none
theorem QN4 (x0:List Qf)(x1 x8 x9:Int)(h:(decide (x8=x0.length/\0<=x9/\x9<=x8)&&Jf x0)=true):QfD x0 x1 x8 x9=QfE x0 x1 x8 x9:=by
 simp only [Bc,Ba] at h
 obtain ⟨⟨rfl,h0,h1⟩,hc⟩:=h
 obtain ⟨k,rfl⟩:=Bm h0
 have hl:=U8 hc
 refine QW x0 (fun k=>QfD x0 x1 (x0.length:Int) (k:Int)=QfE x0 x1 (x0.length:Int) (k:Int)) ?_ ?_ k (by omega)
 ·rw [Qyb]
  simp only [Qa6,QfE,QC,BI,BQ,Qi,Bb,QN1]
 ·intro k hk ih
  rw [Qyb]
  have hx:=Qa3 hc hk
  have hs:Qa4 x0 (k:Int)=true:=Bd (by omega)
  have hp:Ga x0 (k:Int)=true:=Bd hl
  simp only [Qa6,QC,QS,hk,Bu,Qe,Bb,Qnl (show k<4611686018427387904 by omega),QU (show k<4611686018427387904 by omega),hs,hp,ih,show lgt QE x0 k=cAt x0 k from rfl,show ∀ q,YJ (cAt x0 k) q=true from fun q=>Qnk hc hk,Oc]
  simp only [QfE,Bb,QN2 hk,Od]
  cases h1:ieq x1 11 with
  |true=>
   rw [Qe,BZ]
   by_cases hk2:k+1<x0.length
   ·rw [Bd hk2,Qe,Qe,BB]
    show br (sne (cAt x0 k).2.1 (cAt x0 (k+1)).2.2.1) _ _=_
    cases sne (cAt x0 k).2.1 (cAt x0 (k+1)).2.2.1<;>rfl
   ·rw [Bn hk2,Qi,DU,Di]
  |false=>
   rw [Qi,BM]
   cases h2:ieq x1 15 with
   |true=>
    rw [Qe,BZ]
    cases U9 x0 (k:Int)<;>rfl
   |false=>
    rw [Qi,BM]
    cases Gj (cAt x0 k) (Ob x0 k)<;>rfl
theorem QN5:LO Qno Qnm Qx9 0:=QN (s:=QfB) fun x y h _ q=>by simp only [QJ,QK] at q;exact (QN4 x.1 x.2.1 x.2.2.1 x.2.2.2.1 h).trans q
theorem s_f100 (l:List Qf)(e:Int)(h:QfA l e=true):Qyc l e=some (.t .bool (ZR l e),[]):=by
 have h:Jf l=true:=h
 simp only [Qyc,h,B8,Bt]
 rw [Bd ⟨trivial,B3 0,by simp only [Qc];omega⟩,Qe]
 unfold ZR
 cases Gb l e 0<;>rfl
def Qyd:Ent:=Qq (.pr (.sl QE) (.pr tI .nil)) (fun x=>(QfA x.1 x.2.1)) (fun x=>(.t .bool (ZR x.1 x.2.1)))
theorem QN6:EM 100 Qyd:=mS (lk:=lkL (lkc QN5 lkn)) Qno Qx8 [((.t 4),some .bool)] false (gB (gD QNW (gD QSO (gD QN0 gN)))) fun m=>Qu m fun x hok=>kT (s_f100 x.1 x.2.1 hok)
def ZS (c:Qf)(h:List Int)(d e:Int):Bool:=bif ieq e 13 then ilt d c.2.2.2.2.2.2.1||ige d c.2.2.2.2.2.2.2.1 else !QY h c.2.2.2.2.2.1.1
def EC (_c:Qf)(h:List Int)(_d _e:Int):Bool:=decide (h.length<=100000)
def tc_f99:TC:=aF Tryz.f99 []
def g_f99:G:=gG 27 [(101,Vb)] (fun _ _=>none)
def r_f99 (p0:Qf)(p1:List Int)(p2 p3:Int):OV:=br (ieq p3 13) (br (ilt p2 p0.2.2.2.2.2.2.1) (some (.t .bool true,[])) (some (.t .bool (ige p2 p0.2.2.2.2.2.2.2.1),[]))) (br (Q9 p1 p0.2.2.2.2.2.1.1) (some (.t .bool (!(QY p1 p0.2.2.2.2.2.1.1)),[])) none)
theorem s_f99 (c:Qf)(h:List Int)(d e:Int)(hok:EC c h d e=true):r_f99 c h d e=some (.t .bool (ZS c h d e),[]):=by
 simp only [r_f99,show ∀ v,Q9 h v=true from fun _=>hok,Qe]
 unfold ZS
 cases ieq e 13 with
 |false=>rfl
 |true=>
  rw [Qe,BZ]
  cases ilt d c.2.2.2.2.2.2.1<;>rfl
def Qye:Ent:=Qq (.pr QE (.pr (.sl tI) (.pr tI (.pr tI .nil)))) (fun x=>(EC x.1 x.2.1 x.2.2.1 x.2.2.2.1)) (fun x=>(.t .bool (ZS x.1 x.2.1 x.2.2.1 x.2.2.2.1)))
theorem ms_f99:EM 99 Qye:=mS g_f99 tc_f99 [((.t 8),some .bool)] false (gB (gD Qb8 gN)) fun m=>Qu m fun x hok=>kT (s_f99 x.1 x.2.1 x.2.2.1 x.2.2.2.1 hok)
def Xc (c:Qf):Bool:= !Q5 c
def tc_f95:TC:=aF Tryz.f95 []
def g_f95:G:=gG 6 [(96,Qne)] (fun _ _=>none)
def r_f95 (p0:Qf):OV:=br (Jr p0) (some (.t .bool (ine (We p0) 0),[])) none
theorem s_f95 (c:Qf)(h:Jr c=true):r_f95 c=some (.t .bool (Xc c),[]):=by
 simp only [r_f95,h,Qe,EB]
 rfl
def Qyf:Ent:=Qq (.pr QE .nil) (fun x=>(Jr x.1)) (fun x=>(.t .bool (Xc x.1)))
theorem ms_f95:EM 95 Qyf:=mS g_f95 tc_f95 [((.t 2),some .bool)] false (gB (gD QxS gN)) fun m=>Qu m fun x hok=>kT (s_f95 x.1 hok)
def UC (l:List Qf):Bool:=Jf l
theorem QN7 {l:List Qf}(h:UC l=true):l.length<=100000:=U8 h
def Oe (l:List Qf):Int:=match Qx Xc l with|some k=>(k:Int)|none=> -1
abbrev QfF:Sh:=⟨[(0,.ty (.sl QE)),(1,.cf 95),(7,.ty tI),(8,.ty tI)],[]⟩
abbrev Qyg:Sh:=⟨[(4,.ty tI)],[]⟩
def Qnp:Fg:=QfF.f
def Qyh:TC:=aF Tryz.f137 [(26,pL 0 Qnp),(421,.fg QfC.f),(13517,.fg Qyg.f)]
def Qyi:TC:=lb 0 Qyh
def Qyj (x0:List Qf)(x7 x8:Int):VS:=QfF.st (x0,(),x7,x8,()) ()
def Qnq (x4:Int):VS:=Qyg.st (x4,()) ()
def Qnr  : VS:=QfC.st () ()
def QN8:VS->Option (Bool×List (Bool×Exit×VS)):=mkL QfF (fun x y=>(Qz x.1 x.2.2.1 x.2.2.2.1&&UC x.1)) (fun x y=>[(((Qx Xc (x.1.drop x.2.2.2.1.toNat)).isSome),.ret,Qnq (x.2.2.2.1+((Qx Xc (x.1.drop x.2.2.2.1.toNat)).getD 0:Nat))),(true,.exit 0,Qnr)])
def Qns:G:=gG 19 [(95,Qyf)] (Ls [QN8])
def QfG (x0:List Qf)(x7 x8:Int):OX:=QB (QD Qns Qnp Qyi) (Qyj x0 x7 x8)
def Qa7 (kk:List Qf->Int->Int->OX)(x0:List Qf)(x7 x8:Int):OX:=
 let a1:=lgt QE x0 (Int.toNat x8)
 br (ilt x8 x7) (br (cIx x0 x8) (br (Jr a1) (br (Xc a1) (some (.ret,Qnq x8)) (kk x0 x7 (Qk .i64 x8 1))) none) none) (some (.exit 0,Qnr))
def QfH (x0:List Qf)(x7 x8:Int):OX:=
 let a1:=Qx Xc (x0.drop x8.toNat)
 br (a1.isSome) (some (.ret,Qnq (x8+(a1.getD 0:Nat))))<|some (.exit 0,Qnr)
theorem Qyk (x0:List Qf)(x7 x8:Int):QfG x0 x7 x8=Qa7 QfG x0 x7 x8:=lnT (x:=Qa7 (fun x0 x7 x8=>some (.normal,Qyj x0 x7 x8)) x0 x7 x8) (by simp only [Qa7,nxA];rfl)
def Qyl (p0:List Qf):OV:=
 let a1:=(Qx Xc (p0.drop (0:Int).toNat))
 br (Qz p0 (Qc p0) (0:Int)&&UC p0) (br (a1.isSome) (some (.t tI ((0:Int)+(a1.getD 0:Nat)),[])) (some (.t tI (-1),[]))) none
theorem QN9 (x0:List Qf)(x7 x8:Int)(h:(Qz x0 x7 x8&&UC x0)=true):QfG x0 x7 x8=QfH x0 x7 x8:=by
 simp only [Bc] at h
 obtain ⟨h0,hc⟩:=h
 obtain ⟨rfl,h3,k,rfl,hk⟩:=Js h0
 clear h0
 refine QW x0 (fun k=>QfG x0 (x0.length:Int) (k:Int)=QfH x0 (x0.length:Int) (k:Int)) ?_ ?_ k hk
 ·rw [Qyk]
  simp [Qa7,QfH,QC,Qi,Qx]
 ·intro k hk ih
  rw [Qyk]
  have hx:=Qa3 hc hk
  simp only [Qa7,QC,QS,hk,Bu,Qe,Bb,QU (show k<4611686018427387904 by omega),ih,QX (y:=QE) hk,hx]
  simp only [QfH,Bb,Bi hk,Qx]
  cases h:(Xc x0[k]) with
  |true=>simp [Qe]
  |false=>
   simp only [Qi,BW,Ds]
   cases hq:Qx Xc (x0.drop (k+1)) with
   |none=>rfl
   |some j=>
    simp only [B6,B1,BK,Qe]
    congr 3
    omega
theorem QOa:LO Qns Qnp Qyi 0:=QN (s:=QfF) fun x y h _ q=>by simp only [QJ,QK] at q;exact (QN9 x.1 x.2.2.1 x.2.2.2.1 h).trans q
theorem QOb (l:List Qf)(h:UC l=true):Qyl l=some (.t tI (Oe l),[]):=by
 have hl:=QN7 h
 simp only [Qyl,Jy hl,h,BX,Qe,Bt,Bx,Oe]
 cases Qx Xc l<;>simp [Qe,Qi]
def Qym:Ent:=U5 [.ty (.sl QE),.cf 95] [] (fun x d=>(UC x.1)) (fun x d=>(.t tI (Oe x.1)))
theorem QOc:EM 137 Qym:=mS (lk:=lkL (lkc QOa lkn)) Qns Qyh [((.t 4),some tI)] false (gB (gD ms_f95 gN)) fun m=>YQ m fun x d hok=>kT (QOb x.1 hok)
def Ug (l:List Qf):Bool:=l.any Xc
def QOd:TC:=aF Tryz.f94 []
def QOe:G:=gG 9 [(137,Qym)] (fun _ _=>none)
def Qyn (p0:List Qf):OV:=br (UC p0) (some (.t .bool (ige (Oe p0) 0),[])) none
theorem QOf (l:List Qf)(h:UC l=true):Qyn l=some (.t .bool (Ug l),[]):=by
 simp only [Qyn,h,Qe]
 have e:ige (Oe l) 0=Ug l:=by
  unfold Oe Ug
  cases hq:Qx Xc l with
  |none=>rw [Gf.1 hq];rfl
  |some k=>
   rw [←FE,hq]
   simp only [ige,B1,Ba]
   omega
 rw [e]
def Qyo:Ent:=U5 [.ty (.sl QE),.cf 95] [] (fun x d=>(UC x.1)) (fun x d=>(.t .bool (Ug x.1)))
theorem QOg:EM 94 Qyo:=mS QOe QOd [((.t 4),some .bool)] false (gB (gD QOc gN)) fun m=>YQ m fun x d hok=>kT (QOf x.1 hok)
def tc_f98:TC:=aF Tryz.f98 []
def g_f98:G:=gG 11 [(99,Qye)] (fun _ _=>none)
def r_f98 (p0:Qf)(d0:List Int)(d1 d2:Int):OV:=br (EC p0 d0 d1 d2) (some (.t .bool (ZS p0 d0 d1 d2),[.box (.t (.sl tI) d0),.box (.t tI d1),.box (.t tI d2)])) none
theorem s_f98 (c:Qf)(h:List Int)(d e:Int)(hok:EC c h d e=true):r_f98 c h d e=some (.t .bool (ZS c h d e),[.box (.t (.sl tI) h),.box (.t tI d),.box (.t tI e)]):=by
 simp only [r_f98,hok,Qe]
def Qyp:Ent:=W8 [.ty QE,.ptr 50000 0,.ptr 50001 0,.ptr 50002 0] [(.sl tI),tI,tI] (fun x d=>(EC x.1 d.1 d.2.1 d.2.2.1)) (fun x d=>(.t .bool (ZS x.1 d.1 d.2.1 d.2.2.1)))
theorem ms_f98:EM 98 Qyp:=mS g_f98 tc_f98 [((.t 5),some .bool)] false (gB (gD ms_f99 gN)) fun m=>UA (YQ m fun x d hok=>kT (s_f98 x.1 d.1 d.2.1 d.2.2.1 hok))
def XC (l:List Qf)(h:List Int)(_d _e:Int):Bool:=decide (l.length<=100000/\h.length<=100000)
theorem QOh {l:List Qf}{h:List Int}{d e:Int}(hq:XC l h d e=true):l.length<=100000:=(Bv hq).1
def Of (l:List Qf)(d0:List Int)(d1:Int)(d2:Int):Int:=match Qx (fun c=>ZS c d0 d1 d2) l with|some k=>(k:Int)|none=> -1
abbrev QfI:Sh:=⟨[(0,.ty (.sl QE)),(1,.fn 98 [(50000,0),(50001,0),(50002,0)]),(7,.ty tI),(8,.ty tI)],[(50000,.box (.sl tI)),(50001,.box tI),(50002,.box tI)]⟩
abbrev Qyq:Sh:=⟨[(4,.ty tI)],[(50000,.box (.sl tI)),(50001,.box tI),(50002,.box tI)]⟩
abbrev Qyr:Sh:=⟨[],[(50000,.box (.sl tI)),(50001,.box tI),(50002,.box tI)]⟩
def Qnt:Fg:=QfI.f
def Qys:TC:=aF Tryz.f137 [(26,pL 0 Qnt),(421,.fg Qyr.f),(13517,.fg Qyq.f)]
def Qyt:TC:=lb 0 Qys
def Qyu (x0:List Qf)(x7 x8:Int)(Qa:List Int)(Q6 JZ:Int):VS:=QfI.st (x0,(),x7,x8,()) (Qa,Q6,JZ,())
def Qnu (x4:Int)(Qa:List Int)(Q6 JZ:Int):VS:=Qyq.st (x4,()) (Qa,Q6,JZ,())
def Qnv (Qa:List Int)(Q6 JZ:Int):VS:=Qyr.st () (Qa,Q6,JZ,())
def QOi:VS->Option (Bool×List (Bool×Exit×VS)):=mkL QfI (fun x y=>(Qz x.1 x.2.2.1 x.2.2.2.1&&XC x.1 y.1 y.2.1 y.2.2.1)) (fun x y=>[(((Qx (fun c=>ZS c y.1 y.2.1 y.2.2.1) (x.1.drop x.2.2.2.1.toNat)).isSome),.ret,Qnu (x.2.2.2.1+((Qx (fun c=>ZS c y.1 y.2.1 y.2.2.1) (x.1.drop x.2.2.2.1.toNat)).getD 0:Nat)) (y.1) (y.2.1) (y.2.2.1)),(true,.exit 0,Qnv (y.1) (y.2.1) (y.2.2.1))])
def Qnw:G:=gG 19 [(98,Qyp)] (Ls [QOi])
def QfJ (x0:List Qf)(x7 x8:Int)(Qa:List Int)(Q6 JZ:Int):OX:=QB (QD Qnw Qnt Qyt) (Qyu x0 x7 x8 Qa Q6 JZ)
def Qa8 (kk:List Qf->Int->Int->List Int->Int->Int->OX)(x0:List Qf)(x7 x8:Int)(Qa:List Int)(Q6 JZ:Int):OX:=
 let a1:=lgt QE x0 (Int.toNat x8)
 br (ilt x8 x7) (br (cIx x0 x8) (br (EC a1 Qa Q6 JZ) (br (ZS a1 Qa Q6 JZ) (some (.ret,Qnu x8 Qa Q6 JZ)) (kk x0 x7 (Qk .i64 x8 1) Qa Q6 JZ)) none) none) (some (.exit 0,Qnv Qa Q6 JZ))
def QfK (x0:List Qf)(x7 x8:Int)(Qa:List Int)(Q6 JZ:Int):OX:=br ((Qx (fun c=>ZS c Qa Q6 JZ) (x0.drop x8.toNat)).isSome) (some (.ret,Qnu (x8+((Qx (fun c=>ZS c Qa Q6 JZ) (x0.drop x8.toNat)).getD 0:Nat)) (Qa) (Q6) (JZ)))<|some (.exit 0,Qnv (Qa) (Q6) (JZ))
theorem Qyv (x0:List Qf)(x7 x8:Int)(Qa:List Int)(Q6 JZ:Int):QfJ x0 x7 x8 Qa Q6 JZ=Qa8 QfJ x0 x7 x8 Qa Q6 JZ:=lnT (x:=Qa8 (fun x0 x7 x8 Qa Q6 JZ=>some (.normal,Qyu x0 x7 x8 Qa Q6 JZ)) x0 x7 x8 Qa Q6 JZ) (by simp only [Qa8,nxA];rfl)
def Qyw (p0:List Qf)(d0:List Int)(d1 d2:Int):OV:=
 let a1:=(p0.drop (0:Int).toNat)
 br (Qz p0 (Qc p0) (0:Int)&&XC p0 d0 d1 d2) (br ((Qx (fun c=>ZS c d0 d1 d2) a1).isSome) (some (.t tI ((0:Int)+((Qx (fun c=>ZS c d0 d1 d2) a1).getD 0:Nat)),[.box (.t (.sl tI) (d0)),.box (.t tI (d1)),.box (.t tI (d2))])) (some (.t tI (-1),[.box (.t (.sl tI) (d0)),.box (.t tI (d1)),.box (.t tI (d2))]))) none
theorem QOj (x0:List Qf)(x7 x8:Int)(Qa:List Int)(Q6 JZ:Int)(h:(Qz x0 x7 x8&&XC x0 Qa Q6 JZ)=true):QfJ x0 x7 x8 Qa Q6 JZ=QfK x0 x7 x8 Qa Q6 JZ:=by
 simp only [Bc] at h
 obtain ⟨h0,hc⟩:=h
 obtain ⟨rfl,h3,k,rfl,hk⟩:=Js h0
 clear h0
 refine QW x0 (fun k=>QfJ x0 (x0.length:Int) (k:Int) Qa Q6 JZ=QfK x0 (x0.length:Int) (k:Int) Qa Q6 JZ) ?_ ?_ k hk
 ·rw [Qyv]
  simp [Qa8,QfK,QC,Qi,Qx]
 ·intro k hk ih
  rw [Qyv]
  have hx:=show EC x0[k] Qa Q6 JZ=true from Bd (Bv hc).2
  simp only [Qa8,QC,QS,hk,Bu,Qe,Bb,QU (show k<4611686018427387904 by omega),ih,QX (y:=QE) hk,hx]
  simp only [QfK,Bb,Bi hk,Qx]
  cases h:(ZS x0[k] Qa Q6 JZ) with
  |true=>simp [Qe]
  |false=>
   simp only [Qi,BW,Ds]
   cases hq:Qx (fun c=>ZS c Qa Q6 JZ) (x0.drop (k+1)) with
   |none=>rfl
   |some j=>
    simp only [B6,B1,BK,Qe]
    congr 3
    omega
theorem QOk:LO Qnw Qnt Qyt 0:=QN (s:=QfI) fun x y h _ q=>by simp only [QJ,QK] at q;exact (QOj x.1 x.2.2.1 x.2.2.2.1 y.1 y.2.1 y.2.2.1 h).trans q
theorem QOl (l:List Qf)(d0:List Int)(d1 d2:Int)(h:XC l d0 d1 d2=true):Qyw l d0 d1 d2=some (.t tI (Of l d0 d1 d2),[.box (.t (.sl tI) d0),.box (.t tI d1),.box (.t tI d2)]):=by
 have hl:=QOh h
 simp only [Qyw,Jy hl,h,BX,Qe,Bt,Bx,Of]
 cases Qx (fun c=>ZS c d0 d1 d2) l<;>simp [Qe,Qi]
def Qyx:Ent:=W8 [.ty (.sl QE),.fn 98 [(50000,0),(50001,0),(50002,0)]] [(.sl tI),tI,tI] (fun x d=>(XC x.1 d.1 d.2.1 d.2.2.1)) (fun x d=>(.t tI (Of x.1 d.1 d.2.1 d.2.2.1)))
theorem QOm:EM 137 Qyx:=mS (lk:=lkL (lkc QOk lkn)) Qnw Qys [((.t 4),some tI)] false (gB (gD ms_f98 gN)) fun m=>UA (YQ m fun x d hok=>kT (QOl x.1 d.1 d.2.1 d.2.2.1 hok))
def Xd (l:List Qf)(d0:List Int)(d1:Int)(d2:Int):Bool:=l.any (fun c=>ZS c d0 d1 d2)
def QOn:TC:=aF Tryz.f94 []
def QOo:G:=gG 9 [(137,Qyx)] (fun _ _=>none)
def Qyy (p0:List Qf)(d0:List Int)(d1 d2:Int):OV:=br (XC p0 d0 d1 d2) (some (.t .bool (ige (Of p0 d0 d1 d2) 0),[.box (.t (.sl tI) d0),.box (.t tI d1),.box (.t tI d2)])) none
theorem QOp (l:List Qf)(d0:List Int)(d1 d2:Int)(h:XC l d0 d1 d2=true):Qyy l d0 d1 d2=some (.t .bool (Xd l d0 d1 d2),[.box (.t (.sl tI) d0),.box (.t tI d1),.box (.t tI d2)]):=by
 simp only [Qyy,h,Qe]
 have e:ige (Of l d0 d1 d2) 0=Xd l d0 d1 d2:=by
  unfold Of Xd
  cases hq:Qx (fun c=>ZS c d0 d1 d2) l with
  |none=>rw [Gf.1 hq];rfl
  |some k=>
   rw [←FE,hq]
   simp only [ige,B1,Ba]
   omega
 rw [e]
def Qyz:Ent:=W8 [.ty (.sl QE),.fn 98 [(50000,0),(50001,0),(50002,0)]] [(.sl tI),tI,tI] (fun x d=>(XC x.1 d.1 d.2.1 d.2.2.1)) (fun x d=>(.t .bool (Xd x.1 d.1 d.2.1 d.2.2.1)))
theorem QOq:EM 94 Qyz:=mS QOo QOn [((.t 4),some .bool)] false (gB (gD QOm gN)) fun m=>UA (YQ m fun x d hok=>kT (QOp x.1 d.1 d.2.1 d.2.2.1 hok))
end
end Go.Proofs.YtckcgijklnloiaaGreat.K
