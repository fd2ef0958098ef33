import Derived.Test.YthlcobdnemhcdaaGreatQ6
import Derived.Test.YthlcobdnemhcdaaGreatQ7
import Derived.Test.YthlcobdnemhcdaaGreatQ3
import Derived.Test.YthlcobdnemhcdaaGreatQ4
set_option linter.unusedSimpArgs false
set_option linter.unusedVariables false
noncomputable section
namespace Go.Proofs.YthlcobdnemhcdaaGreat.K
open Go.RowKit
def tc_f95:TC:=aF Tryz.f95 []
def g_f95:G:=gG 25 [(96,Qgr)] (fun _ _=>none)
def r_f95 (p0:Policy)(p1:Keep)(p2 p3:Int):OV:=
 let a1:=Z1 p0 p1 p2 p3
 br (ilt a1 0) (some (.t .bool true,[])) (br (cIx p0.1 a1) (some (.t .bool ((lgt QY p0.1 (Int.toNat a1)).1),[])) none)
theorem QE9 (y:Policy)(u:Keep)(p d:Int):Y0 y u p d=(ilt (Z1 y u p d) 0||(y.1.getD (Z1 y u p d).toNat QY.zero).1):=by
 unfold Y0 allL
 have h:=Qpm (y:=y) (u:=u) (p:=p) (d:=d)
 cases hq:IT y.1 u p d with
 |none=>
  rw [hq] at h
  simp only at h
  rw [h]
  rfl
 |some k=>
  rw [hq] at h
  simp only at h
  rw [h]
  obtain ⟨h1,_⟩:=Qg9.1 hq
  have e1:ilt (k:Int) 0=false:=by simp only [ilt,Bo];omega
  simp only [e1,Du,Bd,Bi h1,B0,BU,Bn]
theorem QFa {y:Policy}{u:Keep}{p d:Int}(h:ilt (Z1 y u p d) 0=false):cIx y.1 (Z1 y u p d)=true:=by
 have h2:=QAc (y:=y) (u:=u) (p:=p) (d:=d)
 simp only [ilt,Bo] at h
 simp only [cIx,Ba]
 omega
theorem s_f95 (y:Policy)(u:Keep)(p d:Int):r_f95 y u p d=some (.t .bool (Y0 y u p d),[]):=by
 simp only [r_f95,QE9]
 cases h:ilt (Z1 y u p d) 0 with
 |true=>simp [Qg]
 |false=>
  rw [QFa h,Ql,Qg,Du,lgt]
def Qjs:Ent:=Qn (.pr QF (.pr Qk (.pr tI (.pr tI .nil)))) (fun x=>true) (fun x=>(.t .bool (Y0 x.1 x.2.1 x.2.2.1 x.2.2.2.1)))
theorem QtI:EM 95 Qjs:=mS g_f95 tc_f95 [((.t 8),some .bool)] false (gB (gD Qn7 gN)) fun m=>Qt m fun x _=>kT (s_f95 x.1 x.2.1 x.2.2.1 x.2.2.2.1)
def Z9 (y:Policy)(u:Keep)(p d:Int):Int:=if Yq y=false then 25 else if Jq u=false then 7 else if p<1∨4<p∨d<0∨40000<d then 2 else 0
def U7 (y:Policy)(_u:Keep)(_p _d:Int):Bool:=JG y
def G2 (y:Policy)(_u:Keep)(_p:Int):Bool:=JG y
def tc_f94:TC:=aF Tryz.f94 []
def g_f94:G:=gG 34 [(90,Qcj),(92,UM)] (fun _ _=>none)
def r_f94 (p0:Policy)(p1:Keep)(p2 p3:Int):OV:=br (JG p0) (br (ine (Z7 p0) 0) (some (.t tI (Z7 p0),[])) (br (!(Jq p1)) (some (.t tI 7,[])) (br (ilt p2 1) (some (.t tI 2,[])) (br (igt p2 4) (some (.t tI 2,[])) (br (ilt p3 0) (some (.t tI 2,[])) (br (igt p3 40000) (some (.t tI 2,[])) (some (.t tI 0,[])))))))) none
theorem s_f94 (y:Policy)(u:Keep)(p d:Int)(h:U7 y u p d=true):r_f94 y u p d=some (.t tI (Z9 y u p d),[]):=by
 have h:JG y=true:=h
 simp only [r_f94,h,Qg,Z7,Z9]
 cases Yq y with
 |false=>rfl
 |true=>
  simp only [if_true,show ine 0 0=false from rfl,Ql,Bool.true_eq_false,Df]
  cases Jq u with
  |false=>rfl
  |true=>
   simp only [BI,Ql,Bool.true_eq_false,Df]
   repeat' (refine Q8 ?_ ?_<;>intro _)
   all_goals simp only [igt,ilt,Ba,Bo] at*
   all_goals first
    |rw [if_pos (by omega)]
    |rw [if_neg (by omega)]
def Qjt:Ent:=Qn (.pr QF (.pr Qk (.pr tI (.pr tI .nil)))) (fun x=>(U7 x.1 x.2.1 x.2.2.1 x.2.2.2.1)) (fun x=>(.t tI (Z9 x.1 x.2.1 x.2.2.1 x.2.2.2.1)))
theorem QtJ:EM 94 Qjt:=mS g_f94 tc_f94 [((.t 8),some tI)] false (gB (gD QiC (gD GD gN))) fun m=>Qt m fun x hok=>kT (s_f94 x.1 x.2.1 x.2.2.1 x.2.2.2.1 hok)
def YP (y:Policy)(u:Keep)(p d:Int):Bool×Int×Int:=if Z9 y u p d=0 then (Y0 y u p d,Z1 y u p d,0) else (false,0,Z9 y u p d)
def tc_f55:TC:=aF Tryz.f55 [(14,pD [(0,[4]),(1,[5]),(2,[]),(3,[]),(4,[]),(5,[4]),(6,[5]),(7,[]),(8,[]),(9,[]),(10,[]),(11,[]),(12,[])] (.of [0,1,2,3,4,5,6,7,8,9,10,11,12]))]
def g_f55:G:=gG 30 [(94,Qjt),(95,Qjs),(96,Qgr)] (fun _ _=>none)
def r_f55 (p0:Policy)(p1:Keep)(p2 p3:Int):OV:=br (U7 p0 p1 p2 p3) (br (ine (Z9 p0 p1 p2 p3) 0) (some (.tu [(.t .bool false),(.t tI 0),(.t tI (Z9 p0 p1 p2 p3))],[])) (some (.tu [(.t .bool (Y0 p0 p1 p2 p3)),(.t tI (Z1 p0 p1 p2 p3)),(.t tI 0)],[]))) none
theorem s_f55 (y:Policy)(u:Keep)(p d:Int)(h:U7 y u p d=true):r_f55 y u p d=some (.tu [.t .bool (YP y u p d).1,.t tI (YP y u p d).2.1,.t tI (YP y u p d).2.2],[]):=by
 simp only [r_f55,h,Qg,YP,Qvv]
 by_cases h0:Z9 y u p d=0<;>simp [h0,Qg,Ql]
def QtK:Ent:=Qn (.pr QF (.pr Qk (.pr tI (.pr tI .nil)))) (fun x=>(U7 x.1 x.2.1 x.2.2.1 x.2.2.2.1)) (fun x=>(.tu [(.t .bool ((YP x.1 x.2.1 x.2.2.1 x.2.2.2.1).1)),(.t tI (((YP x.1 x.2.1 x.2.2.1 x.2.2.2.1).2).1)),(.t tI (((YP x.1 x.2.1 x.2.2.1 x.2.2.2.1).2).2))]))
theorem ms_f55:EM 55 QtK:=mS g_f55 tc_f55 [((.t 8),some .bool),((.t 9),some tI),((.t 10),some tI)] false (gB (gD QtJ (gD QtI (gD Qn7 gN)))) fun m=>Qt m fun x hok=>kT (s_f55 x.1 x.2.1 x.2.2.1 x.2.2.2.1 hok)
def Wp (y:Policy):List Int:=Xu y.1
abbrev Qc3:Sh:=⟨[(3,.ms 6),(8,.ty (.sl QY)),(9,.ty tI),(10,.ty tI)],[(3,.no),(6,.arr 3 tI),(20,.no),(24,.no)]⟩
abbrev QtL:Sh:=⟨[(3,.ms 6)],[(3,.no),(6,.arr 3 tI),(20,.no),(24,.no)]⟩
def Qju:Fg:=Qc3.f
def QtM:TC:=aF Tryz.f235 [(58,.nw 3 3),(58,pL 0 Qju),(933,.fg QtL.f)]
def QtN:TC:=lb 0 QtM
def QtO (x8:List Rule)(x9 x10:Int)(y6:List Int):VS:=Qc3.st ((),x8,x9,x10,()) ((),y6,(),(),())
def Qjv (y6:List Int):VS:=QtL.st ((),()) ((),y6,(),(),())
def QFb:VS->Option (Bool×List (Bool×Exit×VS)):=mkL Qc3 (fun x y=>(Qy x.2.1 x.2.2.1 x.2.2.2.1&&decide (y.2.1.length<=1+2*x.2.2.2.1))) (fun x y=>[(true,.exit 0,Qjv (y.2.1++Zr (x.2.1.drop x.2.2.2.1.toNat)))])
def Qjw:G:=⟨TYs,[6],29,EL [(252,Qnv),(264,Qnw)],keeps,(Ls [QFb]),IL [],RL []⟩
def Qc4 (x8:List Rule)(x9 x10:Int)(y6:List Int):OX:=Qx (Qz Qjw Qju QtN) (QtO x8 x9 x10 y6)
def OL (kk:List Rule->Int->Int->List Int->OX)(x8:List Rule)(x9 x10:Int)(y6:List Int):OX:=
 let a1:=(((((lgt QY x8 (Int.toNat x10)).2).2).2).2)
 br (ilt x10 x9) (br (cIx x8 x10) (br (Qw y6 ([a1.1,(a1.2).1]) 8) (kk x8 x9 (Qi .i64 x10 1) (y6++([a1.1,(a1.2).1]))) none) none) (some (.exit 0,Qjv y6))
def Qc5 (x8:List Rule)(x9 x10:Int)(y6:List Int):OX:=some (.exit 0,Qjv (y6++Zr (x8.drop x10.toNat)))
theorem QtP (x8:List Rule)(x9 x10:Int)(y6:List Int):Qc4 x8 x9 x10 y6=OL Qc4 x8 x9 x10 y6:=lnT (x:=OL (fun x8 x9 x10 y6=>some (.normal,QtO x8 x9 x10 y6)) x8 x9 x10 y6) (by simp only [OL,nxA];rfl)
def QtQ (p0:Policy):OV:=
 let a1:=(p0.1.drop (0:Int).toNat)
 let a2:=Z2 ((([0])++Zr a1)++([40001]))
 br (Qy p0.1 (Qd p0.1) (0:Int)&&decide (([0]).length<=1+2*(0:Int))) (br (Qw (([0])++Zr a1) ([40001]) 8) (br (X7 ((([0])++Zr a1)++([40001]))) (br (X7 a2) (some (.t (.sl tI) (Lib.compact a2),[])) none) none) none) none
theorem QFc (x8:List Rule)(x9 x10:Int)(y6:List Int)(h:(Qy x8 x9 x10&&decide (y6.length<=1+2*x10))=true):Qc4 x8 x9 x10 y6=Qc5 x8 x9 x10 y6:=by
 simp only [Bc,Ba] at h
 obtain ⟨h0,h4⟩:=h
 obtain ⟨rfl,h3,k,rfl,hk⟩:=JE h0
 clear h0
 revert y6
 refine QX x8 (fun k=> ∀ y6:List Int,(y6.length:Int)<=1+2*(k:Int)->Qc4 x8 (x8.length:Int) (k:Int) y6=Qc5 x8 (x8.length:Int) (k:Int) y6) ?_ ?_ k hk
 ·intro y6 _
  rw [QtP]
  simp [OL,Qc5,QA,Ql,Zr]
 ·intro k hk ih y6 hy
  rw [QtP]
  simp only [OL,QA,QM,hk,Bx,Qg,Bd,QW (show k<4611686018427387904 by omega),QP (y:=QY) hk]
  rw [Gi (by simp;omega) (by omega),Qg,ih _ (by simp;omega)]
  simp only [Qc5,Bd,Bj hk,Zr,BO,BN]
theorem QFd:LO Qjw Qju QtN 0:=QI (s:=Qc3) fun x y h _ q=>by simp only [QG,QH] at q;exact (QFc x.2.1 x.2.2.1 x.2.2.2.1 y.2.1 h).trans q
theorem QtR (l:List Rule):(Zr l).length=2*l.length:=by
 induction l with
 |nil=>rfl
 |cons a l ih=>simp only [Zr,BO,Bm,Bp,BD] at ih ⊢; omega
theorem s_f235 (y:Policy)(h:JG y=true):QtQ y=some (.t (.sl tI) (Wp y),[]):=by
 simp only [JG,Q2,Bc,Ba] at h
 have e1:Qy y.1 (Qd y.1) 0=true:=JF h.1
 simp only [QtQ,e1,By]
 have hl:=QtR y.1
 have e2:decide ((([0]:List Int).length:Int)<=1+2*0)=true:=by decide
 simp only [e2,Qg,BE,BL]
 rw [Gi (by simp;omega) (by omega),Qg]
 rw [show X7 (([0]++Zr y.1)++[40001])=true by simp [X7];omega]
 simp only [Qg]
 rw [show X7 (Z2 (([0]++Zr y.1)++[40001]))=true by simp [X7,Z2];omega]
 rfl
def QtS:Ent:=Qn (.pr QF .nil) (fun x=>(JG x.1)) (fun x=>(.t (.sl tI) (Wp x.1)))
theorem QFe:EM 235 QtS:=mS (lk:=lkL (lkc QFd lkn)) Qjw QtM [((.t 2),some (.sl tI))] false (Jg _ (gA (gC Qyz QyB (gC QyA QyC gN)))) fun m=>Qt m fun x hok=>kT (s_f235 x.1 hok)
end Go.Proofs.YthlcobdnemhcdaaGreat.K
noncomputable section
namespace Go.Proofs.YthlcobdnemhcdaaGreat.K
open Go.RowKit
def E7 (y:Policy)(u:Keep)(p:Int)(l:List Int)(out:List Keep):List Keep:=UO (Y0 y u p) l out
abbrev E8:Sh:=⟨[(2,.ty tI),(3,.ptr 3 0),(4,.ptr 4 0),(7,.ms 7),(8,.ty (.sl tI)),(17,.ty tI),(18,.ty tI)],[(3,.box QF),(4,.box Qk),(7,.arr 70 Qk),(61,.no)]⟩
abbrev QlJ:Sh:=⟨[(7,.ms 7)],[(7,.arr 70 Qk),(61,.no)]⟩
def QeO:Fg:=E8.f
def QlK:TC:=aF Tryz.f198 [(122,.nw 7 70),(122,pL 0 QeO),(1957,.fg QlJ.f),(15666,pD [(0,[]),(1,[]),(2,[]),(3,[]),(4,[]),(5,[]),(6,[]),(7,[]),(8,[]),(9,[]),(10,[])] (.of [0,1,2,3,4,5,6,7,8,9,10])),(125338,.fg E8.f)]
def QlL:TC:=lb 0 QlK
def QlM (x2:Int)(x8:List Int)(x17 x18:Int)(y3:Policy)(y4:Keep)(y7:List Keep):VS:=E8.st (x2,(),(),(),x8,x17,x18,()) (y3,y4,y7,(),())
def QeP (y7:List Keep):VS:=QlJ.st ((),()) (y7,(),())
def QwP:VS->Option (Bool×List (Bool×Exit×VS)):=mkL E8 (fun x y=>(decide (x.2.2.2.2.2.1=(x.2.2.2.2.1.length:Int)-1/\0<=x.2.2.2.2.2.2.1/\x.2.2.2.2.2.2.1<=x.2.2.2.2.2.1/\x.2.2.2.2.1.length<=500000/\(y.2.2.1.length:Int)<=x.2.2.2.2.2.2.1))) (fun x y=>[(true,.exit 0,QeP (E7 y.1 y.2.1 x.1 (x.2.2.2.2.1.drop x.2.2.2.2.2.2.1.toNat) y.2.2.1))])
def QeQ:G:=gG 64 [(95,Qjs),(235,QtS)] (Ls [QwP])
def E9 (x2:Int)(x8:List Int)(x17 x18:Int)(y3:Policy)(y4:Keep)(y7:List Keep):OX:=Qx (Qz QeQ QeO QlL) (QlM x2 x8 x17 x18 y3 y4 y7)
def Vw (kk:Int->List Int->Int->Int->Policy->Keep->List Keep->OX)(x2:Int)(x8:List Int)(x17 x18:Int)(y3:Policy)(y4:Keep)(y7:List Keep):OX:=
 let a1:=((lgt tI x8 (Int.toNat x18)),((lgt tI x8 (Int.toNat (Qi .i64 x18 1))),()))
 br (Qw y7 ([a1]) 16) (kk x2 x8 x17 (Qi .i64 x18 1) y3 y4 (y7++([a1]))) none
def Ia (kk:Int->List Int->Int->Int->Policy->Keep->List Keep->OX)(x2:Int)(x8:List Int)(x17 x18:Int)(y3:Policy)(y4:Keep)(y7:List Keep):OX:=
 let a1:=Int.toNat (QD .i64 (Qd y7) 1)
 let a2:=Qi .i64 x18 1
 let a3:=lgt Qk y7 a1
 let a4:=cIx y7 (QD .i64 (Qd y7) 1)
 let a5:=lgt tI x8 (Int.toNat x18)
 br (ilt x18 x17) (br (cIx x8 x18) (br (cIx x8 a2) (br (!(Y0 y3 y4 x2 a5)) (kk x2 x8 x17 a2 y3 y4 y7) (br (igt (Qd y7) 0) (br a4 (br (cLd y7 a1) (br (ieq ((a3.2).1) a5) (br a4 (br (cLd y7 a1) (kk x2 x8 x17 a2 y3 y4 (List.set y7 a1 (a3.1,((lgt tI x8 (Int.toNat a2)),(a3.2).2)))) none) none) (Vw kk x2 x8 x17 x18 y3 y4 y7)) none) none) (Vw kk x2 x8 x17 x18 y3 y4 y7))) none) none) (some (.exit 0,QeP y7))
def Fo (x2:Int)(x8:List Int)(x17 x18:Int)(y3:Policy)(y4:Keep)(y7:List Keep):OX:=some (.exit 0,QeP (E7 y3 y4 x2 (x8.drop x18.toNat) y7))
theorem QlN (x2:Int)(x8:List Int)(x17 x18:Int)(y3:Policy)(y4:Keep)(y7:List Keep):E9 x2 x8 x17 x18 y3 y4 y7=Ia E9 x2 x8 x17 x18 y3 y4 y7:=lnT (x:=Ia (fun x2 x8 x17 x18 y3 y4 y7=>some (.normal,QlM x2 x8 x17 x18 y3 y4 y7)) x2 x8 x17 x18 y3 y4 y7) (by simp only [Ia,Vw,nxA];rfl)
def QlO (p0:Policy)(p1:Keep)(p2:Int):OV:=
 let a1:=QD .i64 (Qd (Wp p0)) 1
 br (JG p0) (br (decide (a1=((Wp p0).length:Int)-1/\0<=(0:Int)/\(0:Int)<=a1/\(Wp p0).length<=500000/\(([]:List Keep).length:Int)<=(0:Int))) (some (.t (.sl Qk) (E7 p0 p1 p2 ((Wp p0).drop (0:Int).toNat) ([]:List Keep)),[])) none) none
theorem QlP (l:List Keep)(s:Keep)(a b:Int):UN (l++[s]) a b=if s.2.1=a then l++[(s.1,b,())] else (l++[s])++[(a,b,())]:=by
 unfold UN
 rw [List.getLast?_concat,List.dropLast_concat]
theorem QlQ (l:List Keep)(a b:Int):(UN l a b).length<=l.length+1:=by
 rcases List.eq_nil_or_concat l with rfl|⟨l,s,rfl⟩
 ·simp [UN]
 ·rw [List.concat_eq_append,QlP]
  split<;>simp
theorem QwQ {f:List Keep->OX}(y:List Keep)(a b:Int)(hl:y.length<=500000):
  (br (igt (Qd y) 0)
   (br (cIx y (QD .i64 (Qd y) 1))
    (br (cLd y (Int.toNat (QD .i64 (Qd y) 1)))
     (br (ieq (((lgt Qk y (Int.toNat (QD .i64 (Qd y) 1))).2).1) a)
      (br (cIx y (QD .i64 (Qd y) 1))
       (br (cLd y (Int.toNat (QD .i64 (Qd y) 1)))
        (f (List.set y (Int.toNat (QD .i64 (Qd y) 1)) ((lgt Qk y (Int.toNat (QD .i64 (Qd y) 1))).1,(b,((lgt Qk y (Int.toNat (QD .i64 (Qd y) 1))).2).2))))
        none) none)
      (br (Qw y [(a,(b,()))] 16) (f (y++[(a,(b,()))])) none)) none) none)
   (br (Qw y [(a,(b,()))] 16) (f (y++[(a,(b,()))])) none))=f (UN y a b):=by
 have e0:Qw y [(a,(b,()))] 16=true:=Gi (by simp;omega) (by omega)
 rw [e0]
 simp only [Qg]
 rcases List.eq_nil_or_concat y with rfl|⟨l,s,rfl⟩
 ·rfl
 ·rw [List.concat_eq_append] at*
  have e1:QD .i64 (Qd (l++[s])) 1=(l.length:Int):=by
   have:Qd (l++[s])=(l.length:Int)+1:=by simp [Qd]
   rw [this,Ze (by rw [Bm,Bl] at hl;omega)]
   omega
  have h2:l.length<(l++[s]).length:=by simp
  have e2:igt (Qd (l++[s])) 0=true:=by simp only [igt,Qd,Bm,Bl,Ba];omega
  have e3:cLd (l++[s]) l.length=true:=by simp [cLd]
  have e4:lgt Qk (l++[s]) l.length=s:=by rw [QP (y:=Qk) h2];simp
  rw [e1,e2]
  simp only [Qg,QM,h2,Bx,Bd,e3,e4,QlP,Zy]
  by_cases hs:s.2.1=a
  ·simp only [hs,Bx,Qg,if_true]
   congr 1
   obtain ⟨s1,s2,s3⟩:=s
   simp
  ·simp [hs,Ql]
theorem QwR (x2:Int)(x8:List Int)(x17 x18:Int)(y3:Policy)(y4:Keep)(y7:List Keep)(h:(decide (x17=(x8.length:Int)-1/\0<=x18/\x18<=x17/\x8.length<=500000/\(y7.length:Int)<=x18))=true):E9 x2 x8 x17 x18 y3 y4 y7=Fo x2 x8 x17 x18 y3 y4 y7:=by
 simp only [Ba] at h
 obtain ⟨rfl,h1,h2,h3,h4⟩:=h
 obtain ⟨k,rfl⟩:=Br h1
 revert y7
 refine Qd3 (x8.length-1) (fun k=> ∀ y7:List Keep,(y7.length:Int)<=(k:Int)->E9 x2 x8 ((x8.length:Int)-1) (k:Int) y3 y4 y7=Fo x2 x8 ((x8.length:Int)-1) (k:Int) y3 y4 y7) ?_ ?_ k (by omega)
 ·intro y7 _
  rw [QlN]
  have e1:ilt ((x8.length-1:Nat):Int) ((x8.length:Int)-1)=false:=by simp only [ilt,Bo];omega
  have e2:x8.drop (x8.length-1)=[x8[x8.length-1]'(by omega)]:=by
   rw [Bj (by omega)]
   congr 1
   exact DA (by omega)
  simp only [Ia,e1,Ql,Fo,Bd,e2,E7,UO]
 ·intro k hk ih y7 hy
  rw [QlN]
  have e1:ilt (k:Int) ((x8.length:Int)-1)=true:=by simp only [ilt,Ba];omega
  have hk1:k<x8.length:=by omega
  have hk2:k+1<x8.length:=by omega
  have ea:Qi .i64 (k:Int) 1=((k+1:Nat):Int):=QW (by omega)
  simp only [Ia,Vw,e1,ea,Qg,QM,hk1,hk2,Bx,Bd,QP (y:=tI) hk1,QP (y:=tI) hk2]
  rw [QwQ (f:=fun z=>E9 x2 x8 ((x8.length:Int)-1) ((k+1:Nat):Int) y3 y4 z) y7 _ _ (by omega)]
  have el:Fo x2 x8 ((x8.length:Int)-1) (k:Int) y3 y4 y7=Fo x2 x8 ((x8.length:Int)-1) ((k+1:Nat):Int) y3 y4 (if Y0 y3 y4 x2 x8[k] then UN y7 x8[k] x8[k+1] else y7):=by
   simp only [Fo,E7,Bd]
   rw [Bj hk1,Bj hk2]
   rfl
  rw [el]
  have hp:=QlQ y7 x8[k] x8[k+1]
  cases hc:Y0 y3 y4 x2 x8[k] with
  |true=>
   simp only [BI,Ql,if_true]
   exact ih _ (by omega)
  |false=>
   simp only [DM,Qg,BG,Df]
   exact ih _ (by omega)
theorem QwS:LO QeQ QeO QlL 0:=QI (s:=E8) fun x y h _ q=>by simp only [QG,QH] at q;exact (QwR x.1 x.2.2.2.2.1 x.2.2.2.2.2.1 x.2.2.2.2.2.2.1 y.1 y.2.1 y.2.2.1 h).trans q
theorem QwT (l:List Int):(Lib.compact l).length<=l.length:=by
 unfold Lib.compact Lib.compactUpTo
 rw [BK]
 exact Dk (List.length_filter_le _ _) (by simp)
theorem QlR (rs:List Rule):2<=(Xu rs).length/\(Xu rs).length<=2*rs.length+2:=by
 constructor
 ·have h1:(0:Int)∈Xu rs:=Qpo.2 (.inl rfl)
  have h2:(40001:Int)∈Xu rs:=Qpo.2 (.inr (.inl rfl))
  match hq:Xu rs with
  | []=>rw [hq] at h1;cases h1
  | [a]=>
   rw [hq] at h1 h2
   rw [Dj] at h1 h2
   omega
  |_::_::_=>simp
 ·unfold Xu
  refine Dk (QwT _) ?_
  have:=QtR rs
  unfold Z2
  rw [List.length_mergeSort]
  simp
  omega
theorem s_f198 (y:Policy)(u:Keep)(p:Int)(h:G2 y u p=true):QlO y u p=some (.t (.sl Qk) (Y3 y u p),[]):=by
 have h:JG y=true:=h
 have h':=h
 simp only [JG,Q2,Bc,Ba] at h'
 have hl:2<=(Wp y).length/\(Wp y).length<=2*y.1.length+2:=QlR y.1
 have e1:QD .i64 (Qd (Wp y)) 1=((Wp y).length:Int)-1:=Ze (by unfold Qd;omega)
 simp only [QlO,h,Qg,e1,BE,BL]
 rw [Us (by simp;omega),Qg]
 rfl
def QlS:Ent:=Qn (.pr QF (.pr Qk (.pr tI .nil))) (fun x=>(G2 x.1 x.2.1 x.2.2.1)) (fun x=>(.t (.sl Qk) (Y3 x.1 x.2.1 x.2.2.1)))
theorem QwU:EM 198 QlS:=mS (lk:=lkL (lkc QwS lkn)) QeQ QlK [((.t 6),some (.sl Qk))] false (gB (gD QtI (gD QFe gN))) fun m=>Qt m fun x hok=>kT (s_f198 x.1 x.2.1 x.2.2.1 hok)
def Gm (l:List Keep):Int×Bool:=match l.getLast? with
 |none=>(0,true)
 |some s=>if s.2.1=40001 then (0,false) else (s.2.1,true)
def XP (y:Policy)(u:Keep)(p:Int):Int×Bool×Int:=if Z9 y u p 0=0 then ((Gm (Y3 y u p)).1,(Gm (Y3 y u p)).2,0) else (0,false,Z9 y u p 0)
def QwV:TC:=aF Tryz.f149 []
def g_f149:G:=gG 42 [(94,Qjt),(198,QlS)] (fun _ _=>none)
def QlT (p0:Policy)(p1:Keep)(p2:Int):OV:=
 let a1:=Y3 p0 p1 p2
 let a2:=QD .i64 (Qd a1) 1
 let a3:=(((lgt Qk a1 (Int.toNat a2)).2).1)
 br (U7 p0 p1 p2 0) (br (ine (Z9 p0 p1 p2 0) 0) (some (.tu [(.t tI 0),(.t .bool false),(.t tI (Z9 p0 p1 p2 0))],[])) (br (G2 p0 p1 p2) (br (ieq (Qd a1) 0) (some (.tu [(.t tI 0),(.t .bool true),(.t tI 0)],[])) (br (cIx a1 a2) (br (ieq a3 40001) (some (.tu [(.t tI 0),(.t .bool false),(.t tI 0)],[])) (br (cIx a1 a2) (some (.tu [(.t tI a3),(.t .bool true),(.t tI 0)],[])) none)) none)) none)) none
theorem QlU {f:Int->Bool}: ∀ (l:List Int) (out:List Keep),(UO f l out).length<=out.length+l.length
 | [],out=>by simp [UO]
 | [a],out=>by simp [UO]
 |a::b::r,out=>by
  have h:=QlU (f:=f) (b::r) (if f a then UN out a b else out)
  have h2:=QlQ out a b
  simp only [UO,Bp] at h ⊢
  split at h<;>simp_all<;>omega
theorem QwW (y:Policy)(u:Keep)(p:Int):(Y3 y u p).length<=2*y.1.length+2:=by
 have:=QlU (f:=Y0 y u p) (Xu y.1) []
 have:=QlR y.1
 unfold Y3
 simp at*
 omega
theorem s_f149 (y:Policy)(u:Keep)(p:Int)(h:G2 y u p=true):QlT y u p=some (.tu [.t tI (XP y u p).1,.t .bool (XP y u p).2.1,.t tI (XP y u p).2.2],[]):=by
 have h4:U7 y u p 0=true:=h
 have h5:JG y=true:=h
 simp only [JG,Q2,Bc,Ba] at h5
 have hl:=QwW y u p
 simp only [QlT,h,h4,Qg,XP,Qvv,Gm]
 by_cases h0:Z9 y u p 0=0
 ·simp only [h0,ne_eq,not_true_eq_false,BV,Ql,if_true]
  generalize Y3 y u p=z at*
  rcases List.eq_nil_or_concat z with rfl|⟨l,s,rfl⟩
  ·rfl
  ·rw [List.concat_eq_append] at*
   have e1:QD .i64 (Qd (l++[s])) 1=(l.length:Int):=by
    have:Qd (l++[s])=(l.length:Int)+1:=by simp [Qd]
    rw [this,Ze (by rw [Bm,Bl] at hl;omega)]
    omega
   have h2:l.length<(l++[s]).length:=by simp
   have e2:ieq (Qd (l++[s])) 0=false:=by simp only [Zy,Qd,Bm,Bl,Bo];omega
   have e4:lgt Qk (l++[s]) l.length=s:=by rw [QP (y:=Qk) h2];simp
   rw [e1,e2,List.getLast?_concat]
   simp only [Ql,QM,h2,Bx,Qg,Bd,e4,Zy]
   by_cases hs:s.2.1=40001<;>simp [hs,Qg,Ql]
 ·simp [h0,Qg]
def QlV:Ent:=Qn (.pr QF (.pr Qk (.pr tI .nil))) (fun x=>(G2 x.1 x.2.1 x.2.2.1)) (fun x=>(.tu [(.t tI ((XP x.1 x.2.1 x.2.2.1).1)),(.t .bool (((XP x.1 x.2.1 x.2.2.1).2).1)),(.t tI (((XP x.1 x.2.1 x.2.2.1).2).2))]))
theorem QwX:EM 149 QlV:=mS g_f149 QwV [((.t 6),some tI),((.t 7),some .bool),((.t 8),some tI)] false (gB (gD QtJ (gD QwU gN))) fun m=>Qt m fun x hok=>kT (s_f149 x.1 x.2.1 x.2.2.1 hok)
end Go.Proofs.YthlcobdnemhcdaaGreat.K
noncomputable section
namespace Go.Proofs.YthlcobdnemhcdaaGreat.K
open Go.RowKit
abbrev charB:Int->Bool:=Xd
abbrev namedF:ByteArray->Bool:=Jv
abbrev QvA:ByteArray->Bool:=Jk
theorem QHs {s:ByteArray}(h:namedF s=true):s.size<=32:=by
 have h:((QU s).all charB&&decide (1<=s.size/\s.size<=32))=true:=h
 simp only [Bc,Ba] at h
 exact h.2.2
def ZI (x:LinkX):Int×Bool:=(imx x.1 x.2.1,x.2.2.1)
def QHt:TC:=aF Tryz.f328 [(6,pD [(0,[1]),(1,[1]),(2,[1]),(3,[1]),(4,[]),(5,[1]),(6,[1]),(7,[]),(8,[])] (.of [0,1,2,3,4,5,6,7,8]))]
def g_f328:G:=gG 11 [] (fun _ _=>none)
def r_f328 (p0:LinkX):OV:=some (.tu [(.t tI (imx p0.1 p0.2.1)),(.t .bool p0.2.2.1)],[])
theorem s_f328 (x:LinkX):r_f328 x=some (.tu [.t tI (ZI x).1,.t .bool (ZI x).2],[]):=rfl
def QkV:Ent:=Qn (.pr Je .nil) (fun x=>true) (fun x=>(.tu [(.t tI ((ZI x.1).1)),(.t .bool ((ZI x.1).2))]))
theorem QvB:EM 328 QkV:=mS g_f328 QHt [((.t 2),some tI),((.t 3),some .bool)] false (gB gN) fun m=>Qt m fun x _=>kT (s_f328 x.1)
def Gk (s:Int×Bool)(x:LinkX):Int×Bool:=if (ZI x).2&&(!s.2||ilt (ZI x).1 s.1) then ((ZI x).1,true) else s
def Uu (l:List LinkX):Int×Bool:=l.foldl Gk (0,false)
abbrev Qd5:Sh:=⟨[(4,.ty tI),(5,.ty .bool),(10,.ty (.sl Je)),(11,.ty tI),(12,.ty tI)],[]⟩
abbrev QvC:Sh:=⟨[(4,.ty tI),(5,.ty .bool)],[]⟩
def QkW:Fg:=Qd5.f
def Qd6:TC:=aF Tryz.f330 [(58,pL 0 QkW),(933,.fg QvC.f)]
def QvD:TC:=lb 0 Qd6
def QvE:List (RV×Option Ty):=[((.t 2),some tI),((.t 3),some .bool)]
def QvF (x4:Int)(x5:Bool)(x10:List LinkX)(x11 x12:Int):VS:=Qd5.st (x4,x5,x10,x11,x12,()) ()
def QkX (x4:Int)(x5:Bool):VS:=QvC.st (x4,x5,()) ()
def QHu:VS->Option (Bool×List (Bool×Exit×VS)):=mkL Qd5 (fun x y=>(Qy x.2.2.1 x.2.2.2.1 x.2.2.2.2.1)) (fun x y=>[(true,.exit 0,QkX (((x.2.2.1.drop x.2.2.2.2.1.toNat).foldl Gk (x.1,x.2.1)).1) (((x.2.2.1.drop x.2.2.2.2.1.toNat).foldl Gk (x.1,x.2.1)).2))])
def EU:G:=gG 35 [(328,QkV)] (Ls [QHu])
def Qd7 (x4:Int)(x5:Bool)(x10:List LinkX)(x11 x12:Int):OX:=Qx (Qz EU QkW QvD) (QvF x4 x5 x10 x11 x12)
def Vf (kk:Int->Bool->List LinkX->Int->Int->OX)(x4:Int)(x5:Bool)(x10:List LinkX)(x11 x12:Int):OX:=
 let a1:=ZI (lgt Je x10 (Int.toNat x12))
 let a2:=Qi .i64 x12 1
 br (ilt x12 x11) (br (cIx x10 x12) (br (a1.2) (br (!x5) (kk (a1.1) true x10 x11 a2) (br (ilt (a1.1) x4) (kk (a1.1) true x10 x11 a2) (kk x4 x5 x10 x11 a2))) (kk x4 x5 x10 x11 a2)) none) (some (.exit 0,QkX x4 x5))
def EV (x4:Int)(x5:Bool)(x10:List LinkX)(x11 x12:Int):OX:=
 let a1:=((x10.drop x12.toNat).foldl Gk (x4,x5))
 some (.exit 0,QkX (a1.1) (a1.2))
theorem QvG (x4:Int)(x5:Bool)(x10:List LinkX)(x11 x12:Int):Qd7 x4 x5 x10 x11 x12=Vf Qd7 x4 x5 x10 x11 x12:=lnT (x:=Vf (fun x4 x5 x10 x11 x12=>some (.normal,QvF x4 x5 x10 x11 x12)) x4 x5 x10 x11 x12) (by simp only [Vf,nxA];rfl)
def QkY (p0:List LinkX):OV:=
 let a1:=(p0.drop (0:Int).toNat)
 let a2:=(a1.foldl Gk ((0:Int),false))
 br (Qy p0 (Qd p0) (0:Int)) (some (.tu [(.t tI (a2.1)),(.t .bool (a2.2))],[])) none
theorem e_f330 (p0:List LinkX):QK EU Qd6 QvE false [.t (.sl Je) p0] []=QkY p0:=by kernel_rfl
theorem QHv:GOk Tryz.prog EU:=Jg _ (gA (gD QvB gN))
theorem QHw (x4:Int)(x5:Bool)(x10:List LinkX)(x11 x12:Int)(h:(Qy x10 x11 x12)=true):Qd7 x4 x5 x10 x11 x12=EV x4 x5 x10 x11 x12:=by
 obtain ⟨rfl,h3,k,rfl,hk⟩:=JE h
 clear h
 revert x4 x5
 refine QX x10 (fun k=> ∀ (x4:Int) (x5:Bool),Qd7 x4 x5 x10 (x10.length:Int) (k:Int)=EV x4 x5 x10 (x10.length:Int) (k:Int)) ?_ ?_ k hk
 ·intro x4 x5
  rw [QvG]
  simp [Vf,EV,QA,Ql]
 ·intro k hk ih x4 x5
  rw [QvG]
  simp only [Vf,QA,QM,hk,Bx,Qg,Bd,QW (show k<4611686018427387904 by omega),QP (y:=Je) hk,ih]
  have el:EV x4 x5 x10 (x10.length:Int) (k:Int)=EV (Gk (x4,x5) x10[k]).1 (Gk (x4,x5) x10[k]).2 x10 (x10.length:Int) ((k+1:Nat):Int):=by
   simp only [EV,Bd,Bj hk,DH]
  rw [el]
  unfold Gk
  cases hg:(ZI x10[k]).2<;>cases x5<;>cases hi:ilt (ZI x10[k]).1 x4<;>rfl
theorem QHx:LO EU QkW QvD 0:=QI (s:=Qd5) fun x y h _ q=>by simp only [QG,QH] at q;exact (QHw x.1 x.2.1 x.2.2.1 x.2.2.2.1 x.2.2.2.2.1 h).trans q
theorem QHy:Qd6.lok EU:=by
 repeat (first|exact trivial|exact QHx|refine ⟨?_, ?_⟩)
theorem s_f330 (l:List LinkX)(h:Q2 l=true):QkY l=some (.tu [.t tI (Uu l).1,.t .bool (Uu l).2],[]):=by
 simp only [Q2,Ba] at h
 simp only [QkY,JF h,Qg,BE,BL]
 rfl
def QvH:Ent:=Qn (.pr (.sl Je) .nil) (fun x=>(Q2 x.1)) (fun x=>(.tu [(.t tI ((Uu x.1).1)),(.t .bool ((Uu x.1).2))]))
theorem QHz:Qp Tryz.prog 330 (Qr QvH):=Qt (R:=QK EU Qd6 QvE false) (mG Tryz.func330 (by kernel_rfl) Tryz.ntmps330 (by kernel_rfl) QHv QHy) fun x hok=>(e_f330 x.1).trans (s_f330 x.1 hok)
def Qd8 (_:List LinkX):Bool:=false
def QkZ:TC:=aF Tryz.f331 []
def QvI:List (RV×Option Ty):=[((.t 2),some .bool)]
def Qd9:G:=gG 3 [] (fun _ _=>none)
def QvJ (p0:List LinkX):OV:=some (.t .bool false,[])
theorem e_f331 (p0:List LinkX):QK Qd9 QkZ QvI false [.t (.sl Je) p0] []=QvJ p0:=by kernel_rfl
theorem QHA:GOk Tryz.prog Qd9:=Jg _ (fun p hp=>by cases hp)
theorem QHB:QkZ.lok Qd9:=by repeat (first|exact trivial|refine ⟨?_, ?_⟩)
theorem s_f331 (l:List LinkX):QvJ l=some (.t .bool (Qd8 l),[]):=rfl
def QvK:Ent:=Qn (.pr (.sl Je) .nil) (fun x=>true) (fun x=>(.t .bool (Qd8 x.1)))
theorem QHC:Qp Tryz.prog 331 (Qr QvK):=Qt (R:=QK Qd9 QkZ QvI false) (mG Tryz.func331 (by kernel_rfl) Tryz.ntmps331 (by kernel_rfl) QHA QHB) fun x _=>(e_f331 x.1).trans (s_f331 x.1)
def Fi (a:LinkX):List LinkX->Nat
 | []=>0
 |x::r=>if !a.2.2.1||ilt x.1 a.2.1 then Fi x r+1 else 0
def Gl:List LinkX->Nat
 | []=>0
 |a::r=>Fi a r
def YR (l:List LinkX):Int:=1+(Gl l:Int)
abbrev Qea:Sh:=⟨[(0,.ty (.sl Je)),(3,.ty tI)],[]⟩
abbrev QvL:Sh:=⟨[(3,.ty tI)],[]⟩
def Qk0:Fg:=Qea.f
def QvM:TC:=aF Tryz.f332 [(28,pL 0 Qk0),(224,pD [(0,[]),(1,[]),(2,[]),(3,[]),(4,[]),(5,[]),(6,[]),(7,[]),(8,[]),(9,[]),(10,[]),(11,[]),(12,[]),(13,[]),(14,[]),(15,[]),(16,[]),(17,[]),(18,[]),(19,[]),(20,[]),(21,[]),(22,[]),(23,[]),(24,[]),(25,[]),(26,[])] (.of [0,1,2,3,4,5,6,7,8,9,10,11,12,13,14,15,16,17,18,19,20,21,22,23,24,25,26])),(451,.fg QvL.f)]
def QvN:TC:=lb 0 QvM
def QvO (x0:List LinkX)(x3:Int):VS:=Qea.st (x0,x3,()) ()
def Vg (x3:Int):VS:=QvL.st (x3,()) ()
def QHD:VS->Option (Bool×List (Bool×Exit×VS)):=mkL Qea (fun x y=>(decide (1<=x.2.1/\x.2.1<=x.1.length+1/\x.1.length<=100000))) (fun x y=>[(true,.exit 0,Vg (x.2.1+(Gl (x.1.drop (x.2.1-1).toNat):Int)))])
def Qk1:G:=gG 34 [] (Ls [QHD])
def Qeb (x0:List LinkX)(x3:Int):OX:=Qx (Qz Qk1 Qk0 QvN) (QvO x0 x3)
def EW (kk:List LinkX->Int->OX)(x0:List LinkX)(x3:Int):OX:=
 let a1:=((lgt Je x0 (Int.toNat (QD .i64 x3 1))).2)
 let a2:=cIx x0 (QD .i64 x3 1)
 br (ilt x3 (Qd x0)) (br a2 (br (!((a1.2).1)) (kk x0 (Qi .i64 x3 1)) (br (cIx x0 x3) (br a2 (br (ilt ((lgt Je x0 (Int.toNat x3)).1) (a1.1)) (kk x0 (Qi .i64 x3 1)) (some (.exit 0,Vg x3))) none) none)) none) (some (.exit 0,Vg x3))
def Fj (x0:List LinkX)(x3:Int):OX:=some (.exit 0,Vg (x3+(Gl (x0.drop (x3-1).toNat):Int)))
theorem QvP (x0:List LinkX)(x3:Int):Qeb x0 x3=EW Qeb x0 x3:=lnT (x:=EW (fun x0 x3=>some (.normal,QvO x0 x3)) x0 x3) (by simp only [EW,nxA];rfl)
def QvQ (p0:List LinkX):OV:=br (decide (1<=(1:Int)/\(1:Int)<=p0.length+1/\p0.length<=100000)) (some (.t tI ((1:Int)+(Gl (p0.drop ((1:Int)-1).toNat):Int)),[])) none
theorem QHE (x0:List LinkX)(x3:Int)(h:(decide (1<=x3/\x3<=x0.length+1/\x0.length<=100000))=true):Qeb x0 x3=Fj x0 x3:=by
 simp only [Ba] at h
 obtain ⟨h1,h2,h3⟩:=h
 obtain ⟨k,hk⟩: ∃ k:Nat,x3=(k:Int)+1:=⟨(x3-1).toNat,by omega⟩
 subst hk
 refine Qd3 x0.length (fun k=>Qeb x0 ((k:Int)+1)=Fj x0 ((k:Int)+1)) ?_ ?_ k (by omega)
 ·rw [QvP]
  have e1:ilt ((x0.length:Int)+1) (Qd x0)=false:=by simp only [ilt,Qd,Bo];omega
  have e2:((x0.length:Int)+1-1).toNat=x0.length:=by omega
  simp [EW,Fj,e1,Ql,Gl]
 ·intro k hk ih
  rw [QvP]
  have e2:((k:Int)+1-1).toNat=k:=by omega
  have e3:QD .i64 ((k:Int)+1) 1=(k:Int):=by rw [Ze (by omega)];omega
  have e4:Qi .i64 ((k:Int)+1) 1=((k+1:Nat):Int)+1:=by rw [JL (by omega)];omega
  have e5:((((k+1:Nat):Int))+1-1).toNat=k+1:=by omega
  have e6:(k:Int)+1=((k+1:Nat):Int):=by omega
  by_cases hk2:k+1<x0.length
  ·have e1:ilt ((k:Int)+1) (Qd x0)=true:=by simp only [ilt,Qd,Ba];omega
   simp only [EW,e1,e3,e4,Qg,QM,hk,Bx,Bd,QP (y:=Je) hk,ih]
   rw [e6]
   simp only [QM,hk2,Bx,Qg,Bd,QP (y:=Je) hk2]
   have el:Fj x0 ((k+1:Nat):Int)=if !x0[k].2.2.1||ilt x0[k+1].1 x0[k].2.1 then Fj x0 (((k+1:Nat):Int)+1) else some (.exit 0,Vg ((k+1:Nat):Int)):=by
    have e7:(((k+1:Nat):Int)-1).toNat=k:=by omega
    simp only [Fj,e5,e7,Bj hk,Bj hk2,Gl,Fi]
    split
    ·congr 3
     omega
    ·simp
   rw [el]
   cases x0[k].2.2.1<;>cases ilt x0[k+1].1 x0[k].2.1<;>rfl
  ·have e1:ilt ((k:Int)+1) (Qd x0)=false:=by simp only [ilt,Qd,Bo];omega
   have e7:x0.drop (k+1)=[]:=DA (by omega)
   simp only [EW,e1,Ql,Fj,e2,Bj hk,e7,Gl,Fi]
   simp
theorem QHF:LO Qk1 Qk0 QvN 0:=QI (s:=Qea) fun x y h _ q=>by simp only [QG,QH] at q;exact (QHE x.1 x.2.1 h).trans q
theorem s_f332 (l:List LinkX)(h:Q2 l=true):QvQ l=some (.t tI (YR l),[]):=by
 simp only [Q2,Ba] at h
 simp only [QvQ]
 rw [Us ⟨Dp 1,by omega,h⟩,Qg]
 rfl
def Qk2:Ent:=Qn (.pr (.sl Je) .nil) (fun x=>(Q2 x.1)) (fun x=>(.t tI (YR x.1)))
theorem QvR:EM 332 Qk2:=mS (lk:=lkL (lkc QHF lkn)) Qk1 QvM [((.t 2),some tI)] false (gB gN) fun m=>Qt m fun x hok=>kT (s_f332 x.1 hok)
theorem QvS (a:LinkX): ∀ l:List LinkX,Fi a l<=l.length
 | []=>by simp [Fi]
 |x::r=>by
  have:=QvS x r
  unfold Fi
  split<;>simp<;>omega
theorem QHG {l:List LinkX}(h:l≠[]):1<=YR l/\YR l<=l.length:=by
 cases l with
 |nil=>exact absurd rfl h
 |cons a l=>
  have:=QvS a l
  simp only [YR,Gl,Bp]
  omega
def EX (l:List LinkX):LinkX:=l.getD (YR l-1).toNat Je.zero
def ZJ (l:List LinkX):Int×Bool:=if (ZI (EX l)).2 then ((ZI (EX l)).1,true) else (0,false)
def Fk (l:List LinkX):Bool:=Q2 l&& !l.isEmpty
def Qk3:TC:=aF Tryz.f333 []
def QvT:List (RV×Option Ty):=[((.t 2),some tI),((.t 3),some .bool)]
def Qec:G:=gG 19 [(328,QkV),(332,Qk2)] (fun _ _=>none)
def Qk4 (p0:List LinkX):OV:=
 let a1:=ZI (lgt Je p0 (Int.toNat (QD .i64 (YR p0) 1)))
 br (Q2 p0) (br (cIx p0 (QD .i64 (YR p0) 1)) (br (!(a1.2)) (some (.tu [(.t tI 0),(.t .bool false)],[])) (some (.tu [(.t tI (a1.1)),(.t .bool true)],[]))) none) none
theorem e_f333 (p0:List LinkX):QK Qec Qk3 QvT false [.t (.sl Je) p0] []=Qk4 p0:=by kernel_rfl
theorem QHH:GOk Tryz.prog Qec:=Jg _ (gA (gD QvB (gD QvR gN)))
theorem QHI:Qk3.lok Qec:=by repeat (first|exact trivial|refine ⟨?_, ?_⟩)
theorem s_f333 (l:List LinkX)(h:Fk l=true):Qk4 l=some (.tu [.t tI (ZJ l).1,.t .bool (ZJ l).2],[]):=by
 simp only [Fk,Bc] at h
 have hn:l≠[]:=by
  intro e
  rw [e] at h
  simp at h
 have hc:=QHG hn
 have hl:=h.1
 simp only [Q2,Ba] at hl
 have e1:QD .i64 (YR l) 1=YR l-1:=Ze (by omega)
 have e2:cIx l (YR l-1)=true:=by simp only [cIx,Ba];omega
 simp only [Qk4,h.1,e1,e2,Qg,lgt]
 show br (!(ZI (EX l)).2) (some (V.tu [.t tI 0,.t .bool false],[])) (some (V.tu [.t tI (ZI (EX l)).1,.t .bool true],[]))=_
 unfold ZJ
 by_cases hg:(ZI (EX l)).2=true
 ·rw [if_pos hg,hg]
  rfl
 ·rw [if_neg hg,show (ZI (EX l)).2=false by simpa using hg]
  rfl
def QvU:Ent:=Qn (.pr (.sl Je) .nil) (fun x=>(Fk x.1)) (fun x=>(.tu [(.t tI ((ZJ x.1).1)),(.t .bool ((ZJ x.1).2))]))
theorem QHJ:Qp Tryz.prog 333 (Qr QvU):=Qt (R:=QK Qec Qk3 QvT false) (mG Tryz.func333 (by kernel_rfl) Tryz.ntmps333 (by kernel_rfl) QHH QHI) fun x hok=>(e_f333 x.1).trans (s_f333 x.1 hok)
def Fl (l:List LinkX):Bool:=ieq (YR l) (Qd l)
def Qk5:TC:=aF Tryz.f334 []
def QvV:List (RV×Option Ty):=[((.t 2),some .bool)]
def Qed:G:=gG 8 [(332,Qk2)] (fun _ _=>none)
def Qk6 (p0:List LinkX):OV:=br (Q2 p0) (some (.t .bool (ieq (YR p0) (Qd p0)),[])) none
theorem e_f334 (p0:List LinkX):QK Qed Qk5 QvV false [.t (.sl Je) p0] []=Qk6 p0:=by kernel_rfl
theorem QHK:GOk Tryz.prog Qed:=Jg _ (gA (gD QvR gN))
theorem QHL:Qk5.lok Qed:=by repeat (first|exact trivial|refine ⟨?_, ?_⟩)
theorem s_f334 (l:List LinkX)(h:Q2 l=true):Qk6 l=some (.t .bool (Fl l),[]):=by
 simp only [Qk6,h,Qg,Fl]
def QvW:Ent:=Qn (.pr (.sl Je) .nil) (fun x=>(Q2 x.1)) (fun x=>(.t .bool (Fl x.1)))
theorem QHM:Qp Tryz.prog 334 (Qr QvW):=Qt (R:=QK Qed Qk5 QvV false) (mG Tryz.func334 (by kernel_rfl) Tryz.ntmps334 (by kernel_rfl) QHK QHL) fun x hok=>(e_f334 x.1).trans (s_f334 x.1 hok)
def QvX:Ent:=spI 216
theorem QHN:QV Tryz.prog 1003459:= .inl (by kernel_rfl)
theorem QHO:Qp Tryz.prog 1003459 (Qr QvX):=Qo2 (t:=216) (e:=215) (by kernel_rfl) (by decide)
def QvY:Ent:=spI 217
theorem QHP:QV Tryz.prog 1003475:= .inl (by kernel_rfl)
theorem QHQ:Qp Tryz.prog 1003475 (Qr QvY):=Qo2 (t:=217) (e:=215) (by kernel_rfl) (by decide)
def Qk7:Ent:=spM 216 QvH
theorem QvZ:QV Tryz.prog 1000031:= .inl (by kernel_rfl)
theorem Qv0:Qp Tryz.prog 1000031 (Qr Qk7):=QaR (t:=216) (i:=1) (fn:=330) (name:=U9.getD 1 "") (by kernel_rfl) (fun v w=>by kernel_rfl) ⟨_,Tryz.func330,by kernel_rfl,by kernel_rfl⟩ (by decide) QHz
def Qv1:Ent:=spM 216 QvK
theorem QHR:QV Tryz.prog 1000047:= .inl (by kernel_rfl)
theorem QHS:Qp Tryz.prog 1000047 (Qr Qv1):=QaR (t:=216) (i:=2) (fn:=331) (name:=U9.getD 2 "") (by kernel_rfl) (fun v w=>by kernel_rfl) ⟨_,Tryz.func331,by kernel_rfl,by kernel_rfl⟩ (by decide) QHC
def Qk8:Ent:=spM 217 QvU
theorem Qv2:QV Tryz.prog 1000031:= .inl (by kernel_rfl)
theorem Qv3:Qp Tryz.prog 1000031 (Qr Qk8):=QaR (t:=217) (i:=1) (fn:=333) (name:=U9.getD 1 "") (by kernel_rfl) (fun v w=>by kernel_rfl) ⟨_,Tryz.func333,by kernel_rfl,by kernel_rfl⟩ (by decide) QHJ
def Qv4:Ent:=spM 217 QvW
theorem QHT:QV Tryz.prog 1000047:= .inl (by kernel_rfl)
theorem QHU:Qp Tryz.prog 1000047 (Qr Qv4):=QaR (t:=217) (i:=2) (fn:=334) (name:=U9.getD 2 "") (by kernel_rfl) (fun v w=>by kernel_rfl) ⟨_,Tryz.func334,by kernel_rfl,by kernel_rfl⟩ (by decide) QHM
end Go.Proofs.YthlcobdnemhcdaaGreat.K
noncomputable section
namespace Go.Proofs.YthlcobdnemhcdaaGreat.K
open Go.RowKit
def QpE (y:Policy):Bool:=decide (y.1.length<=10000)
theorem QAs {y:Policy}(h:Yq y=true):y.1.length<=60/\y.2.1.length<=60:=by
 simp only [Yq,Bc,Ba] at h
 exact h.2
theorem QpF {y:Policy}(h:Yq y=true):JG y=true/\QpE y=true:=by
 have:=QAs h
 simp only [JG,QpE,Q2,Bc,Ba]
 omega
end Go.Proofs.YthlcobdnemhcdaaGreat.K
noncomputable section
namespace Go.Proofs.YthlcobdnemhcdaaGreat.K
open Go.RowKit
end Go.Proofs.YthlcobdnemhcdaaGreat.K
noncomputable section
namespace Go.Proofs.YthlcobdnemhcdaaGreat.K
open Go.RowKit
end Go.Proofs.YthlcobdnemhcdaaGreat.K
noncomputable section
namespace Go.Proofs.YthlcobdnemhcdaaGreat.K
open Go.RowKit
def lkF (y:Policy)(p:Int)(x:Link):LinkX:=(x.2.1,((Gm (Y3 y x.1 p)).1,((Gm (Y3 y x.1 p)).2,())))
def J8 (y:Policy)(i:Item):List LinkX:=i.2.2.2.1.map (lkF y i.2.2.1)
def JX (y:Policy)(i:Item):Bool:=Yq y&&ZA i
def ofA (y:Policy)(i:Item):List LinkX×Int:=(J8 y i,0)
def ofE (y:Policy)(_i:Item):Int:=if Yq y then 30 else 25
def Xe (y:Policy)(i:Item):Bool:=JX y i&&ieq i.2.1 1
def Wq (y:Policy)(i:Item):Bool:=JX y i&&ieq i.2.1 2
def U8 (y:Policy)(i:Item):Bool:=JG y&&QvA i.1&& !JX y i
theorem QtT: ∀ {l:List Link} {pv:Option Int},Xn pv l=true→ ∀ x,x∈l->Jq x.1=true/\0<=x.2.1/\x.2.1<=40000
 | [],_,_,_,hx=>by cases hx
 |a::l,pv,h,x,hx=>by
  rw [QgE,Bc,Bc,Bc,Ba] at h
  rcases BJ.1 hx with rfl|hx
  ·exact ⟨h.1.1.1,h.1.1.2⟩
  ·exact QtT h.2 x hx
theorem QFf {y:Policy}{u:Keep}{p:Int}(hp:Yq y=true)(hv:Jq u=true)(h1:1<=p)(h2:p<=4):XP y u p=((Gm (Y3 y u p)).1,(Gm (Y3 y u p)).2,0):=by
 have ee:Z9 y u p 0=0:=by
  unfold Z9
  rw [hp,hv]
  simp only [Bool.true_eq_false,Df]
  rw [if_neg (by omega)]
 unfold XP
 rw [if_pos ee]
abbrev Qc6:Sh:=⟨[(2,.ptr 2 0),(3,.ptr 3 0),(8,.ms 8),(25,.ty (.sl Q6)),(26,.ty tI),(27,.ty tI)],[(2,.box QF),(3,.box Qq),(8,.arr 215 Je),(51,.no)]⟩
abbrev QtU:Sh:=⟨[(4,.ni),(5,.ty tI)],[]⟩
abbrev QtV:Sh:=⟨[(3,.ptr 3 0),(8,.ms 8)],[(3,.box Qq),(8,.arr 215 Je),(51,.no)]⟩
def Qjx:Fg:=Qc6.f
def Qc7:TC:=aF Tryz.f91 [(250,.nw 8 215),(250,pL 0 Qjx),(4005,.fg QtV.f),(512821,.fg QtU.f)]
def QtW:TC:=lb 0 Qc7
def QtX:List (RV×Option Ty):=[((.t 4),none),((.t 5),some tI)]
def QtY (x25:List Link)(x26 x27:Int)(y2:Policy)(y3:Item)(y8:List LinkX):VS:=Qc6.st ((),(),(),x25,x26,x27,()) (y2,y3,y8,(),())
def Qjy (x5:Int):VS:=QtU.st ((),x5,()) ()
def Qjz (y3:Item)(y8:List LinkX):VS:=QtV.st ((),(),()) (y3,y8,(),())
def QFg:VS->Option (Bool×List (Bool×Exit×VS)):=mkL Qc6 (fun x y=>(JX y.1 y.2.1&&(x.2.2.2.1==y.2.1.2.2.2.1)&&Qy x.2.2.2.1 x.2.2.2.2.1 x.2.2.2.2.2.1&&decide ((y.2.2.1.length:Int)<=x.2.2.2.2.2.1))) (fun x y=>[((false),.ret,Qjy (0)),(true,.exit 0,Qjz (y.2.1) (y.2.2.1++(x.2.2.2.1.drop x.2.2.2.2.2.1.toNat).map (lkF y.1 y.2.1.2.2.1)))])
def Ez:G:=gG 60 [(90,Qcj),(122,QgI),(149,QlV),(1003459,QvX),(1003475,QvY)] (Ls [QFg])
def Qc8 (x25:List Link)(x26 x27:Int)(y2:Policy)(y3:Item)(y8:List LinkX):OX:=Qx (Qz Ez Qjx QtW) (QtY x25 x26 x27 y2 y3 y8)
def OM (kk:List Link->Int->Int->Policy->Item->List LinkX->OX)(x25:List Link)(x26 x27:Int)(y2:Policy)(y3:Item)(y8:List LinkX):OX:=
 let a1:=XP y2 ((lgt Q6 x25 (Int.toNat x27)).1) y3.2.2.1
 let a2:=(((lgt Q6 x25 (Int.toNat x27)).2).1,(a1.1,((a1.2).1,())))
 br (ilt x27 x26) (br (cIx x25 x27) (br (G2 y2 ((lgt Q6 x25 (Int.toNat x27)).1) y3.2.2.1) (br (ine ((a1.2).2) 0) (some (.ret,Qjy ((a1.2).2))) (br (Qw y8 ([a2]) 24) (kk x25 x26 (Qi .i64 x27 1) y2 y3 (y8++([a2]))) none)) none) none) (some (.exit 0,Qjz y3 y8))
def Qc9 (x25:List Link)(x26 x27:Int)(y2:Policy)(y3:Item)(y8:List LinkX):OX:=br (false) (some (.ret,Qjy (0)))<|some (.exit 0,Qjz (y3) (y8++(x25.drop x27.toNat).map (lkF y2 y3.2.2.1)))
theorem QtZ (x25:List Link)(x26 x27:Int)(y2:Policy)(y3:Item)(y8:List LinkX):Qc8 x25 x26 x27 y2 y3 y8=OM Qc8 x25 x26 x27 y2 y3 y8:=lnT (x:=OM (fun x25 x26 x27 y2 y3 y8=>some (.normal,QtY x25 x26 x27 y2 y3 y8)) x25 x26 x27 y2 y3 y8) (by simp only [OM,nxA];rfl)
def G3 (p0:Policy)(p1:Item):OV:=
 let a1:=(p1.2.2.2.1.drop (0:Int).toNat)
 br (JG p0) (br (ine (Z7 p0) 0) (some (.tu [(.c .nilIface),(.t tI (Z7 p0))],[])) (br (Yh p1) (br (ine (Yz p1) 0) (some (.tu [(.c .nilIface),(.t tI (Yz p1))],[])) (br (JX p0 p1&&(p1.2.2.2.1==p1.2.2.2.1)&&Qy p1.2.2.2.1 (Qd p1.2.2.2.1) (0:Int)&&decide ((([]:List LinkX).length:Int)<=(0:Int))) (br (false) (some (.tu [(.c .nilIface),(.t tI (0))],[])) (br (ieq (((p1).2).1) 1) (some (.tu [(.ifc 216 (.t (.sl Je) (([]:List LinkX)++a1.map (lkF p0 p1.2.2.1)))),(.t tI 0)],[])) (some (.tu [(.ifc 217 (.t (.sl Je) (([]:List LinkX)++a1.map (lkF p0 p1.2.2.1)))),(.t tI 0)],[])))) none)) none)) none
theorem QjA (p0:Policy)(p1:Item):QK Ez Qc7 QtX false [.t QF p0,.t Qq p1] []=G3 p0 p1:=by kernel_rfl
theorem QjB:QV Tryz.prog 91:= .inr ⟨by decide,_,Tryz.func91,by kernel_rfl,by kernel_rfl⟩
theorem gk_f91:GOk Tryz.prog Ez:=Jg _ (gA (gD QiC (gD Qow (gD QwX (gC QHN QHO (gC QHP QHQ gN))))))
theorem QFh (x25:List Link)(x26 x27:Int)(y2:Policy)(y3:Item)(y8:List LinkX)(h:(JX y2 y3&&(x25==y3.2.2.2.1)&&Qy x25 x26 x27&&decide ((y8.length:Int)<=x27))=true):Qc8 x25 x26 x27 y2 y3 y8=Qc9 x25 x26 x27 y2 y3 y8:=by
 simp only [Bc,De,Ba] at h
 obtain ⟨⟨⟨hf,hx⟩,h0⟩,h4⟩:=h
 obtain ⟨rfl,h3,k,rfl,hk⟩:=JE h0
 clear h0
 simp only [JX,Bc] at hf
 have hi:=Zh.1 hf.2
 have hpl: ∀ u q,G2 y2 u q=true:=fun u q=>(QpF hf.1).1
 revert y8
 refine QX x25 (fun k=> ∀ y8:List LinkX,(y8.length:Int)<=(k:Int)->Qc8 x25 (x25.length:Int) (k:Int) y2 y3 y8=Qc9 x25 (x25.length:Int) (k:Int) y2 y3 y8) ?_ ?_ k hk
 ·intro y8 _
  rw [QtZ]
  simp [OM,Qc9,QA,Ql]
 ·intro k hk ih y8 hy
  rw [QtZ]
  have hv:=QtT hi.2.2.2.2.1 x25[k] (by rw [←hx];exact Bu hk)
  have ef:=QFf (u:=x25[k].1) (p:=y3.2.2.1) hf.1 hv.1 hi.2.2.1.1 hi.2.2.1.2
  simp only [OM,QA,QM,hk,Bx,Qg,Bd,QW (show k<4611686018427387904 by omega),QP (y:=Q6) hk,hpl,ef,show ine 0 0=false from rfl,Ql]
  rw [Gi (by simp;omega) (by omega),Qg,ih _ (by simp;omega)]
  simp only [Qc9,Bd,Bj hk,BF,BN,Ql]
  rfl
theorem QFi:LO Ez Qjx QtW 0:=QI (s:=Qc6) fun x y h _ q=>by simp only [QG,QH] at q;exact (QFh x.2.2.2.1 x.2.2.2.2.1 x.2.2.2.2.2.1 y.1 y.2.1 y.2.2.1 h).trans q
theorem lk_f91:Qc7.lok Ez:=by
 repeat (first|exact trivial|exact QFi|refine ⟨?_, ?_⟩)
theorem QjC:Qp Tryz.prog 91 (QK Ez Qc7 QtX false):=mG Tryz.func91 (by kernel_rfl) Tryz.ntmps91 (by kernel_rfl) gk_f91 lk_f91
theorem Qt0 {y:Policy}{i:Item}(h:JX y i=true):G3 y i=br (ieq i.2.1 1) (some (.tu [.ifc 216 (.t (.sl Je) (J8 y i)),.t tI 0],[])) (some (.tu [.ifc 217 (.t (.sl Je) (J8 y i)),.t tI 0],[])):=by
 have hf:=h
 simp only [JX,Bc] at hf
 have hi:=Zh.1 hf.2
 have hn:Yh i=true:=Be (by have:=QHs hi.1;omega)
 simp only [G3,(QpF hf.1).1,hn,Z7,hf.1,Yz,hf.2,if_true,show ine 0 0=false from rfl,Qg,Ql,h,beq_self_eq_true,By,JF (show i.2.2.2.1.length<=100000 by omega)]
 rw [Us (by simp),Qg]
 rfl
theorem s_f91A (y:Policy)(i:Item)(h:Xe y i=true):G3 y i=some (.tu [.ifc 216 (.t (.sl Je) (ofA y i).1),.t tI (ofA y i).2],[]):=by
 simp only [Xe,Bc] at h
 rw [Qt0 h.1,h.2]
 rfl
theorem s_f91B (y:Policy)(i:Item)(h:Wq y i=true):G3 y i=some (.tu [.ifc 217 (.t (.sl Je) (ofA y i).1),.t tI (ofA y i).2],[]):=by
 simp only [Wq,Bc] at h
 have h2:=h.2
 simp only [Zy,Ba] at h2
 rw [Qt0 h.1,h2]
 rfl
theorem s_f91E (y:Policy)(i:Item)(h:U8 y i=true):G3 y i=some (.tu [.c .nilIface,.t tI (ofE y i)],[]):=by
 simp only [U8,Bc,Bw,JX,Bool.and_eq_false_iff] at h
 have hn:Yh i=true:=h.1.2
 simp only [G3,h.1.1,hn,Z7,Yz,ofE,Qg]
 cases hp:Yq y with
 |false=>rfl
 |true=>
  have hq:ZA i=false:=h.2.resolve_left (by rw [hp];simp)
  simp only [hq,if_true,show ine 0 0=false from rfl,Ql]
  rfl
def Qda:Ent:=Qn (.pr QF (.pr Qq .nil)) (fun x=>(Xe x.1 x.2.1)) (fun x=>(.tu [(.ifc 216 (.t (.sl Je) ((ofA x.1 x.2.1).1))),(.t tI ((ofA x.1 x.2.1).2))]))
theorem QjD:QV Tryz.prog 91:=QjB
theorem QjE:Qp Tryz.prog 91 (Qr Qda):=Qt QjC fun x hok=>(QjA x.1 x.2.1).trans (s_f91A x.1 x.2.1 hok)
def Qdb:Ent:=Qn (.pr QF (.pr Qq .nil)) (fun x=>(Wq x.1 x.2.1)) (fun x=>(.tu [(.ifc 217 (.t (.sl Je) ((ofA x.1 x.2.1).1))),(.t tI ((ofA x.1 x.2.1).2))]))
theorem QjF:QV Tryz.prog 91:=QjB
theorem QjG:Qp Tryz.prog 91 (Qr Qdb):=Qt QjC fun x hok=>(QjA x.1 x.2.1).trans (s_f91B x.1 x.2.1 hok)
def Qdc:Ent:=Qn (.pr QF (.pr Qq .nil)) (fun x=>(U8 x.1 x.2.1)) (fun x=>(.tu [(.c .nilIface),(.t tI (ofE x.1 x.2.1))]))
theorem QjH:QV Tryz.prog 91:=QjB
theorem QjI:Qp Tryz.prog 91 (Qr Qdc):=Qt QjC fun x hok=>(QjA x.1 x.2.1).trans (s_f91E x.1 x.2.1 hok)
end Go.Proofs.YthlcobdnemhcdaaGreat.K
noncomputable section
namespace Go.Proofs.YthlcobdnemhcdaaGreat.K
open Go.RowKit
-- loop 0: (x2 : Int) (x3 : Int) (x9 : Int) (y4 : Policy) (y5 : Keep); out: ('ret',) (x8 : Int); ('exit', 0)
-- loop 0: (x0 : (List Int)) (x1 : Int) (x5 : Int); out: ('exit', 0) (x0 : (List Int)) (x1 : Int) (x5 : Int)
-- loop 0: (x3 : (List Int)) (x4 : Int) (y1 : Policy); out: ('exit', 0) (x3 : (List Int))
end Go.Proofs.YthlcobdnemhcdaaGreat.K
noncomputable section
namespace Go.Proofs.YthlcobdnemhcdaaGreat.K
open Go.RowKit Go.Shelf
attribute [local go_sem] Oper.semAt_some
end Go.Proofs.YthlcobdnemhcdaaGreat.K
noncomputable section
namespace Go.Proofs.YthlcobdnemhcdaaGreat.K
open Go.RowKit
end Go.Proofs.YthlcobdnemhcdaaGreat.K
noncomputable section
namespace Go.Proofs.YthlcobdnemhcdaaGreat.K
open Go.RowKit
end Go.Proofs.YthlcobdnemhcdaaGreat.K
noncomputable section
namespace Go.Proofs.YthlcobdnemhcdaaGreat.K
open Go.RowKit
def orO {α:Type}(a b:Option α):Option α:=match a with
 |some x=>some x
 |none=>b
theorem Qfs {RA RB RE:Fun}{a:List V}{o:List VO}{rA rB rE x:OV}(hA:RA a o=rA)(hB:RB a o=rB)(hE:RE a o=rE)(h:orO rA (orO rB rE)=x):orF RA (orF RB RE) a o=x:=by
 unfold orF
 rw [hA,hB,hE]
 cases rA<;>cases rB<;>exact h
def Ye (y:Policy)(i:Item):Bool:=JG y&&QvA i.1
theorem Qft {y:Policy}{i:Item}(h:Ye y i=true):(Xe y i=true/\i.2.1=1/\JX y i=true)∨(Xe y i=false/\Wq y i=true/\i.2.1=2/\JX y i=true)∨(Xe y i=false/\Wq y i=false/\U8 y i=true/\JX y i=false):=by
 cases hf:JX y i with
 |false=>exact .inr (.inr ⟨by simp [Xe,hf],by simp [Wq,hf],by rw [U8,hf];simpa [Ye] using h,rfl⟩)
 |true=>
  have hf2:=hf
  simp only [JX,Bc] at hf2
  have hk:=(Zh.1 hf2.2).2.1
  by_cases h1:i.2.1=1
  ·exact .inl ⟨by simp [Xe,hf,h1,ieq],h1,rfl⟩
  ·have h2:i.2.1=2:=by omega
   exact .inr (.inl ⟨by simp [Xe,h2,ieq],by simp [Wq,hf,h2,ieq],h2,rfl⟩)
theorem Qfu (y:Policy)(i:Item):ine (ofE y i) 0=true:=by
 unfold ofE
 split<;>rfl
theorem Ii {y:Policy}{i:Item}(h:JX y i=true):Q2 (J8 y i)=true/\Fk (J8 y i)=true/\cIx i.2.2.2.1 0=true/\QD .i64 (Qd i.2.2.2.1) 1=((i.2.2.2.1.length-1:Nat):Int)/\cIx i.2.2.2.1 ((i.2.2.2.1.length-1:Nat):Int)=true:=by
 simp only [JX,Bc] at h
 have hi:=(Zh.1 h.2).2.2.2.1
 have hl:(J8 y i).length=i.2.2.2.1.length:=by simp [J8]
 have h5:Q2 (J8 y i)=true:=Be (by omega)
 refine ⟨h5, ?_,by simp only [cIx,Ba];omega, ?_,by simp only [cIx,Ba];omega⟩
 ·rw [Fk,h5,By]
  cases hq:J8 y i with
  |nil=>rw [hq] at hl;simp at hl;omega
  |cons a l=>rfl
 ·rw [Ze (by unfold Qd;omega)]
  unfold Qd
  omega
def VX (y:Policy)(i:Item):Int×Bool:=if ieq i.2.1 1 then Uu (J8 y i) else ZJ (J8 y i)
def Yf (y:Policy)(i:Item):Int×Bool×Int:=if JX y i then ((VX y i).1,(VX y i).2,0) else (0,false,ofE y i)
def Qfv:TC:=(.sq (.reg (rT Tryz.f111 0)) (.sq (.reg (rT Tryz.f111 1)) (.sq (.sq (.reg (rT Tryz.f111 2)) (.cd (.t 18) (.sq (.reg (rT Tryz.f111 3)) .rt) .sk)) (.sq (.reg (rT Tryz.f111 4)) (.sq (.reg (rT Tryz.f111 5)) .rt)))))
def Qm5:List (RV×Option Ty):=[((.t 4),some tI),((.t 5),some .bool),((.t 6),some tI)]
def VY:G:=gG 27 [(91,Qda),(1000031,Qk7)] (fun _ _=>none)
def Ij (p0:Policy)(p1:Item):OV:=
 let a1:=((ofA p0 p1).1)
 br (Xe p0 p1) (br (ine ((ofA p0 p1).2) 0) (some (.tu [(.t tI 0),(.t .bool false),(.t tI ((ofA p0 p1).2))],[])) (br (Q2 a1) (some (.tu [(.t tI ((Uu a1).1)),(.t .bool ((Uu a1).2)),(.t tI 0)],[])) none)) none
theorem QxS (p0:Policy)(p1:Item):QK VY Qfv Qm5 false [.t QF p0,.t Qq p1] []=Ij p0 p1:=by kernel_rfl
theorem QxT:GOk Tryz.prog VY:=Jg _ (gA (gC QjD QjE (gC QvZ Qv0 gN)))
theorem QxU:Qfv.lok VY:=by repeat (first|exact trivial|refine ⟨?_, ?_⟩)
theorem QxV:Qp Tryz.prog 111 (QK VY Qfv Qm5 false):=mG Tryz.func111 (by kernel_rfl) Tryz.ntmps111 (by kernel_rfl) QxT QxU
def Qfw:TC:=(.sq (.reg (rT Tryz.f111 0)) (.sq (.reg (rT Tryz.f111 1)) (.sq (.sq (.reg (rT Tryz.f111 2)) (.cd (.t 18) (.sq (.reg (rT Tryz.f111 3)) .rt) .sk)) (.sq (.reg (rT Tryz.f111 4)) (.sq (.reg (rT Tryz.f111 5)) .rt)))))
def Qm6:List (RV×Option Ty):=[((.t 4),some tI),((.t 5),some .bool),((.t 6),some tI)]
def VZ:G:=gG 27 [(91,Qdb),(1000031,Qk8)] (fun _ _=>none)
def V0 (p0:Policy)(p1:Item):OV:=
 let a1:=((ofA p0 p1).1)
 br (Wq p0 p1) (br (ine ((ofA p0 p1).2) 0) (some (.tu [(.t tI 0),(.t .bool false),(.t tI ((ofA p0 p1).2))],[])) (br (Fk a1) (some (.tu [(.t tI ((ZJ a1).1)),(.t .bool ((ZJ a1).2)),(.t tI 0)],[])) none)) none
theorem QxW (p0:Policy)(p1:Item):QK VZ Qfw Qm6 false [.t QF p0,.t Qq p1] []=V0 p0 p1:=by kernel_rfl
theorem QxX:GOk Tryz.prog VZ:=Jg _ (gA (gC QjF QjG (gC Qv2 Qv3 gN)))
theorem QxY:Qfw.lok VZ:=by repeat (first|exact trivial|refine ⟨?_, ?_⟩)
theorem QxZ:Qp Tryz.prog 111 (QK VZ Qfw Qm6 false):=mG Tryz.func111 (by kernel_rfl) Tryz.ntmps111 (by kernel_rfl) QxX QxY
def Qfx:TC:=(.sq (.reg (rT Tryz.f111 0)) (.sq (.reg (rT Tryz.f111 1)) (.sq (.sq (.reg (rT Tryz.f111 2)) (.cd (.t 18) (.sq (.reg (rT Tryz.f111 3)) .rt) .sk)) (.sq (.reg (rT Tryz.f111 4)) (.sq (.reg (rT Tryz.f111 5)) .rt)))))
def Qm7:List (RV×Option Ty):=[((.t 4),some tI),((.t 5),some .bool),((.t 6),some tI)]
def V1:G:=gG 27 [(91,Qdc)] (fun _ _=>none)
def Qfy (p0:Policy)(p1:Item):OV:=br (U8 p0 p1) (br (ine (ofE p0 p1) 0) (some (.tu [(.t tI 0),(.t .bool false),(.t tI (ofE p0 p1))],[])) none) none
theorem Qx0 (p0:Policy)(p1:Item):QK V1 Qfx Qm7 false [.t QF p0,.t Qq p1] []=Qfy p0 p1:=by kernel_rfl
theorem Qx1:GOk Tryz.prog V1:=Jg _ (gA (gC QjH QjI gN))
theorem Qx2:Qfx.lok V1:=by repeat (first|exact trivial|refine ⟨?_, ?_⟩)
theorem Qx3:Qp Tryz.prog 111 (QK V1 Qfx Qm7 false):=mG Tryz.func111 (by kernel_rfl) Tryz.ntmps111 (by kernel_rfl) Qx1 Qx2
theorem s_f111 (y:Policy)(i:Item)(h:Ye y i=true):orO (Ij y i) (orO (V0 y i) (Qfy y i))=some (.tu [.t tI (Yf y i).1,.t .bool (Yf y i).2.1,.t tI (Yf y i).2.2],[]):=by
 rcases Qft h with ⟨a1,a2,a3⟩|⟨a0,a1,a2,a3⟩|⟨a0,b0,a1,a3⟩
 ·obtain ⟨a4,_,a5,_,_⟩:=Ii a3
  simp only [Ij,a1,Qg,ofA,show ine 0 0=false from rfl,Ql,Yf,VX,a3,if_true,Zy,a2,Bx,a4,orO]
 ·obtain ⟨a4,a6,a5,e7,e8⟩:=Ii a3
  simp only [Ij,V0,a0,a1,Qg,ofA,show ine 0 0=false from rfl,Ql,Yf,VX,a3,if_true,Zy,a2,a4,a6,orO]
  rfl
 ·have a2:=Qfu y i
  simp only [Ij,V0,Qfy,a0,b0,a1,Qg,Ql,a2,Yf,a3,BG,Df,orO]
def Qm8:Ent:=Qn (.pr QF (.pr Qq .nil)) (fun x=>(Ye x.1 x.2.1)) (fun x=>(.tu [(.t tI ((Yf x.1 x.2.1).1)),(.t .bool (((Yf x.1 x.2.1).2).1)),(.t tI (((Yf x.1 x.2.1).2).2))]))
theorem Qx4:QV Tryz.prog 111:= .inr ⟨by decide,_,Tryz.func111,by kernel_rfl,by kernel_rfl⟩
theorem Qx5:Qp Tryz.prog 111 (Qr Qm8):=Qt (FT QxV (FT QxZ Qx3)) fun x hok=>Qfs (QxS x.1 x.2.1) (QxW x.1 x.2.1) (Qx0 x.1 x.2.1) (s_f111 x.1 x.2.1 hok)
def Ft (y:Policy)(i:Item):Int:=if (ZJ (J8 y i)).2 then QD .i64 (ZJ (J8 y i)).1 1 else 40000
def WD (i:Item):Int:=(lgt Q6 i.2.2.2.1 (i.2.2.2.1.length-1)).2.1
def YT (y:Policy)(i:Item):Int×Bool×Int:=if JX y i then (if ieq i.2.1 1 then (0,false,0) else if Fl (J8 y i) then (if ile (Ft y i) (WD i) then (0,false,0) else (Ft y i,true,0)) else (0,false,0)) else (0,false,ofE y i)
def Qfz:TC:=(.sq (.reg (rT Tryz.f112 0)) (.sq (.reg (rT Tryz.f112 1)) (.sq (.sq (.reg (rT Tryz.f112 2)) (.cd (.t 24) (.sq (.reg (rT Tryz.f112 3)) .rt) .sk)) (.sq (.reg (rT Tryz.f112 4)) (.sq (.sq (.reg (rT Tryz.f112 5)) (.sq (.reg (rT Tryz.f112 6)) (.cd (.t 31) (.reg (rT Tryz.f112 7)) .sk))) (.sq (.sq (.reg (rT Tryz.f112 8)) (.cd (.t 44) (.sq (.reg (rT Tryz.f112 9)) .rt) .sk)) (.sq (.reg (rT Tryz.f112 10)) .rt)))))))
def Qm9:List (RV×Option Ty):=[((.t 4),some tI),((.t 5),some .bool),((.t 6),some tI)]
def V2:G:=gG 46 [(91,Qda),(1000031,Qk7),(1000047,Qv1)] (fun _ _=>none)
def Ik (p0:Policy)(p1:Item):OV:=
 let a1:=QD .i64 (Qd p1.2.2.2.1) 1
 let a2:=((ofA p0 p1).1)
 let a3:=(((lgt Q6 p1.2.2.2.1 (Int.toNat a1)).2).1)
 let a4:=QD .i64 ((Uu a2).1) 1
 let a5:=((ofA p0 p1).2)
 br (Xe p0 p1) (br (ine a5 0) (some (.tu [(.t tI 0),(.t .bool false),(.t tI a5)],[])) (br (!(Qd8 a2)) (some (.tu [(.t tI 0),(.t .bool false),(.t tI a5)],[])) (br (Q2 a2) (br ((Uu a2).2) (br (cIx p1.2.2.2.1 a1) (br (ile a4 a3) (some (.tu [(.t tI 0),(.t .bool false),(.t tI 0)],[])) (some (.tu [(.t tI a4),(.t .bool true),(.t tI 0)],[]))) none) (br (cIx p1.2.2.2.1 a1) (br (ile 40000 a3) (some (.tu [(.t tI 0),(.t .bool false),(.t tI 0)],[])) (some (.tu [(.t tI 40000),(.t .bool true),(.t tI 0)],[]))) none)) none))) none
theorem Qx6 (p0:Policy)(p1:Item):QK V2 Qfz Qm9 false [.t QF p0,.t Qq p1] []=Ik p0 p1:=by kernel_rfl
theorem Qx7:GOk Tryz.prog V2:=Jg _ (gA (gC QjD QjE (gC QvZ Qv0 (gC QHR QHS gN))))
theorem Qx8:Qfz.lok V2:=by repeat (first|exact trivial|refine ⟨?_, ?_⟩)
theorem Qx9:Qp Tryz.prog 112 (QK V2 Qfz Qm9 false):=mG Tryz.func112 (by kernel_rfl) Tryz.ntmps112 (by kernel_rfl) Qx7 Qx8
def QfA:TC:=(.sq (.reg (rT Tryz.f112 0)) (.sq (.reg (rT Tryz.f112 1)) (.sq (.sq (.reg (rT Tryz.f112 2)) (.cd (.t 24) (.sq (.reg (rT Tryz.f112 3)) .rt) .sk)) (.sq (.reg (rT Tryz.f112 4)) (.sq (.sq (.reg (rT Tryz.f112 5)) (.sq (.reg (rT Tryz.f112 6)) (.cd (.t 31) (.reg (rT Tryz.f112 7)) .sk))) (.sq (.sq (.reg (rT Tryz.f112 8)) (.cd (.t 44) (.sq (.reg (rT Tryz.f112 9)) .rt) .sk)) (.sq (.reg (rT Tryz.f112 10)) .rt)))))))
def Qna:List (RV×Option Ty):=[((.t 4),some tI),((.t 5),some .bool),((.t 6),some tI)]
def V3:G:=gG 46 [(91,Qdb),(1000031,Qk8),(1000047,Qv4)] (fun _ _=>none)
def V4 (p0:Policy)(p1:Item):OV:=
 let a1:=QD .i64 (Qd p1.2.2.2.1) 1
 let a2:=((ofA p0 p1).1)
 let a3:=(((lgt Q6 p1.2.2.2.1 (Int.toNat a1)).2).1)
 let a4:=QD .i64 ((ZJ a2).1) 1
 let a5:=((ofA p0 p1).2)
 br (Wq p0 p1) (br (ine a5 0) (some (.tu [(.t tI 0),(.t .bool false),(.t tI a5)],[])) (br (Q2 a2) (br (!(Fl a2)) (some (.tu [(.t tI 0),(.t .bool false),(.t tI a5)],[])) (br (Fk a2) (br ((ZJ a2).2) (br (cIx p1.2.2.2.1 a1) (br (ile a4 a3) (some (.tu [(.t tI 0),(.t .bool false),(.t tI 0)],[])) (some (.tu [(.t tI a4),(.t .bool true),(.t tI 0)],[]))) none) (br (cIx p1.2.2.2.1 a1) (br (ile 40000 a3) (some (.tu [(.t tI 0),(.t .bool false),(.t tI 0)],[])) (some (.tu [(.t tI 40000),(.t .bool true),(.t tI 0)],[]))) none)) none)) none)) none
theorem Qya (p0:Policy)(p1:Item):QK V3 QfA Qna false [.t QF p0,.t Qq p1] []=V4 p0 p1:=by kernel_rfl
theorem Qyb:GOk Tryz.prog V3:=Jg _ (gA (gC QjF QjG (gC Qv2 Qv3 (gC QHT QHU gN))))
theorem Qyc:QfA.lok V3:=by repeat (first|exact trivial|refine ⟨?_, ?_⟩)
theorem Qyd:Qp Tryz.prog 112 (QK V3 QfA Qna false):=mG Tryz.func112 (by kernel_rfl) Tryz.ntmps112 (by kernel_rfl) Qyb Qyc
def QfB:TC:=(.sq (.reg (rT Tryz.f112 0)) (.sq (.reg (rT Tryz.f112 1)) (.sq (.sq (.reg (rT Tryz.f112 2)) (.cd (.t 24) (.sq (.reg (rT Tryz.f112 3)) .rt) .sk)) (.sq (.reg (rT Tryz.f112 4)) (.sq (.sq (.reg (rT Tryz.f112 5)) (.sq (.reg (rT Tryz.f112 6)) (.cd (.t 31) (.reg (rT Tryz.f112 7)) .sk))) (.sq (.sq (.reg (rT Tryz.f112 8)) (.cd (.t 44) (.sq (.reg (rT Tryz.f112 9)) .rt) .sk)) (.sq (.reg (rT Tryz.f112 10)) .rt)))))))
def Qnb:List (RV×Option Ty):=[((.t 4),some tI),((.t 5),some .bool),((.t 6),some tI)]
def V5:G:=gG 46 [(91,Qdc)] (fun _ _=>none)
def QfC (p0:Policy)(p1:Item):OV:=br (U8 p0 p1) (br (ine (ofE p0 p1) 0) (some (.tu [(.t tI 0),(.t .bool false),(.t tI (ofE p0 p1))],[])) none) none
theorem Qye (p0:Policy)(p1:Item):QK V5 QfB Qnb false [.t QF p0,.t Qq p1] []=QfC p0 p1:=by kernel_rfl
theorem Qyf:GOk Tryz.prog V5:=Jg _ (gA (gC QjH QjI gN))
theorem Qyg:QfB.lok V5:=by repeat (first|exact trivial|refine ⟨?_, ?_⟩)
theorem Qyh:Qp Tryz.prog 112 (QK V5 QfB Qnb false):=mG Tryz.func112 (by kernel_rfl) Tryz.ntmps112 (by kernel_rfl) Qyf Qyg
theorem s_f112 (y:Policy)(i:Item)(h:Ye y i=true):orO (Ik y i) (orO (V4 y i) (QfC y i))=some (.tu [.t tI (YT y i).1,.t .bool (YT y i).2.1,.t tI (YT y i).2.2],[]):=by
 rcases Qft h with ⟨a1,a2,a3⟩|⟨a0,a1,a2,a3⟩|⟨a0,b0,a1,a3⟩
 ·obtain ⟨a4,_,a5,_,_⟩:=Ii a3
  simp only [Ik,a1,Qg,ofA,show ine 0 0=false from rfl,Ql,YT,a3,if_true,Zy,a2,Bx,orO,Qd8,DM]
 ·obtain ⟨a4,a6,a5,e7,e8⟩:=Ii a3
  simp only [Ik,V4,a0,a1,Qg,ofA,show ine 0 0=false from rfl,Ql,YT,a3,if_true,Zy,a2,a4,a6,e7,e8,Bd,orO]
  simp only [show decide ((2:Int)=1)=false from rfl,BG,Df]
  have hd:(lgt Q6 i.2.2.2.1 (i.2.2.2.1.length-1)).2.1=WD i:=rfl
  rw [hd]
  by_cases q1:Fl (J8 y i)=true
  ·rw [if_pos q1,q1,BI,Ql]
   by_cases q2:(ZJ (J8 y i)).2=true
   ·have e9:Ft y i=QD .i64 (ZJ (J8 y i)).1 1:=by unfold Ft;rw [if_pos q2]
    rw [q2,Qg,e9]
    by_cases q3:ile (QD .i64 (ZJ (J8 y i)).1 1) (WD i)=true
    ·rw [if_pos q3,q3]
     rfl
    ·rw [if_neg q3,show ile (QD .i64 (ZJ (J8 y i)).1 1) (WD i)=false by simpa using q3]
     rfl
   ·have e9:Ft y i=40000:=by unfold Ft;rw [if_neg q2]
    rw [show (ZJ (J8 y i)).2=false by simpa using q2,Ql,e9]
    by_cases q3:ile 40000 (WD i)=true
    ·rw [if_pos q3,q3]
     rfl
    ·rw [if_neg q3,show ile 40000 (WD i)=false by simpa using q3]
     rfl
  ·rw [if_neg q1,show Fl (J8 y i)=false by simpa using q1]
   rfl
 ·have a2:=Qfu y i
  simp only [Ik,V4,QfC,a0,b0,a1,Qg,Ql,a2,YT,a3,BG,Df,orO]
def Qnc:Ent:=Qn (.pr QF (.pr Qq .nil)) (fun x=>(Ye x.1 x.2.1)) (fun x=>(.tu [(.t tI ((YT x.1 x.2.1).1)),(.t .bool (((YT x.1 x.2.1).2).1)),(.t tI (((YT x.1 x.2.1).2).2))]))
theorem Qyi:QV Tryz.prog 112:= .inr ⟨by decide,_,Tryz.func112,by kernel_rfl,by kernel_rfl⟩
theorem Qyj:Qp Tryz.prog 112 (Qr Qnc):=Qt (FT Qx9 (FT Qyd Qyh)) fun x hok=>Qfs (Qx6 x.1 x.2.1) (Qya x.1 x.2.1) (Qye x.1 x.2.1) (s_f112 x.1 x.2.1 hok)
end Go.Proofs.YthlcobdnemhcdaaGreat.K
noncomputable section
namespace Go.Proofs.YthlcobdnemhcdaaGreat.K
open Go.RowKit
end Go.Proofs.YthlcobdnemhcdaaGreat.K
noncomputable section
namespace Go.Proofs.YthlcobdnemhcdaaGreat.K
open Go.RowKit
end Go.Proofs.YthlcobdnemhcdaaGreat.K
noncomputable section
namespace Go.Proofs.YthlcobdnemhcdaaGreat.K
open Go.RowKit
def Xy (l:List Link):List Link:=l
def Qbj:Ent:=Xp (.pr (.sl Q6) .nil) (fun x=>(Q2 x.1)) (fun x=>(.ms 50000)) (fun x=>[.arr 45 Q6 (Xy x.1)])
theorem QhR:QV Tryz.prog 93:= .inr ⟨by decide,_,Tryz.func93,by kernel_rfl,by kernel_rfl⟩
theorem QA2:ElemOk Tryz.prog 60 45 3 24:=ElemOk.of (.agg #[.int .i64 0,.int .i64 0,.int .i64 0]) (by kernel_rfl) (by kernel_rfl) (by kernel_rfl) (by decide)
theorem QA3 {P:Program}(w:World)(t e:TypeId)(a:Option Addr)(l c:Nat)(h:P.underlying t=some (.slice e)):(binOp .eql t (.slice a l c) (.slice none 0 0)).run P w= .ok (.bool a.isNone) w:=by
 simp [binOp,run_equal_slice_nil w t e a l c h]
set_option maxHeartbeats 400000 in
theorem QA4 (A:Option Addr)(c n:Nat)(cells:List Value)(w:World)(h:Sl w (.slice A n c) 3 n cells)(h1: ∀ u∈cells,u.oneCell'=true)(hn:n<=100000):
  Calls Tryz.prog 93 #[.slice A n c] w fun r w'=> ∃ sv,r= .returned sv/\w'.ownsRow w.heap.size 45 3 sv n cells/\Below w.heap.size w w':=by
 have he:=QA3 (P:=Tryz.prog) w 60 45 A n c (by kernel_rfl)
 rcases A with _|ad
 ·have hnil:n=0:=Dr fun h0=>by
   obtain ⟨_,A',c',hv,_,_,h3⟩:=h
   obtain ⟨b,off,e,_⟩:=h3 (by omega)
   rw [e] at hv
   simp at hv
  subst hnil
  have hc:cells=[]:=Bq (by rw [h.1,DC])
  subst hc
  clear h
  simp only [DT] at he
  go_enter Tryz.func93,Tryz.ntmps93
  go_wp2_with fail
  go_ret
  exact ⟨_,rfl,World.ownsRow_nil _ _ _ _,Below.refl _ _⟩
 ·simp only [DU] at he
  have hown:=World.ownsRow_made w #[] (size:=3) (e:=45) 0 (Bv _) (BZ _) rfl
  have hsrc:=h.alloc (.cells #[] 45)
  have HSRC:=Lib.hid hsrc
  clear h hsrc
  go_enter Tryz.func93,Tryz.ntmps93
  go_wp2_with (at_builtin;refine Ej QA2 rfl _ _ rfl w.heap.size (.slice (some ⟨w.heap.size,0,none⟩) 0 0) 0 [] rfl hown (some ad) n c cells rfl HSRC.out h1 (by omega) (by omega) (by simp) ?_;intro v' w4 hown4 hg4 hat4)
  go_ret
  refine ⟨v',rfl,by simpa using hown4, ?_⟩
  have hal:=(Below.refl w.heap.size w).alloc (Bv _) (.cells #[] 45)
  exact U3 hal hg4 (Bv _) hal.size
theorem QhS:Qp Tryz.prog 93 (Qr Qbj):=
 Qcl (e:=45) (y:=Q6) (by decide) (fun x hx=>BC hx) fun A c n cells w h h1 hn=>QA4 A c n cells w h h1 hn
end Go.Proofs.YthlcobdnemhcdaaGreat.K
noncomputable section
namespace Go.Proofs.YthlcobdnemhcdaaGreat.K
open Go.RowKit
def U1:Item:=(ByteArray.mk #[],(0,(0,(([]:List Link),(0,())))))
def Zt (y:Policy)(i:Item)(u:Keep)(day:Int):Int:=if JX y i=false then ofE y i else if Jq u=false then 7 else if day<=WD i∨40000<day then 13 else if i.2.2.2.1.length=8 then 3 else 0
def Eg (i:Item)(u:Keep)(day:Int):Item:=(i.1,(i.2.1,(i.2.2.1,(i.2.2.2.1++[(u,(day,()))],(i.2.2.2.2.1,())))))
def Zu (y:Policy)(i:Item)(u:Keep)(day:Int):Item×Int:=if Zt y i u day=0 then (Eg i u day,0) else (U1,Zt y i u day)
def Qcm (y:Policy)(i:Item)(_u:Keep)(_day:Int):Bool:=Ye y i
def QDe:List DO:=dT Tryz.f54 10
def QiE:TC:=(.sq (.reg (rT Tryz.f54 0)) (.sq (.reg (rT Tryz.f54 1)) (.sq (.bk 0 (.sq (.reg (rT Tryz.f54 2)) (.cd (.t 18) (.sq (.reg (rT Tryz.f54 3)) .rt) (.sq (.reg (rT Tryz.f54 4)) (.cd (.t 23) (.sq (.reg (rT Tryz.f54 5)) .rt) (.sq (.reg (rT Tryz.f54 6)) (.cd (.t 28) (.sq (.reg (rT Tryz.f54 7)) .rt) (.sq (.reg (rT Tryz.f54 8)) (.cd (.t 45) (.sq (.reg (rT Tryz.f54 9)) .rt) .sk))))))))) (.sq (.dr QDe [(0,[5,53,58,5053,10053,15053]),(1,[5,53,58,5053,10053,15053]),(2,[5,8,53,58,5053,10053,15053]),(3,[6]),(4,[]),(5,[]),(6,[]),(7,[5,8,53,58,5053,5058,10053,10058,15053,15058]),(8,[5,53,58,5053,10053,15053]),(9,[5,8,53,58,5053,10053,15053])] (.of [0,1,3,4,5,6,2,7,8,9])) (.sq (.reg (rT Tryz.f54 11)) .rt)))))
def Qsn:List (RV×Option Ty):=[((.c 8 true 5),some Qq),((.t 9),some tI)]
def Qcn:G:=gG 61 [(91,Qda),(92,UM),(93,Qbj)] (fun _ _=>none)
def Oy (p0:Policy)(p1:Item)(p2:Keep)(p3:Int):OV:=
 let a1:=ByteArray.mk #[]
 let a2:=((p2.1,(p2.2.1,())),(p3,()))
 let a3:=Qd p1.2.2.2.1
 br (Xe p0 p1) (br (ine ((ofA p0 p1).2) 0) (some (.tu [(.t Qq (a1,(0,(0,(([]:List Link),(0,())))))),(.t tI ((ofA p0 p1).2))],[])) (br (!(Jq p2)) (some (.tu [(.t Qq (a1,(0,(0,(([]:List Link),(0,())))))),(.t tI 7)],[])) (br (cIx p1.2.2.2.1 (QD .i64 a3 1)) (br (ile p3 (((lgt Q6 p1.2.2.2.1 (Int.toNat (QD .i64 a3 1))).2).1)) (some (.tu [(.t Qq (a1,(0,(0,(([]:List Link),(0,())))))),(.t tI 13)],[])) (br (igt p3 40000) (some (.tu [(.t Qq (a1,(0,(0,(([]:List Link),(0,())))))),(.t tI 13)],[])) (br (ieq a3 8) (some (.tu [(.t Qq (a1,(0,(0,(([]:List Link),(0,())))))),(.t tI 3)],[])) (br (Q2 p1.2.2.2.1) (br (Qw (Xy p1.2.2.2.1) ([a2]) 24) (some (.tu [(.t Qq (p1.1,(p1.2.1,(p1.2.2.1,(((Xy p1.2.2.2.1)++([a2])),(p1.2.2.2.2.1,())))))),(.t tI 0)],[])) none) none)))) none))) none
theorem e_f54A (p0:Policy)(p1:Item)(p2:Keep)(p3:Int):QK Qcn QiE Qsn false [.t QF p0,.t Qq p1,.t Qk p2,.t tI p3] []=Oy p0 p1 p2 p3:=by kernel_rfl
theorem QDf:GOk Tryz.prog Qcn:=Jg _ (gA (gC QjD QjE (gD GD (gC QhR QhS gN))))
theorem QDg:QiE.lok Qcn:=by repeat (first|exact trivial|refine ⟨?_, ?_⟩)
theorem QDh:Qp Tryz.prog 54 (QK Qcn QiE Qsn false):=mG Tryz.func54 (by kernel_rfl) Tryz.ntmps54 (by kernel_rfl) QDf QDg
def QDi:List DO:=dT Tryz.f54 10
def QiF:TC:=(.sq (.reg (rT Tryz.f54 0)) (.sq (.reg (rT Tryz.f54 1)) (.sq (.bk 0 (.sq (.reg (rT Tryz.f54 2)) (.cd (.t 18) (.sq (.reg (rT Tryz.f54 3)) .rt) (.sq (.reg (rT Tryz.f54 4)) (.cd (.t 23) (.sq (.reg (rT Tryz.f54 5)) .rt) (.sq (.reg (rT Tryz.f54 6)) (.cd (.t 28) (.sq (.reg (rT Tryz.f54 7)) .rt) (.sq (.reg (rT Tryz.f54 8)) (.cd (.t 45) (.sq (.reg (rT Tryz.f54 9)) .rt) .sk))))))))) (.sq (.dr QDi [(0,[5,53,58,5053,10053,15053]),(1,[5,53,58,5053,10053,15053]),(2,[5,8,53,58,5053,10053,15053]),(3,[6]),(4,[]),(5,[]),(6,[]),(7,[5,8,53,58,5053,5058,10053,10058,15053,15058]),(8,[5,53,58,5053,10053,15053]),(9,[5,8,53,58,5053,10053,15053])] (.of [0,1,3,4,5,6,2,7,8,9])) (.sq (.reg (rT Tryz.f54 11)) .rt)))))
def Qso:List (RV×Option Ty):=[((.c 8 true 5),some Qq),((.t 9),some tI)]
def Qco:G:=gG 61 [(91,Qdb),(92,UM),(93,Qbj)] (fun _ _=>none)
def Qcp (p0:Policy)(p1:Item)(p2:Keep)(p3:Int):OV:=
 let a1:=ByteArray.mk #[]
 let a2:=((p2.1,(p2.2.1,())),(p3,()))
 let a3:=Qd p1.2.2.2.1
 br (Wq p0 p1) (br (ine ((ofA p0 p1).2) 0) (some (.tu [(.t Qq (a1,(0,(0,(([]:List Link),(0,())))))),(.t tI ((ofA p0 p1).2))],[])) (br (!(Jq p2)) (some (.tu [(.t Qq (a1,(0,(0,(([]:List Link),(0,())))))),(.t tI 7)],[])) (br (cIx p1.2.2.2.1 (QD .i64 a3 1)) (br (ile p3 (((lgt Q6 p1.2.2.2.1 (Int.toNat (QD .i64 a3 1))).2).1)) (some (.tu [(.t Qq (a1,(0,(0,(([]:List Link),(0,())))))),(.t tI 13)],[])) (br (igt p3 40000) (some (.tu [(.t Qq (a1,(0,(0,(([]:List Link),(0,())))))),(.t tI 13)],[])) (br (ieq a3 8) (some (.tu [(.t Qq (a1,(0,(0,(([]:List Link),(0,())))))),(.t tI 3)],[])) (br (Q2 p1.2.2.2.1) (br (Qw (Xy p1.2.2.2.1) ([a2]) 24) (some (.tu [(.t Qq (p1.1,(p1.2.1,(p1.2.2.1,(((Xy p1.2.2.2.1)++([a2])),(p1.2.2.2.2.1,())))))),(.t tI 0)],[])) none) none)))) none))) none
theorem e_f54B (p0:Policy)(p1:Item)(p2:Keep)(p3:Int):QK Qco QiF Qso false [.t QF p0,.t Qq p1,.t Qk p2,.t tI p3] []=Qcp p0 p1 p2 p3:=by kernel_rfl
theorem QDj:GOk Tryz.prog Qco:=Jg _ (gA (gC QjF QjG (gD GD (gC QhR QhS gN))))
theorem QDk:QiF.lok Qco:=by repeat (first|exact trivial|refine ⟨?_, ?_⟩)
theorem QDl:Qp Tryz.prog 54 (QK Qco QiF Qso false):=mG Tryz.func54 (by kernel_rfl) Tryz.ntmps54 (by kernel_rfl) QDj QDk
def QDm:List DO:=dT Tryz.f54 10
def QiG:TC:=(.sq (.reg (rT Tryz.f54 0)) (.sq (.reg (rT Tryz.f54 1)) (.sq (.bk 0 (.sq (.reg (rT Tryz.f54 2)) (.cd (.t 18) (.sq (.reg (rT Tryz.f54 3)) .rt) (.sq (.reg (rT Tryz.f54 4)) (.cd (.t 23) (.sq (.reg (rT Tryz.f54 5)) .rt) (.sq (.reg (rT Tryz.f54 6)) (.cd (.t 28) (.sq (.reg (rT Tryz.f54 7)) .rt) (.sq (.reg (rT Tryz.f54 8)) (.cd (.t 45) (.sq (.reg (rT Tryz.f54 9)) .rt) .sk))))))))) (.sq (.dr QDm [(0,[5,53,58,5053,10053,15053]),(1,[5,53,58,5053,10053,15053]),(2,[5,8,53,58,5053,10053,15053]),(3,[6]),(4,[]),(5,[]),(6,[]),(7,[5,8,53,58,5053,5058,10053,10058,15053,15058]),(8,[5,53,58,5053,10053,15053]),(9,[5,8,53,58,5053,10053,15053])] (.of [0,1,3,4,5,6,2,7,8,9])) (.sq (.reg (rT Tryz.f54 11)) .rt)))))
def Qsp:List (RV×Option Ty):=[((.c 8 true 5),some Qq),((.t 9),some tI)]
def Qcq:G:=gG 61 [(91,Qdc),(92,UM),(93,Qbj)] (fun _ _=>none)
def QiH (p0:Policy)(p1:Item)(p2:Keep)(p3:Int):OV:=
 let a1:=ByteArray.mk #[]
 let a2:=((p2.1,(p2.2.1,())),(p3,()))
 let a3:=Qd p1.2.2.2.1
 br (U8 p0 p1) (br (ine (ofE p0 p1) 0) (some (.tu [(.t Qq (a1,(0,(0,(([]:List Link),(0,())))))),(.t tI (ofE p0 p1))],[])) (br (!(Jq p2)) (some (.tu [(.t Qq (a1,(0,(0,(([]:List Link),(0,())))))),(.t tI 7)],[])) (br (cIx p1.2.2.2.1 (QD .i64 a3 1)) (br (ile p3 (((lgt Q6 p1.2.2.2.1 (Int.toNat (QD .i64 a3 1))).2).1)) (some (.tu [(.t Qq (a1,(0,(0,(([]:List Link),(0,())))))),(.t tI 13)],[])) (br (igt p3 40000) (some (.tu [(.t Qq (a1,(0,(0,(([]:List Link),(0,())))))),(.t tI 13)],[])) (br (ieq a3 8) (some (.tu [(.t Qq (a1,(0,(0,(([]:List Link),(0,())))))),(.t tI 3)],[])) (br (Q2 p1.2.2.2.1) (br (Qw (Xy p1.2.2.2.1) ([a2]) 24) (some (.tu [(.t Qq (p1.1,(p1.2.1,(p1.2.2.1,(((Xy p1.2.2.2.1)++([a2])),(p1.2.2.2.2.1,())))))),(.t tI 0)],[])) none) none)))) none))) none
theorem e_f54E (p0:Policy)(p1:Item)(p2:Keep)(p3:Int):QK Qcq QiG Qsp false [.t QF p0,.t Qq p1,.t Qk p2,.t tI p3] []=QiH p0 p1 p2 p3:=by kernel_rfl
theorem QDn:GOk Tryz.prog Qcq:=Jg _ (gA (gC QjH QjI (gD GD (gC QhR QhS gN))))
theorem QDo:QiG.lok Qcq:=by repeat (first|exact trivial|refine ⟨?_, ?_⟩)
theorem QDp:Qp Tryz.prog 54 (QK Qcq QiG Qsp false):=mG Tryz.func54 (by kernel_rfl) Tryz.ntmps54 (by kernel_rfl) QDn QDo
theorem Qsq {y:Policy}{i:Item}{u:Keep}{day:Int}(h:JX y i=true)(a5:ofE y i=ofE y i):
  br (!(Jq u)) (some (V.tu [(.t Qq U1),(.t tI 7)],[])) (br (cIx i.2.2.2.1 (QD .i64 (Qd i.2.2.2.1) 1)) (br (ile day (lgt Q6 i.2.2.2.1 (Int.toNat (QD .i64 (Qd i.2.2.2.1) 1))).2.1) (some (.tu [(.t Qq U1),(.t tI 13)],([]:List VO))) (br (igt day 40000) (some (.tu [(.t Qq U1),(.t tI 13)],[])) (br (ieq (Qd i.2.2.2.1) 8) (some (.tu [(.t Qq U1),(.t tI 3)],[])) (br (Q2 i.2.2.2.1) (br (Qw (Xy i.2.2.2.1) ([((u.1,(u.2.1,())),(day,()))]) 24) (some (.tu [(.t Qq (i.1,(i.2.1,(i.2.2.1,(((Xy i.2.2.2.1)++([((u.1,(u.2.1,())),(day,()))])),(i.2.2.2.2.1,())))))),(.t tI 0)],[])) none) none)))) none)=some (.tu [.t Qq (Zu y i u day).1,.t tI (Zu y i u day).2],[]):=by
 obtain ⟨_,_,_,e7,e8⟩:=Ii h
 have hf:=h
 simp only [JX,Bc] at hf
 have hl:=(Zh.1 hf.2).2.2.2.1
 have c1:Q2 i.2.2.2.1=true:=Be (by omega)
 have c2:Qw (Xy i.2.2.2.1) ([((u.1,(u.2.1,())),(day,()))]) 24=true:=Gi (by simp [Xy];omega) (by omega)
 rw [e7,e8,c1,c2]
 simp only [Qg,Bd]
 have hd:(lgt Q6 i.2.2.2.1 (i.2.2.2.1.length-1)).2.1=WD i:=rfl
 rw [hd]
 have e0:Zt y i u day=if Jq u=false then 7 else if day<=WD i∨40000<day then 13 else if i.2.2.2.1.length=8 then 3 else 0:=by
  unfold Zt
  rw [if_neg (show ¬ JX y i=false by rw [h];simp)]
 have fin: ∀ n, ¬ n=0->Zt y i u day=n->some (V.tu [(.t Qq U1),(.t tI n)],([]:List VO))=some (.tu [.t Qq (Zu y i u day).1,.t tI (Zu y i u day).2],[]):=fun n hn e=>by
  unfold Zu
  rw [e,if_neg hn]
 cases hv:Jq u with
 |false=>
  rw [hv,if_pos rfl] at e0
  exact fin 7 (by omega) e0
 |true=>
  rw [hv,if_neg (show ¬ true=false by simp)] at e0
  rw [BI,Ql]
  refine Q8 (fun g=> ?_) (fun g1=>Q8 (fun g=> ?_) (fun g2=>Q8 (fun g=> ?_) (fun g3=> ?_)))
  ·rw [if_pos (.inl (BC g))] at e0
   exact fin 13 (by omega) e0
  ·rw [if_pos (.inr (BC g))] at e0
   exact fin 13 (by omega) e0
  ·have g1:=DF g1
   have g2:=DF g2
   simp only [Zy,Qd,Ba] at g
   rw [if_neg (by omega),if_pos (by omega)] at e0
   exact fin 3 (by omega) e0
  ·have g1:=DF g1
   have g2:=DF g2
   simp only [Zy,Qd,Bo] at g3
   rw [if_neg (by omega),if_neg (by omega)] at e0
   unfold Zu
   rw [if_pos e0]
   rfl
theorem s_f54 (y:Policy)(i:Item)(u:Keep)(day:Int)(h:Qcm y i u day=true):orO (Oy y i u day) (orO (Qcp y i u day) (QiH y i u day))=some (.tu [.t Qq (Zu y i u day).1,.t tI (Zu y i u day).2],[]):=by
 rcases Qft (show Ye y i=true from h) with ⟨a1,a2,a3⟩|⟨a0,a1,a2,a3⟩|⟨a0,b0,a1,a3⟩
 ·unfold Oy
  rw [a1,Qg,show ine (ofA y i).2 0=false from rfl,Ql]
  have:=Qsq (u:=u) (day:=day) a3 rfl
  unfold U1 at this
  rw [this]
  rfl
 ·unfold Oy Qcp
  rw [a0,a1,Qg,Ql,show ine (ofA y i).2 0=false from rfl,Ql]
  have:=Qsq (u:=u) (day:=day) a3 rfl
  unfold U1 at this
  rw [this]
  rfl
 ·have a2:=Qfu y i
  have a4:Zt y i u day=ofE y i:=by unfold Zt;rw [if_pos a3]
  have a5: ¬ ofE y i=0:=by simpa [ine] using a2
  unfold Oy Qcp QiH
  rw [a0,b0,a1,Qg,Ql,a2,Qg]
  unfold Zu
  rw [a4,if_neg a5]
  rfl
def Qsr:Ent:=Qn (.pr QF (.pr Qq (.pr Qk (.pr tI .nil)))) (fun x=>(Qcm x.1 x.2.1 x.2.2.1 x.2.2.2.1)) (fun x=>(.tu [(.t Qq ((Zu x.1 x.2.1 x.2.2.1 x.2.2.2.1).1)),(.t tI ((Zu x.1 x.2.1 x.2.2.1 x.2.2.2.1).2))]))
theorem en_f54:QV Tryz.prog 54:= .inr ⟨by decide,_,Tryz.func54,by kernel_rfl,by kernel_rfl⟩
theorem ms_f54:Qp Tryz.prog 54 (Qr Qsr):=Qt (FT QDh (FT QDl QDp)) fun x hok=>Qfs (e_f54A x.1 x.2.1 x.2.2.1 x.2.2.2.1) (e_f54B x.1 x.2.1 x.2.2.1 x.2.2.2.1) (e_f54E x.1 x.2.1 x.2.2.1 x.2.2.2.1) (s_f54 x.1 x.2.1 x.2.2.1 x.2.2.2.1 hok)
end Go.Proofs.YthlcobdnemhcdaaGreat.K
noncomputable section
namespace Go.Proofs.YthlcobdnemhcdaaGreat.K
open Go.RowKit
end Go.Proofs.YthlcobdnemhcdaaGreat.K
noncomputable section
namespace Go.Proofs.YthlcobdnemhcdaaGreat.K
open Go.RowKit
end Go.Proofs.YthlcobdnemhcdaaGreat.K
noncomputable section
namespace Go.Proofs.YthlcobdnemhcdaaGreat.K
open Go.RowKit
-- loop 0: (x2 : Int) (x9 : (List Int)) (x11 : Int) (y3 : Policy) (y4 : Keep) (y10 : (List Keep)); out: ('exit', 0) (y10 : (List Keep))
end Go.Proofs.YthlcobdnemhcdaaGreat.K
noncomputable section
namespace Go.Proofs.YthlcobdnemhcdaaGreat.K
open Go.RowKit
noncomputable section
-- loop 0: (x7 : Int) (y2 : Policy) (y3 : Item); out: ('exit', 0) (x7 : Int)
end
end Go.Proofs.YthlcobdnemhcdaaGreat.K
noncomputable section
namespace Go.Proofs.YthlcobdnemhcdaaGreat.K
open Go.RowKit
noncomputable section
-- loop 0: (x7 : Int) (x10 : Int) (x11 : Bool) (x12 : Int) (y2 : Policy) (y3 : Item); out: ('exit', 0) (x10 : Int) (x11 : Bool)
end
end Go.Proofs.YthlcobdnemhcdaaGreat.K
noncomputable section
namespace Go.Proofs.YthlcobdnemhcdaaGreat.K
open Go.RowKit
noncomputable section
def Ox:Estate:=(([]:List Endpoint),(([]:List Keep),(([]:List Item),())))
def J6 (e:Estate)(y:Policy):Int:=bif !Xj e then 31 else Z7 y
def Zb (e:Estate)(y:Policy):Bool:=ZH e&&JG y
abbrev Zk (e:Estate)(k:Nat):Item:=lgt Qq (Ji e) k
theorem Qsj {e:Estate}{y:Policy}(h:J6 e y=0):Xj e=true/\Yq y=true:=by
 unfold J6 at h
 cases he:Xj e with
 |false=>rw [he] at h;cases h
 |true=>
  rw [he] at h
  have h:Z7 y=0:=h
  refine ⟨rfl, ?_⟩
  unfold Z7 at h
  cases hp:Yq y with
  |true=>rfl
  |false=>rw [hp] at h;cases h
def QiD (e:Estate)(k:Nat)(x:Item):Estate:=(e.1,(e.2.1,((Ji e).set k x,())))
def apF (e:Estate)(y:Policy)(j:Job):Estate×Int:=
 bif ine (J6 e y) 0 then (Ox,J6 e y) else bif ilt j.1 0 then (Ox,52) else bif ige j.1 (Qd (Ji e)) then (Ox,52) else
  bif ine (Zt y (Zk e j.1.toNat) j.2.1.1 j.2.1.2.1) 0 then (Ox,Zt y (Zk e j.1.toNat) j.2.1.1 j.2.1.2.1) else
   bif !(YP y j.2.1.1 (Zk e j.1.toNat).2.2.1 j.2.1.2.1).1 then (Ox,43) else (QiD e j.1.toNat (Eg (Zk e j.1.toNat) j.2.1.1 j.2.1.2.1),0)
def apE (e:Estate)(y:Policy)(j:Job):Int:=(apF e y j).2
theorem ap_ok {e:Estate}{y:Policy}{j:Job}(h:apE e y j=0):J6 e y=0/\0<=j.1/\j.1<(Ji e).length/\Zt y (Zk e j.1.toNat) j.2.1.1 j.2.1.2.1=0/\(YP y j.2.1.1 (Zk e j.1.toNat).2.2.1 j.2.1.2.1).1=true/\apF e y j=(QiD e j.1.toNat (Eg (Zk e j.1.toNat) j.2.1.1 j.2.1.2.1),0):=by
 unfold apE at h
 have hu:apF e y j=apF e y j:=rfl
 unfold apF at h
 cases h1:ine (J6 e y) 0 with
 |true=>
  rw [h1,Db] at h
  have h:J6 e y=0:=h
  rw [h] at h1
  cases h1
 |false=>
  rw [h1,B3] at h
  cases h2:ilt j.1 0 with
  |true=>rw [h2,Db] at h;cases h
  |false=>
   rw [h2,B3] at h
   cases h3:ige j.1 (Qd (Ji e)) with
   |true=>rw [h3,Db] at h;cases h
   |false=>
    rw [h3,B3] at h
    cases h4:ine (Zt y (Zk e j.1.toNat) j.2.1.1 j.2.1.2.1) 0 with
    |true=>
     rw [h4,Db] at h
     have h:Zt y (Zk e j.1.toNat) j.2.1.1 j.2.1.2.1=0:=h
     rw [h] at h4
     cases h4
    |false=>
     rw [h4,B3] at h
     cases h5:(YP y j.2.1.1 (Zk e j.1.toNat).2.2.1 j.2.1.2.1).1 with
     |false=>rw [h5] at h;cases h
     |true=>
      refine ⟨by simpa [ine] using h1,by simpa [ilt] using h2,by simpa [ige,Qd] using h3,by simpa [ine] using h4,rfl, ?_⟩
      unfold apF
      rw [h1,h2,h3,h4,h5]
      rfl
def JU (y:Policy):List Job->Estate->Int->Estate×Int×Int
 | [],e,n=>(e,n,0)
 |j::l,e,n=>bif ieq (apE e y j) 0 then JU y l (apF e y j).1 (n+1) else (e,n,apE e y j)
def JD (e:Estate)(y:Policy)(l:List Job):Estate×Int×Int:=bif igt (Qd l) 60 then (e,0,3) else JU y l e 0
def stF (y:Policy)(i:Item):Bool×Int×Bool:=((Yf y i).2.1&&ile (Yf y i).1 i.2.2.2.2.1,(YT y i).1,(YT y i).2.1)
def thB (y:Policy)(can:Bool)(i:Item):Bool:=(stF y i).1&&(stF y i).2.2==can
def thZ (y:Policy)(can:Bool):List Item->Int->List Int
 | [],_=>[]
 |i::l,k=>bif thB y can i then k::thZ y can l (k+1) else thZ y can l (k+1)
def thF (e:Estate)(y:Policy)(can:Bool):List Int×Int:=bif ine (J6 e y) 0 then ([],J6 e y) else (thZ y can (Ji e) 0,0)
theorem Qsk {e:Estate}(h:Xj e=true){i:Item}(hi:i∈Ji e):ZA i=true:=by
 simp only [Xj,Bc] at h
 exact Bg.1 h.2.1 i hi
theorem QDc {e:Estate}{k:Nat}(hk:k<(Ji e).length):Zk e k∈Ji e:=QmC (y:=Qq) hk
theorem Qsl {e:Estate}{k:Nat}(hk:k<(Ji e).length):Zk e k=(Ji e)[k]:=QP (y:=Qq) hk
theorem Qsm (y:Policy)(can:Bool): ∀ (l:List Item) (k:Int),(thZ y can l k).length<=l.length
 | [],_=>Bv _
 |i::l,k=>by
  have:=Qsm y can l (k+1)
  unfold thZ
  cases thB y can i with
  |true=>simp only [Db,Bp];omega
  |false=>simp only [B3,Bp];omega
end
end Go.Proofs.YthlcobdnemhcdaaGreat.K
noncomputable section
namespace Go.Proofs.YthlcobdnemhcdaaGreat.K
open Go.RowKit
noncomputable section
def tc_f53:TC:=aF Tryz.f53 []
def g_f53:G:=gG 13 [(72,Qu1),(90,Qcj)] (fun _ _=>none)
def r_f53 (p0:Estate)(p1:Policy):OV:=br (ZH p0) (br (ine (EK p0) 0) (some (.t tI 31,[])) (br (JG p1) (br (ine (Z7 p1) 0) (some (.t tI 25,[])) (some (.t tI 0,[]))) none)) none
theorem s_f53 (e:Estate)(y:Policy)(h:Zb e y=true):r_f53 e y=some (.t tI (J6 e y),[]):=by
 obtain ⟨h1,h2⟩:=Bh.1 h
 unfold r_f53 J6
 refine brY h1 ?_
 rw [QGB]
 cases Xj e with
 |false=>rfl
 |true=>
  rw [BI,Ql]
  refine brY h2 ?_
  unfold Z7
  cases Yq y<;>rfl
def Qhb:Ent:=Qn (.pr Qo (.pr QF .nil)) (fun x=>(Zb x.1 x.2.1)) (fun x=>(.t tI (J6 x.1 x.2.1)))
theorem Qpp:EM 53 Qhb:=mS g_f53 tc_f53 [((.t 4),some tI)] false (gB (gD ms_f72 (gD QiC gN))) fun m=>Qt m fun x hok=>kT (s_f53 x.1 x.2.1 hok)
theorem jchk_z {e:Estate}{y:Policy}(h:ine (J6 e y) 0=false):J6 e y=0:=by simpa [ine] using h
theorem QfF {i:Item}(h:ZA i=true):Xw i=true:=Be (by have:=(Zh.1 h).2.2.2.1;omega)
theorem jcpy {e:Estate}{y:Policy}(h:Zb e y=true)(h0:J6 e y=0):Zs e=true:=by
 obtain ⟨h1,h2⟩:=Bh.1 h
 exact Bh.2 ⟨h1,Bg.2 fun i hi=>QfF (Qsk (Qsj h0).1 hi)⟩
theorem QaX {e:Estate}(h:ZH e=true):Zx (Ji e)=true:=by
 simp only [ZH,Bc] at h
 exact h.2.2
theorem QAh {e:Estate}(h:ZH e=true){k:Nat}(hk:k<(Ji e).length):Yh (Zk e k)=true:=by
 rw [Qsl hk]
 exact Qkj (QaX h) hk
theorem ren_ne (y:Policy)(i:Item)(u:Keep)(d:Int):ine (Zu y i u d).2 0=ine (Zt y i u d) 0:=by
 unfold Zu
 split
 ·rename_i h
  rw [h]
 ·rfl
theorem QAi {y:Policy}{i:Item}{u:Keep}{d:Int}(h:ine (Zt y i u d) 0=false):Zu y i u d=(Eg i u d,0):=by
 have h:Zt y i u d=0:=by simpa [ine] using h
 unfold Zu
 rw [if_pos h]
theorem QAj {y:Policy}{i:Item}{u:Keep}{d:Int}(h:ine (Zt y i u d) 0=true):(Zu y i u d).2=Zt y i u d:=by
 unfold Zu
 split
 ·rename_i h2
  rw [h2]
 ·rfl
def GF (e:Estate)(y:Policy)(_:Job):Bool:=Zb e y
def tc_f13:TC:=aF Tryz.f13 [(30,pD [(0,[4]),(1,[3]),(2,[3]),(3,[5]),(4,[5]),(5,[]),(6,[]),(7,[5]),(8,[5]),(9,[5]),(10,[5]),(11,[5]),(12,[5]),(13,[]),(14,[]),(15,[]),(16,[]),(17,[9,5009,10009,15009]),(18,[9]),(19,[])] (.of [0,1,2,3,4,5,6,7,8,9,10,11,12,13,14,15,16,17,18,19]))]
def g_f13:G:=gG 81 [(51,FA),(53,Qhb),(54,Qsr),(55,QtK)] (fun _ _=>none)
def r_f13 (p0:Estate)(p1:Policy)(p2:Job):OV:=
 let a3:=Int.toNat p2.1
 let a1:=Zu p1 (lgt Qq p0.2.2.1 a3) p2.2.1.1 p2.2.1.2.1
 let a2:=((((YD p0).2).2).1)
 br (Zb p0 p1) (br (ine (J6 p0 p1) 0) (some (.tu [(.t Qo (([]:List Endpoint),(([]:List Keep),(([]:List Item),())))),(.t tI (J6 p0 p1))],[])) (br (ilt p2.1 0) (some (.tu [(.t Qo (([]:List Endpoint),(([]:List Keep),(([]:List Item),())))),(.t tI 52)],[])) (br (ige p2.1 (Qd p0.2.2.1)) (some (.tu [(.t Qo (([]:List Endpoint),(([]:List Keep),(([]:List Item),())))),(.t tI 52)],[])) (br (cIx p0.2.2.1 p2.1) (br (Qcm p1 (lgt Qq p0.2.2.1 a3) p2.2.1.1 p2.2.1.2.1) (br (ine (a1.2) 0) (some (.tu [(.t Qo (([]:List Endpoint),(([]:List Keep),(([]:List Item),())))),(.t tI (a1.2))],[])) (br (U7 p1 p2.2.1.1 ((((a1.1).2).2).1) p2.2.1.2.1) (br (!((YP p1 p2.2.1.1 ((((a1.1).2).2).1) p2.2.1.2.1).1)) (some (.tu [(.t Qo (([]:List Endpoint),(([]:List Keep),(([]:List Item),())))),(.t tI 43)],[])) (br (Zs p0) (br (cIx a2 p2.1) (br (cLd a2 a3) (some (.tu [(.t Qo ((YD p0).1,(((YD p0).2).1,((List.set a2 a3 (a1.1)),())))),(.t tI 0)],[])) none) none) none)) none)) none) none)))) none
theorem s_f13 (e:Estate)(y:Policy)(j:Job)(h:GF e y j=true):r_f13 e y j=some (.tu [.t Qo (apF e y j).1,.t tI (apF e y j).2],[]):=by
 have h:Zb e y=true:=h
 obtain ⟨hl1,hl2⟩:=Bh.1 h
 unfold r_f13 apF
 refine brY h ?_
 cases h1:ine (J6 e y) 0 with
 |true=>rfl
 |false=>
  rw [Ql,B3]
  cases h2:ilt j.1 0 with
  |true=>rfl
  |false=>
   rw [Ql,B3]
   cases h3:ige j.1 (Qd (Ji e)) with
   |true=>rfl
   |false=>
    rw [Ql,B3]
    have h2:=DF h2
    have h3:=DF h3
    simp only [Qd] at h3
    have hk:j.1.toNat<(Ji e).length:=by omega
    have hk2:j.1.toNat<(YD e).2.2.1.length:=hk
    have h3b: ¬ ((e.2.2.1.length:Nat):Int)<=j.1:=h3
    have hcx:cIx e.2.2.1 j.1=true:=Be ⟨by omega,by omega⟩
    refine brY hcx (brY (show Qcm y (Zk e j.1.toNat) j.2.1.1 j.2.1.2.1=true from Bh.2 ⟨hl2,QAh hl1 hk⟩) ?_)
    rw [ren_ne]
    cases h4:ine (Zt y (Zk e j.1.toNat) j.2.1.1 j.2.1.2.1) 0 with
    |true=>
     rw [Qg,Db,QAj h4]
     rfl
    |false=>
     rw [Ql,B3,QAi h4]
     refine brY (show JG y=true from hl2) ?_
     show br (!(YP y j.2.1.1 (Zk e j.1.toNat).2.2.1 j.2.1.2.1).1) _ _=_
     cases (YP y j.2.1.1 (Zk e j.1.toNat).2.2.1 j.2.1.2.1).1 with
     |false=>rfl
     |true=>
      rw [BI,Ql,B3]
      exact brY (jcpy h (jchk_z h1)) (brY hcx (brY (Be hk2) rfl))
def IU:Ent:=Qn (.pr Qo (.pr QF (.pr JC .nil))) (fun x=>(GF x.1 x.2.1 x.2.2.1)) (fun x=>(.tu [(.t Qo ((apF x.1 x.2.1 x.2.2.1).1)),(.t tI ((apF x.1 x.2.1 x.2.2.1).2))]))
theorem Qhc:EM 13 IU:=mS g_f13 tc_f13 [((.c 6 true 3),some Qo),((.t 7),some tI)] false (gB (gC Qnz Qf3 (gD Qpp (gC en_f54 ms_f54 (gD ms_f55 gN))))) fun m=>Qt m fun x hok=>kT (s_f13 x.1 x.2.1 x.2.2.1 hok)
def tc_f15:TC:=aF Tryz.f15 []
def g_f15:G:=gG 17 [(13,IU)] (fun _ _=>none)
def r_f15 (p0:Estate)(p1:Policy)(p2:Job):OV:=br (GF p0 p1 p2) (some (.t tI ((apF p0 p1 p2).2),[])) none
theorem s_f15 (e:Estate)(y:Policy)(j:Job)(h:GF e y j=true):r_f15 e y j=some (.t tI (apE e y j),[]):=by
 unfold r_f15
 exact brY h rfl
def Qhd:Ent:=Qn (.pr Qo (.pr QF (.pr JC .nil))) (fun x=>(GF x.1 x.2.1 x.2.2.1)) (fun x=>(.t tI (apE x.1 x.2.1 x.2.2.1)))
theorem Qpq:EM 15 Qhd:=mS g_f15 tc_f15 [((.t 6),some tI)] false (gB (gD Qhc gN)) fun m=>Qt m fun x hok=>kT (s_f15 x.1 x.2.1 x.2.2.1 hok)
def tc_f65:TC:=aF Tryz.f65 []
def g_f65:G:=gG 32 [(111,Qm8),(112,Qnc)] (fun _ _=>none)
def r_f65 (p0:Policy)(p1:Item):OV:=
 let a1:=YT p0 p1
 br (Ye p0 p1) (br (Ye p0 p1) (br (((Yf p0 p1).2).1) (some (.tu [(.t .bool (ile ((Yf p0 p1).1) p1.2.2.2.2.1)),(.t tI (a1.1)),(.t .bool ((a1.2).1))],[])) (some (.tu [(.t .bool false),(.t tI (a1.1)),(.t .bool ((a1.2).1))],[]))) none) none
theorem s_f65 (y:Policy)(i:Item)(h:Ye y i=true):r_f65 y i=some (.tu [.t .bool (stF y i).1,.t tI (stF y i).2.1,.t .bool (stF y i).2.2],[]):=by
 unfold r_f65
 refine brY h (brY h ?_)
 unfold stF
 cases (Yf y i).2.1<;>rfl
def Qpr:Ent:=Qn (.pr QF (.pr Qq .nil)) (fun x=>(Ye x.1 x.2.1)) (fun x=>(.tu [(.t .bool ((stF x.1 x.2.1).1)),(.t tI (((stF x.1 x.2.1).2).1)),(.t .bool (((stF x.1 x.2.1).2).2))]))
theorem ms_f65:EM 65 Qpr:=mS g_f65 tc_f65 [((.t 4),some .bool),((.t 5),some tI),((.t 6),some .bool)] false (gB (gC Qx4 Qx5 (gC Qyi Qyj gN))) fun m=>Qt m fun x hok=>kT (s_f65 x.1 x.2.1 hok)
def QaY (l:List Int):List Int:=l
def Qhe (l:List Int):Bool:=decide (l.length<=100000)
def QAk:TC:=aF Tryz.f110 []
def g_f110:G:=gG 9 [] (fun _ _=>none)
def Qps (p0:List Int):OV:=br (cSl p0 0 (Qd p0) (Qd p0)) (some (.t (.sl tI) (lsl p0 0 (Qd p0)),[])) none
theorem s_f110 (l:List Int)(h:Qhe l=true):Qps l=some (.t (.sl tI) (QaY l),[]):=by
 unfold Qps QaY
 have e1:cSl l 0 (Qd l) (Qd l)=true:=by simp only [cSl,Qd,Ba];omega
 have e2:lsl l 0 (Qd l)=l:=by simp [lsl,Qd]
 rw [e1,Qg,e2]
def Qpt:Ent:=Qn (.pr (.sl tI) .nil) (fun x=>(Qhe x.1)) (fun x=>(.t (.sl tI) (QaY x.1)))
theorem QAl:EM 110 Qpt:=mS g_f110 QAk [((.t 2),some (.sl tI))] false (gB gN) fun m=>Qt m fun x hok=>kT (s_f110 x.1 hok)
def IV (y:Policy)(l:List Item)(o:List Int)(k:Int):Bool:=JG y&&(Zx l&&decide ((o.length:Int)<=k))
def QaZ (e:Estate)(y:Policy)(_:Bool):Bool:=Zb e y
theorem QAm {y:Policy}{can:Bool}{l:List Item}{k:Nat}(hk:k<l.length):thZ y can (l.drop k) (k:Int)=bif thB y can l[k] then (k:Int)::thZ y can (l.drop (k+1)) ((k:Int)+1) else thZ y can (l.drop (k+1)) ((k:Int)+1):=by
 rw [Bj hk]
 rfl
abbrev Qa0:Sh:=⟨[(2,.ty .bool),(4,.ptr 4 0),(9,.ms 9),(22,.ty (.sl Qq)),(23,.ty tI),(24,.ty tI)],[(4,.box QF),(9,.arr 3 tI),(45,.no)]⟩
abbrev Qpu:Sh:=⟨[(9,.ms 9)],[(9,.arr 3 tI),(45,.no)]⟩
def Qhf:Fg:=Qa0.f
def Qpv:TC:=aF Tryz.f63 [(122,.nw 9 3),(122,pL 0 Qhf),(1957,.fg Qpu.f),(62,.fz [9])]
def Qpw:TC:=lb 0 Qpv
def Qpx (x2:Bool)(x22:List Item)(x23 x24:Int)(y4:Policy)(y9:List Int):VS:=Qa0.st (x2,(),(),x22,x23,x24,()) (y4,y9,(),())
def Qhg (y9:List Int):VS:=Qpu.st ((),()) (y9,(),())
def QAn:VS->Option (Bool×List (Bool×Exit×VS)):=mkL Qa0 (fun x y=>(Qy x.2.2.2.1 x.2.2.2.2.1 x.2.2.2.2.2.1&&IV y.1 x.2.2.2.1 y.2.1 x.2.2.2.2.2.1)) (fun x y=>[(true,.exit 0,Qhg (y.2.1++thZ y.1 x.1 (x.2.2.2.1.drop x.2.2.2.2.2.1.toNat) x.2.2.2.2.2.1))])
def Qhh:G:=gG 49 [(53,Qhb),(65,Qpr),(110,Qpt)] (Ls [QAn])
def Qa1 (x2:Bool)(x22:List Item)(x23 x24:Int)(y4:Policy)(y9:List Int):OX:=Qx (Qz Qhh Qhf Qpw) (Qpx x2 x22 x23 x24 y4 y9)
def IW (kk:Bool->List Item->Int->Int->Policy->List Int->OX)(x2:Bool)(x22:List Item)(x23 x24:Int)(y4:Policy)(y9:List Int):OX:=
 let a1:=lgt Qq x22 (Int.toNat x24)
 let a2:=Qi .i64 x24 1
 br (ilt x24 x23) (br (cIx x22 x24) (br (Ye y4 a1) (br ((stF y4 a1).1) (br (FP (((stF y4 a1).2).2) x2) (br (Qw y9 ([x24]) 8) (kk x2 x22 x23 a2 y4 (y9++([x24]))) none) (kk x2 x22 x23 a2 y4 y9)) (kk x2 x22 x23 a2 y4 y9)) none) none) (some (.exit 0,Qhg y9))
def Qa2 (x2:Bool)(x22:List Item)(x23 x24:Int)(y4:Policy)(y9:List Int):OX:=some (.exit 0,Qhg (y9++thZ y4 x2 (x22.drop x24.toNat) x24))
theorem Qpy (x2:Bool)(x22:List Item)(x23 x24:Int)(y4:Policy)(y9:List Int):Qa1 x2 x22 x23 x24 y4 y9=IW Qa1 x2 x22 x23 x24 y4 y9:=lnT (x:=IW (fun x2 x22 x23 x24 y4 y9=>some (.normal,Qpx x2 x22 x23 x24 y4 y9)) x2 x22 x23 x24 y4 y9) (by simp only [IW,nxA];rfl)
def r_f63 (p0:Estate)(p1:Policy)(p2:Bool):OV:=
 let a1:=(p0.2.2.1.drop (0:Int).toNat)
 br (Zb p0 p1) (br (ine (J6 p0 p1) 0) (some (.tu [(.t (.sl tI) ([]:List Int)),(.t tI (J6 p0 p1))],[])) (br (Qy p0.2.2.1 (Qd p0.2.2.1) (0:Int)&&IV p1 p0.2.2.1 ([]:List Int) (0:Int)) (br (Qhe (([]:List Int)++thZ p1 p2 a1 (0:Int))) (some (.tu [(.t (.sl tI) (QaY (([]:List Int)++thZ p1 p2 a1 (0:Int)))),(.t tI 0)],[])) none) none)) none
theorem QAo (x2:Bool)(x22:List Item)(x23 x24:Int)(y4:Policy)(y9:List Int)(h:(Qy x22 x23 x24&&IV y4 x22 y9 x24)=true):Qa1 x2 x22 x23 x24 y4 y9=Qa2 x2 x22 x23 x24 y4 y9:=by
 simp only [IV,Bc,Ba] at h
 obtain ⟨h0,g1,g2,g3⟩:=h
 obtain ⟨rfl,h3,k,rfl,hk⟩:=JE h0
 clear h0
 revert y9
 refine QX x22 (fun k=> ∀ y9:List Int,(y9.length:Int)<=(k:Int)->Qa1 x2 x22 (x22.length:Int) (k:Int) y4 y9=Qa2 x2 x22 (x22.length:Int) (k:Int) y4 y9) ?_ ?_ k hk
 ·intro y9 _
  rw [Qpy]
  simp only [IW,Qa2,QA,BS,BV,Ql,Bd,B6,thZ,BP]
 ·intro k hk ih y9 g3
  rw [Qpy]
  have c1:Ye y4 x22[k]=true:=Bh.2 ⟨g1,Qkj g2 hk⟩
  have c2:Qw y9 [(k:Int)] 8=true:=Jr (by omega) (by simp only [Bl];omega)
  simp only [IW,QA,QM,hk,Bx,Qg,Bd,QW (show k<4611686018427387904 by omega),QP (y:=Qq) hk,c1,c2]
  rw [ih y9 (by omega),ih (y9++[(k:Int)]) (by simp only [Bm,Bl];omega)]
  simp only [Qa2,Bd,QAm hk]
  unfold thB
  have e:((k+1:Nat):Int)=(k:Int)+1:=by omega
  rw [e]
  cases (stF y4 x22[k]).1 with
  |false=>rfl
  |true=>
   rw [Qg,By]
   have e2:FP (stF y4 x22[k]).2.2 x2=((stF y4 x22[k]).2.2==x2):=rfl
   rw [e2]
   cases ((stF y4 x22[k]).2.2==x2) with
   |false=>rfl
   |true=>simp only [Qg,Db,BN,BM]
theorem QAp:LO Qhh Qhf Qpw 0:=QI (s:=Qa0) fun x y h _ q=>by simp only [QG,QH] at q;exact (QAo x.1 x.2.2.2.1 x.2.2.2.2.1 x.2.2.2.2.2.1 y.1 y.2.1 h).trans q
theorem s_f63 (e:Estate)(y:Policy)(can:Bool)(h:QaZ e y can=true):r_f63 e y can=some (.tu [.t (.sl tI) (thF e y can).1,.t tI (thF e y can).2],[]):=by
 have h:Zb e y=true:=h
 obtain ⟨hl1,hl2⟩:=Bh.1 h
 have hi:=QaX hl1
 have hil:=O6 hi
 unfold r_f63 thF
 refine brY h ?_
 cases ine (J6 e y) 0 with
 |true=>rfl
 |false=>
  rw [Ql,B3]
  refine brY ?_ (brY ?_ ?_)
  ·rw [JF (show (Ji e).length<=100000 from hil),By]
   unfold IV
   rw [hl2,hi]
   rfl
  ·rw [BE,BL,BT]
   exact Be (Dk (Qsm y can _ _) hil)
  ·rw [BE,BL,BT]
   rfl
def Qpz:Ent:=Qn (.pr Qo (.pr QF (.pr .bool .nil))) (fun x=>(QaZ x.1 x.2.1 x.2.2.1)) (fun x=>(.tu [(.t (.sl tI) ((thF x.1 x.2.1 x.2.2.1).1)),(.t tI ((thF x.1 x.2.1 x.2.2.1).2))]))
theorem ms_f63:EM 63 Qpz:=mS (lk:=lkL (lkc QAp lkn)) Qhh Qpv [((.t 6),some (.sl tI)),((.t 7),some tI)] false (gB (gD Qpp (gD ms_f65 (gD QAl gN)))) fun m=>Qt m fun x hok=>kT (s_f63 x.1 x.2.1 x.2.2.1 hok)
def Qa3 (e:Estate)(y:Policy):List Int×Int:=thF e y true
def Qhi:TC:=aF Tryz.f19 []
def QpA:List (RV×Option Ty):=[((.t 4),some (.sl tI)),((.t 5),some tI)]
def Qa4:G:=gG 11 [(63,Qpz)] (fun _ _=>none)
def Qhj (p0:Estate)(p1:Policy):OV:=br (QaZ p0 p1 true) (some (.tu [(.t (.sl tI) ((thF p0 p1 true).1)),(.t tI ((thF p0 p1 true).2))],[])) none
theorem e_f19 (p0:Estate)(p1:Policy):QK Qa4 Qhi QpA false [.t Qo p0,.t QF p1] []=Qhj p0 p1:=by kernel_rfl
theorem gk_f19:GOk Tryz.prog Qa4:=Jg _ (gA (gD ms_f63 gN))
theorem lk_f19:Qhi.lok Qa4:=by repeat (first|exact trivial|refine ⟨?_, ?_⟩)
theorem s_f19 (e:Estate)(y:Policy)(h:Zb e y=true):Qhj e y=some (.tu [.t (.sl tI) (Qa3 e y).1,.t tI (Qa3 e y).2],[]):=by
 unfold Qhj
 exact brY (show QaZ e y true=true from h) rfl
def QpB:Ent:=Qn (.pr Qo (.pr QF .nil)) (fun x=>(Zb x.1 x.2.1)) (fun x=>(.tu [(.t (.sl tI) ((Qa3 x.1 x.2.1).1)),(.t tI ((Qa3 x.1 x.2.1).2))]))
theorem ms_f19:Qp Tryz.prog 19 (Qr QpB):=Qt (R:=QK Qa4 Qhi QpA false) (mG Tryz.func19 (by kernel_rfl) Tryz.ntmps19 (by kernel_rfl) gk_f19 lk_f19) fun x hok=>(e_f19 x.1 x.2.1).trans (s_f19 x.1 x.2.1 hok)
theorem QAq (e:Estate)(k:Nat)(x:Item):(Ji (QiD e k x)).length=(Ji e).length:=List.length_set
theorem Qa5 {e:Estate}{y:Policy}{j:Job}(h:Zb e y=true)(h0:apE e y j=0):Zb (apF e y j).1 y=true:=by
 obtain ⟨h1,h2,h3,h4,h5,h6⟩:=ap_ok h0
 obtain ⟨hl1,hl2⟩:=Bh.1 h
 rw [h6]
 refine Bh.2 ⟨?_,hl2⟩
 have hi:=QaX hl1
 simp only [ZH,Bc] at hl1 ⊢
 refine ⟨hl1.1,hl1.2.1, ?_⟩
 have hk:j.1.toNat<(Ji e).length:=by omega
 unfold Zx at hi ⊢
 obtain ⟨g1,g2⟩:=Bh.1 hi
 refine Bh.2 ⟨?_,Bg.2 fun z hz=> ?_⟩
 ·rw [QAq]
  exact g1
 ·rcases List.mem_or_eq_of_mem_set hz with hz|hz
  ·exact Bg.1 g2 z hz
  ·rw [hz]
   show Yh (Zk e j.1.toNat)=true
   rw [Qsl hk]
   exact Bg.1 g2 _ (Bu hk)
theorem apE_ne (e:Estate)(y:Policy)(j:Job):ieq (apE e y j) 0= !ine (apF e y j).2 0:=by
 show (apE e y j==0)= !(apE e y j != 0)
 rw [bne,Bool.not_not]
def FV (e:Estate)(y:Policy)(_:List Job):Bool:=Zs e&&JG y
theorem QpC {e:Estate}{y:Policy}{l:List Job}(h:FV e y l=true):Zb e y=true:=by
 obtain ⟨h1,h2⟩:=Bh.1 h
 exact Bh.2 ⟨(Bh.1 h1).1,h2⟩
theorem QpD {y:Policy}: ∀ {l:List Job} {e:Estate} {n:Int},ine (JU y l e n).2.2 0=false->(JU y l e n).2.1=n+l.length/\(JU y l e n).2.2=0
 | [],e,n,_=>⟨by simp [JU],rfl⟩
 |j::l,e,n,h=>by
  unfold JU at h ⊢
  cases hq:ieq (apE e y j) 0 with
  |true=>
   rw [hq] at h
   have:=QpD (l:=l) h
   simp only [Db,Bp]
   exact ⟨by rw [this.1];omega,this.2⟩
  |false=>
   rw [hq] at h
   have h:ine (apE e y j) 0=false:=h
   have:apE e y j=0:=by simpa [ine] using h
   rw [this] at hq
   cases hq
-- loop 0: (x2 : (List Job)) (x20 : (List Job)) (x21 : Int) (x22 : Int) (y4 : Policy) (y6 : Estate) (y9 : Estate); out: ('ret',) (x7 : Int) (x8 : Int) (y6 : Estate); ('exit', 0) (x2 : (List Job)) (y6 : Estate) (y9 : Estate)
end
end Go.Proofs.YthlcobdnemhcdaaGreat.K
noncomputable section
namespace Go.Proofs.YthlcobdnemhcdaaGreat.K
open Go.RowKit Go.Conc
def Rd (X:Nat->Nat->Prop)(w:World)(y:Ty)(x:y.T)(u:Value):Prop:=C X w QO (V.t y x).d u
def StX (X:Nat->Nat->Prop)(w w':World):Prop:=w.heap.size<=w'.heap.size∧ ∀ b o,b<w.heap.size→ ¬ X b o->w'.cell? ⟨b,o,none⟩=w.cell? ⟨b,o,none⟩
theorem Or {X X':Nat->Nat->Prop}{w:World}{σ:Pl}{y:Ty}{x:y.T}{u:Value}(h:C X' w σ (V.t y x).d u)(hx: ∀ b q,b<w.heap.size->X b q->X' b q):Rd X w y x u:=
 C.ext0 (X:=X') (X':=X) ⟨Bv _,fun b q hb hn=>⟨fun h=>hn (hx b q hb h),rfl⟩⟩ _ _ (fun k hk=>by rw [show (V.t y x).d=y.d x from rfl,Ty.refs_d] at hk;cases hk) h
theorem Rd.stand {X:Nat->Nat->Prop}{w w':World}{y:Ty}{x:y.T}{u:Value}(h:Rd X w y x u)(k:StX X w w'):Rd X w' y x u:=
 C.ext0 (X:=X) (X':=X) ⟨k.1,fun b q hb hn=>⟨hn,k.2 b q hb hn⟩⟩ _ _ (fun _ _=>rfl) h
theorem Rd.more {X X':Nat->Nat->Prop}{w:World}{y:Ty}{x:y.T}{u:Value}(h:Rd X w y x u)(hx: ∀ b q,b<w.heap.size->X' b q->X b q):Rd X' w y x u:=Or h hx
theorem StX.below {X:Nat->Nat->Prop}{w w':World}(h:Below w.heap.size w w'):StX X w w':=⟨h.size,fun b o hb _=>h.cell (p:=⟨b,o,none⟩) hb⟩
theorem QCI {X:Nat->Nat->Prop}{w:World}{e:Estate}{u:Value}(hfin: ∀ b q,X b q->b<w.heap.size)(hs:Rd X w Qo e u)(h:Zs e=true):
  Calls Tryz.prog 51 #[u] w fun en w'=> ∃ v,en= .returned v/\Rd X w' Qo e v/\Below w.heap.size w w':=by
 refine (PJ.copyMeets hfin hs h).mono ?_
 rintro en w' ⟨v,X',σ',rfl,h1,h2⟩
 exact ⟨v,rfl,Or h1 (fun b q _ hx=>h2.old b q (hfin b q hx) (fun i hi=>absurd hi (by simp)) hx),Qc2 h2⟩
theorem QCJ {X:Nat->Nat->Prop}{w:World}{e:Estate}{y:Policy}{j:Job}{u v:Value}(hfin: ∀ b q,X b q->b<w.heap.size)(hs:Rd X w Qo e u)(hp:Rd X w QF y v)(h:Zb e y=true):
  Calls Tryz.prog 13 #[u,v,jV j] w fun en w'=> ∃ r,en= .returned (.tuple #[r,.int .i64 (apF e y j).2])/\Rd X w' Qo (apF e y j).1 r/\Below w.heap.size w w':=by
 have hF:Qr IU [.t Qo e,.t QF y,.t JC j] []=some (.tu [.t Qo (apF e y j).1,.t tI (apF e y j).2],[]):=by
  unfold IU
  exact QgT (a:= .pr Qo (.pr QF (.pr JC .nil))) (x:=(e,(y,(j,())))) (by simp [Ty.args,QjT]) h
 have hj:C X w QO (V.t JC j).d (jV j):=by
  simp only [V.d]
  rw [Ty.d_row JC _ rfl]
  simp only [C]
  exact ⟨[.int .i64 j.1,.int .i64 j.2.1.1.1,.int .i64 j.2.1.1.2.1,.int .i64 j.2.1.2.1],rfl,_,_,rfl,⟨rfl,rfl⟩,_,_,rfl,⟨rfl,rfl⟩,_,_,rfl,⟨rfl,rfl⟩,_,_,rfl,⟨rfl,rfl⟩,rfl⟩
 refine (Wr (by decide) (Qhc.2 _ _ _ _ hF X w QO [u,v,jV j] hfin Qc1 ⟨u,_,rfl,hs,v,_,rfl,hp,jV j,_,rfl,hj,rfl⟩)).mono ?_
 rintro en w' ⟨r,X',σ',rfl,h1,h2⟩
 have h1:C X' w' σ' (.tu [(V.t Qo (apF e y j).1).d,.v (.int .i64 (apF e y j).2)]) r:=h1
 simp only [C,Cs] at h1
 obtain ⟨vs,rfl,u1,us,rfl,c1,u2,us2,rfl,⟨rfl,_⟩,rfl⟩:=h1
 exact ⟨u1,rfl,Or c1 (fun b q _ hx=>h2.old b q (hfin b q hx) (fun i hi=>absurd hi (by simp)) hx),Qc2 h2⟩
theorem Qb8 {w:World}{g:Nat}{t:TypeId}{a b c:Value}(h:Go.Proofs.YthlcobdnemhcdaaGreat.Blk w g t #[a,b,c])(x0 x1 x2:Value):
  Go.Proofs.YthlcobdnemhcdaaGreat.Blk (((w.setCell ⟨g,0,none⟩ x0).setCell ⟨g,1,none⟩ x1).setCell ⟨g,2,none⟩ x2) g t #[x0,x1,x2]:=((h.set_ 0 x0).set_ 1 x1).set_ 2 x2
theorem Qb9 (w:World)(g:Nat)(x0 x1 x2:Value):w.grownBy (((w.setCell ⟨g,0,none⟩ x0).setCell ⟨g,1,none⟩ x1).setCell ⟨g,2,none⟩ x2) (some g):=
 have h1:=QiM (World.grownBy.refl w (some g)) (p:=⟨g,0,none⟩) (.inl rfl) x0
 have h2:=QiM h1 (p:=⟨g,1,none⟩) (.inl rfl) x1
 QiM h2 (p:=⟨g,2,none⟩) (.inl rfl) x2
theorem QrU {X:Nat->Nat->Prop}{w w':World}{g:Nat}(h:w.grownBy w' (some g))(hx: ∀ o,X g o):StX X w w':=⟨h.size,fun b o hb hn=>by
 by_cases hg:b=g
 ·subst hg
  exact absurd (hx o) hn
 ·have:=h.block b hb (fun e=>hg (by injection e))
  simp [World.cell?, this]⟩
theorem QrV (w:World)(c cap:Nat)(buf:Array Value)(cl:Bool)(s r:Nat)(tm:Bool):w.grownBy (w.setChan c cap buf cl s r tm) (some c):=
 ⟨rfl,rfl,rfl,by simp [World.setChan],fun k _ hne=>by simp only [World.setChan];rw [Array.getElem?_setIfInBounds_ne (fun e=>hne (by rw [e]))]⟩
theorem QCK {w:World}{c:Nat}{cap:Nat}{buf:Array Value}{cl:Bool}{s r:Nat}{tm:Bool}(h:w.heap[c]? = some (.chan cap buf cl s r tm))(cap':Nat)(buf':Array Value)(cl':Bool)(s' r':Nat)(tm':Bool)(X:Nat->Nat->Prop):StX X w (w.setChan c cap' buf' cl' s' r' tm'):=by
 have hlt:=(BQ.1 h).1
 have hg:=QrV w c cap' buf' cl' s' r' tm'
 refine ⟨hg.size,fun b o hb _=> ?_⟩
 by_cases hc:b=c
 ·subst hc
  have h2:=heap_setChan w b cap' buf' cl' s' r' tm' hlt
  simp [World.cell?, h,h2]
 ·have:=hg.block b hb (fun e=>hc (by injection e))
  simp [World.cell?, this]
theorem QCL {X:Nat->Nat->Prop}{w:World}{σ:Pl}{s:Policy}{u:Value}(h:C X w σ (V.t QF s).d u): ∃ v0 v1,u= .agg #[v0,v1]/\(v0.oneCell'=true/\v1.oneCell'=true):=by
 simp only [V.d] at h
 rw [Ty.d_row QF _ rfl] at h
 simp only [C] at h
 obtain ⟨us,rfl,h⟩:=h
 have hl:us.length=2:=h.len.trans (by rw [QF.cells_len];rfl)
 have one: ∀ v∈us,v.oneCell'=true:=fun v hv=>Cs.cell1 h (show (QF.cells s).all D.cell1=true from rfl) v hv
 match us,hl with
 | [v0,v1],_=>exact ⟨v0,v1,rfl,one _ (by simp),one _ (by simp)⟩
theorem Qca {X:Nat->Nat->Prop}{w:World}{σ:Pl}{s:Estate}{u:Value}(h:C X w σ (V.t Qo s).d u): ∃ v0 v1 v2,u= .agg #[v0,v1,v2]/\(v0.oneCell'=true/\v1.oneCell'=true/\v2.oneCell'=true):=by
 simp only [V.d] at h
 rw [Ty.d_row Qo _ rfl] at h
 simp only [C] at h
 obtain ⟨us,rfl,h⟩:=h
 have hl:us.length=3:=h.len.trans (by rw [Qo.cells_len];rfl)
 have one: ∀ v∈us,v.oneCell'=true:=fun v hv=>Cs.cell1 h (show (Qo.cells s).all D.cell1=true from rfl) v hv
 match us,hl with
 | [v0,v1,v2],_=>exact ⟨v0,v1,v2,rfl,one _ (by simp),one _ (by simp),one _ (by simp)⟩
end Go.Proofs.YthlcobdnemhcdaaGreat.K
noncomputable section
namespace Go.Proofs.YthlcobdnemhcdaaGreat.K
open Go.RowKit Go.Conc
theorem QEX {l:List Job}{k:Nat}(hk:k<l.length):((l.drop k).map jV).toArray.getD 0 undef=jV l[k]/\((l.drop k).map jV).toArray.extract 1 ((l.drop k).map jV).toArray.size=((l.drop (k+1)).map jV).toArray:=by
 rw [Bj hk,BF]
 constructor
 ·rfl
 ·rw [←Array.toList_inj]
  simp only [Array.toList_extract,Dt,Bp]
  simp
  exact DQ (by simp)
theorem Qjg {X0 X:Nat->Nat->Prop}{w W W':World}{S g:Nat}{x:Estate}{u:Value}(hv:Rd X W Qo x u)(hg:W.grownBy W' (some g))(hX: ∀ o,X g o)(h0: ∀ b o,X0 b o->X b o)(hb:Below S w W)(h1:S<=g)(h2:S<=W.heap.size):Rd X0 W' Qo x u/\Below S w W':=
 ⟨(hv.stand (QrU hg hX)).more (fun b o _ h=>h0 b o h),U3 hb hg h1 h2⟩
section
variable {P:Program}{Q:Exit->Act->World->Prop}{a:Act}{w:World}{ops:Array Oper}
theorem Qtq {i:Nat}{rest:List Nat}{o:Oper}{v:Value}{w':World}(d:Option Nat)(ho:ops[i]? = some o)(hd:o.dst=d)(hw:Region.wanted o (yielded ops a.tmps)=true)(hr:(execOp a.eval o).run P w= .ok (.value v) w')
  (h:LN P ops Q rest (a.put d v) w'):LN P ops Q (i::rest) a w:=LN.value ho hw hr (hd▸h)
theorem QEY {i:Nat}{rest:List Nat}{o:Oper}{c cap s r:Nat}{buf:Array Value}{z:Value}{tm closed ok:Bool}(d:Option Nat)(ho:ops[i]? = some o)(hd:o.dst=d)(hw:Region.wanted o (yielded ops a.tmps)=true)
  (hr:(execOp a.eval o).run P w= .ok (.comm #[rcase c z] true (.recv ok)) w) (hc:w.heap[c]? = some (.chan cap buf closed s r tm)) (hs:0<buf.size)
  (h:LN P ops Q rest (a.put d (got ok (buf.getD 0 undef) true)) (w.setChan c cap (buf.extract 1 buf.size) closed s (r+1) tm)):LN P ops Q (i::rest) a w:=LN.recv ho hw hr hc hs (hd▸h)
theorem QEZ {i:Nat}{rest:List Nat}{o:Oper}{c cap s r:Nat}{z:Value}{tm ok:Bool}(d:Option Nat)(ho:ops[i]? = some o)(hd:o.dst=d)(hw:Region.wanted o (yielded ops a.tmps)=true)
  (hr:(execOp a.eval o).run P w= .ok (.comm #[rcase c z] true (.recv ok)) w) (hc:w.heap[c]? = some (.chan cap #[] true s r tm))
  (h:LN P ops Q rest (a.put d (got ok z false)) w):LN P ops Q (i::rest) a w:=LN.shut ho hw hr hc (hd▸h)
end
set_option maxRecDepth 50000 in
set_option maxHeartbeats 4000000 in
theorem Qtr {X0:Nat->Nat->Prop}{w:World}{e:Estate}{y:Policy}{l:List Job}{A:Option Addr}{n c:Nat}{a0 a1 a2 p0 p1:Value}(hn:l.length=n)(hl:n<=9223372036854775807)
  (hX0: ∀ b o,X0 b o->b<w.heap.size) (he:Rd X0 w Qo e (.agg #[a0,a1,a2])) (hp:Rd X0 w QF y (.agg #[p0,p1])) (oa0:a0.oneCell'=true) (oa1:a1.oneCell'=true) (oa2:a2.oneCell'=true) (op0:p0.oneCell'=true) (op1:p1.oneCell'=true)
  (hc:0<n→ ∃ b off,A=some ⟨b,off,none⟩/\b<w.heap.size∧ ∀ j v,(cJ l)[j]? = some v->w.cell? ⟨b,off+j,none⟩=some v) (h:FV e y l=true):
  Calls Tryz.prog 12 #[.agg #[a0,a1,a2],.agg #[p0,p1],.slice A n c] w fun en w'=> ∃ v,en= .returned (.tuple #[v,.int .i64 (JD e y l).2.1,.int .i64 (JD e y l).2.2])/\Rd X0 w' Qo (JD e y l).1 v/\Below w.heap.size w w':=by
 have HC:=Lib.hid hc
 have HN:=Lib.hid hn
 have HE:=Lib.hid he
 have HP:=Lib.hid hp
 have HH:=Lib.hid h
 have HX0:=Lib.hid hX0
 clear hc hn he hp h hX0
 refine WN.calls Tryz.func12 rfl ?_
 simp only [Tryz.ntmps12,Dt,Bp,BD,Nat.reduceAdd,Nat.reduceSub,Array.replicate_succ,
   Array.replicate_zero,List.push_toArray,List.append_toArray,BT,Dl]
 refine WN.seq (WN.of ?_)
 go_wp2_with fail
 refine WN.seq (WN.of ?_)
 go_wp2_with fail
 obtain ⟨Wa,hWa⟩: ∃ W,W=w.alloc (.cells #[a0,a1,a2] 29):=⟨_,rfl⟩
 obtain ⟨Wb,hWb⟩: ∃ W,W=Wa.alloc (.cells #[p0,p1] 33):=⟨_,rfl⟩
 obtain ⟨Wc,hWc⟩: ∃ W,W=Wb.alloc (.cells #[.slice none 0 0,.slice none 0 0,.slice none 0 0] 29):=⟨_,rfl⟩
 obtain ⟨S,hS⟩: ∃ S,S=w.heap.size:=⟨_,rfl⟩
 rw [←hWa, ← hWb, ← hWc, ← hS]
 have sa:Wa.heap.size=S+1:=by rw [hWa,World.size_alloc,hS]
 have sb:Wb.heap.size=S+1+1:=by rw [hWb,World.size_alloc,sa]
 have sc:Wc.heap.size=S+1+1+1:=by rw [hWc,World.size_alloc,sb]
 have bW:Below w.heap.size w Wc:=by
  rw [hWc,hWb,hWa]
  have e1:=(Below.refl w.heap.size w).alloc (Bv _) (.cells #[a0,a1,a2] 29)
  have e2:=e1.alloc e1.size (.cells #[p0,p1] 33)
  exact e2.alloc e2.size _
 have kP:Go.Proofs.YthlcobdnemhcdaaGreat.Blk Wc (S+1) 33 #[p0,p1]:=by
  rw [hWc];refine Go.Proofs.YthlcobdnemhcdaaGreat.Blk.alloc ?_ _;rw [hWb, ← sa];exact Go.Proofs.YthlcobdnemhcdaaGreat.Blk.new _ _ _
 have kR:Go.Proofs.YthlcobdnemhcdaaGreat.Blk Wc (S+1+1) 29 #[.slice none 0 0,.slice none 0 0,.slice none 0 0]:=by
  rw [hWc, ← sb];exact Go.Proofs.YthlcobdnemhcdaaGreat.Blk.new _ _ _
 clear hWa hWb hWc sa sb
 have e1:Rd (fun b o=>X0 b o∨b=S+1+1) Wc Qo e (.agg #[a0,a1,a2]):=(HE.out.more (fun b o hb hx=>hx.elim id (fun h=>by omega))).stand (StX.below bW)
 have p1':Rd (fun b o=>X0 b o∨b=S+1+1) Wc QF y (.agg #[p0,p1]):=(HP.out.more (fun b o hb hx=>hx.elim id (fun h=>by omega))).stand (StX.below bW)
 have hok:=Bh.1 HH.out
 refine (QCI (fun b o hx=>hx.elim (fun h=>by have:=HX0.out b o h;omega) (fun h=>by omega)) e1 hok.1).mono ?_
 rintro en w1 ⟨v,rfl,hv,hb1⟩
 have hjl:=QpC HH.out
 obtain ⟨c0,c1,c2,rfl,oc0,oc1,oc2⟩:=Qca hv
 have kP:=kP.ext hb1
 have kR:=kR.ext hb1
 have bl1:Below S w w1:=hS▸Uh bW hb1 (by omega)
 obtain ⟨q,hq⟩: ∃ q,q=w1.heap.size:=⟨_,rfl⟩
 have hqS:S+1+1<q:=by have:=hb1.size;omega
 have hv:Rd (fun b o=>X0 b o∨b=S+1+1∨b=q) w1 Qo e (.agg #[c0,c1,c2]):=hv.more (fun b o hb hx=>hx.elim .inl (fun h=>h.elim .inr (fun h=>by omega)))
 have hp2:Rd (fun b o=>X0 b o∨b=S+1+1∨b=q) w1 QF y (.agg #[p0,p1]):=(p1'.stand (StX.below hb1)).more (fun b o hb hx=>hx.elim .inl (fun h=>h.elim .inr (fun h=>by omega)))
 have HV:=Lib.hid hv
 have HP2:=Lib.hid hp2
 have HKP:=Lib.hid kP
 have HKR:=Lib.hid kR
 have HB1:=Lib.hid bl1
 have HQ:=Lib.hid hq
 have HQS:=Lib.hid hqS
 have HJ:=Lib.hid hjl
 have HS:=Lib.hid hS
 clear bW kP kR e1 p1' hb1 hv hp2 bl1 hq hqS hjl sc hS hok HE HP oa0 oa1 oa2
 have sv0:=fun a m W=>run_store Tryz.prog W a c0 m oc0
 have sv1:=fun a m W=>run_store Tryz.prog W a c1 m oc1
 have sv2:=fun a m W=>run_store Tryz.prog W a c2 m oc2
 go_wp2_with fail
 clear sv0 sv1 sv2
 obtain ⟨W2,hW2⟩: ∃ W,W=w1.alloc (.cells #[c0,c1,c2] 29):=⟨_,rfl⟩
 have hq:=HQ.out
 rw [←hW2, ← hq]
 have b2:Below w1.heap.size w1 W2:=hW2▸(Below.refl _ _).alloc (Bv _) _
 have HKQ:=Lib.hid (show Go.Proofs.YthlcobdnemhcdaaGreat.Blk W2 q 29 #[c0,c1,c2] by rw [hW2,hq];exact Go.Proofs.YthlcobdnemhcdaaGreat.Blk.new _ _ _)
 have HKP:=Lib.hid (HKP.out.ext b2)
 have HKR:=Lib.hid (HKR.out.ext b2)
 have HV:=Lib.hid (HV.out.stand (StX.below b2))
 have HP2:=Lib.hid (HP2.out.stand (StX.below b2))
 have HB2:=Lib.hid (Uh HB1.out b2 (by have:=HQS.out;omega))
 clear hW2 b2 hq HB1 HQ
 by_cases h60:60<n
 ·have z0:=HKQ.out.cell 0
  have z1:=HKQ.out.cell 1
  have z2:=HKQ.out.cell 2
  have r0:=HKR.out.cell 0
  have r1:=HKR.out.cell 1
  have r2:=HKR.out.cell 2
  have f0:=HKR.out.frozen 0
  have f1:=HKR.out.frozen 1
  have f2:=HKR.out.frozen 2
  simp only [Dg,BR,BW] at z0 z1 z2 r0 r1 r2
  refine WN.seq (WN.seq (WN.of ?_))
  go_wp2_with fail
  refine WN.of ?_
  have sv0:=fun a m W=>run_store Tryz.prog W a c0 m oc0
  have sv1:=fun a m W=>run_store Tryz.prog W a c1 m oc1
  have sv2:=fun a m W=>run_store Tryz.prog W a c2 m oc2
  go_wp2_with fail
  have hfin:=Qb8 HKR.out c0 c1 c2
  have hgf:=Qb9 W2 (S+1+1) c0 c1 c2
  generalize ((W2.setCell ⟨S+1+1,0,none⟩ c0).setCell ⟨S+1+1,1,none⟩ c1).setCell ⟨S+1+1,2,none⟩ c2=W3 at*
  have q0:=hfin.cell 0
  have q1:=hfin.cell 1
  have q2:=hfin.cell 2
  simp only [Dg,BR,BW] at q0 q1 q2
  obtain ⟨g1,g2⟩:=Qjg HV.out hgf (fun _=> .inr (.inl rfl)) (fun _ _ h=> .inl h) HB2.out (by omega) (by have:=HKQ.out.lt;have:=HQS.out;omega)
  refine bodyPost_ret (by simp [results,Tryz.results12,go_sem,q0,q1,q2];rfl) rfl ?_
  have ea:JD e y l=(e,0,3):=by
   unfold JD
   rw [show igt (Qd l) 60=true from Be (by simp only [Qd,HN.out];omega)]
   rfl
  rw [ea]
  exact ⟨_,rfl,g1,by rw [←HS.out];exact g2⟩
 ·refine WN.seq (WN.seq (WN.of ?_))
  go_wp2_with fail
  refine WN.of ?_
  go_wp2_with fail
  refine WN.seq (WN.of ?_)
  go_wp2_with fail
  have hc2:0<n→ ∃ b off,A=some ⟨b,off,none⟩/\b<W2.heap.size∧ ∀ j v,(cJ l)[j]? = some v->W2.cell? ⟨b,off+j,none⟩=some v:=fun h0=>by
   obtain ⟨b,off,rfl,g1,g2⟩:=HC.out h0
   have hb:b<S:=by rw [HS.out];exact g1
   exact ⟨b,off,rfl,by have:=HKQ.out.lt;have:=HQS.out;omega,fun j v hj=>(HB2.out.cell (p:=⟨b,off+j,none⟩) hb).trans (g2 j v hj)⟩
  have HC2:=Lib.hid hc2
  clear hc2
  refine WN.seq (WN.seq (WN.of ?_))
  go_wp2_with fail
  refine (Qzo l A n c W2 HN.out (by omega) HC2.out).mono ?_
  rintro en w4 ⟨ch,rfl,hch1,hch2,hca,hb4⟩
  have hqW:q<W2.heap.size:=HKQ.out.lt
  have hqS:=HQS.out
  have HKQ:=Lib.hid (HKQ.out.ext hb4)
  have HKP:=Lib.hid (HKP.out.ext hb4)
  have HKR:=Lib.hid (HKR.out.ext hb4)
  have HV:=Lib.hid (HV.out.stand (StX.below hb4))
  have HP2:=Lib.hid (HP2.out.stand (StX.below hb4))
  have HB4:=Lib.hid (Uh HB2.out hb4 (by omega))
  have HCA:=Lib.hid hca
  have HCH:=Lib.hid (show q<ch by omega)
  have HCW:=Lib.hid hch2
  clear hb4 hch1 hch2 hca HB2 HC2
  go_wp2_with fail
  refine WN.block (WN.loop (fun m a w'=> ∃ (k:Nat) (cur:Estate) (s r:Nat) (d0 d1 d2 u11 u12 u13 u22 u23 u24 u25 u26 u27 u28 u29 u30 u31 u32 u33 u34 u35 u36 u37 u38 u39 u40 u41:Value),m+k=n/\a=⟨#[.agg #[a0,a1,a2],.agg #[p0,p1],.slice A n c,.pointer (some ⟨S,0,none⟩),.pointer (some ⟨S+1,0,none⟩),undef,
     .pointer (some ⟨S+1+1,0,none⟩),.int .i64 0,.int .i64 0,.pointer (some ⟨q,0,none⟩),.int .i64 k,u11,u12,u13,.agg #[a0,a1,a2],.agg #[c0,c1,c2],.slice A n c,.int .i64 n,.bool (decide (60<(n:Int))),undef,.slice A n c,.chan (some ch),
     u22,u23,u24,u25,u26,u27,u28,u29,u30,u31,u32,u33,u34,u35,u36,u37,u38,u39,u40,u41],[]⟩∧
    w'.heap[ch]? = some (.chan n ((l.drop k).map jV).toArray true s r false)/\Go.Proofs.YthlcobdnemhcdaaGreat.Blk w' q 29 #[d0,d1,d2]/\(d0.oneCell'=true/\d1.oneCell'=true/\d2.oneCell'=true)∧
    Go.Proofs.YthlcobdnemhcdaaGreat.Blk w' (S+1) 33 #[p0,p1]/\Go.Proofs.YthlcobdnemhcdaaGreat.Blk w' (S+1+1) 29 #[.slice none 0 0,.slice none 0 0,.slice none 0 0]∧
    Rd (fun b o=>X0 b o∨b=S+1+1∨b=q) w' Qo cur (.agg #[d0,d1,d2])/\Rd (fun b o=>X0 b o∨b=S+1+1∨b=q) w' QF y (.agg #[p0,p1])/\Below S w w'/\Zb cur y=true/\JU y (l.drop k) cur k=JU y l e 0) n ?_ ?_)
  ·obtain ⟨s,r,hch⟩:=HCA.out
   exact ⟨0,e,s,r,c0,c1,c2,_,_,_,_,_,_,_,_,_,_,_,_,_,_,_,_,_,_,_,_,_,_,_,rfl,rfl,hch,HKQ.out,⟨oc0,oc1,oc2⟩,HKP.out,HKR.out,HV.out,HP2.out,HB4.out,HJ.out,rfl⟩
  ·rintro m a w' ⟨k,cur,s,r,d0,d1,d2,u11,u12,u13,u22,u23,u24,u25,u26,u27,u28,u29,u30,u31,u32,u33,u34,u35,u36,u37,u38,u39,u40,u41,hm,rfl,hch,kq,⟨od0,od1,od2⟩,kp,kr,rv,rp,bl,hjl,hz⟩
   have HM:=Lib.hid hm
   have HCH2:=Lib.hid hch
   have HKQ:=Lib.hid kq
   have HKP:=Lib.hid kp
   have HKR:=Lib.hid kr
   have HV:=Lib.hid rv
   have HP2:=Lib.hid rp
   have HB4:=Lib.hid bl
   have HJ:=Lib.hid hjl
   have HZ:=Lib.hid hz
   clear hm hch kq kp kr rv rp bl hjl hz oc0 oc1 oc2
   refine WN.seq (LN.region ?_)
   simp only [Dt,Bp,BD,Nat.reduceAdd,List.range,List.range.loop]
   have hlt3:ch<w'.heap.size:=(BQ.1 HCH2.out).1
   by_cases hlt:k<n
   ·have hkl:k<l.length:=by rw [HN.out];exact hlt
    obtain ⟨j1,j2⟩:=QEX hkl
    obtain ⟨t,ht⟩: ∃ t,t=l[k]:=⟨_,rfl⟩
    rw [←ht] at j1
    have hd:JU y (l.drop k) cur (k:Int)=bif ieq (apE cur y t) 0 then JU y (l.drop (k+1)) (apF cur y t).1 ((k:Int)+1) else (cur,(k:Int),apE cur y t):=by
     rw [Bj hkl,ht]
     rfl
    have HZ:=Lib.hid (hd.symm.trans HZ.out)
    clear hd ht
    refine QEY (some 22) (i:=0) (c:=ch) (z:= .agg #[.int .i64 0,.int .i64 0,.int .i64 0,.int .i64 0]) (ok:=true) rfl rfl rfl (by simp [go_sem,rcase]) HCH2.out (by simp;omega) ?_
    rw [j1,j2]
    obtain ⟨W3,hW3⟩: ∃ W,W=w'.setChan ch n ((l.drop (k+1)).map jV).toArray true s (r+1) false:=⟨_,rfl⟩
    rw [←hW3]
    refine Qtq (some 23) (i:=1) rfl rfl rfl (v:= .bool true) (w':=W3) (by simp [go_sem,got]) ?_
    refine LN.nil ?_
    have HCH3:=Lib.hid (show W3.heap[ch]? = some (.chan n ((l.drop (k+1)).map jV).toArray true s (r+1) false) by rw [hW3];exact heap_setChan w' ch n _ true s (r+1) false hlt3)
    have hcc:=QCK HCH2.out n ((l.drop (k+1)).map jV).toArray true s (r+1) false (fun b o=>X0 b o∨b=S+1+1∨b=q)
    have hgc:=QrV w' ch n ((l.drop (k+1)).map jV).toArray true s (r+1) false
    have hbc:=below_setChan HB4.out (show S<=ch by have:=HCH.out;omega) n ((l.drop (k+1)).map jV).toArray true s (r+1) false
    rw [←hW3] at hcc hgc hbc
    have hqc:=HCH.out
    have hc3:ch<W3.heap.size:=(BQ.1 HCH3.out).1
    have HKQ:=Lib.hid (HKQ.out.grown hgc (fun e=>by injection e;omega))
    have HKP:=Lib.hid (HKP.out.grown hgc (fun e=>by injection e;omega))
    have HKR:=Lib.hid (HKR.out.grown hgc (fun e=>by injection e;omega))
    have HV:=Lib.hid (HV.out.stand hcc)
    have HP2:=Lib.hid (HP2.out.stand hcc)
    have HB4:=Lib.hid hbc
    clear hW3 hcc hgc hbc HCH2 j1 j2 hlt3
    simp only [Exit.then,got,if_true,jV]
    go_frame
    refine WN.seq (WN.of ?_)
    go_wp2_with fail
    refine WN.block (WN.seq (WN.of ?_))
    go_wp2_with fail
    obtain ⟨g,hg⟩: ∃ g,g=W3.heap.size:=⟨_,rfl⟩
    obtain ⟨W5,hW5⟩: ∃ W,W=W3.alloc (.cells #[.int .i64 t.1,.int .i64 t.2.1.1.1,.int .i64 t.2.1.1.2.1,.int .i64 t.2.1.2.1] 47):=⟨_,rfl⟩
    rw [←hW5, ← hg]
    have b5:Below W3.heap.size W3 W5:=hW5▸(Below.refl _ _).alloc (Bv _) _
    have HKT:=Lib.hid (show Go.Proofs.YthlcobdnemhcdaaGreat.Blk W5 g 47 #[.int .i64 t.1,.int .i64 t.2.1.1.1,.int .i64 t.2.1.1.2.1,.int .i64 t.2.1.2.1] by rw [hW5,hg];exact Go.Proofs.YthlcobdnemhcdaaGreat.Blk.new _ _ _)
    have HCH3:=Lib.hid ((b5.block ch hc3).trans HCH3.out)
    have hqW:q<W3.heap.size:=HKQ.out.lt
    have HKQ:=Lib.hid (HKQ.out.ext b5)
    have HKP:=Lib.hid (HKP.out.ext b5)
    have HKR:=Lib.hid (HKR.out.ext b5)
    have HV:=Lib.hid (HV.out.stand (StX.below b5))
    have HP2:=Lib.hid (HP2.out.stand (StX.below b5))
    have HB4:=Lib.hid (Uh HB4.out b5 (by omega))
    have HC3:=Lib.hid (show ch<W5.heap.size by have:=b5.size;omega)
    have HG:=Lib.hid hg
    clear hW5 b5 hg
    have t0:=HKT.out.cell 0
    have t1:=HKT.out.cell 1
    have t2:=HKT.out.cell 2
    have t3:=HKT.out.cell 3
    have z0:=HKQ.out.cell 0
    have z1:=HKQ.out.cell 1
    have z2:=HKQ.out.cell 2
    have r0:=HKP.out.cell 0
    have r1:=HKP.out.cell 1
    simp only [Dg,BR,BW] at z0 z1 z2 r0 r1 t0 t1 t2 t3
    refine WN.seq (WN.of ?_)
    go_wp2_with fail
    refine (QCJ (X:=fun b o=>X0 b o∨b=S+1+1∨b=q) (fun b o hx=>hx.elim (fun h=>by have:=HX0.out b o h;have:=HB4.out.size;omega) (fun h=>by have:=HKQ.out.lt;have:=HQS.out;omega)) HV.out HP2.out HJ.out).mono ?_
    rintro en w5 ⟨rr,rfl,hr,hb5⟩
    obtain ⟨x0,x1,x2,rfl,ox0,ox1,ox2⟩:=Qca hr
    have HX:=Lib.hid hr
    have HCH3:=Lib.hid ((hb5.block ch HC3.out).trans HCH3.out)
    have HKQ2:=Lib.hid (HKQ.out.ext hb5)
    have HKP:=Lib.hid (HKP.out.ext hb5)
    have HKR:=Lib.hid (HKR.out.ext hb5)
    have HV:=Lib.hid (HV.out.stand (StX.below hb5))
    have HP2:=Lib.hid (HP2.out.stand (StX.below hb5))
    have HB4:=Lib.hid (Uh HB4.out hb5 (by have:=HKQ.out.lt;omega))
    have HC3:=Lib.hid (show ch<w5.heap.size by have:=hb5.size;have:=HC3.out;omega)
    have HKQ:=HKQ2
    clear hb5 hr HKQ2 t0 t1 t2 t3 z0 z1 z2 r0 r1
    have sx0:=fun a m W=>run_store Tryz.prog W a x0 m ox0
    have sx1:=fun a m W=>run_store Tryz.prog W a x1 m ox1
    have sx2:=fun a m W=>run_store Tryz.prog W a x2 m ox2
    go_wp2_with fail
    clear sx0 sx1 sx2
    obtain ⟨g2,hg2⟩: ∃ g,g=w5.heap.size:=⟨_,rfl⟩
    obtain ⟨W6,hW6⟩: ∃ W,W=w5.alloc (.cells #[x0,x1,x2] 29):=⟨_,rfl⟩
    rw [←hW6, ← hg2]
    have b6:Below w5.heap.size w5 W6:=hW6▸(Below.refl _ _).alloc (Bv _) _
    have HKX:=Lib.hid (show Go.Proofs.YthlcobdnemhcdaaGreat.Blk W6 g2 29 #[x0,x1,x2] by rw [hW6,hg2];exact Go.Proofs.YthlcobdnemhcdaaGreat.Blk.new _ _ _)
    have HCH3:=Lib.hid ((b6.block ch HC3.out).trans HCH3.out)
    have hqW:q<w5.heap.size:=HKQ.out.lt
    have HKQ:=Lib.hid (HKQ.out.ext b6)
    have HKP:=Lib.hid (HKP.out.ext b6)
    have HKR:=Lib.hid (HKR.out.ext b6)
    have HV:=Lib.hid (HV.out.stand (StX.below b6))
    have HP2:=Lib.hid (HP2.out.stand (StX.below b6))
    have HX:=Lib.hid (HX.out.stand (StX.below b6))
    have HB4:=Lib.hid (Uh HB4.out b6 (by omega))
    have HC3:=Lib.hid (show ch<W6.heap.size by have:=b6.size;have:=HC3.out;omega)
    clear hW6 b6 hg2
    cases hq0:ieq (apE cur y t) 0 with
    |false=>
     have hne:(apF cur y t).2≠0:=fun h=>by
      have h:apE cur y t=0:=h
      rw [h] at hq0
      cases hq0
     have HZ:=Lib.hid (show (cur,(k:Int),(apF cur y t).2)=JU y l e 0 by have:=HZ.out;rw [hq0] at this;exact this)
     have z0:=HKQ.out.cell 0
     have z1:=HKQ.out.cell 1
     have z2:=HKQ.out.cell 2
     have r0:=HKR.out.cell 0
     have r1:=HKR.out.cell 1
     have r2:=HKR.out.cell 2
     have f0:=HKR.out.frozen 0
     have f1:=HKR.out.frozen 1
     have f2:=HKR.out.frozen 2
     simp only [Dg,BR,BW] at z0 z1 z2 r0 r1 r2
     refine WN.seq (WN.seq (WN.of ?_))
     go_wp2_with fail
     refine WN.of ?_
     have sv0:=fun a m W=>run_store Tryz.prog W a d0 m od0
     have sv1:=fun a m W=>run_store Tryz.prog W a d1 m od1
     have sv2:=fun a m W=>run_store Tryz.prog W a d2 m od2
     go_wp2_with fail
     have hfin:=Qb8 HKR.out d0 d1 d2
     have hgf:=Qb9 W6 (S+1+1) d0 d1 d2
     generalize ((W6.setCell ⟨S+1+1,0,none⟩ d0).setCell ⟨S+1+1,1,none⟩ d1).setCell ⟨S+1+1,2,none⟩ d2=W7 at*
     have q0:=hfin.cell 0
     have q1:=hfin.cell 1
     have q2:=hfin.cell 2
     simp only [Dg,BR,BW] at q0 q1 q2
     obtain ⟨g1,g2⟩:=Qjg HV.out hgf (fun _=> .inr (.inl rfl)) (fun _ _ h=> .inl h) HB4.out (by omega) (by have:=HKQ.out.lt;have:=HQS.out;omega)
     refine bodyPost_ret (by simp [results,Tryz.results12,go_sem,q0,q1,q2];rfl) rfl ?_
     have ea:JD e y l=(cur,(k:Int),(apF cur y t).2):=by
      unfold JD
      rw [show igt (Qd l) 60=false from Bt (by simp only [Qd,HN.out];omega)]
      exact HZ.out.symm
     rw [ea]
     exact ⟨_,rfl,g1,by rw [←HS.out];exact g2⟩
    |true=>
     have hne:(apF cur y t).2=0:=eq_of_beq hq0
     have hne':apE cur y t=0:=hne
     have HZ:=Lib.hid (show JU y (l.drop (k+1)) (apF cur y t).1 ((k:Int)+1)=JU y l e 0 by have:=HZ.out;rw [hq0] at this;exact this)
     have hjl2:=Qa5 HJ.out hne'
     have z0:=HKX.out.cell 0
     have z1:=HKX.out.cell 1
     have z2:=HKX.out.cell 2
     have r0:=HKQ.out.cell 0
     have r1:=HKQ.out.cell 1
     have r2:=HKQ.out.cell 2
     have f0:=HKQ.out.frozen 0
     have f1:=HKQ.out.frozen 1
     have f2:=HKQ.out.frozen 2
     simp only [Dg,BR,BW] at z0 z1 z2 r0 r1 r2
     refine WN.seq (WN.seq (WN.of ?_))
     go_wp2_with fail
     refine WN.of ?_
     go_wp2_with fail
     refine WN.of ?_
     have sv0:=fun a m W=>run_store Tryz.prog W a x0 m ox0
     have sv1:=fun a m W=>run_store Tryz.prog W a x1 m ox1
     have sv2:=fun a m W=>run_store Tryz.prog W a x2 m ox2
     go_wp2_with fail
     have hfin:=Qb8 HKQ.out x0 x1 x2
     have hgf:=Qb9 W6 q x0 x1 x2
     generalize ((W6.setCell ⟨q,0,none⟩ x0).setCell ⟨q,1,none⟩ x1).setCell ⟨q,2,none⟩ x2=W7 at*
     have hst:=QrU (X:=fun b o=>X0 b o∨b=S+1+1∨b=q) hgf (fun _=> .inr (.inr rfl))
     have hqS:=HQS.out
     have hqc:=HCH.out
     exact ⟨m-1,by have:=HM.out;omega,k+1,(apF cur y t).1,s,r+1,x0,x1,x2,_,_,_,_,_,_,_,_,_,_,_,_,_,_,_,_,_,_,_,_,_,_,_,by have:=HM.out;omega,rfl,
      (hgf.block ch (by have:=HC3.out;omega) (fun e=>by injection e;omega)).trans HCH3.out,hfin,⟨ox0,ox1,ox2⟩,HKP.out.grown hgf (fun e=>by injection e;omega),HKR.out.grown hgf (fun e=>by injection e;omega),
      HX.out.stand hst,HP2.out.stand hst,U3 HB4.out hgf (by omega) (by have:=HKQ.out.lt;omega),hjl2,HZ.out⟩
   ·obtain rfl:k=n:=by have:=HM.out;omega
    have hd:l.drop k=[]:=List.drop_of_length_le (by rw [HN.out];exact Bv _)
    have hch:=HCH2.out
    have hz:=HZ.out
    rw [hd] at hch hz
    have HZ:=Lib.hid (show (cur,(k:Int),(0:Int))=JU y l e 0 from hz)
    clear HCH2 hz hd
    refine QEZ (some 22) (i:=0) (c:=ch) (z:= .agg #[.int .i64 0,.int .i64 0,.int .i64 0,.int .i64 0]) (ok:=true) rfl rfl rfl (by simp [go_sem,rcase]) hch ?_
    refine Qtq (some 23) (i:=1) rfl rfl rfl (v:= .bool false) (w':=w') (by simp [go_sem,got]) ?_
    refine LN.nil ?_
    have z0:=HKQ.out.cell 0
    have z1:=HKQ.out.cell 1
    have z2:=HKQ.out.cell 2
    have r0:=HKR.out.cell 0
    have r1:=HKR.out.cell 1
    have r2:=HKR.out.cell 2
    have f0:=HKR.out.frozen 0
    have f1:=HKR.out.frozen 1
    have f2:=HKR.out.frozen 2
    simp only [Dg,BR,BW] at z0 z1 z2 r0 r1 r2
    clear hch
    simp only [Exit.then,got,if_true]
    go_frame
    refine WN.seq (WN.of ?_)
    go_wp2_with fail
    refine WN.of ?_
    have sv0:=fun a m W=>run_store Tryz.prog W a d0 m od0
    have sv1:=fun a m W=>run_store Tryz.prog W a d1 m od1
    have sv2:=fun a m W=>run_store Tryz.prog W a d2 m od2
    go_wp2_with fail
    have hfin:=Qb8 HKR.out d0 d1 d2
    have hgf:=Qb9 w' (S+1+1) d0 d1 d2
    generalize ((w'.setCell ⟨S+1+1,0,none⟩ d0).setCell ⟨S+1+1,1,none⟩ d1).setCell ⟨S+1+1,2,none⟩ d2=W7 at*
    have q0:=hfin.cell 0
    have q1:=hfin.cell 1
    have q2:=hfin.cell 2
    simp only [Dg,BR,BW] at q0 q1 q2
    obtain ⟨g1,g2⟩:=Qjg HV.out hgf (fun _=> .inr (.inl rfl)) (fun _ _ h=> .inl h) HB4.out (by omega) (by have:=HKQ.out.lt;have:=HQS.out;omega)
    refine bodyPost_ret (by simp [results,Tryz.results12,go_sem,q0,q1,q2];rfl) rfl ?_
    have ea:JD e y l=(cur,(k:Int),0):=by
     unfold JD
     rw [show igt (Qd l) 60=false from Bt (by simp only [Qd,HN.out];omega)]
     exact HZ.out.symm
    rw [ea]
    exact ⟨_,rfl,g1,by rw [←HS.out];exact g2⟩
end Go.Proofs.YthlcobdnemhcdaaGreat.K
