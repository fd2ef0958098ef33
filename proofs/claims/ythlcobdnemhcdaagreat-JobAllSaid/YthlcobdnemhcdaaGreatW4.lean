import Derived.Test.YthlcobdnemhcdaaGreatW3
set_option linter.unusedSimpArgs false
set_option linter.unusedVariables false
noncomputable section
namespace Go.Proofs.YthlcobdnemhcdaaGreat.K
open Go.RowKit
def Qwq:TC:=aF Tryz.f236 []
def Qwr:List (RV×Option Ty):=[((.c 0 true 115),some (.pr Qr (.pr Qr (.pr Qr (.pr Qr (.pr Qr (.pr Qr (.pr Qr (.pr Qr (.pr Qr (.pr Qr (.pr Qr (.pr Qr (.pr Qr (.pr Qr (.pr Qr (.pr Qr (.pr Qr (.pr Qr (.pr Qr (.pr Qr (.pr Qr (.pr Qr (.pr Qr .nil))))))))))))))))))))))))]
def Qws:G:=gG 46 [] (fun _ _=>none)
def Qwt  : OV:=some (.t (.pr Qr (.pr Qr (.pr Qr (.pr Qr (.pr Qr (.pr Qr (.pr Qr (.pr Qr (.pr Qr (.pr Qr (.pr Qr (.pr Qr (.pr Qr (.pr Qr (.pr Qr (.pr Qr (.pr Qr (.pr Qr (.pr Qr (.pr Qr (.pr Qr (.pr Qr (.pr Qr .nil))))))))))))))))))))))) (((ByteArray.mk #[]),(0,(0,(([]:List Int),(([]:List Int),()))))),(((ByteArray.mk #[109,100,53]),(1,(0,(([]:List Int),([18],()))))),(((ByteArray.mk #[115,104,97,49]),(1,(0,(([]:List Int),([60],()))))),(((ByteArray.mk #[115,104,97,50,53,54]),(1,(0,(([]:List Int),([128],()))))),(((ByteArray.mk #[115,104,97,51,56,52]),(1,(0,(([]:List Int),([192],()))))),(((ByteArray.mk #[114,115,97]),(2,(1,(([]:List Int),(([]:List Int),()))))),(((ByteArray.mk #[100,115,97]),(2,(1,(([]:List Int),(([]:List Int),()))))),(((ByteArray.mk #[101,99,100,115,97]),(2,(2,(([]:List Int),(([]:List Int),()))))),(((ByteArray.mk #[101,100,50,53,53,49,57]),(2,(0,(([]:List Int),([128],()))))),(((ByteArray.mk #[109,108,100,115,97]),(2,(3,([44,65,87],([128,192,256],()))))),(((ByteArray.mk #[114,115,97,107,120]),(3,(1,(([]:List Int),(([]:List Int),()))))),(((ByteArray.mk #[100,104,101]),(3,(1,(([]:List Int),(([]:List Int),()))))),(((ByteArray.mk #[101,99,100,104,101]),(3,(2,(([]:List Int),(([]:List Int),()))))),(((ByteArray.mk #[109,108,107,101,109]),(3,(3,([512,768,1024],([128,192,256],()))))),(((ByteArray.mk #[114,99,52]),(4,(3,([40,128],([40,60],()))))),(((ByteArray.mk #[100,101,115,51]),(4,(3,([112,168],([80,112],()))))),(((ByteArray.mk #[97,101,115,99,98,99]),(4,(3,([128,256],([128,256],()))))),(((ByteArray.mk #[97,101,115,103,99,109]),(4,(3,([128,256],([128,256],()))))),(((ByteArray.mk #[99,104,97,99,104,97]),(4,(0,(([]:List Int),([256],()))))),(((ByteArray.mk #[104,109,97,99,109,100,53]),(5,(0,(([]:List Int),([64],()))))),(((ByteArray.mk #[104,109,97,99,115,104,97,49]),(5,(0,(([]:List Int),([80],()))))),(((ByteArray.mk #[104,109,97,99,115,104,97,50,53,54]),(5,(0,(([]:List Int),([128],()))))),(((ByteArray.mk #[97,101,97,100]),(5,(0,(([]:List Int),([256],()))))),()))))))))))))))))))))))),[])
theorem e_f236  : QS Qws Qwq Qwr false [] []=Qwt  :=by kernel_rfl
def II:Ty.T (.pr Qr (.pr Qr (.pr Qr (.pr Qr (.pr Qr (.pr Qr (.pr Qr (.pr Qr (.pr Qr (.pr Qr (.pr Qr (.pr Qr (.pr Qr (.pr Qr (.pr Qr (.pr Qr (.pr Qr (.pr Qr (.pr Qr (.pr Qr (.pr Qr (.pr Qr (.pr Qr .nil))))))))))))))))))))))):=(((ByteArray.mk #[]),(0,(0,(([]:List Int),(([]:List Int),()))))),(((ByteArray.mk #[109,100,53]),(1,(0,(([]:List Int),([18],()))))),(((ByteArray.mk #[115,104,97,49]),(1,(0,(([]:List Int),([60],()))))),(((ByteArray.mk #[115,104,97,50,53,54]),(1,(0,(([]:List Int),([128],()))))),(((ByteArray.mk #[115,104,97,51,56,52]),(1,(0,(([]:List Int),([192],()))))),(((ByteArray.mk #[114,115,97]),(2,(1,(([]:List Int),(([]:List Int),()))))),(((ByteArray.mk #[100,115,97]),(2,(1,(([]:List Int),(([]:List Int),()))))),(((ByteArray.mk #[101,99,100,115,97]),(2,(2,(([]:List Int),(([]:List Int),()))))),(((ByteArray.mk #[101,100,50,53,53,49,57]),(2,(0,(([]:List Int),([128],()))))),(((ByteArray.mk #[109,108,100,115,97]),(2,(3,([44,65,87],([128,192,256],()))))),(((ByteArray.mk #[114,115,97,107,120]),(3,(1,(([]:List Int),(([]:List Int),()))))),(((ByteArray.mk #[100,104,101]),(3,(1,(([]:List Int),(([]:List Int),()))))),(((ByteArray.mk #[101,99,100,104,101]),(3,(2,(([]:List Int),(([]:List Int),()))))),(((ByteArray.mk #[109,108,107,101,109]),(3,(3,([512,768,1024],([128,192,256],()))))),(((ByteArray.mk #[114,99,52]),(4,(3,([40,128],([40,60],()))))),(((ByteArray.mk #[100,101,115,51]),(4,(3,([112,168],([80,112],()))))),(((ByteArray.mk #[97,101,115,99,98,99]),(4,(3,([128,256],([128,256],()))))),(((ByteArray.mk #[97,101,115,103,99,109]),(4,(3,([128,256],([128,256],()))))),(((ByteArray.mk #[99,104,97,99,104,97]),(4,(0,(([]:List Int),([256],()))))),(((ByteArray.mk #[104,109,97,99,109,100,53]),(5,(0,(([]:List Int),([64],()))))),(((ByteArray.mk #[104,109,97,99,115,104,97,49]),(5,(0,(([]:List Int),([80],()))))),(((ByteArray.mk #[104,109,97,99,115,104,97,50,53,54]),(5,(0,(([]:List Int),([128],()))))),(((ByteArray.mk #[97,101,97,100]),(5,(0,(([]:List Int),([256],()))))),())))))))))))))))))))))))
theorem s_f236:Qwt=some (.t (tyR Qr 23) II,[]):=rfl
def Qwu:Ent:=Qo .nil (fun x=>true) (fun x=>(.t (.pr Qr (.pr Qr (.pr Qr (.pr Qr (.pr Qr (.pr Qr (.pr Qr (.pr Qr (.pr Qr (.pr Qr (.pr Qr (.pr Qr (.pr Qr (.pr Qr (.pr Qr (.pr Qr (.pr Qr (.pr Qr (.pr Qr (.pr Qr (.pr Qr (.pr Qr (.pr Qr .nil))))))))))))))))))))))) II))
theorem QLi:EM 236 Qwu:=mS Qws Qwq Qwr false (gB gN) fun m=>Qs m fun x _=>(e_f236 ).trans (s_f236)
def Qac:Row:=((ByteArray.mk #[]),(0,(0,(([]:List Int),(([]:List Int),())))))
def ofF (a:Int):Row×Bool:=if a<1∨22<a then (Qac,false) else (I0 Qr 23 II a,true)
def QLj:TC:=aF Tryz.f199 []
def g_f199:G:=gG 14 [(236,Qwu),(1004738,QxB)] (fun _ _=>none)
def Qwv (p0:Int):OV:=br (ilt p0 1) (some (.tu [(.t Qr ((ByteArray.mk #[]),(0,(0,(([]:List Int),(([]:List Int),())))))),(.t .bool false)],[])) (br (igt p0 22) (some (.tu [(.t Qr ((ByteArray.mk #[]),(0,(0,(([]:List Int),(([]:List Int),())))))),(.t .bool false)],[])) (br (GD Qr 23 II p0) (some (.tu [(.t Qr (I0 Qr 23 II p0)),(.t .bool true)],[])) none))
theorem s_f199 (a:Int):Qwv a=some (.tu [.t Qr (ofF a).1,.t .bool (ofF a).2],[]):=by
 simp only [Qwv]
 refine QY (fun h1=> ?_) (fun h1=>QY (fun h2=> ?_) (fun h2=> ?_))
 ·have h1:a<1:=by simpa [ilt] using h1
  simp [ofF,h1,Qac]
 ·have h2:22<a:=by simpa [igt] using h2
  simp [ofF,h2,Qac]
 ·have h1: ¬ a<1:=by simpa [ilt] using h1
  have h2: ¬ 22<a:=by simpa [igt] using h2
  have h3:GD Qr 23 II a=true:=by simp [GD];omega
  rw [h3,Qf]
  simp [ofF,h1,h2]
def Ql8:Ent:=Qo (.pr tI .nil) (fun x=>true) (fun x=>(.tu [(.t Qr ((ofF x.1).1)),(.t .bool ((ofF x.1).2))]))
theorem Qww:EM 199 Ql8:=mS g_f199 QLj [((.c 2 true 5),some Qr),((.t 3),some .bool)] false (gB (gD QLi (gC QL7 QL8 gN))) fun m=>Qs m fun x _=>kT (s_f199 x.1)
def Ej:List (Int×Int):=[(1024,56),(2048,80),(3072,112),(7680,128),(15360,192)]
def IJ:(Keep×(Keep×(Keep×(Keep×(Keep×Unit))))):=((1024,(56,())),((2048,(80,())),((3072,(112,())),((7680,(128,())),((15360,(192,())),())))))
def YJ (b i:Int):Option Int:=((Ej.drop i.toNat).find? fun x=>ilt b x.1).map (·.2)
def IK (b:Int):Int:=(YJ b 0).getD 256
abbrev Qd5:Sh:=⟨[(0,.ty tI),(10,.ty (.pr Qk (.pr Qk (.pr Qk (.pr Qk (.pr Qk .nil)))))),(11,.ty tI)],[]⟩
abbrev Qwx:Sh:=⟨[(2,.ty tI)],[]⟩
abbrev Qd6:Sh:=⟨[],[]⟩
def Ql9:Fg:=Qd5.f
def Qwy:TC:=aF Tryz.f200 [(26,pL 0 Ql9),(421,.fg Qd6.f),(13517,.fg Qwx.f)]
def Qwz:TC:=lb 0 Qwy
def QwA (x0:Int)(x10:(Keep×(Keep×(Keep×(Keep×(Keep×Unit))))))(x11:Int):VS:=Qd5.st (x0,x10,x11,()) ()
def Qma (x2:Int):VS:=Qwx.st (x2,()) ()
def Qmb  : VS:=Qd6.st () ()
def QLk:VS->Option (Bool×List (Bool×Exit×VS)):=mkL Qd5 (fun x y=>(x.2.1==IJ&&decide (0<=x.2.2.1/\x.2.2.1<=5))) (fun x y=>[(((YJ x.1 x.2.2.1).isSome),.ret,Qma ((YJ x.1 x.2.2.1).getD 0)),(true,.exit 0,Qmb)])
def Qmc:G:=gG 21 [(1004786,QxC)] (Ls [QLk])
def Qd7 (x0:Int)(x10:(Keep×(Keep×(Keep×(Keep×(Keep×Unit))))))(x11:Int):OX:=Qx (QA Qmc Ql9 Qwz) (QwA x0 x10 x11)
def Qd8 (kk:Int->(Keep×(Keep×(Keep×(Keep×(Keep×Unit)))))->Int->OX)(x0:Int)(x10:(Keep×(Keep×(Keep×(Keep×(Keep×Unit))))))(x11:Int):OX:=
 let a1:=I0 Qk 5 x10 x11
 br (ilt x11 5) (br (GD Qk 5 x10 x11) (br (ilt x0 (a1.1)) (some (.ret,Qma ((a1.2).1))) (kk x0 x10 (Qj .i64 x11 1))) none) (some (.exit 0,Qmb))
def Ek (x0:Int)(x10:(Keep×(Keep×(Keep×(Keep×(Keep×Unit))))))(x11:Int):OX:=br ((YJ x0 x11).isSome) (some (.ret,Qma ((YJ x0 x11).getD 0)))<|some (.exit 0,Qmb)
theorem QwB (x0:Int)(x10:(Keep×(Keep×(Keep×(Keep×(Keep×Unit))))))(x11:Int):Qd7 x0 x10 x11=Qd8 Qd7 x0 x10 x11:=lnT (x:=Qd8 (fun x0 x10 x11=>some (.normal,QwA x0 x10 x11)) x0 x10 x11) (by simp only [Qd8,nxA];rfl)
def QwC (p0:Int):OV:=br (((1024,(56,())),((2048,(80,())),((3072,(112,())),((7680,(128,())),((15360,(192,())),())))))==IJ&&decide (0<=(0:Int)/\(0:Int)<=5)) (br ((YJ p0 (0:Int)).isSome) (some (.t tI ((YJ p0 (0:Int)).getD 0),[])) (some (.t tI 256,[]))) none
theorem QLl (x0:Int)(x10:(Keep×(Keep×(Keep×(Keep×(Keep×Unit))))))(x11:Int)(h:(x10==IJ&&decide (0<=x11/\x11<=5))=true):Qd7 x0 x10 x11=Ek x0 x10 x11:=by
 simp only [Bc,Ba,Do] at h
 obtain ⟨rfl,h1,h2⟩:=h
 obtain ⟨k,rfl⟩:=Bl h1
 refine Qcs 5 (fun k=>Qd7 x0 IJ (k:Int)=Ek x0 IJ (k:Int)) ?_ ?_ k (by omega)
 ·rw [QwB]
  rfl
 ·intro k hk ih
  rw [QwB]
  simp only [Qd8,QO (show k<4611686018427387904 by omega),ih]
  have e1:ilt (k:Int) 5=true:=by simp only [ilt,Ba];omega
  have e2:GD Qk 5 IJ (k:Int)=true:=by simp only [GD,Ba];omega
  simp only [e1,e2,Qf]
  have hk5:k=0∨k=1∨k=2∨k=3∨k=4:=by omega
  rcases hk5 with rfl|rfl|rfl|rfl|rfl
  ·show br (ilt x0 1024) _ _=_
   cases h:ilt x0 1024<;>simp [Ek,YJ,Ej,h,Qf,Qi]<;>rfl
  ·show br (ilt x0 2048) _ _=_
   cases h:ilt x0 2048<;>simp [Ek,YJ,Ej,h,Qf,Qi]<;>rfl
  ·show br (ilt x0 3072) _ _=_
   cases h:ilt x0 3072<;>simp [Ek,YJ,Ej,h,Qf,Qi]<;>rfl
  ·show br (ilt x0 7680) _ _=_
   cases h:ilt x0 7680<;>simp [Ek,YJ,Ej,h,Qf,Qi]<;>rfl
  ·show br (ilt x0 15360) _ _=_
   cases h:ilt x0 15360<;>simp [Ek,YJ,Ej,h,Qf,Qi]<;>rfl
theorem QLm:LO Qmc Ql9 Qwz 0:=QI (s:=Qd5) fun x y h _ q=>by simp only [QG,QH] at q;exact (QLl x.1 x.2.1 x.2.2.1 h).trans q
theorem s_f200 (b:Int):QwC b=some (.t tI (IK b),[]):=by
 simp only [QwC]
 show br true (br (YJ b 0).isSome (some (V.t tI ((YJ b 0).getD 0),[])) _) _=_
 rw [Qf,IK]
 cases YJ b 0<;>rfl
def QwD:Ent:=Qo (.pr tI .nil) (fun x=>true) (fun x=>(.t tI (IK x.1)))
theorem QLn:EM 200 QwD:=mS (lk:=lkL (lkc QLm lkn)) Qmc Qwy [((.t 2),some tI)] false (gB (gC QL9 QMa gN)) fun m=>Qs m fun x _=>kT (s_f200 x.1)
def J1 (v:Int):List Int->Option Nat
 | []=>none
 |a::l=>if a==v then some 0 else (J1 v l).map (· + 1)
theorem QwE {v:Int}: ∀ {l:List Int} {k:Nat},J1 v l=some k->k<l.length
 | [],_,h=>by cases h
 |a::l,k,h=>by
  unfold J1 at h
  split at h
  ·injection h with h;subst h;simp
  ·obtain ⟨j,h1,h2⟩:=Bj.1 h
   have:=QwE h1
   simp only [Br];omega
theorem Qmd {v:Int}: ∀ {l:List Int},J1 v l=none↔v ∉ l
 | []=>by simp [J1]
 |a::l=>by
  have ih:=Qmd (v:=v) (l:=l)
  unfold J1
  by_cases h:a=v
  ·simp [h]
  ·have h': ¬ v=a:=fun e=>h e.symm
   simp [h,h',ih]
def El (l:List Int)(v:Int):Int:=match J1 v l with|some k=>(k:Int)|none=> -1
def Z2 (l:List Int)(_v:Int):Bool:=decide (l.length<=100000)
abbrev Qd9:Sh:=⟨[(0,.ty (.sl tI)),(1,.ty tI),(7,.ty tI),(8,.ty tI)],[]⟩
abbrev QwF:Sh:=⟨[(4,.ty tI)],[]⟩
def Qme:Fg:=Qd9.f
def QwG:TC:=aF Tryz.f202 [(26,pL 0 Qme),(421,.fg Qd6.f),(13517,.fg QwF.f)]
def QwH:TC:=lb 0 QwG
def QwI (x0:List Int)(x1 x7 x8:Int):VS:=Qd9.st (x0,x1,x7,x8,()) ()
def Qmf (x4:Int):VS:=QwF.st (x4,()) ()
def Qmg  : VS:=Qd6.st () ()
def QLo:VS->Option (Bool×List (Bool×Exit×VS)):=mkL Qd9 (fun x y=>(QD x.1 x.2.2.1 x.2.2.2.1)) (fun x y=>[(((J1 x.2.1 (x.1.drop x.2.2.2.1.toNat)).isSome),.ret,Qmf (x.2.2.2.1+((J1 x.2.1 (x.1.drop x.2.2.2.1.toNat)).getD 0:Nat))),(true,.exit 0,Qmg)])
def Qmh:G:=gG 19 [] (Ls [QLo])
def Qea (x0:List Int)(x1 x7 x8:Int):OX:=Qx (QA Qmh Qme QwH) (QwI x0 x1 x7 x8)
def Qad (kk:List Int->Int->Int->Int->OX)(x0:List Int)(x1 x7 x8:Int):OX:=br (ilt x8 x7) (br (cIx x0 x8) (br (ieq x1 (lgt tI x0 (Int.toNat x8))) (some (.ret,Qmf x8)) (kk x0 x1 x7 (Qj .i64 x8 1))) none) (some (.exit 0,Qmg))
def Qeb (x0:List Int)(x1 x7 x8:Int):OX:=
 let a1:=J1 x1 (x0.drop x8.toNat)
 br (a1.isSome) (some (.ret,Qmf (x8+(a1.getD 0:Nat))))<|some (.exit 0,Qmg)
theorem QwJ (x0:List Int)(x1 x7 x8:Int):Qea x0 x1 x7 x8=Qad Qea x0 x1 x7 x8:=lnT (x:=Qad (fun x0 x1 x7 x8=>some (.normal,QwI x0 x1 x7 x8)) x0 x1 x7 x8) (by simp only [Qad,nxA];rfl)
def QwK (p0:List Int)(p1:Int):OV:=
 let a1:=(J1 p1 (p0.drop (0:Int).toNat))
 br (QD p0 (Qc p0) (0:Int)) (br (a1.isSome) (some (.t tI ((0:Int)+(a1.getD 0:Nat)),[])) (some (.t tI (-1),[]))) none
theorem QLp (x0:List Int)(x1 x7 x8:Int)(h:(QD x0 x7 x8)=true):Qea x0 x1 x7 x8=Qeb x0 x1 x7 x8:=by
 obtain ⟨rfl,h3,k,rfl,hk⟩:=JG h
 clear h
 refine QQ x0 (fun k=>Qea x0 x1 (x0.length:Int) (k:Int)=Qeb x0 x1 (x0.length:Int) (k:Int)) ?_ ?_ k hk
 ·rw [QwJ]
  simp [Qad,Qeb,Qy,Qi,J1]
 ·intro k hk ih
  rw [QwJ]
  simp only [Qad,Qy,QK,hk,Bo,Qf,Bb,QO (show k<4611686018427387904 by omega),ih,QL (y:=tI) hk]
  simp only [Qeb,Bb,Bg hk,J1,ieq]
  have hc:(x1==x0[k])=(x0[k]==x1):=Bool.beq_comm
  cases h:x0[k]==x1 with
  |true=>simp [h,hc,Qf]
  |false=>
   simp only [h,hc,Qi,BK,Dc]
   cases hq:J1 x1 (x0.drop (k+1)) with
   |none=>rfl
   |some j=>
    simp only [De,Dw,B3,Qf]
    congr 3
    omega
theorem QLq:LO Qmh Qme QwH 0:=QI (s:=Qd9) fun x y h _ q=>by simp only [QG,QH] at q;exact (QLp x.1 x.2.1 x.2.2.1 x.2.2.2.1 h).trans q
theorem s_f202 (l:List Int)(v:Int)(h:Z2 l v=true):QwK l v=some (.t tI (El l v),[]):=by
 simp only [Z2,Ba] at h
 simp only [QwK,JH h,Qf,By,BG,El]
 cases J1 v l<;>simp [Qf,Qi]
def Qmi:Ent:=Qo (.pr (.sl tI) (.pr tI .nil)) (fun x=>(Z2 x.1 x.2.1)) (fun x=>(.t tI (El x.1 x.2.1)))
theorem QwL:EM 202 Qmi:=mS (lk:=lkL (lkc QLq lkn)) Qmh QwG [((.t 4),some tI)] false (gB gN) fun m=>Qs m fun x hok=>kT (s_f202 x.1 x.2.1 hok)
def J6 (l:List Int)(v:Int):Bool:=l.contains v
def QLr:TC:=aF Tryz.f201 []
def g_f201:G:=gG 9 [(202,Qmi)] (fun _ _=>none)
def QwM (p0:List Int)(p1:Int):OV:=br (Z2 p0 p1) (some (.t .bool (ige (El p0 p1) 0),[])) none
theorem s_f201 (l:List Int)(v:Int)(h:Z2 l v=true):QwM l v=some (.t .bool (J6 l v),[]):=by
 simp only [QwM,h,Qf]
 congr 3
 unfold El J6
 cases hq:J1 v l with
 |none=>
  have:=Qmd.1 hq
  simp [ige,this]
 |some k=>
  have:v∈l:=Dy fun hn=>by rw [Qmd.2 hn] at hq;cases hq
  simp only [ige,BO.2 this,Ba]
  omega
def Qmj:Ent:=Qo (.pr (.sl tI) (.pr tI .nil)) (fun x=>(Z2 x.1 x.2.1)) (fun x=>(.t .bool (J6 x.1 x.2.1)))
theorem QwN:EM 201 Qmj:=mS g_f201 QLr [((.t 4),some .bool)] false (gB (gD QwL gN)) fun m=>Qs m fun x hok=>kT (s_f201 x.1 x.2.1 hok)
end Go.Proofs.YthlcobdnemhcdaaGreat.K
noncomputable section
namespace Go.Proofs.YthlcobdnemhcdaaGreat.K
open Go.RowKit
def Zy (b:Int)(s t:List Int):Int:=match J1 b s with|some k=>t.getD k 0|none=>0
def WC (a:Int):Int:=if a=1 then 18 else if a=2 then 60 else if a=3∨a=8∨a=21 then 128 else if a=4 then 192 else if a=18∨a=22 then 256 else if a=19 then 64 else if a=20 then 80 else 0
def Fz (b:Int):Int:=if b<512∨16384<b then 0 else IK b
def I2 (b:Int):Int:=if J6 [160,224,256,384,521] b then Et .i64 b 2 else 0
def XB (u:Keep):Int:=
 if u.1=5∨u.1=6∨u.1=10∨u.1=11 then Fz u.2.1
 else if u.1=7∨u.1=12 then I2 u.2.1
 else if u.1=9 then Zy u.2.1 [44,65,87] [128,192,256]
 else if u.1=13 then Zy u.2.1 [512,768,1024] [128,192,256]
 else if u.1=14 then Zy u.2.1 [40,128] [40,60]
 else if u.1=15 then Zy u.2.1 [112,168] [80,112]
 else if u.1=16∨u.1=17 then Zy u.2.1 [128,256] [128,256]
 else Zy u.2.1 [0] [WC u.1]
def Jf (u:Keep):Bool:=decide (XB u > 0)
def QMv:TC:=aF Tryz.f150 []
def g_f150:G:=gG 61 [(199,Ql8),(200,QwD),(201,Qmj),(202,Qmi)] (fun _ _=>none)
def Uf (p0:Keep):OV:=
 let a1:=((((ofF p0.1).1).2).2)
 let a2:=El ((a1.2).1) p0.2.1
 let a3:=(((a1.2).2).1)
 br (!((ofF p0.1).2)) (some (.t tI 0,[])) (br (ieq (a1.1) 0) (br (ieq p0.2.1 0) (br (cIx a3 0) (some (.t tI (lgt tI a3 (Int.toNat 0)),[])) none) (some (.t tI 0,[]))) (br (ieq (a1.1) 1) (br (ige p0.2.1 512) (br (ile p0.2.1 16384) (some (.t tI (IK p0.2.1),[])) (some (.t tI 0,[]))) (some (.t tI 0,[]))) (br (ieq (a1.1) 2) (br (Z2 ([160,224,256,384,521]) p0.2.1) (br (J6 ([160,224,256,384,521]) p0.2.1) (br (cNz 2) (some (.t tI (Et .i64 p0.2.1 2),[])) none) (some (.t tI 0,[]))) none) (br (ieq (a1.1) 3) (br (Z2 ((a1.2).1) p0.2.1) (br (ige a2 0) (br (cIx a3 a2) (some (.t tI (lgt tI a3 (Int.toNat a2)),[])) none) (some (.t tI 0,[]))) none) (some (.t tI 0,[]))))))
theorem QMw (u:Keep)(h1:(ofF u.1).2=false):Uf u=some (.t tI 0,[]):=by
 simp only [Uf,h1,DB,Qf]
theorem QMx (u:Keep){v:Int}(h1:(ofF u.1).2=true)(h2:(ofF u.1).1.2.2.1=0)(h3:(ofF u.1).1.2.2.2.2.1=[v]):Uf u=some (.t tI (Zy u.2.1 [0] [v]),[]):=by
 simp only [Uf,h1,h2,h3,BF,Qi,show ieq 0 0=true from rfl,Qf,show cIx [v] 0=true from rfl]
 simp only [Zy,J1,ieq]
 have hc:((0:Int)==u.2.1)=(u.2.1==0):=Bool.beq_comm
 rw [hc]
 cases u.2.1==0<;>rfl
theorem QMy (u:Keep)(h1:(ofF u.1).2=true)(h2:(ofF u.1).1.2.2.1=1):Uf u=some (.t tI (Fz u.2.1),[]):=by
 simp only [Uf,h1,h2,BF,Qi,show ieq 1 0=false from rfl,show ieq 1 1=true from rfl,Qf,Fz]
 refine QY (fun g1=>QY (fun g2=> ?_) (fun g2=> ?_)) (fun g1=> ?_)
 ·rw [if_neg]
  simp [ige,ile] at g1 g2
  omega
 ·rw [if_pos]
  simp [ige,ile] at g1 g2
  omega
 ·rw [if_pos]
  simp [ige] at g1
  omega
theorem QMz (u:Keep)(h1:(ofF u.1).2=true)(h2:(ofF u.1).1.2.2.1=2):Uf u=some (.t tI (I2 u.2.1),[]):=by
 simp only [Uf,h1,h2,BF,Qi,show ieq 2 0=false from rfl,show ieq 2 1=false from rfl,show ieq 2 2=true from rfl,Qf,I2,show Z2 [160,224,256,384,521] u.2.1=true from rfl,show cNz 2=true from rfl]
 cases J6 [160,224,256,384,521] u.2.1<;>rfl
theorem QMA (u:Keep){s t:List Int}(h1:(ofF u.1).2=true)(h2:(ofF u.1).1.2.2.1=3)(h3:(ofF u.1).1.2.2.2.1=s)(h4:(ofF u.1).1.2.2.2.2.1=t)(h5:s.length=t.length)(h6:s.length<=100000):Uf u=some (.t tI (Zy u.2.1 s t),[]):=by
 have e1:Z2 s u.2.1=true:=by simp [Z2,h6]
 simp only [Uf,h1,h2,h3,h4,e1,BF,Qi,show ieq 3 0=false from rfl,show ieq 3 1=false from rfl,show ieq 3 2=false from rfl,show ieq 3 3=true from rfl,Qf,El,Zy]
 cases hq:J1 u.2.1 s with
 |none=>rfl
 |some k=>
  have hk:=QwE hq
  have e2:ige (k:Int) 0=true:=by simp only [ige,Ba];omega
  have e3:k<t.length:=by omega
  simp only [e2,Qf,QK,e3,Bo]
  rfl
theorem s_f150 (u:Keep):Uf u=some (.t tI (XB u),[]):=by
 obtain ⟨a,b,c⟩:=u
 by_cases hb:a<1∨22<a
 ·rw [QMw _ (by simp [ofF,hb])]
  have e1:WC a=0:=by
   unfold WC
   repeat rw [if_neg (by omega)]
  have e2:XB (a,b,c)=0:=by
   unfold XB
   simp only
   repeat rw [if_neg (by omega)]
   rw [e1]
   simp only [Zy,J1]
   cases (0:Int)==b<;>rfl
  rw [e2]
 ·have hc:a=1∨a=2∨a=3∨a=4∨a=5∨a=6∨a=7∨a=8∨a=9∨a=10∨a=11∨a=12∨a=13∨a=14∨a=15∨a=16∨a=17∨a=18∨a=19∨a=20∨a=21∨a=22:=by omega
  rcases hc with rfl|rfl|rfl|rfl|rfl|rfl|rfl|rfl|rfl|rfl|rfl|rfl|rfl|rfl|rfl|rfl|rfl|rfl|rfl|rfl|rfl|rfl
  all_goals first
   |exact QMx (v:=WC _) (_,b,c) rfl rfl rfl
   |exact QMy (_,b,c) rfl rfl
   |exact QMz (_,b,c) rfl rfl
   |exact QMA (_,b,c) rfl rfl rfl rfl rfl (by decide)
def Qx0:Ent:=Qo (.pr Qk .nil) (fun x=>true) (fun x=>(.t tI (XB x.1)))
theorem QMB:EM 150 Qx0:=mS g_f150 QMv [((.t 2),some tI)] false (gB (gD Qww (gD QLn (gD QwN (gD QwL gN))))) fun m=>Qs m fun x _=>kT (s_f150 x.1)
def tc_f92:TC:=aF Tryz.f92 []
def g_f92:G:=gG 6 [(150,Qx0)] (fun _ _=>none)
def r_f92 (p0:Keep):OV:=some (.t .bool (igt (XB p0) 0),[])
theorem s_f92 (u:Keep):r_f92 u=some (.t .bool (Jf u),[]):=rfl
def FA:Ent:=Qo (.pr Qk .nil) (fun x=>true) (fun x=>(.t .bool (Jf x.1)))
theorem Eu:EM 92 FA:=mS g_f92 tc_f92 [((.t 2),some .bool)] false (gB (gD QMB gN)) fun m=>Qs m fun x _=>kT (s_f92 x.1)
def QMC:TC:=aF Tryz.f206 []
def g_f206:G:=gG 25 [] (fun _ _=>none)
def Qx1 (p0:Int):OV:=br (ilt p0 512) (some (.t tI 0,[])) (br (igt p0 16384) (some (.t tI 0,[])) (br (ilt p0 1024) (some (.t tI 56,[])) (br (ilt p0 2048) (some (.t tI 80,[])) (br (ilt p0 3072) (some (.t tI 112,[])) (br (ilt p0 7680) (some (.t tI 128,[])) (br (ilt p0 15360) (some (.t tI 192,[])) (some (.t tI 256,[]))))))))
theorem s_f206 (b:Int):Qx1 b=some (.t tI (Fz b),[]):=by
 simp only [Qx1]
 repeat' (refine QY ?_ ?_<;>intro _)
 all_goals simp only [ilt,igt,Ba,Bn] at*
 all_goals simp only [Fz,IK,YJ,Ej,By,BG,List.find?_cons,ilt]
 all_goals first
  |(rw [if_pos (by omega)];done)
  |(rw [if_neg (by omega)];repeat first|rw [Yv (by omega)]|rw [QVb (by omega)]
    rfl)
def Qx2:Ent:=Qo (.pr tI .nil) (fun x=>true) (fun x=>(.t tI (Fz x.1)))
theorem QMD:EM 206 Qx2:=mS g_f206 QMC [((.t 2),some tI)] false (gB gN) fun m=>Qs m fun x _=>kT (s_f206 x.1)
theorem QmY (a:Int):((∀ k:Int,decide (1<=k/\k<=22)=true->ieq a k=false)/\(a<1∨22<a))∨(a=1∨a=2∨a=3∨a=4∨a=5∨a=6∨a=7∨a=8∨a=9∨a=10∨a=11∨a=12∨a=13∨a=14∨a=15∨a=16∨a=17∨a=18∨a=19∨a=20∨a=21∨a=22):=by
 by_cases hb:a<1∨22<a
 ·refine .inl ⟨fun k hk=> ?_,hb⟩
  simp only [Ba] at hk
  simp only [ZS,Bn]
  omega
 ·right
  omega
def QME:TC:=aF Tryz.f208 []
def g_f208:G:=gG 21 [] (fun _ _=>none)
def QmZ (p0:Int):OV:=br (ieq p0 19) (some (.t tI 64,[])) (br (ieq p0 20) (some (.t tI 80,[])) (some (.t tI 0,[])))
def QeM (p0:Int):OV:=br (ieq p0 4) (some (.t tI 192,[])) (br (ieq p0 18) (br (ieq p0 18) (some (.t tI 256,[])) (QmZ p0)) (br (ieq p0 22) (some (.t tI 256,[])) (QmZ p0)))
def Qx3 (p0:Int):OV:=br (ieq p0 1) (some (.t tI 18,[])) (br (ieq p0 2) (some (.t tI 60,[])) (br (ieq p0 3) (br (ieq p0 3) (some (.t tI 128,[])) (QeM p0)) (br (ieq p0 8) (br (ieq p0 8) (some (.t tI 128,[])) (QeM p0)) (br (ieq p0 21) (some (.t tI 128,[])) (QeM p0)))))
theorem s_f208 (a:Int):Qx3 a=some (.t tI (WC a),[]):=by
 rcases QmY a with ⟨e,hb⟩|hc
 ·have e1:WC a=0:=by
   unfold WC
   repeat rw [if_neg (by omega)]
  rw [e1]
  simp only [Qx3,QeM,QmZ,e 1 (by decide),e 2 (by decide),e 3 (by decide),e 4 (by decide),e 8 (by decide),e 18 (by decide),e 19 (by decide),e 20 (by decide),e 21 (by decide),e 22 (by decide),Qi]
 ·rcases hc with rfl|rfl|rfl|rfl|rfl|rfl|rfl|rfl|rfl|rfl|rfl|rfl|rfl|rfl|rfl|rfl|rfl|rfl|rfl|rfl|rfl|rfl<;>rfl
def Qx4:Ent:=Qo (.pr tI .nil) (fun x=>true) (fun x=>(.t tI (WC x.1)))
theorem QMF:EM 208 Qx4:=mS g_f208 QME [((.t 2),some tI)] false (gB gN) fun m=>Qs m fun x _=>kT (s_f208 x.1)
def GF (_b:Int)(s t:List Int):Bool:=decide (s.length=t.length/\s.length<=100000)
abbrev QeN:Sh:=⟨[(0,.ty tI),(1,.ty (.sl tI)),(2,.ty (.sl tI)),(7,.ty tI)],[]⟩
abbrev Qx5:Sh:=⟨[(6,.ty tI)],[]⟩
abbrev Qx6:Sh:=⟨[],[]⟩
def Qm0:Fg:=QeN.f
def Qx7:TC:=aF Tryz.f207 [(26,pL 0 Qm0),(419,.fg Qx6.f),(3365,.fg Qx5.f)]
def Qx8:TC:=lb 0 Qx7
def Qx9 (x0:Int)(x1 x2:List Int)(x7:Int):VS:=QeN.st (x0,x1,x2,x7,()) ()
def Qm1 (x6:Int):VS:=Qx5.st (x6,()) ()
def Qm2  : VS:=Qx6.st () ()
def QMG:VS->Option (Bool×List (Bool×Exit×VS)):=mkL QeN (fun x y=>(decide (x.2.1.length=x.2.2.1.length/\x.2.1.length<=100000/\0<=x.2.2.2.1/\x.2.2.2.1<=x.2.1.length))) (fun x y=>[(((J1 x.1 (x.2.1.drop x.2.2.2.1.toNat)).isSome),.ret,Qm1 (x.2.2.1.getD (x.2.2.2.1.toNat+(J1 x.1 (x.2.1.drop x.2.2.2.1.toNat)).getD 0) 0)),(true,.exit 0,Qm2)])
def Qm3:G:=gG 24 [] (Ls [QMG])
def QeO (x0:Int)(x1 x2:List Int)(x7:Int):OX:=Qx (QA Qm3 Qm0 Qx8) (Qx9 x0 x1 x2 x7)
def Qat (kk:Int->List Int->List Int->Int->OX)(x0:Int)(x1 x2:List Int)(x7:Int):OX:=br (ilt x7 (Qc x1)) (br (cIx x1 x7) (br (ieq (lgt tI x1 (Int.toNat x7)) x0) (br (cIx x2 x7) (some (.ret,Qm1 (lgt tI x2 (Int.toNat x7)))) none) (kk x0 x1 x2 (Qj .i64 x7 1))) none) (some (.exit 0,Qm2))
def QeP (x0:Int)(x1 x2:List Int)(x7:Int):OX:=
 let a1:=J1 x0 (x1.drop x7.toNat)
 br (a1.isSome) (some (.ret,Qm1 (x2.getD (x7.toNat+a1.getD 0) 0)))<|some (.exit 0,Qm2)
theorem Qya (x0:Int)(x1 x2:List Int)(x7:Int):QeO x0 x1 x2 x7=Qat QeO x0 x1 x2 x7:=lnT (x:=Qat (fun x0 x1 x2 x7=>some (.normal,Qx9 x0 x1 x2 x7)) x0 x1 x2 x7) (by simp only [Qat,nxA];rfl)
def Qyb (p0:Int)(p1 p2:List Int):OV:=
 let a1:=(J1 p0 (p1.drop (0:Int).toNat))
 br (decide (p1.length=p2.length/\p1.length<=100000/\0<=(0:Int)/\(0:Int)<=p1.length)) (br (a1.isSome) (some (.t tI (p2.getD ((0:Int).toNat+a1.getD 0) 0),[])) (some (.t tI 0,[]))) none
theorem QMH (x0:Int)(x1 x2:List Int)(x7:Int)(h:(decide (x1.length=x2.length/\x1.length<=100000/\0<=x7/\x7<=x1.length))=true):QeO x0 x1 x2 x7=QeP x0 x1 x2 x7:=by
 simp only [Ba] at h
 obtain ⟨h1,h2,h3,h4⟩:=h
 obtain ⟨k,rfl⟩:=Bl h3
 refine QQ x1 (fun k=>QeO x0 x1 x2 (k:Int)=QeP x0 x1 x2 (k:Int)) ?_ ?_ k (by omega)
 ·rw [Qya]
  simp [Qat,QeP,Qy,Qc,Qi,J1]
 ·intro k hk ih
  rw [Qya]
  have hk2:k<x2.length:=by omega
  simp only [Qat,Qy,Qc,QK,hk,hk2,Bo,Qf,Bb,QO (show k<4611686018427387904 by omega),ih,QL (y:=tI) hk,QL (y:=tI) hk2]
  simp only [QeP,Bb,Bg hk,J1,ieq]
  cases h:x1[k]==x0 with
  |true=>simp [h,Qf,Bt,Bk hk2]
  |false=>
   simp only [h,Qi,BK,Dc]
   cases hq:J1 x0 (x1.drop (k+1)) with
   |none=>rfl
   |some j=>
    simp only [De,Dw,B3,Qf]
    rw [show k+1+j=k+(j+1) by omega]
theorem QMI:LO Qm3 Qm0 Qx8 0:=QI (s:=QeN) fun x y h _ q=>by simp only [QG,QH] at q;exact (QMH x.1 x.2.1 x.2.2.1 x.2.2.2.1 h).trans q
theorem s_f207 (b:Int)(s t:List Int)(h:GF b s t=true):Qyb b s t=some (.t tI (Zy b s t),[]):=by
 simp only [GF,Ba] at h
 simp only [Qyb,Zy]
 rw [Yv ⟨h.1,h.2,B1 0,by omega⟩,Qf]
 simp only [By,BG,DS]
 cases J1 b s<;>simp [Qf,Qi]
def Qyc:Ent:=Qo (.pr tI (.pr (.sl tI) (.pr (.sl tI) .nil))) (fun x=>(GF x.1 x.2.1 x.2.2.1)) (fun x=>(.t tI (Zy x.1 x.2.1 x.2.2.1)))
theorem QMJ:EM 207 Qyc:=mS (lk:=lkL (lkc QMI lkn)) Qm3 Qx7 [((.t 6),some tI)] false (gB gN) fun m=>Qs m fun x hok=>kT (s_f207 x.1 x.2.1 x.2.2.1 hok)
def QMK:TC:=aF Tryz.f159 []
def g_f159:G:=gG 76 [(206,Qx2),(207,Qyc),(208,Qx4)] (fun _ _=>none)
def Ev (p0:Keep):OV:=br (cNz 2) (some (.t tI (Et .i64 p0.2.1 2),[])) none
def Qau (p0:Keep):OV:=br (ieq p0.2.1 160) (Ev p0) (br (ieq p0.2.1 224) (Ev p0) (br (ieq p0.2.1 256) (Ev p0) (br (ieq p0.2.1 384) (Ev p0) (br (ieq p0.2.1 521) (Ev p0) (some (.t tI 0,[]))))))
def Qm4 (p0:Keep):OV:=br (GF p0.2.1 ([128,256]) ([128,256])) (some (.t tI (Zy p0.2.1 ([128,256]) ([128,256])),[])) none
def Qm5 (p0:Keep):OV:=br (GF p0.2.1 ([0]) ([(WC p0.1)])) (some (.t tI (Zy p0.2.1 ([0]) ([(WC p0.1)])),[])) none
def Qm6 (p0:Keep):OV:=br (ieq p0.1 9) (br (GF p0.2.1 ([44,65,87]) ([128,192,256])) (some (.t tI (Zy p0.2.1 ([44,65,87]) ([128,192,256])),[])) none) (br (ieq p0.1 13) (br (GF p0.2.1 ([512,768,1024]) ([128,192,256])) (some (.t tI (Zy p0.2.1 ([512,768,1024]) ([128,192,256])),[])) none) (br (ieq p0.1 14) (br (GF p0.2.1 ([40,128]) ([40,60])) (some (.t tI (Zy p0.2.1 ([40,128]) ([40,60])),[])) none) (br (ieq p0.1 15) (br (GF p0.2.1 ([112,168]) ([80,112])) (some (.t tI (Zy p0.2.1 ([112,168]) ([80,112])),[])) none) (br (ieq p0.1 16) (br (ieq p0.1 16) (Qm4 p0) (Qm5 p0)) (br (ieq p0.1 17) (Qm4 p0) (Qm5 p0))))))
def Qav (p0:Keep):OV:=br (ieq p0.1 7) (br (ieq p0.1 7) (Qau p0) (Qm6 p0)) (br (ieq p0.1 12) (Qau p0) (Qm6 p0))
def Qyd (p0:Keep):OV:=
 let a1:=Fz p0.2.1
 br (ieq p0.1 5) (br (ieq p0.1 5) (some (.t tI a1,[])) (Qav p0)) (br (ieq p0.1 6) (br (ieq p0.1 6) (some (.t tI a1,[])) (Qav p0)) (br (ieq p0.1 10) (br (ieq p0.1 10) (some (.t tI a1,[])) (Qav p0)) (br (ieq p0.1 11) (some (.t tI a1,[])) (Qav p0))))
theorem s_f159 (u:Keep):Qyd u=some (.t tI (XB u),[]):=by
 obtain ⟨a,b,c⟩:=u
 have hcv:Qau (a,b,c)=some (.t tI (I2 b),[]):=by
  have hh:J6 [160,224,256,384,521] b=(ieq b 160||(ieq b 224||(ieq b 256||(ieq b 384||ieq b 521)))):=by
   rw [DC]
   simp [J6,ieq]
  simp only [Qau,Ev,show cNz 2=true from rfl,Qf,I2,hh]
  cases ieq b 160<;>cases ieq b 224<;>cases ieq b 256<;>cases ieq b 384<;>cases ieq b 521<;>rfl
 rcases QmY a with ⟨e,hb⟩|hc
 ·have e2:XB (a,b,c)=Zy b [0] [WC a]:=by
   unfold XB
   simp only
   repeat rw [if_neg (by omega)]
  rw [e2]
  simp only [Qyd,Qav,Qau,Ev,Qm6,Qm4,Qm5,e 5 (by decide),e 6 (by decide),e 7 (by decide),e 9 (by decide),e 10 (by decide),e 11 (by decide),e 12 (by decide),e 13 (by decide),e 14 (by decide),e 15 (by decide),e 16 (by decide),e 17 (by decide),Qi]
  rfl
 ·rcases hc with rfl|rfl|rfl|rfl|rfl|rfl|rfl|rfl|rfl|rfl|rfl|rfl|rfl|rfl|rfl|rfl|rfl|rfl|rfl|rfl|rfl|rfl
  all_goals first
   |rfl
   |exact hcv
def Qm7:Ent:=Qo (.pr Qk .nil) (fun x=>true) (fun x=>(.t tI (XB x.1)))
theorem Qye:EM 159 Qm7:=mS g_f159 QMK [((.t 2),some tI)] false (gB (gD QMD (gD QMJ (gD QMF gN)))) fun m=>Qs m fun x _=>kT (s_f159 x.1)
def QML:TC:=aF Tryz.f105 []
def g_f105:G:=gG 6 [(159,Qm7)] (fun _ _=>none)
def r_f105 (p0:Keep):OV:=some (.t .bool (igt (XB p0) 0),[])
theorem s_f105 (u:Keep):r_f105 u=some (.t .bool (Jf u),[]):=rfl
def I3:Ent:=Qo (.pr Qk .nil) (fun x=>true) (fun x=>(.t .bool (Jf x.1)))
theorem Qaw:EM 105 I3:=mS g_f105 QML [((.t 2),some .bool)] false (gB (gD Qye gN)) fun m=>Qs m fun x _=>kT (s_f105 x.1)
end Go.Proofs.YthlcobdnemhcdaaGreat.K
noncomputable section
namespace Go.Proofs.YthlcobdnemhcdaaGreat.K
open Go.RowKit
theorem Qy4 {d:Dice}{n:Int}(h:dOk d=true):dOk (Qe d n)=true:=QB h
theorem Jc {d:Dice}{l:List Int}(h:dOk d=true):dOk (Ql d l)=true:=QB h
theorem Zo {d:Dice}{l:List Int}(h:l≠[]):dof d l∈l:=by
 have hl:0<(l.length:Int):=by
  cases l with
  |nil=>exact absurd rfl h
  |cons a l=>rw [Br];omega
 have h2:=Q7 (d:=d) hl
 have h3:(Qh d l.length).toNat<l.length:=by omega
 unfold dof
 rw [Bt,Bk h3]
 exact Bw h3
def szL (a:Int):List Int:=
 if a=5∨a=6∨a=10∨a=11 then [2048,1024,512,3072,1023,4096,16384]
 else if a=7∨a=12 then [256,160,224,384,521]
 else if a=9 then [65,44,87]
 else if a=13 then [768,512,1024]
 else if a=14 then [128,40]
 else if a=15 then [168,112]
 else if a=16∨a=17 then [128,256]
 else []
def YK (d:Dice)(a:Int):Int:=if szL a=[] then 0 else dof d (szL a)
def ZW (d:Dice)(a:Int):Dice:=if szL a=[] then d else Ql d (szL a)
def GH (d:Dice)(_a:Int):Bool:=dOk d
def QNe:TC:=aF Tryz.f101 []
def g_f101:G:=gG 46 [(50,WZ)] (fun _ _=>none)
def QaH (d0:Dice)(p1:Int):OV:=br (QM d0 ([2048,1024,512,3072,1023,4096,16384])) (some (.t tI (dof d0 ([2048,1024,512,3072,1023,4096,16384])),[.box (.t Qt (Ql d0 ([2048,1024,512,3072,1023,4096,16384])))])) none
def QnD (d0:Dice)(p1:Int):OV:=br (QM d0 ([256,160,224,384,521])) (some (.t tI (dof d0 ([256,160,224,384,521])),[.box (.t Qt (Ql d0 ([256,160,224,384,521])))])) none
def QnE (d0:Dice)(p1:Int):OV:=br (QM d0 ([128,256])) (some (.t tI (dof d0 ([128,256])),[.box (.t Qt (Ql d0 ([128,256])))])) none
def QnF (d0:Dice)(p1:Int):OV:=br (ieq p1 9) (br (QM d0 ([65,44,87])) (some (.t tI (dof d0 ([65,44,87])),[.box (.t Qt (Ql d0 ([65,44,87])))])) none) (br (ieq p1 13) (br (QM d0 ([768,512,1024])) (some (.t tI (dof d0 ([768,512,1024])),[.box (.t Qt (Ql d0 ([768,512,1024])))])) none) (br (ieq p1 14) (br (QM d0 ([128,40])) (some (.t tI (dof d0 ([128,40])),[.box (.t Qt (Ql d0 ([128,40])))])) none) (br (ieq p1 15) (br (QM d0 ([168,112])) (some (.t tI (dof d0 ([168,112])),[.box (.t Qt (Ql d0 ([168,112])))])) none) (br (ieq p1 16) (br (ieq p1 16) (QnE d0 p1) (some (.t tI 0,[.box (.t Qt d0)]))) (br (ieq p1 17) (QnE d0 p1) (some (.t tI 0,[.box (.t Qt d0)])))))))
def QaI (d0:Dice)(p1:Int):OV:=br (ieq p1 7) (br (ieq p1 7) (QnD d0 p1) (QnF d0 p1)) (br (ieq p1 12) (QnD d0 p1) (QnF d0 p1))
def Qy5 (d0:Dice)(p1:Int):OV:=br (ieq p1 5) (br (ieq p1 5) (QaH d0 p1) (QaI d0 p1)) (br (ieq p1 6) (br (ieq p1 6) (QaH d0 p1) (QaI d0 p1)) (br (ieq p1 10) (br (ieq p1 10) (QaH d0 p1) (QaI d0 p1)) (br (ieq p1 11) (QaH d0 p1) (QaI d0 p1))))
theorem s_f101 (d:Dice)(a:Int)(h:GH d a=true):Qy5 d a=some (.t tI (YK d a),[.box (.t Qt (ZW d a))]):=by
 have h:dOk d=true:=h
 have ho: ∀ l:List Int,l≠[]->l.length<=100->QM d l=true:=fun l h1 h2=>by
  have:0<l.length:=List.length_pos_iff.2 h1
  simp only [QM,h,Bu,Ba]
  omega
 simp only [Qy5,QaH,QaI,QnD,QnF,QnE,ho _ (show ([2048,1024,512,3072,1023,4096,16384]:List Int)≠[] by decide) (by decide),ho _ (show ([256,160,224,384,521]:List Int)≠[] by decide) (by decide),ho _ (show ([65,44,87]:List Int)≠[] by decide) (by decide),ho _ (show ([768,512,1024]:List Int)≠[] by decide) (by decide),ho _ (show ([128,40]:List Int)≠[] by decide) (by decide),ho _ (show ([168,112]:List Int)≠[] by decide) (by decide),ho _ (show ([128,256]:List Int)≠[] by decide) (by decide),Qf]
 rcases QmY a with ⟨e,hb⟩|hc
 ·have e1:szL a=[]:=by
   unfold szL
   repeat rw [if_neg (by omega)]
  simp only [e 5 (by decide),e 6 (by decide),e 7 (by decide),e 9 (by decide),e 10 (by decide),e 11 (by decide),e 12 (by decide),e 13 (by decide),e 14 (by decide),e 15 (by decide),e 16 (by decide),e 17 (by decide),Qi,YK,ZW,e1,if_true]
 ·rcases hc with rfl|rfl|rfl|rfl|rfl|rfl|rfl|rfl|rfl|rfl|rfl|rfl|rfl|rfl|rfl|rfl|rfl|rfl|rfl|rfl|rfl|rfl<;>rfl
def Qe5:Ent:=Xx Qt (.pr tI .nil) (fun d x=>(GH d x.1)) (fun d x=>(.t tI (YK d x.1))) (fun d x=>(ZW d x.1))
theorem QnG:EM 101 Qe5:=mS g_f101 QNe [((.t 4),some tI)] false (gB (gD UB gN)) fun m=>WA m rfl fun d x hok=>kT (s_f101 d x.1 hok)
theorem Qe6 {d:Dice}{a:Int}(h:dOk d=true):dOk (ZW d a)=true:=by
 unfold ZW
 split
 ·exact h
 ·exact Jc h
theorem QNf {d:Dice}{a:Int}(h1:1<=a)(h2:a<=22):Jf (a,(YK d a,()))=true:=by
 have hm:YK d a∈(if szL a=[] then [0] else szL a):=by
  unfold YK
  split
  ·simp
  ·rename_i h
   exact Zo h
 have ha: ∀ l:List Int,(∀ x,x∈l->Jf (a,(x,()))=true)->YK d a∈l->Jf (a,(YK d a,()))=true:=fun l h hm=>h _ hm
 have hc:a=1∨a=2∨a=3∨a=4∨a=5∨a=6∨a=7∨a=8∨a=9∨a=10∨a=11∨a=12∨a=13∨a=14∨a=15∨a=16∨a=17∨a=18∨a=19∨a=20∨a=21∨a=22:=by omega
 rcases hc with rfl|rfl|rfl|rfl|rfl|rfl|rfl|rfl|rfl|rfl|rfl|rfl|rfl|rfl|rfl|rfl|rfl|rfl|rfl|rfl|rfl|rfl<;>exact ha _ (by decide) hm
end Go.Proofs.YthlcobdnemhcdaaGreat.K
noncomputable section
namespace Go.Proofs.YthlcobdnemhcdaaGreat.K
open Go.RowKit
noncomputable section
def U3 {α:Type}(l:List α)(n i:Int):Bool:=decide (n=l.length/\0<=i/\i<=n/\l.length<=9223372036854775807)
theorem QEi {α:Type}{l:List α}{n i:Int}(h:U3 l n i=true):n=l.length/\l.length<=9223372036854775807∧ ∃ k:Nat,i=k/\k<=l.length:=by
 simp only [U3,Ba] at h
 obtain ⟨h1,h2,h3,h4⟩:=h
 exact ⟨h1,h4,i.toNat,by omega,by omega⟩
theorem QEj {α:Type}{l:List α}(h:l.length<=9223372036854775807):U3 l (Qc l) 0=true:=by
 simp only [U3,Ba,Qc]
 exact ⟨trivial,by omega,by omega,h⟩
theorem QhE {k:Nat}(h:k<9223372036854775807):Qj .i64 (k:Int) 1=((k+1:Nat):Int):=by rw [Jz (by omega)];omega
def Jy {α:Type}(m:α->Bool):List α->Option Nat
 | []=>none
 |a::l=>if m a then some 0 else (Jy m l).map (· + 1)
theorem QbQ {α:Type}{m:α->Bool}: ∀ {l:List α},Jy m l=none↔l.any m=false
 | []=>by simp [Jy]
 |a::l=>by
  have ih:=QbQ (m:=m) (l:=l)
  unfold Jy
  cases h:m a with
  |true=>simp [h]
  |false=>simpa [h] using ih
theorem QEk {α:Type}{m:α->Bool}: ∀ {l:List α} {k:Nat},Jy m l=some k→ ∃ h:k<l.length,m l[k]=true
 | [],_,h=>by cases h
 |a::l,k,h=>by
  unfold Jy at h
  split at h
  ·rename_i ha
   injection h with h
   subst h
   exact ⟨by simp,ha⟩
  ·obtain ⟨j,h1,h2⟩:=Bj.1 h
   subst h2
   obtain ⟨q,h3⟩:=QEk h1
   exact ⟨by simp only [Br];omega,h3⟩
theorem Qqr {α:Type}{m:α->Bool}{l:List α}:(Jy m l).isSome=l.any m:=by
 cases h:Jy m l with
 |none=>rw [QbQ.1 h];rfl
 |some k=>
  obtain ⟨q,h1⟩:=QEk h
  exact (List.any_eq_true.2 ⟨l[k],Bw q,h1⟩).symm
theorem EP (s:ByteArray):(QZ s).length=s.size:=by simp [QZ]
def hasS (l:List ByteArray)(v:ByteArray):Bool:=l.any (seq v)
def WP (c:Int):Bool:=decide (32<c/\c<=126)
def Jr (s:ByteArray):Bool:=(QZ s).all WP&&decide (1<=s.size/\s.size<=32)
def Jn (s:ByteArray):Bool:=decide (s.size<=9223372036854775807)
abbrev QhF:Sh:=⟨[(0,.ty .str),(6,.ty (.sl (.int .u8))),(7,.ty tI),(8,.ty tI)],[]⟩
abbrev Qqs:Sh:=⟨[(2,.ty .bool)],[]⟩
abbrev QEl:Sh:=⟨[(0,.ty .str)],[]⟩
def Qqt:Fg:=QhF.f
def QEm:TC:=aF Tryz.f178 [(26,pL 0 Qqt),(421,.fg QEl.f),(13517,.fg Qqs.f)]
def QEn:TC:=lb 0 QEm
def QEo (x0:ByteArray)(x6:List Int)(x7 x8:Int):VS:=QhF.st (x0,x6,x7,x8,()) ()
def FQ (x2:Bool):VS:=Qqs.st (x2,()) ()
def Qqu (x0:ByteArray):VS:=QEl.st (x0,()) ()
def QSN:VS->Option (Bool×List (Bool×Exit×VS)):=mkL QhF (fun x y=>(U3 x.2.1 x.2.2.1 x.2.2.2.1)) (fun x y=>[((!((x.2.1.drop x.2.2.2.1.toNat).all WP)),.ret,FQ (false)),(true,.exit 0,Qqu (x.1))])
def Qqv:G:=gG 27 [(29000144,Qan)] (Ls [QSN])
def QhG (x0:ByteArray)(x6:List Int)(x7 x8:Int):OX:=Qx (QA Qqv Qqt QEn) (QEo x0 x6 x7 x8)
def QbR (kk:ByteArray->List Int->Int->Int->OX)(x0:ByteArray)(x6:List Int)(x7 x8:Int):OX:=
 let a1:=lgt (.int .u8) x6 (Int.toNat x8)
 br (ilt x8 x7) (br (cIx x6 x8) (br (ile a1 32) (some (.ret,FQ false)) (br (igt a1 126) (some (.ret,FQ false)) (kk x0 x6 x7 (Qj .i64 x8 1)))) none) (some (.exit 0,Qqu x0))
def QhH (x0:ByteArray)(x6:List Int)(x7 x8:Int):OX:=br (!((x6.drop x8.toNat).all WP)) (some (.ret,FQ (false)))<|some (.exit 0,Qqu (x0))
theorem QEp (x0:ByteArray)(x6:List Int)(x7 x8:Int):QhG x0 x6 x7 x8=QbR QhG x0 x6 x7 x8:=lnT (x:=QbR (fun x0 x6 x7 x8=>some (.normal,QEo x0 x6 x7 x8)) x0 x6 x7 x8) (by simp only [QbR,nxA];rfl)
def QEq (p0:ByteArray):OV:=br (X6 p0) (br (U3 (QZ p0) (Qc (QZ p0)) (0:Int)) (br (!(((QZ p0).drop (0:Int).toNat).all WP)) (some (.t .bool (false),[])) (br (ige (Zg (p0)) 1) (some (.t .bool (ile (Zg (p0)) 32),[])) (some (.t .bool false,[])))) none) none
theorem QSO (x0:ByteArray)(x6:List Int)(x7 x8:Int)(h:(U3 x6 x7 x8)=true):QhG x0 x6 x7 x8=QhH x0 x6 x7 x8:=by
 obtain ⟨rfl,h3,k,rfl,hk⟩:=QEi h
 clear h
 refine QQ x6 (fun k=>QhG x0 x6 (x6.length:Int) (k:Int)=QhH x0 x6 (x6.length:Int) (k:Int)) ?_ ?_ k hk
 ·rw [QEp]
  simp [QbR,QhH,Qy,Qi]
 ·intro k hk ih
  rw [QEp]
  simp only [QbR,Qy,QK,hk,Bo,Qf,Bb,QhE (show k<9223372036854775807 by omega),QL (y:= .int .u8) hk,ih]
  simp only [QhH,Bb,Bg hk,B0,WP]
  by_cases c1:x6[k]<=32
  ·rw [show ile x6[k] 32=true from Be c1,Qf,Bq (show ¬ (32<x6[k]/\x6[k]<=126) by omega)]
   rfl
  ·rw [show ile x6[k] 32=false from Bq c1,Qi]
   by_cases c2:126<x6[k]
   ·rw [show igt x6[k] 126=true from Be (by omega),Qf,Bq (show ¬ (32<x6[k]/\x6[k]<=126) by omega)]
    rfl
   ·rw [show igt x6[k] 126=false from Bq (by omega),Qi,Be (show 32<x6[k]/\x6[k]<=126 by omega),Bu]
theorem QSP:LO Qqv Qqt QEn 0:=QI (s:=QhF) fun x y h _ q=>by simp only [QG,QH] at q;exact (QSO x.1 x.2.1 x.2.2.1 x.2.2.2.1 h).trans q
theorem s_f178 (s:ByteArray)(h:Jn s=true):QEq s=some (.t .bool (Jr s),[]):=by
 simp only [Jn,Ba] at h
 have hl:=EP s
 simp only [QEq,show X6 s=true from Be (by omega),QEj (show (QZ s).length<=9223372036854775807 by omega),Qf,By,BG,Jr]
 cases (QZ s).all WP with
 |false=>rfl
 |true=>
  simp only [BF,Qi,Bu]
  refine QY (fun g=> ?_) (fun g=> ?_)
  ·simp only [ige,Zg,Ba] at g
   apply F4
   rw [DC]
   simp only [ile,Zg,Ba]
   omega
  ·simp only [ige,Zg,Bn] at g
   apply F4
   rw [eq_comm,Bn]
   omega
def QhI:Ent:=Qo (.pr .str .nil) (fun x=>(Jn x.1)) (fun x=>(.t .bool (Jr x.1)))
theorem Qqw:EM 178 QhI:=mS (lk:=lkL (lkc QSP lkn)) Qqv QEm [((.t 2),some .bool)] false (gB (gC Qew Qex gN)) fun m=>Qs m fun x hok=>kT (s_f178 x.1 hok)
theorem QEr {s:ByteArray}{k:Nat}(h:k<s.size):sgt s (k:Int)=(QZ s)[k]'(by rw [EP];exact h):=by
 have hl:k<s.data.toList.length:=by simpa using h
 simp only [sgt,QZ,Bb,List.getElem_map,Bt,Bk hl,B3]
abbrev QhJ:Sh:=⟨[(0,.ty .str),(3,.ty tI)],[]⟩
abbrev QEs:Sh:=⟨[],[]⟩
def Qqx:Fg:=QhJ.f
def QEt:TC:=aF Tryz.f187 [(58,pL 0 Qqx),(931,.fg QEs.f),(7461,.fg Qqs.f)]
def QEu:TC:=lb 0 QEt
def QEv (x0:ByteArray)(x3:Int):VS:=QhJ.st (x0,x3,()) ()
def Qqy  : VS:=QEs.st () ()
def QSQ:VS->Option (Bool×List (Bool×Exit×VS)):=mkL QhJ (fun x y=>(Jn x.1&&decide (0<=x.2.1/\x.2.1<=x.1.size))) (fun x y=>[((!(((QZ x.1).drop x.2.1.toNat).all WP)),.ret,FQ (false)),(true,.exit 0,Qqy)])
def Qqz:G:=gG 28 [] (Ls [QSQ])
def QhK (x0:ByteArray)(x3:Int):OX:=Qx (QA Qqz Qqx QEu) (QEv x0 x3)
def QbS (kk:ByteArray->Int->OX)(x0:ByteArray)(x3:Int):OX:=br (ilt x3 (Zg x0)) (br (cSx x0 x3) (br (ilt (sgt x0 x3) 33) (some (.ret,FQ false)) (br (cSx x0 x3) (br (igt (sgt x0 x3) 126) (some (.ret,FQ false)) (kk x0 (Qj .i64 x3 1))) none)) none) (some (.exit 0,Qqy))
def QhL (x0:ByteArray)(x3:Int):OX:=br (!(((QZ x0).drop x3.toNat).all WP)) (some (.ret,FQ (false)))<|some (.exit 0,Qqy)
theorem QEw (x0:ByteArray)(x3:Int):QhK x0 x3=QbS QhK x0 x3:=lnT (x:=QbS (fun x0 x3=>some (.normal,QEv x0 x3)) x0 x3) (by simp only [QbS,nxA];rfl)
def QEx (p0:ByteArray):OV:=br (ilt (Zg p0) 1) (some (.t .bool false,[])) (br (igt (Zg p0) 32) (some (.t .bool false,[])) (br (Jn p0&&decide (0<=(0:Int)/\(0:Int)<=p0.size)) (br (!(((QZ p0).drop (0:Int).toNat).all WP)) (some (.t .bool (false),[])) (some (.t .bool true,[]))) none))
theorem QSR (x0:ByteArray)(x3:Int)(h:(Jn x0&&decide (0<=x3/\x3<=x0.size))=true):QhK x0 x3=QhL x0 x3:=by
 simp only [Jn,Bc,Ba] at h
 obtain ⟨h0,h1,h2⟩:=h
 obtain ⟨k,rfl⟩:=Bl h1
 have hl:=EP x0
 refine QQ (QZ x0) (fun k=>QhK x0 (k:Int)=QhL x0 (k:Int)) ?_ ?_ k (by omega)
 ·rw [QEw]
  simp [QbS,QhL,ilt,Zg,hl,Qi,Dn (show (QZ x0).length<=x0.size by omega)]
 ·intro k hk ih
  have hk2:k<x0.size:=by omega
  rw [QEw]
  simp only [QbS,show ilt (k:Int) (Zg x0)=true from by simp only [ilt,Zg,Ba];omega,show cSx x0 (k:Int)=true from by simp only [cSx,Ba];omega,Qf,QEr hk2,QhE (show k<9223372036854775807 by omega),ih]
  simp only [QhL,Bb,Bg hk,B0,WP]
  by_cases c1:(QZ x0)[k]<33
  ·rw [show ilt (QZ x0)[k] 33=true from Be c1,Qf,Bq (show ¬ (32<(QZ x0)[k]/\(QZ x0)[k]<=126) by omega)]
   rfl
  ·rw [show ilt (QZ x0)[k] 33=false from Bq c1,Qi]
   by_cases c2:126<(QZ x0)[k]
   ·rw [show igt (QZ x0)[k] 126=true from Be c2,Qf,Bq (show ¬ (32<(QZ x0)[k]/\(QZ x0)[k]<=126) by omega)]
    rfl
   ·rw [show igt (QZ x0)[k] 126=false from Bq c2,Qi,Be (show 32<(QZ x0)[k]/\(QZ x0)[k]<=126 by omega),Bu]
theorem QSS:LO Qqz Qqx QEu 0:=QI (s:=QhJ) fun x y h _ q=>by simp only [QG,QH] at q;exact (QSR x.1 x.2.1 h).trans q
theorem s_f187 (s:ByteArray)(h:Jn s=true):QEx s=some (.t .bool (Jr s),[]):=by
 simp only [QEx]
 unfold Jr
 refine QY (fun g=> ?_) (fun g=>QY (fun g2=> ?_) (fun g2=> ?_))
 ·simp only [ilt,Zg,Ba] at g
  rw [Bq (show ¬ (1<=s.size/\s.size<=32) by omega),Bool.and_false]
 ·simp only [igt,Zg,Ba] at g2
  rw [Bq (show ¬ (1<=s.size/\s.size<=32) by omega),Bool.and_false]
 ·simp only [ilt,igt,Zg,Bn] at g g2
  rw [h,Be (show (0:Int)<=0/\(0:Int)<=s.size by omega),Be (show 1<=s.size/\s.size<=32 by omega),B7,B7,Qf,By,BG]
  cases (QZ s).all WP<;>rfl
def QqA:Ent:=Qo (.pr .str .nil) (fun x=>(Jn x.1)) (fun x=>(.t .bool (Jr x.1)))
theorem QEy:EM 187 QqA:=mS (lk:=lkL (lkc QSS lkn)) Qqz QEt [((.t 2),some .bool)] false (gB gN) fun m=>Qs m fun x hok=>kT (s_f187 x.1 hok)
def ZA (d:Dice)(l:List ByteArray):ByteArray:=l.getD (Qh d l.length).toNat ByteArray.empty
def YQ (d:Dice)(l:List ByteArray):Dice:=Qe d l.length
def YR (d:Dice)(l:List ByteArray):Bool:=dOk d&&decide (0<l.length/\l.length<4611686018427387904)
def tc_f49:TC:=aF Tryz.f49 []
def g_f49:G:=gG 12 [(32,Xl)] (fun _ _=>none)
def r_f49 (d0:Dice)(p1:List ByteArray):OV:=br (Qz d0 (Qc p1)) (br (cIx p1 (Qh d0 (Qc p1))) (some (.t .str (lgt .str p1 (Int.toNat (Qh d0 (Qc p1)))),[.box (.t Qt (Qe d0 (Qc p1)))])) none) none
theorem s_f49 (d:Dice)(l:List ByteArray)(h:YR d l=true):r_f49 d l=some (.t .str (ZA d l),[.box (.t Qt (YQ d l))]):=by
 simp only [YR,Bc,Ba] at h
 obtain ⟨h1,h2,h3⟩:=h
 simp only [r_f49]
 have e1:Qz d (Qc l)=true:=by simp only [Qz,h1,Qc,Bu,Ba];omega
 rw [e1,Qf]
 have h4:=Q7 (d:=d) (n:=Qc l) (by unfold Qc;omega)
 have e2:cIx l (Qh d (Qc l))=true:=by simp only [cIx,Ba];exact h4
 rw [e2,Qf]
 rfl
def QbT:Ent:=Xx Qt (.pr (.sl .str) .nil) (fun d x=>(YR d x.1)) (fun d x=>(.t .str (ZA d x.1))) (fun d x=>(YQ d x.1))
theorem QhM:EM 49 QbT:=mS g_f49 tc_f49 [((.t 4),some .str)] false (gB (gD XM gN)) fun m=>WA m rfl fun d x hok=>kT (s_f49 d x.1 hok)
end
end Go.Proofs.YthlcobdnemhcdaaGreat.K
noncomputable section
namespace Go.Proofs.YthlcobdnemhcdaaGreat.K
open Go.RowKit
def byt (n:Int)(k:Nat):Int:=(n / 256 ^ k) % 256
theorem Qmu (a:Int):icv .u8 a=a % 256:=by
 show IntKind.u8.wrap a=_
 simp [IntKind.wrap,IntKind.bits,IntKind.signed]
theorem QLU {kd:IntKind}(hb:kd.bits=64)(a:Int)(k:Nat)(hk:k<=8):Ur kd a ((8*k:Nat):Int)=a / 256 ^ k:=by
 unfold Ur
 rw [Bb,hb,Nat.min_eq_left (by omega),Int.fdiv_eq_ediv_of_nonneg _ (by exact Int.pow_nonneg (by decide)),Int.pow_mul]
 rfl
def Gy (n:Int):Nat->List Int
 |0=>[]
 |k+1=>byt n k::Gy n k
theorem Qxd (n:Int): ∀ k,(Gy n k).length=k
 |0=>rfl
 |k+1=>by rw [Gy,Br,Qxd n k]
def nbN (n:Int):Nat:=
 if-128<=n/\n<128 then 1 else if-32768<=n/\n<32768 then 2 else if-8388608<=n/\n<8388608 then 3
 else if-2147483648<=n/\n<2147483648 then 4 else if-549755813888<=n/\n<549755813888 then 5
 else if-140737488355328<=n/\n<140737488355328 then 6 else if-36028797018963968<=n/\n<36028797018963968 then 7 else 8
theorem Qel (n:Int):nbN n<=8:=by unfold nbN;(repeat' split)<;>omega
def XU (x b:Int):Bool:=(x != 0&&x != -1)||(x==0&&decide (b≥128))||(x== -1&&decide (b<128))
def ZU:Nat->Int->List Int->List Int
 |0,_,b=>b
 |k+1,x,b=>bif XU x (b.headD 0) then ZU k (x / 256) (x % 256::b) else b
theorem QLV (x y:Int):XU x y=true↔((x≠0/\x≠ -1)∨(x=0/\y≥128)∨(x= -1/\y<128)):=by simp [XU,or_assoc]
theorem IP (n:Int){k:Nat}(h:1<=k):Gy n k=byt n (k-1)::Gy n (k-1):=by
 obtain ⟨j,rfl⟩: ∃ j,k=j+1:=⟨k-1,by omega⟩
 rfl
theorem Qmv {n:Int}(k:Nat)(h1:k<=8)(h0:1<=k)(h: -9223372036854775808<=n/\n<9223372036854775808):XU (n / 256 ^ k) (byt n (k-1))=decide (k<nbN n):=by
 have key:((n / 256 ^ k≠0/\n / 256 ^ k≠ -1)∨(n / 256 ^ k=0/\byt n (k-1)≥128)∨(n / 256 ^ k= -1/\byt n (k-1)<128))↔k<nbN n:=by
  unfold nbN byt
  have:k=1∨k=2∨k=3∨k=4∨k=5∨k=6∨k=7∨k=8:=by omega
  rcases this with rfl|rfl|rfl|rfl|rfl|rfl|rfl|rfl<;>simp only [Int.reducePow,Nat.reduceSub]<;>(repeat' split)<;>omega
 rw [DC,QLV,decide_eq_true_iff,key]
theorem QLW (n:Int):1<=nbN n:=by unfold nbN;(repeat' split)<;>omega
theorem Qxe {n:Int}(h: -9223372036854775808<=n/\n<9223372036854775808): ∀ f k,1<=k->k<=nbN n->nbN n-k<=f->ZU (f+1) (n / 256 ^ k) (Gy n k)=Gy n (nbN n)
 |0,k,h1,h2,h3=>by
  have e:k=nbN n:=by omega
  rw [IP n h1,ZU,List.headD_cons,Qmv k (by have:=Qel n;omega) h1 h,Bq (by omega),BW, ← e, ← IP n h1]
 |f+1,k,h1,h2,h3=>by
  have h8:=Qel n
  rcases Di k (nbN n) with h4|h4
  ·rw [IP n h1,ZU,List.headD_cons,Qmv k (by omega) h1 h,Be (by omega),B8]
   have e:n / 256 ^ k / 256=n / 256 ^ (k+1):=by rw [Int.pow_succ,Int.ediv_ediv_of_nonneg (Int.pow_nonneg (by decide))]
   rw [e, ← IP n h1]
   exact Qxe h f (k+1) (by omega) (by omega) (by omega)
  ·have e:k=nbN n:=by omega
   rw [IP n h1,ZU,List.headD_cons,Qmv k (by omega) h1 h,Bq (by omega),BW, ← e, ← IP n h1]
def Em (n:Int):List Int:=Gy n (nbN n)
theorem QLX {n:Int}(h: -9223372036854775808<=n/\n<9223372036854775808):ZU 9 (n / 256) [byt n 0]=Em n:=by
 have:=Qxe h 8 1 (BB _) (QLW n) (by have:=Qel n;omega)
 simpa [Gy,Em] using this
def Yz:Nat->Nat->List Int
 |0,_=>[]
 |f+1,n=>if n=0 then [] else Yz f (n / 256)++[((n % 256:Nat):Int)]
def Wy:Nat->Nat->Nat
 |0,_=>0
 |f+1,n=>if n=0 then 0 else Wy f (n / 256)+1
theorem Qmw: ∀ f n,(Yz f n).length=Wy f n
 |0,_=>rfl
 |f+1,n=>by
  simp only [Yz,Wy]
  split
  ·rfl
  ·rw [Bm,Qmw f];rfl
theorem Qmx: ∀ f n,Wy f n<=f
 |0,_=>BB _
 |f+1,n=>by
  simp only [Wy]
  split
  ·omega
  ·have:=Qmx f (n / 256);omega
theorem QLY (n k:Nat):byt (n:Int) k=((n / 256 ^ k % 256:Nat):Int):=by
 unfold byt
 have:(256:Int) ^ k=((256 ^ k:Nat):Int):=by simp
 rw [this]
 omega
def Fp (n:Nat):List Int:=if n<128 then [(n:Int)] else (((128+Wy 8 n:Nat)):Int)::Yz 8 n
mutual
def Qem:Val->List Int
 |.mk t b _ es=>icv .u8 t::(Fp (b.length+(Yo es).length)++(b++Yo es))
def Yo:List Val->List Int
 | []=>[]
 |v::r=>Qem v++Yo r
end
mutual
def Fq:Val->Nat
 |.mk _ _ _ es=>IQ es+1
def IQ:List Val->Nat
 | []=>0
 |v::r=>max (Fq v) (IQ r)
end
def okV:Nat->Val->Bool
 |0,_=>false
 |n+1,.mk t b nst es=>(t==1||t==2||t==12||t==48)&&(nst==(t==48))&&(bif nst then b.isEmpty else es.isEmpty)&&decide (b.length<=100000/\es.length<=100000)&&es.all (okV n)
theorem Qxf {n:Nat}{t:Int}{b:List Int}{q:Bool}{es:List Val}(h:okV (n+1) (.mk t b q es)=true):
  (t=1∨t=2∨t=12∨t=48)/\q=(t==48)/\(q=true->b=[])/\(q=false->es=[])/\b.length<=100000/\es.length<=100000∧ ∀ v∈es,okV n v=true:=by
 simp only [okV,Bc,Dm,Do,Ba,Bi] at h
 obtain ⟨⟨⟨⟨h1,h2⟩,h3⟩,h4⟩,h5⟩:=h
 refine ⟨by omega,h2,fun hq=> ?_,fun hq=> ?_,h4.1,h4.2,h5⟩
 ·rw [hq,B8] at h3
  exact DW.1 h3
 ·rw [hq,BW] at h3
  exact DW.1 h3
theorem okV_up: ∀ {n:Nat} {v:Val},okV n v=true->okV (n+1) v=true
 |0,_,h=>by cases h
 |n+1,.mk t b q es,h=>by
  simp only [okV,Bc,Bi] at h ⊢
  exact ⟨h.1,fun v hv=>by have:=okV_up (h.2 v hv);simpa only [okV] using this⟩
theorem Qxg: ∀ {n:Nat} {es:List Val},(∀ v∈es,Fq v<=n)->IQ es<=n
 |_,[],_=>Da _
 |n,v::r,h=>by
  rw [IQ]
  have:=h v (by simp)
  have:=Qxg (es:=r) fun u hu=>h u (by simp [hu])
  omega
theorem Qen: ∀ {n:Nat} {v:Val},okV n v=true->Fq v<=n
 |0,_,h=>by cases h
 |n+1,.mk t b q es,h=>by
  rw [Fq]
  have:=Qxg (n:=n) fun v hv=>Qen ((Qxf h).2.2.2.2.2.2 v hv)
  omega
theorem QLZ (t:Int)(b:List Int)(q:Bool)(es:List Val):b.length+(Yo es).length<=(Qem (.mk t b q es)).length:=by
 rw [Qem,Br,Bm,Bm]
 omega
end Go.Proofs.YthlcobdnemhcdaaGreat.K
noncomputable section
namespace Go.Proofs.YthlcobdnemhcdaaGreat.K
open Go.RowKit
mutual
def V.plain:V->Bool
 |.t (.int _) _=>true
 |.t .bool _=>true
 |.tu vs=>V.plains vs
 |_=>false
def V.plains:List V->Bool
 | []=>true
 |v::vs=>v.plain&&V.plains vs
end
section
variable {X X':Nat->Nat->Prop}{w w':World}{σ σ':Pl}
mutual
theorem Qt8: ∀ (v:V) (u:Value),v.plain=true->C X w σ v.d u->C X' w' σ' v.d u
 |.t (.int _) x,u,_,h=>by simpa only [V.d,Ty.d,C] using h
 |.t .bool x,u,_,h=>by simpa only [V.d,Ty.d,C] using h
 |.tu vs,u,hp,h=>by
  simp only [V.plain] at hp
  simp only [V.d,C] at h ⊢
  obtain ⟨us,h1,h2⟩:=h
  exact ⟨us,h1,Qt9 vs us hp h2⟩
theorem Qt9: ∀ (vs:List V) (us:List Value),V.plains vs=true->Cs X w σ (V.ds vs) us->Cs X' w' σ' (V.ds vs) us
 | [],us,_,h=>by simpa only [V.ds,Cs] using h
 |v::vs,us,hp,h=>by
  simp only [V.plains,Bc] at hp
  simp only [V.ds,Cs] at h ⊢
  obtain ⟨u,us',h1,h2,h3⟩:=h
  exact ⟨u,us',h1,Qt8 v u hp.1 h2,Qt9 vs us' hp.2 h3⟩
end
end
def Qkm (E:Ent):Ent:=fun args objs=>match objs with
 | [.arr e y l]=>match E (V.fzs 50000 y l args) [] with
  |some (ok,r,[])=>if r.plain then some (ok,r,[.arr e y l]) else none
  |_=>none
 |objs=>E args objs
section
variable {P:Program}
theorem QIO {f:FuncId}{E:Ent}(h:Qu P f (Qv E)):Qu P f (Qv (Qkm E)):=by
 intro args objs r os hF X w σ vs hfin hl hc
 unfold Qv Qkm at hF
 split at hF
 ·rename_i r' os' hq
  simp only [Bd,Bp] at hF
  obtain ⟨rfl,rfl⟩:=hF
  split at hq
  ·rename_i e y l
   split at hq
   ·rename_i ok r2 hE
    split at hq
    ·rename_i hp
     simp only [Bd,Bp] at hq
     obtain ⟨rfl,rfl,rfl⟩:=hq
     have hat:=(hl.at_ 0 _ rfl).1
     let X2:Nat->Nat->Prop:=fun b q=>X b q/\(σ 50000).blk≠some b
     have ex:Ext X w X2 w:=⟨BB _,fun b q _ hx=>⟨fun hx'=>hx hx'.1,rfl⟩,fun _ _ _=>rfl⟩
     have hX: ∀ u b,σ 50000= .arr u->u.ownBlock=some b→ ∀ q, ¬ X2 b q:=fun u b h1 h2 q hx=>hx.2 (by rw [h1];exact h2)
     have hc2:=ON hat ex hX args vs hc
     have hs:Qv E (V.fzs 50000 y l args) []=some (r2,[]):=by simp [Qv,hE]
     refine (h _ _ _ _ hs X2 w σ vs (fun b q hx=>hfin b q hx.1) ⟨fun j o hj=>by simp at hj,fun i j b _ hi=>by simp at hi⟩ hc2).mono ?_
     rintro e' w' ⟨u,X',σ',rfl,hcr,hE'⟩
     have hk: ∀ b,b<w.heap.size->w'.heap[b]? = w.heap[b]? :=fun b hb=>hE'.fr.keep b hb (by simp [Xg])
     let X3:Nat->Nat->Prop:=fun b q=>(b<w.heap.size/\X b q)∨(w.heap.size<=b/\X' b q)
     have ex3:Ext X w X3 w':=⟨hE'.fr.size,fun b q hb hx=>⟨fun hx'=>by
      rcases hx' with hx'|hx'
      ·exact hx hx'.2
      ·omega,World.cell?_of_block (w:=w) (a:=⟨b,q,none⟩) (hk b hb)⟩,fun b hb _=>hk b hb⟩
     refine ⟨u,X3,σ,rfl,Qt8 _ _ hp hcr,⟨fun b q hq=> ?_,fun j o hj=> ?_,fun i j b hij hi hj=>by simp at hi hj;omega,by simp,fun _ _=>rfl,fun j b hj hl=>by simp at hj hl;omega,⟨hE'.fr.os,hE'.fr.tape,hE'.fr.output,hE'.fr.size,fun b hb _=>hk b hb⟩,fun b q hb hq=> ?_,fun b q hb _ hq=> .inl ⟨hb,hq⟩⟩⟩
     ·rcases hq with hq|hq
      ·exact B9 hq.1 hE'.fr.size
      ·exact hE'.fin b q hq.2
     ·cases j with
      |zero=>
       simp only [BZ,Bd] at hj
       subst hj
       refine ⟨hat.ext ex3 rfl (fun _ _=>rfl) fun b hb=> ?_,fun h=>absurd h (by simp)⟩
       obtain ⟨u2,xs,h1,h2,h3,h4,h5⟩:=hat
       have hb2:u2.ownBlock=some b:=by rw [h1] at hb;exact hb
       have hlt:b<w.heap.size:=hfin b 0 (h5 b hb2 0)
       exact ⟨hk b hlt,fun q hq=> .inl ⟨hlt,hq⟩⟩
      |succ j=>simp at hj
     ·rcases hq with hq|hq
      ·exact hq.2
      ·omega
    ·cases hq
   ·cases hq
  ·exact h _ _ _ _ (by rw [Qv,hq]) X w σ vs hfin hl hc
 ·cases hF
end
end Go.Proofs.YthlcobdnemhcdaaGreat.K
noncomputable section
namespace Go.Proofs.YthlcobdnemhcdaaGreat.K
open Go.RowKit
section
variable {P:Program}
theorem QgW {f:FuncId}{e:Nat}{y:Ty}{N:Nat}{ok:(Ty.pr (.sl y) .nil).T->Bool}(hlt:f<1000000)
  (hok: ∀ x,ok x=true->x.1.length<=N)
  (h: ∀ (A:Option Addr) (c n:Nat) (cells:List Value) (w:World),Sl w (.slice A n c) y.sz n cells->(∀ u∈cells,u.oneCell'=true)->n<=N→
   Calls P f #[.slice A n c] w fun r w'=> ∃ sv,r= .returned sv/\w'.ownsRow w.heap.size e y.sz sv n cells/\Below w.heap.size w w'):
  Qu P f (Qv (XW (.pr (.sl y) .nil) ok (fun _=> .ms 50000) (fun x=>[.arr e y x.1]))):=by
 intro args objs r os hF X w σ vs hfin hl hc
 unfold Qv XW at hF
 cases objs with
 |cons o os'=>simp at hF
 |nil=>
  simp only at hF
  cases ha:(Ty.pr (.sl y) .nil).args args with
  |none=>rw [ha] at hF;cases hF
  |some x=>
   rw [ha] at hF
   simp only at hF
   split at hF
   ·rename_i r' os' hq
    simp only [Bd,Bp] at hF hq
    obtain ⟨rfl,rfl⟩:=hF
    obtain ⟨h1,rfl,rfl⟩:=hq
    have hcc:=GB ha hc
    obtain ⟨l,u0⟩:=x
    have hlen:=hok _ h1
    simp only [Ty.canon,V.ds,V.d,Ty.d,Cs,C] at hcc
    obtain ⟨u,us,rfl,⟨A,c,rfl,hnc,hmx,hz,hp⟩,rfl⟩:=hcc
    have hsl: ∃ cells,Sl w (.slice A l.length c) y.sz l.length cells/\(∀ u∈cells,u.oneCell'=true)/\Cs X w Q3 (List.flatMap y.cells l) cells:=by
     by_cases hq:l=[]
     ·subst hq
      exact ⟨[],⟨by simp,A,c,rfl,Da _,hmx,fun hn=>absurd hn (by simp)⟩,fun u hu=>(by cases hu),by simp [Cs]⟩
     ·have hn:0<l.length:=List.length_pos_iff.2 hq
      obtain ⟨b,off,vs,rfl,g1,g2⟩:=hp hn
      have hvl:=Cs.len g1
      rw [UX] at hvl
      exact ⟨vs,⟨hvl,_,c,rfl,hnc,hmx,fun _=>⟨b,off,rfl,g2.lt,fun j u hu=>g2.at_ j u hu⟩⟩,g2.one,g1⟩
    obtain ⟨cells,s1,s2,s3⟩:=hsl
    refine (QbY hlt (h A c l.length cells w s1 s2 hlen)).mono ?_
    rintro _ w' ⟨sv,rfl,ho,hb⟩
    let X':Nat->Nat->Prop:=fun b q=>X b q∨some b=sv.ownBlock
    let σ':Pl:=fun k=>if k=50000 then .arr sv else σ k
    have hsv:sv.oneCell'=true:=by
     rcases ho.2 with ⟨rfl,_⟩|⟨g,cap,cur,rfl,_⟩<;>rfl
    have hlo: ∀ b,sv.ownBlock=some b->w.heap.size<=b/\b<w'.heap.size:=fun b hbk=>ho.lt b hbk
    have ex:Ext0 X w X' w':=⟨hb.size,fun b q hbl hx=>⟨fun hx'=>by
     rcases hx' with hx'|hx'
     ·exact hx hx'
     ·have:=hlo b hx'.symm
      omega,World.cell?_of_block (w:=w) (a:=⟨b,q,none⟩) (hb.block b hbl)⟩⟩
    have e0:σ' 50000= .arr sv:=if_pos rfl
    refine ⟨sv,X',σ',rfl, ?_,⟨fun b q hq=> ?_,fun j o hj=> ?_,fun i j b hij hi hj=>by simp at hi hj;omega,by simp,fun j hj=>by simp at hj,fun j b _ hj hl=> ?_,QxM hb,fun b q hbl hq=> ?_,fun b q _ _ hq=> .inl hq⟩⟩
    ·simp only [V.d,C]
     exact ⟨e0,hsv⟩
    ·rcases hq with hq|hq
     ·exact B9 (hfin b q hq) hb.size
     ·exact (hlo b hq.symm).2
    ·cases j with
     |zero=>
      simp only [BZ,Bd] at hj
      subst hj
      have ho0:w'.ownsRow 0 e y.sz sv l.length cells:=by
       refine ⟨ho.1, ?_⟩
       rcases ho.2 with hq|⟨g,cap,cur,q1,q2,q3⟩
       ·exact .inl hq
       ·exact .inr ⟨g,cap,cur,q1,Da _,q3⟩
      exact ⟨⟨sv,cells,e0,.of ho0,Cs.ext0 ex _ _ (fun _ _=>rfl) s3,s2,fun b hbk o=> .inr hbk.symm⟩,fun _ h=>by cases h⟩
     |succ j=>simp at hj
    ·simp only [Br,Bv] at hj
     have:j=0:=by omega
     subst this
     left
     rw [show 50000+0=50000 from rfl,e0] at hl
     exact (hlo b hl).1
    ·rcases hq with hq|hq
     ·exact hq
     ·have:=hlo b hq.symm
      omega
   ·cases hF
theorem QQH {f:FuncId}{e:Nat}{y:Ty}{a:Ty}{ok:a.T->Bool}{L:a.T->List y.T}(h:Qu P f (Qv (XW a ok (fun _=> .ms 50000) (fun x=>[.arr e y (L x)])))):Qu P f (Qv (Qo a ok (fun x=> .t (.sl y) (L x)))):=by
 intro args objs r os hF X w σ vs hfin hl hc
 unfold Qv Qo at hF
 cases objs with
 |cons o os'=>simp at hF
 |nil=>
  simp only at hF
  cases ha:a.args args with
  |none=>rw [ha] at hF;cases hF
  |some x=>
   rw [ha] at hF
   simp only at hF
   split at hF
   ·rename_i r' os' hq
    simp only [Bd,Bp] at hF hq
    obtain ⟨rfl,rfl⟩:=hF
    obtain ⟨h1,rfl,rfl⟩:=hq
    have h2:=h args [] (.ms 50000) [.arr e y (L x)] (by unfold Qv XW;simp only [ha,h1]) X w σ vs hfin hl hc
    refine h2.mono ?_
    rintro e0 w' ⟨u,X',σ',rfl,hu,hE⟩
    have hat:=(hE.at_ 0 _ rfl).1
    let X'':Nat->Nat->Prop:=fun b q=>X' b q/\(σ' 50000).blk≠some b
    have ex:Ext X' w' X'' w':=⟨BB _,fun b q _ hx=>⟨fun hx'=>hx hx'.1,rfl⟩,fun _ _ _=>rfl⟩
    have hX: ∀ u b,σ' 50000= .arr u->u.ownBlock=some b→ ∀ q, ¬ X'' b q:=fun u b h1 h2 q hx=>hx.2 (by rw [h1];exact h2)
    have hz:=Uv (k:=50000) (y:=y) (l:=L x) (e:=e) hat ex hX (.ms 50000) u hu
    simp only [V.fz,if_true] at hz
    refine ⟨u,X'',σ',rfl,hz,⟨fun b q hq=>hE.fin b q hq.1,fun j o hj=>by simp at hj,fun i j b _ hi=>absurd hi (by simp),by simp,fun j hj=>absurd hj (by simp),fun j b _ hj=>absurd hj (by simp),hE.fr,fun b q hb hq=>hE.sub b q hb hq.1,fun b q hb hn hq=>⟨hE.old b q hb (fun i hi=>absurd hi (by simp)) hq,fun hb2=> ?_⟩⟩⟩
    rcases hE.new 0 b (Da _) (by simp) hb2 with h3|⟨i,hi,_⟩
    ·omega
    ·exact absurd hi (by simp)
   ·cases hF
end
end Go.Proofs.YthlcobdnemhcdaaGreat.K
noncomputable section
namespace Go.Proofs.YthlcobdnemhcdaaGreat.K
open Go.RowKit
noncomputable section
theorem Q1 {α:Type}{l l2:List α}{c:Nat}(hc:c<=1000)(h:l.length+l2.length<=100000000000):Qq l l2 c=true:=by
 simp only [Qq,Ba]
 have:(l.length+l2.length)*(c+1)<=100000000000*1001:=Nat.mul_le_mul h (by omega)
 omega
def QnL (l:List Int):List Int:=l
def QnM (l:List Int):Bool:=decide (l.length<=4000000)
def Qzf:Ent:=Qo (.pr (.sl (.int .u8)) .nil) (fun x=>(QnM x.1)) (fun x=>(.t (.sl (.int .u8)) (QnL x.1)))
theorem QNn:Ja Tryz.prog 310:= .inr ⟨by decide,_,Tryz.func310,by kernel_rfl,by kernel_rfl⟩
theorem elemU8:ElemOk Tryz.prog 175 5 1 1:=ElemOk.of (.int .u8 0) (by kernel_rfl) (by kernel_rfl) (by kernel_rfl) (by decide)
theorem QNo {P:Program}(w:World)(t e:TypeId)(a:Option Addr)(l c:Nat)(h:P.underlying t=some (.slice e)):(binOp .eql t (.slice a l c) (.slice none 0 0)).run P w= .ok (.bool a.isNone) w:=by
 simp [binOp,run_equal_slice_nil w t e a l c h]
set_option maxHeartbeats 400000 in
theorem QNp (A:Option Addr)(c n:Nat)(cells:List Value)(w:World)(h:Sl w (.slice A n c) 1 n cells)(h1: ∀ u∈cells,u.oneCell'=true)(hn:n<=4000000):
  Calls Tryz.prog 310 #[.slice A n c] w fun r w'=> ∃ sv,r= .returned sv/\w'.ownsRow w.heap.size 5 1 sv n cells/\Below w.heap.size w w':=by
 have he:=QNo (P:=Tryz.prog) w 175 5 A n c (by kernel_rfl)
 rcases A with _|ad
 ·have hnil:n=0:=Dy fun h0=>by
   obtain ⟨_,A',c',hv,_,_,h3⟩:=h
   obtain ⟨b,off,e,_⟩:=h3 (by omega)
   rw [e] at hv
   simp at hv
  subst hnil
  have hc:cells=[]:=BC (by rw [h.1,DN])
  subst hc
  clear h
  simp only [D1] at he
  go_enter Tryz.func310,Tryz.ntmps310
  go_wp2_with fail
  go_ret
  exact ⟨_,rfl,World.ownsRow_nil _ _ _ _,Below.refl _ _⟩
 ·simp only [D2] at he
  have hown:=World.ownsRow_made w #[] (size:=1) (e:=5) 0 (BB _) (Da _) rfl
  have hsrc:=h.alloc (.cells #[] 5)
  have HSRC:=Lib.hid hsrc
  clear h hsrc
  go_enter Tryz.func310,Tryz.ntmps310
  go_wp2_with (at_builtin;refine OB elemU8 rfl _ _ rfl w.heap.size (.slice (some ⟨w.heap.size,0,none⟩) 0 0) 0 [] rfl hown (some ad) n c cells rfl HSRC.out h1 (by omega) (by omega) (by simp) ?_;intro v' w4 hown4 hg4 hat4)
  go_ret
  refine ⟨v',rfl,by simpa using hown4, ?_⟩
  have hal:=(Below.refl w.heap.size w).alloc (BB _) (.cells #[] 5)
  exact FN hal hg4 (BB _) hal.size
theorem QNq:Qu Tryz.prog 310 (Qv Qzf):=
 QQH (a:= .pr (.sl (.int .u8)) .nil) (e:=5) (y:= .int .u8) (L:=fun x=>x.1) (QgW (e:=5) (y:= .int .u8) (by decide) (fun x hx=>BD hx) fun A c n cells w h h1 hn=>QNp A c n cells w h h1 hn)
def QaK (n:Int):Bool:=decide (1<=n/\n<=255)&&(EI .i64 n 31 != 31)
def QNr:TC:=aF Tryz.f305 []
def g_f305:G:=gG 14 [] (fun _ _=>none)
def Qzg (p0:Int):OV:=br (ige p0 1) (br (ile p0 255) (some (.t .bool (ine (EI .i64 p0 31) 31),[])) (some (.t .bool false,[]))) (some (.t .bool false,[]))
theorem s_f305 (n:Int):Qzg n=some (.t .bool (QaK n),[]):=by
 simp only [Qzg]
 unfold QaK
 refine QY (fun h1=>QY (fun h2=> ?_) (fun h2=> ?_)) (fun h1=> ?_)
 ·simp only [ige,ile,Ba] at h1 h2
  rw [Be (show 1<=n/\n<=255 by omega),Bu]
 ·simp only [ige,ile,Ba,Bn] at h1 h2
  rw [Bq (show ¬ (1<=n/\n<=255) by omega),Bool.false_and]
 ·simp only [ige,Bn] at h1
  rw [Bq (show ¬ (1<=n/\n<=255) by omega),Bool.false_and]
def Qzh:Ent:=Qo (.pr tI .nil) (fun x=>true) (fun x=>(.t .bool (QaK x.1)))
theorem QNs:EM 305 Qzh:=mS g_f305 QNr [((.t 2),some .bool)] false (gB gN) fun m=>Qs m fun x _=>kT (s_f305 x.1)
def QaL (n:Int):Bool:=decide (1<=n/\n<=255)&&(WB n 32 != 31)
def QNt:TC:=aF Tryz.f246 []
def g_f246:G:=gG 14 [] (fun _ _=>none)
def Qzi (p0:Int):OV:=br (ige p0 1) (br (ile p0 255) (br (cNz 32) (some (.t .bool (ine (WB p0 32) 31),[])) none) (some (.t .bool false,[]))) (some (.t .bool false,[]))
theorem s_f246 (n:Int):Qzi n=some (.t .bool (QaL n),[]):=by
 simp only [Qzi,show cNz 32=true from rfl,Qf]
 unfold QaL
 refine QY (fun h1=>QY (fun h2=> ?_) (fun h2=> ?_)) (fun h1=> ?_)
 ·simp only [ige,ile,Ba] at h1 h2
  rw [Be (show 1<=n/\n<=255 by omega),Bu]
 ·simp only [ige,ile,Ba,Bn] at h1 h2
  rw [Bq (show ¬ (1<=n/\n<=255) by omega),Bool.false_and]
 ·simp only [ige,Bn] at h1
  rw [Bq (show ¬ (1<=n/\n<=255) by omega),Bool.false_and]
def Qzj:Ent:=Qo (.pr tI .nil) (fun x=>true) (fun x=>(.t .bool (QaL x.1)))
theorem QNu:EM 246 Qzj:=mS g_f246 QNt [((.t 2),some .bool)] false (gB gN) fun m=>Qs m fun x _=>kT (s_f246 x.1)
theorem byt_low (n:Nat)(h:n<256):byt (n:Int) 0=n:=by
 rw [QLY]
 simp
 omega
-- loop 0: (x1 : Int) (x5 : Int) (x6 : Int) (QsA : (List Int)); out: ('exit', 0) (x1 : Int) (x5 : Int) (QsA : (List Int))
-- loop 1: (x1 : Int) (x7 : Int) (QsA : (List Int)); out: ('exit', 2) (QsA : (List Int))
theorem QNv: ∀ (f g n:Nat),n<256 ^ f->n<256 ^ g->Wy f n=Wy g n
 |0,g,n,h1,h2=>by
  have:n=0:=by simpa using h1
  subst this
  cases g<;>rfl
 |f+1,0,n,h1,h2=>by
  have:n=0:=by simpa using h2
  subst this
  rfl
 |f+1,g+1,n,h1,h2=>by
  rw [Wy,Wy]
  split
  ·rfl
  ·rw [Nat.pow_succ] at h1 h2
   rw [QNv f g (n / 256) (by omega) (by omega)]
theorem QnN {n:Nat}(h:n<256):icv .u8 (n:Int)=n:=by
 rw [Qmu]
 omega
def GI (n:Int):List Int:=Fp n.toNat
def QaM (n:Int):Bool:=decide (0<=n/\n<=1000000000)
abbrev Qfa:Sh:=⟨[(0,.ty tI),(3,.ms 3)],[(3,.arr 5 (.int .u8)),(14,.no),(16,.no)]⟩
abbrev Qzk:Sh:=⟨[(3,.ms 3)],[(3,.arr 5 (.int .u8)),(14,.no),(16,.no)]⟩
def QnO:Fg:=Qfa.f
def Qzl:TC:=aF Tryz.f247 [(60,.nw 3 5),(60,pL 0 QnO),(120,.mv [(14,3)]),(963,.fg Qzk.f)]
def Qzm:TC:=lb 0 Qzl
def Qzn (x0:Int)(y3:List Int):VS:=Qfa.st (x0,(),()) (y3,(),(),())
def QnP (y3:List Int):VS:=Qzk.st ((),()) (y3,(),(),())
def QNw:VS->Option (Bool×List (Bool×Exit×VS)):=mkL Qfa (fun x y=>(decide (0<=x.1/\x.1<=1000000000/\y.1.length<=100))) (fun x y=>[(true,.exit 0,QnP (Yz 8 x.1.toNat++y.1))])
def QnQ:G:=⟨TYs,[14,23],26,EL [],keeps,(Ls [QNw]),IL [],RL []⟩
def Qfb (x0:Int)(y3:List Int):OX:=Qx (QA QnQ QnO Qzm) (Qzn x0 y3)
def I8 (kk:Int->List Int->OX)(x0:Int)(y3:List Int):OX:=
 let a1:=icv .u8 (WB x0 256)
 br (igt x0 0) (br (cNz 256) (br (Qq ([a1]) y3 1) (br (cNz 256) (kk (Et .i64 x0 256) (([a1])++y3)) none) none) none) (some (.exit 0,QnP y3))
def QaN (x0:Int)(y3:List Int):OX:=some (.exit 0,QnP (Yz 8 x0.toNat++y3))
theorem Qzo (x0:Int)(y3:List Int):Qfb x0 y3=I8 Qfb x0 y3:=lnT (x:=I8 (fun x0 y3=>some (.normal,Qzn x0 y3)) x0 y3) (by simp only [I8,nxA];rfl)
def Qzp (p0:Int):OV:=
 let a1:=(Yz 8 p0.toNat++([]:List Int))
 let a2:=icv .u8 (Qj .i64 128 (Qc a1))
 br (ilt p0 128) (some (.t (.sl (.int .u8)) ([(icv .u8 p0)]),[])) (br (decide (0<=p0/\p0<=1000000000/\([]:List Int).length<=100)) (br (Qq ([a2]) a1 1) (some (.t (.sl (.int .u8)) (([a2])++a1),[])) none) none)
theorem Qzq: ∀ (f g n:Nat),n<256 ^ f->n<256 ^ g->Yz f n=Yz g n
 |0,g,n,h1,h2=>by
  have:n=0:=by simpa using h1
  subst this
  cases g<;>rfl
 |f+1,0,n,h1,h2=>by
  have:n=0:=by simpa using h2
  subst this
  rfl
 |f+1,g+1,n,h1,h2=>by
  rw [Yz,Yz]
  split
  ·rfl
  ·rw [Nat.pow_succ] at h1 h2
   rw [Qzq f g (n / 256) (by omega) (by omega)]
theorem QNx (x0:Int)(y3:List Int)(h:(decide (0<=x0/\x0<=1000000000/\y3.length<=100))=true):Qfb x0 y3=QaN x0 y3:=by
 simp only [Ba] at h
 obtain ⟨h1,h2,h3⟩:=h
 obtain ⟨n,rfl⟩:=Bl h1
 have key: ∀ (m n:Nat),n<=m->n<=1000000000→ ∀ y3:List Int,y3.length+n<=2000000000->Qfb (n:Int) y3=QaN (n:Int) y3:=by
  intro m
  induction m with
  |zero=>
   intro n hn _ y3 _
   have:n=0:=by omega
   subst this
   rw [Qzo]
   simp only [I8,QaN,show igt ((0:Nat):Int) 0=false from rfl,Qi,Bb,show Yz 8 0=[] from rfl,BV]
  |succ m ih=>
   intro n hn hb y3 h6
   rw [Qzo]
   by_cases h0:n=0
   ·subst h0
    simp only [I8,QaN,show igt ((0:Nat):Int) 0=false from rfl,Qi,Bb,show Yz 8 0=[] from rfl,BV]
   ·have e1:WB (n:Int) 256=((n % 256:Nat):Int):=by
     show (n:Int).tmod 256=_
     rw [Int.tmod_eq_emod_of_nonneg (by omega)]
     omega
    have e2:Et .i64 (n:Int) 256=((n / 256:Nat):Int):=by
     show IntKind.i64.wrap ((n:Int).tdiv 256)=_
     rw [Int.tdiv_eq_ediv_of_nonneg (by omega),Go.IntWalk.i64_in _ (by omega)]
     omega
    simp only [I8,show igt (n:Int) 0=true from Be (by omega),Qf,show cNz 256=true from rfl,e1,e2,QnN (show n % 256<256 by omega)]
    rw [Q1 (by omega) (by simp only [Bh];omega),Qf,ih (n / 256) (by omega) (by omega) _ (by simp only [Bm,Bh];omega)]
    simp only [QaN,Bb]
    have:Yz 8 n=Yz 8 (n / 256)++[((n % 256:Nat):Int)]:=by
     rw [show Yz 8 n=(if n=0 then [] else Yz 7 (n / 256)++[((n % 256:Nat):Int)]) from rfl,if_neg h0,Qzq 7 8 (n / 256) (by omega) (by omega)]
    rw [this,BI]
 exact key n n (BB _) (by omega) y3 (by omega)
theorem QNy:LO QnQ QnO Qzm 0:=QI (s:=Qfa) fun x y h _ q=>by simp only [QG,QH] at q;exact (QNx x.1 y.1 h).trans q
theorem s_f247 (n:Int)(h:QaM n=true):Qzp n=some (.t (.sl (.int .u8)) (GI n),[]):=by
 simp only [QaM,Ba] at h
 obtain ⟨h2,h3⟩:=h
 obtain ⟨n,rfl⟩:=Bl h2
 have hc:=Qmx 8 n
 have hd:=Qmw 8 n
 simp only [Qzp]
 by_cases hn:n<128
 ·rw [show ilt (n:Int) 128=true from Be (by omega),Qf]
  simp only [GI,Fp,Bb,if_pos hn,QnN (show n<256 by omega)]
 ·rw [show ilt (n:Int) 128=false from Bq (by omega),Qi,Be ⟨by omega,by omega,by simp⟩,Qf]
  simp only [Bb,BL,Qc,hd]
  rw [Q1 (by omega) (by simp only [Bh];omega),Qf,Jz (by omega)]
  have e2:(128+(Wy 8 n:Int))=((128+Wy 8 n:Nat):Int):=by omega
  simp only [GI,Fp,Bb,if_neg hn]
  rw [e2,QnN (by omega),BH]
def Qzr:Ent:=Qo (.pr tI .nil) (fun x=>(QaM x.1)) (fun x=>(.t (.sl (.int .u8)) (GI x.1)))
theorem QNz:EM 247 Qzr:=mS (lk:=lkL (lkc QNy lkn)) QnQ Qzl [((.t 2),some (.sl (.int .u8)))] false (Jp _ (fun p hp=>by cases hp)) fun m=>Qs m fun x hok=>kT (s_f247 x.1 hok)
end
end Go.Proofs.YthlcobdnemhcdaaGreat.K
noncomputable section
namespace Go.Proofs.YthlcobdnemhcdaaGreat.K
open Go.RowKit
noncomputable section
def Ji (n:Int):Qn:=(2,(Em n,(false,(([]:List Val),()))))
def Ym (n:Int):Bool:=decide (-9223372036854775808<=n/\n<9223372036854775808)
-- loop 0: (x0 : Int) (x4 : Int) (y2 : Qn) (y3 : (List Int)); out: ('exit', 0) (y2 : Qn) (y3 : (List Int))
-- loop 1: (x3 : (List Int)) (y2 : Qn); out: ('exit', 2) (x3 : (List Int)) (y2 : Qn)
abbrev Qc9:Sh:=⟨[(2,.ptr 2 0),(3,.ms 7),(4,.ty tI)],[(2,.box QJ),(3,.no),(7,.arr 5 (.int .u8)),(40,.no),(42,.no)]⟩
abbrev Qua:Sh:=⟨[(2,.ptr 2 0),(3,.ms 7)],[(2,.box QJ),(3,.no),(7,.arr 5 (.int .u8)),(40,.no),(42,.no)]⟩
def Qkn:Fg:=Qc9.f
def Qub:TC:=aF Tryz.f164 [(58,.nw 3 5),(58,pL 0 Qkn),(116,.mv [(40,7)]),(931,.fg Qua.f)]
def Quc:TC:=lb 0 Qub
def Qud (x4:Int)(y2:Qn)(y7:List Int):VS:=Qc9.st ((),(),x4,()) (y2,(),y7,(),(),())
def Ie (y2:Qn)(y7:List Int):VS:=Qua.st ((),(),()) (y2,(),y7,(),(),())
def QIP:VS->Option (Bool×List (Bool×Exit×VS)):=mkL Qc9 (fun x y=>(decide (-9223372036854775808<=x.2.2.1/\x.2.2.1<9223372036854775808/\1<=y.2.2.1.length/\y.2.2.1.length<=100))) (fun x y=>[(true,.exit 0,Ie (y.1) (ZU 10 x.2.2.1 y.2.2.1))])
def Qko:G:=⟨TYs,[7,40],45,EL [],keeps,(Ls [QIP]),IL [],RL []⟩
def If (x4:Int)(y2:Qn)(y7:List Int):OX:=Qx (QA Qko Qkn Quc) (Qud x4 y2 y7)
def Vx (kk:Int->Qn->List Int->OX)(x4:Int)(y2:Qn)(y7:List Int):OX:=br (Qq ([(icv .u8 x4)]) y7 1) (br (decide ((0:Int)<=8)) (kk (Ur .i64 x4 8) y2 (([(icv .u8 x4)])++y7)) none) none
def Qda (kk:Int->Qn->List Int->OX)(x4:Int)(y2:Qn)(y7:List Int):OX:=br (ieq x4 (-1)) (br (cIx y7 0) (br (cLd y7 (Int.toNat 0)) (br (ilt (lgt (.int .u8) y7 (Int.toNat 0)) 128) (Vx kk x4 y2 y7) (some (.exit 0,Ie y2 y7))) none) none) (some (.exit 0,Ie y2 y7))
def Qdb (kk:Int->Qn->List Int->OX)(x4:Int)(y2:Qn)(y7:List Int):OX:=br (ieq x4 0) (br (cIx y7 0) (br (cLd y7 (Int.toNat 0)) (br (ige (lgt (.int .u8) y7 (Int.toNat 0)) 128) (Vx kk x4 y2 y7) (Qda kk x4 y2 y7)) none) none) (Qda kk x4 y2 y7)
def Qdc (kk:Int->Qn->List Int->OX)(x4:Int)(y2:Qn)(y7:List Int):OX:=br (ine x4 0) (br (ine x4 (-1)) (Vx kk x4 y2 y7) (Qdb kk x4 y2 y7)) (Qdb kk x4 y2 y7)
def Qkp (x4:Int)(y2:Qn)(y7:List Int):OX:=some (.exit 0,Ie (y2) (ZU 10 x4 y7))
theorem QIQ (x4:Int)(y2:Qn)(y7:List Int):If x4 y2 y7=Qdc If x4 y2 y7:=lnT (x:=Qdc (fun x4 y2 y7=>some (.normal,Qud x4 y2 y7)) x4 y2 y7) (by simp only [Qdc,Vx,Qdb,Qda,nxA];rfl)
def Que (p0:Int):OV:=
 let a1:=Ur .i64 p0 8
 br (decide ((0:Int)<=8)) (br (decide (-9223372036854775808<=a1/\a1<9223372036854775808/\1<=([(icv .u8 p0)]).length/\([(icv .u8 p0)]).length<=100)) (some (.t QJ (2,((ZU 10 a1 ([(icv .u8 p0)])),(false,(([]:List Val),())))),[])) none) none
theorem Quf (n:Int):Ur .i64 n 8=n / 256:=by
 have:=QLU (kd:= .i64) rfl n 1 (by omega)
 rw [show ((8*1:Nat):Int)=8 from rfl] at this
 rw [this]
 rfl
theorem Qkq: ∀ (k:Nat) (x:Int) (b:List Int), -(256 ^ k:Int)<=x->x<256 ^ k→ ∀ f,ZU (k+2+f) x b=ZU (k+2) x b
 |0,x,b,h1,h2,f=>by
  simp only [Int.pow_zero] at h1 h2
  have hx:x= -1∨x=0:=by omega
  have g: ∀ f,ZU (f+2) x b=bif XU x (b.headD 0) then (x % 256::b) else b:=by
   intro f
   rw [show f+2=(f+1)+1 from rfl,ZU,ZU]
   rcases hx with rfl|rfl
   ·rw [show ((-1:Int) % 256::b).headD 0=255 from rfl,show XU (-1 / 256) 255=false from rfl];rfl
   ·rw [show ((0:Int) % 256::b).headD 0=0 from rfl,show XU (0 / 256) 0=false from rfl];rfl
  rw [show 0+2+f=f+2 by omega,g f]
  exact (g 0).symm
 |k+1,x,b,h1,h2,f=>by
  rw [show k+1+2+f=(k+2+f)+1 by omega,ZU,show k+1+2=(k+2)+1 from rfl,ZU]
  have e:(256:Int) ^ (k+1)=256 ^ k*256:=by rw [Int.pow_succ]
  rw [e] at h1 h2
  rw [Qkq k (x / 256) (x % 256::b) (by omega) (by omega) f]
theorem Qkr (x:Int)(b:List Int)(h: -9223372036854775808<=x/\x<9223372036854775808):ZU 10 x b=bif XU x (b.headD 0) then ZU 10 (x / 256) (x % 256::b) else b:=by
 have:=Qkq 8 x b (by omega) (by omega) 1
 rw [←this]
 rfl
theorem QIR (x4:Int)(y2:Qn)(y7:List Int)(h:(decide (-9223372036854775808<=x4/\x4<9223372036854775808/\1<=y7.length/\y7.length<=100))=true):If x4 y2 y7=Qkp x4 y2 y7:=by
 simp only [Ba] at h
 obtain ⟨h1,h2,h3,h4⟩:=h
 have step: ∀ (x c:Int) (r:List Int),r.length<=300->If x y2 (c::r)=bif XU x c then If (x / 256) y2 (x % 256::c::r) else some (.exit 0,Ie y2 (c::r)):=by
  intro x c r hr
  rw [QIQ]
  have e1:cIx (c::r) 0=true:=by simp only [cIx,Br,Ba];omega
  have e2:cLd (c::r) (Int.toNat 0)=true:=by simp only [cLd,Br,Ba,By];omega
  have e3:lgt (.int .u8) (c::r) (Int.toNat 0)=c:=rfl
  have e4:Qq [x % 256] (c::r) 1=true:=Q1 (by omega) (by simp only [Br,Bv];omega)
  simp only [Qdc,Vx,Qdb,Qda,e1,e2,e3,e4,Qf,show decide ((0:Int)<=8)=true from rfl,Quf,Qmu,BH]
  simp only [XU,ine,ieq,ilt,ige]
  have q1:(x != 0)= !(x==0):=rfl
  have q2:(x != -1)= !(x== -1):=rfl
  rw [q1,q2]
  by_cases hx:x=0
  ·subst hx
   cases decide (c≥128)<;>rfl
  ·by_cases hy:x= -1
   ·subst hy
    cases decide (c<128)<;>rfl
   ·rw [show (x==0)=false from beq_false_of_ne hx,show (x== -1)=false from beq_false_of_ne hy]
    rfl
 have lae: ∀ (x:Int) (y:List Int),Qkp x y2 y=some (.exit 0,Ie y2 (ZU 10 x y)):=fun _ _=>rfl
 have key: ∀ (k:Nat) (x:Int) (y:List Int), -(256 ^ k:Int)<=x->x<256 ^ k->k<=8->1<=y.length->y.length+k<=200→ -9223372036854775808<=x->x<9223372036854775808->If x y2 y=Qkp x y2 y:=by
  intro k
  induction k with
  |zero=>
   intro x y g1 g2 g3 g4 g5 g6 g7
   simp only [Int.pow_zero] at g1 g2
   have hx:x= -1∨x=0:=by omega
   obtain ⟨c,r,rfl⟩: ∃ c r,y=c::r:=by
    cases y with
    |nil=>simp at g4
    |cons c r=>exact ⟨c,r,rfl⟩
   simp only [Br] at g5
   rw [step x c r (by omega),lae,Qkr x (c::r) ⟨g6,g7⟩,List.headD_cons]
   cases XU x c with
   |false=>rfl
   |true=>
    rw [B8,B8,step (x / 256) (x % 256) (c::r) (by simp only [Br];omega),Qkr (x / 256) (x % 256::c::r) (by omega),List.headD_cons]
    have:XU (x / 256) (x % 256)=false:=by rcases hx with rfl|rfl<;>rfl
    rw [this]
    rfl
  |succ k ih=>
   intro x y g1 g2 g3 g4 g5 g6 g7
   obtain ⟨c,r,rfl⟩: ∃ c r,y=c::r:=by
    cases y with
    |nil=>simp at g4
    |cons c r=>exact ⟨c,r,rfl⟩
   have e:(256:Int) ^ (k+1)=256 ^ k*256:=by rw [Int.pow_succ]
   rw [e] at g1 g2
   simp only [Br] at g5
   rw [step x c r (by omega),lae,Qkr x (c::r) ⟨g6,g7⟩,List.headD_cons]
   cases XU x c with
   |false=>rfl
   |true=>
    rw [B8,B8,ih (x / 256) (x % 256::c::r) (by omega) (by omega) (by omega) (by simp) (by simp only [Br];omega) (by omega) (by omega),lae]
 exact key 8 x4 y7 (by omega) (by omega) (by omega) h3 (by omega) (by omega) (by omega)
theorem QIS:LO Qko Qkn Quc 0:=QI (s:=Qc9) fun x y h _ q=>by simp only [QG,QH] at q;exact (QIR x.2.2.1 y.1 y.2.2.1 h).trans q
theorem s_f164 (n:Int)(h:Ym n=true):Que n=some (.t QJ (Ji n),[]):=by
 have h1:=h
 simp only [Ym,Ba] at h1
 have e0:icv .u8 n=byt n 0:=by
  rw [Qmu]
  simp [byt]
 simp only [Que,show decide ((0:Int)<=8)=true from rfl,Qf,Quf,e0]
 rw [Be ⟨by omega,by omega,by simp,by simp⟩,Qf]
 have e1:=Qkq 7 (n / 256) [byt n 0] (by omega) (by omega) 1
 rw [show ZU 10 (n / 256) [byt n 0]=ZU 9 (n / 256) [byt n 0] from e1,QLX h1]
 rfl
def Qks:Ent:=Qo (.pr tI .nil) (fun x=>(Ym x.1)) (fun x=>(.t QJ (Ji x.1)))
theorem Qug:EM 164 Qks:=mS (lk:=lkL (lkc QIS lkn)) Qko Qub [((.c 2 true 4),some QJ)] false (Jp _ (fun p hp=>by cases hp)) fun m=>Qs m fun x hok=>kT (s_f164 x.1 hok)
def Zu (s:ByteArray):Qn:=(12,(QZ s,(false,(([]:List Val),()))))
def g_f293:G:=gG 6 [(29000144,Qan)] (fun _ _=>none)
theorem gk_f293:GOk Tryz.prog g_f293:=Jp _ (gA (gC Qew Qex gN))
def QIT:TC:=aF Tryz.f165 []
def g_f165:G:=gG 6 [(29000144,Qan)] (fun _ _=>none)
def Quh (p0:ByteArray):OV:=br (X6 p0) (some (.t QJ (12,((QZ p0),(false,(([]:List Val),())))),[])) none
theorem s_f165 (s:ByteArray)(h:X6 s=true):Quh s=some (.t QJ (Zu s),[]):=by
 simp only [Quh,h,Qf]
 rfl
def Qui:Ent:=Qo (.pr .str .nil) (fun x=>(X6 x.1)) (fun x=>(.t QJ (Zu x.1)))
theorem QIU:EM 165 Qui:=mS g_f165 QIT [((.c 2 true 4),some QJ)] false (gB (gC Qew Qex gN)) fun m=>Qs m fun x hok=>kT (s_f165 x.1 hok)
def Gk (b:Bool):Qn:=(1,([bif b then 255 else 0],(false,(([]:List Val),()))))
def QIV:TC:=aF Tryz.f263 []
def g_f263:G:=gG 8 [] (fun _ _=>none)
def r_f263 (p0:Bool):OV:=br (p0) (some (.t QJ (1,([255],(false,(([]:List Val),())))),[])) (some (.t QJ (1,([0],(false,(([]:List Val),())))),[]))
theorem s_f263 (b:Bool):r_f263 b=some (.t QJ (Gk b),[]):=by cases b<;>rfl
def Quj:Ent:=Qo (.pr .bool .nil) (fun x=>true) (fun x=>(.t QJ (Gk x.1)))
theorem QIW:EM 263 Quj:=mS g_f263 QIV [((.c 2 true 4),some QJ)] false (gB gN) fun m=>Qs m fun x _=>kT (s_f263 x.1)
end
end Go.Proofs.YthlcobdnemhcdaaGreat.K
noncomputable section
set_option linter.unusedSectionVars false
namespace Go.Proofs.YthlcobdnemhcdaaGreat.K
open Go.RowKit
noncomputable section
def okT (n:Nat)(x:Qn):Bool:=okV n (Val.of x)
theorem QfB {n:Nat}{v:Val}:okT n v.un=okV n v:=by rw [okT,Val.of_un]
theorem GW {n:Nat}{x:Qn}(h:okT (n+1) x=true):
  (x.1=1∨x.1=2∨x.1=12∨x.1=48)/\x.2.2.1=(x.1==48)/\(x.2.2.1=true->x.2.1=[])/\(x.2.2.1=false->x.2.2.2.1=[])/\x.2.1.length<=100000/\x.2.2.2.1.length<=100000∧ ∀ v∈x.2.2.2.1,okV n v=true:=by
 obtain ⟨t,b,q,es,_⟩:=x
 exact Qxf h
def ZH:Nat->List Qn->Bool
 |0,_=>false
 |n+1,l=>decide (l.length<=100000)&&l.all (okT n)
theorem QOj {n:Nat}{es:List Val}(hl:es.length<=100000)(h: ∀ v∈es,okV n v=true):ZH (n+1) (es.map Val.un)=true:=by
 simp only [ZH,Bc,Ba,BT,Bi,Dj]
 refine ⟨hl, ?_⟩
 rintro x ⟨v,hv,rfl⟩
 rw [QfB]
 exact h v hv
theorem Qz5 {n:Nat}{x:Qn}(h:okT n x=true):ZH n (x.2.2.2.1.map Val.un)=true:=by
 cases n with
 |zero=>obtain ⟨t,b,q,es,_⟩:=x;cases h
 |succ n=>
  obtain ⟨_,_,_,_,_,h6,h7⟩:=GW h
  exact QOj h6 h7
theorem EC (es:List Val):List.map Val.of (List.map Val.un es)=es:=by
 rw [List.map_map]
 have:(Val.of ∘ Val.un)=id:=funext Val.of_un
 rw [this,List.map_id]
def US (l:List Qn):List Qn:=l
def Um (l:List Qn):Bool:=ZH 12 l
theorem Qz6 {n:Nat}{x:Qn}(h:okT n x=true):x.2.1.length<=100000:=by
 cases n with
 |zero=>obtain ⟨t,b,q,es,_⟩:=x;cases h
 |succ n=>exact (GW h).2.2.2.2.1
theorem QOk:Ja Tryz.prog 303:= .inr ⟨by decide,_,Tryz.func303,by kernel_rfl,by kernel_rfl⟩
def Oh [Fuel]:Ent:=Qo (.pr (.sl QJ) .nil) (fun x=>(ZH Jk x.1)) (fun x=>(.t (.sl QJ) (US x.1)))
theorem QOl:Ja Tryz.prog 303:=QOk
section
variable [Fuel][Nonempty (PLift (Qu Tryz.prog 303 (Qv Oh)))]
theorem QOm:Qu Tryz.prog 303 (Qv Oh):=(Classical.choice (inferInstance:Nonempty (PLift (Qu Tryz.prog 303 (Qv Oh))))).down
def Qa2 [Fuel](l:List Qn):Bool:=ZH (Jk+1) l
abbrev QfC:Sh:=⟨[(3,.ms 3),(6,.ty (.sl QJ)),(7,.ty tI),(8,.ty tI)],[(3,.arr 233 QJ),(23,.no)]⟩
abbrev Qz7:Sh:=⟨[(3,.ms 3)],[(3,.arr 233 QJ),(23,.no)]⟩
def Qow:Fg:=QfC.f
def QfD:TC:=aF Tryz.f303 [(58,.nw 3 233),(58,pL 0 Qow),(933,.fg Qz7.f),(7474,pD [(0,[5]),(1,[5]),(2,[]),(3,[5]),(4,[5]),(5,[]),(6,[5]),(7,[5]),(8,[5]),(9,[5])] (.of [0,1,2,3,4,5,6,7,8,9]))]
def Qz8:TC:=lb 0 QfD
def Qz9:List (RV×Option Ty):=[((.t 2),some (.sl QJ))]
def QAa (x6:List Qn)(x7 x8:Int)(y3:List Qn):VS:=QfC.st ((),x6,x7,x8,()) (y3,(),())
def Qox (y3:List Qn):VS:=Qz7.st ((),()) (y3,(),())
def QOn:VS->Option (Bool×List (Bool×Exit×VS)):=mkL QfC (fun x y=>(QD x.2.1 x.2.2.1 x.2.2.2.1&&Qa2 x.2.1&&decide (y.1.length+x.2.1.length<=200000+x.2.2.2.1.toNat))) (fun x y=>[(true,.exit 0,Qox (y.1++x.2.1.drop x.2.2.2.1.toNat))])
def Oi:G:=gG 26 [(303,Oh),(310,Qzf)] (Ls [QOn])
def QfE (x6:List Qn)(x7 x8:Int)(y3:List Qn):OX:=Qx (QA Oi Qow Qz8) (QAa x6 x7 x8 y3)
def Qa3 (kk:List Qn->Int->Int->List Qn->OX)(x6:List Qn)(x7 x8:Int)(y3:List Qn):OX:=
 let a2:=((lgt QJ x6 (Int.toNat x8)).2)
 let a1:=((lgt QJ x6 (Int.toNat x8)).1,((QnL (a2.1)),((a2.2).1,((List.map Val.of (List.map Val.un (List.map Val.of (US (List.map Val.un (((a2.2).2).1)))))),()))))
 br (ilt x8 x7) (br (cIx x6 x8) (br (QnM (a2.1)) (br (ZH Jk (List.map Val.un (((a2.2).2).1))) (br (Qq y3 ([a1]) 64) (kk x6 x7 (Qj .i64 x8 1) (y3++([a1]))) none) none) none) none) (some (.exit 0,Qox y3))
def QfF (x6:List Qn)(x7 x8:Int)(y3:List Qn):OX:=some (.exit 0,Qox (y3++x6.drop x8.toNat))
theorem QAb (x6:List Qn)(x7 x8:Int)(y3:List Qn):QfE x6 x7 x8 y3=Qa3 QfE x6 x7 x8 y3:=lnT (x:=Qa3 (fun x6 x7 x8 y3=>some (.normal,QAa x6 x7 x8 y3)) x6 x7 x8 y3) (by simp only [Qa3,nxA];rfl)
def Qoy (p0:List Qn):OV:=br (QD p0 (Qc p0) (0:Int)&&Qa2 p0&&decide (([]:List Qn).length+p0.length<=200000+(0:Int).toNat)) (some (.t (.sl QJ) (([]:List Qn)++p0.drop (0:Int).toNat),[])) none
theorem e_f303 (p0:List Qn):QS Oi QfD Qz9 false [.t (.sl QJ) p0] []=Qoy p0:=by kernel_rfl
theorem QOo:GOk Tryz.prog Oi:=Jp _ (gA (gC QOl QOm (gC QNn QNq gN)))
theorem QOp (x6:List Qn)(x7 x8:Int)(y3:List Qn)(h:(QD x6 x7 x8&&Qa2 x6&&decide (y3.length+x6.length<=200000+x8.toNat))=true):QfE x6 x7 x8 y3=QfF x6 x7 x8 y3:=by
 simp only [Bc,Ba] at h
 obtain ⟨⟨h0,hc⟩,h2⟩:=h
 obtain ⟨rfl,h3,k,rfl,hk⟩:=JG h0
 clear h0
 rw [Bb] at h2
 simp only [Qa2,ZH,Bc,Bi] at hc
 revert y3
 refine QQ x6 (fun k=> ∀ y3:List Qn,y3.length+x6.length<=200000+k->QfE x6 (x6.length:Int) (k:Int) y3=QfF x6 (x6.length:Int) (k:Int) y3) ?_ ?_ k hk
 ·intro y3 _
  rw [QAb]
  simp [Qa3,QfF,Qy,Qi]
 ·intro k hk ih y3 hy
  rw [QAb]
  have hx:=hc.2 x6[k] (Bw hk)
  have e1:QnM x6[k].2.1=true:=Be (by have:=Qz6 hx;omega)
  have e2:ZH Jk (List.map Val.un x6[k].2.2.2.1)=true:=Qz5 hx
  simp only [Qa3,Qy,QK,hk,Bo,Qf,Bb,QO (show k<4611686018427387904 by omega),QL (y:=QJ) hk,e1,e2,QnL,US,EC]
  rw [Q1 (by omega) (by simp only [Bh];omega),Qf,ih _ (by simp only [Bm,Bh];omega)]
  simp only [QfF,Bb,Bg hk,BI,BH]
theorem QOq:LO Oi Qow Qz8 0:=QI (s:=QfC) fun x y h _ q=>by simp only [QG,QH] at q;exact (QOp x.2.1 x.2.2.1 x.2.2.2.1 y.1 h).trans q
theorem QOr:QfD.lok Oi:=by
 repeat (first|exact trivial|exact QOq|refine ⟨?_, ?_⟩)
theorem s_f303 (l:List Qn)(h:ZH (Jk+1) l=true):Qoy l=some (.t (.sl QJ) (US l),[]):=by
 have hl:l.length<=100000:=by simp only [ZH,Bc,Ba] at h;exact h.1
 simp only [Qoy,JH hl,show Qa2 l=true from h,Bu,Bv,By,BG,BV]
 rw [Be (by omega),Qf]
 rfl
theorem QOs:Qu Tryz.prog 303 (QS Oi QfD Qz9 false):=mG Tryz.func303 (by kernel_rfl) Tryz.ntmps303 (by kernel_rfl) QOo QOr
end
theorem QOt: ∀ N:Nat,Qu Tryz.prog 303 (Qv (@Oh ⟨N⟩))
 |0=>IV fun x=>by first|rfl|simp [ZH]
 |N+1=>by
  letI:Fuel:=⟨N⟩
  haveI:Nonempty (PLift (Qu Tryz.prog 303 (Qv Oh))):=⟨⟨QOt N⟩⟩
  exact Qs QOs fun x hok=>(e_f303 x.1).trans (s_f303 x.1 hok)
theorem QOu (l:List Qn)(h:Um l=true): ∃ N,ZH N l=true:=⟨12,h⟩
theorem QAc:Ja Tryz.prog 215:= .inr ⟨by decide,_,Tryz.func215,by kernel_rfl,by kernel_rfl⟩
def Oj [Fuel]:Ent:=Qo (.pr (.sl QJ) .nil) (fun x=>(ZH Jk x.1)) (fun x=>(.t (.sl QJ) (US x.1)))
theorem QOv:Ja Tryz.prog 215:=QAc
section
variable [Fuel][Nonempty (PLift (Qu Tryz.prog 215 (Qv Oj)))]
theorem QOw:Qu Tryz.prog 215 (Qv Oj):=(Classical.choice (inferInstance:Nonempty (PLift (Qu Tryz.prog 215 (Qv Oj))))).down
def Qa4 [Fuel](l:List Qn):Bool:=ZH (Jk+1) l
abbrev QfG:Sh:=⟨[(0,.ty (.sl QJ)),(3,.ms 3),(4,.ty tI)],[(3,.arr 233 QJ),(28,.no)]⟩
abbrev QAd:Sh:=⟨[(3,.ms 3)],[(3,.arr 233 QJ),(28,.no)]⟩
def Qoz:Fg:=QfG.f
def QfH:TC:=aF Tryz.f215 [(58,.nf 5 1 5 20501),(58,.nw 3 233),(58,pL 0 Qoz),(931,.fg QAd.f)]
def QAe:TC:=lb 0 QfH
def QAf:List (RV×Option Ty):=[((.t 2),some (.sl QJ))]
def QAg (x0:List Qn)(x4:Int)(y3:List Qn):VS:=QfG.st (x0,(),x4,()) (y3,(),())
def QoA (y3:List Qn):VS:=QAd.st ((),()) (y3,(),())
def QOx:VS->Option (Bool×List (Bool×Exit×VS)):=mkL QfG (fun x y=>(Gd x.1 x.2.2.1&&Qa4 x.1&&decide (y.1.length+x.1.length<=200000+x.2.2.1.toNat))) (fun x y=>[(true,.exit 0,QoA (y.1++x.1.drop x.2.2.1.toNat))])
def Ok:G:=⟨TYs,[16],30,EL [(215,Oj)],keeps,(Ls [QOx]),IL [],RL []⟩
def QfI (x0:List Qn)(x4:Int)(y3:List Qn):OX:=Qx (QA Ok Qoz QAe) (QAg x0 x4 y3)
def Qa5 (kk:List Qn->Int->List Qn->OX)(x0:List Qn)(x4:Int)(y3:List Qn):OX:=
 let a1:=lgt QJ x0 (Int.toNat x4)
 let a2:=(((a1.2).2).1,((List.map Val.of (US (List.map Val.un ((((a1.2).2).2).1)))),()))
 br (ilt x4 (Qc x0)) (br (cIx x0 x4) (br (Qq ([]:List Int) ((a1.2).1) 1) (br (ZH Jk (List.map Val.un ((((a1.2).2).2).1))) (br (Qq y3 ([(a1.1,((([]:List Int)++((a1.2).1)),a2))]) 64) (kk x0 (Qj .i64 x4 1) (y3++([(a1.1,((([]:List Int)++((a1.2).1)),a2))]))) none) none) none) none) (some (.exit 0,QoA y3))
def QfJ (x0:List Qn)(x4:Int)(y3:List Qn):OX:=some (.exit 0,QoA (y3++x0.drop x4.toNat))
theorem QAh (x0:List Qn)(x4:Int)(y3:List Qn):QfI x0 x4 y3=Qa5 QfI x0 x4 y3:=lnT (x:=Qa5 (fun x0 x4 y3=>some (.normal,QAg x0 x4 y3)) x0 x4 y3) (by simp only [Qa5,nxA];rfl)
def QoB (p0:List Qn):OV:=br (Gd p0 (0:Int)&&Qa4 p0&&decide (([]:List Qn).length+p0.length<=200000+(0:Int).toNat)) (some (.t (.sl QJ) (([]:List Qn)++p0.drop (0:Int).toNat),[])) none
theorem e_f215 (p0:List Qn):QS Ok QfH QAf false [.t (.sl QJ) p0] []=QoB p0:=by kernel_rfl
theorem QOy:GOk Tryz.prog Ok:=Jp _ (gA (gC QOv QOw gN))
theorem QOz (x0:List Qn)(x4:Int)(y3:List Qn)(h:(Gd x0 x4&&Qa4 x0&&decide (y3.length+x0.length<=200000+x4.toNat))=true):QfI x0 x4 y3=QfJ x0 x4 y3:=by
 simp only [Bc,Ba,Gd] at h
 obtain ⟨⟨⟨h0,h1,h3⟩,hc⟩,h2⟩:=h
 obtain ⟨k,rfl⟩:=Bl h0
 rw [Bb] at h2
 simp only [Qa4,ZH,Bc,Bi] at hc
 revert y3
 refine QQ x0 (fun k=> ∀ y3:List Qn,y3.length+x0.length<=200000+k->QfI x0 (k:Int) y3=QfJ x0 (k:Int) y3) ?_ ?_ k (by omega)
 ·intro y3 _
  rw [QAh]
  simp [Qa5,QfJ,ilt,Qc,Qi]
 ·intro k hk ih y3 hy
  rw [QAh]
  have hx:=hc.2 x0[k] (Bw hk)
  have e2:ZH Jk (List.map Val.un x0[k].2.2.2.1)=true:=Qz5 hx
  simp only [Qa5,show ilt (k:Int) (Qc x0)=true from Be (by simp only [Qc];omega),QK,hk,Bo,Qf,Bb,QO (show k<4611686018427387904 by omega),QL (y:=QJ) hk,e2,US,EC]
  rw [Q1 (by omega) (by have:=Qz6 hx;simp only [Bv];omega),Qf,Q1 (by omega) (by simp only [Bh];omega),Qf,ih _ (by simp only [Bm,Bh];omega)]
  simp only [QfJ,Bb,Bg hk,BI,BH,BV]
theorem QOA:LO Ok Qoz QAe 0:=QI (s:=QfG) fun x y h _ q=>by simp only [QG,QH] at q;exact (QOz x.1 x.2.2.1 y.1 h).trans q
theorem QOB:QfH.lok Ok:=by
 repeat (first|exact trivial|exact QOA|refine ⟨?_, ?_⟩)
theorem s_f215 (l:List Qn)(h:ZH (Jk+1) l=true):QoB l=some (.t (.sl QJ) (US l),[]):=by
 have hl:l.length<=100000:=by simp only [ZH,Bc,Ba] at h;exact h.1
 simp only [QoB,show Gd l 0=true from Be (by omega),show Qa4 l=true from h,Bu,Bv,By,BG,BV]
 rw [Be (by omega),Qf]
 rfl
theorem QOC:Qu Tryz.prog 215 (QS Ok QfH QAf false):=mG Tryz.func215 (by kernel_rfl) Tryz.ntmps215 (by kernel_rfl) QOy QOB
end
theorem QAi: ∀ N:Nat,Qu Tryz.prog 215 (Qv (@Oj ⟨N⟩))
 |0=>IV fun x=>by first|rfl|simp [ZH]
 |N+1=>by
  letI:Fuel:=⟨N⟩
  haveI:Nonempty (PLift (Qu Tryz.prog 215 (Qv Oj))):=⟨⟨QAi N⟩⟩
  exact Qs QOC fun x hok=>(e_f215 x.1).trans (s_f215 x.1 hok)
def QAj:Ent:=Qo (.pr (.sl QJ) .nil) (fun x=>(Um x.1)) (fun x=>(.t (.sl QJ) (US x.1)))
theorem QOD:Qu Tryz.prog 215 (Qv QAj):=QeC QAi fun x hok=>QOu x.1 hok
end
end Go.Proofs.YthlcobdnemhcdaaGreat.K
noncomputable section
set_option linter.unusedSectionVars false
namespace Go.Proofs.YthlcobdnemhcdaaGreat.K
open Go.RowKit
noncomputable section
theorem QrE {n:Nat}{x:Qn}(h:okT (n+1) x=true): ∀ k (hk:k<(List.map Val.un x.2.2.2.1).length),okT n (List.map Val.un x.2.2.2.1)[k]=true:=by
 intro k hk
 rw [List.getElem_map,QfB]
 exact (GW h).2.2.2.2.2.2 _ (Bw _)
def Ga (_x:Qn):Bool:=true
def QiJ (x:Qn):Bool:=okT 12 x
theorem QUp (x:Qn)(h:QiJ x=true): ∃ N,okT N x=true:=⟨12,h⟩
theorem QUq:Ja Tryz.prog 300:= .inr ⟨by decide,_,Tryz.func300,by kernel_rfl,by kernel_rfl⟩
def O3 [Fuel]:Ent:=Qo (.pr QJ .nil) (fun x=>(okT Jk x.1)) (fun x=>(.t .bool (Ga x.1)))
theorem QUr:Ja Tryz.prog 300:=QUq
section
variable [Fuel][Nonempty (PLift (Qu Tryz.prog 300 (Qv O3)))]
theorem QUs:Qu Tryz.prog 300 (Qv O3):=(Classical.choice (inferInstance:Nonempty (PLift (Qu Tryz.prog 300 (Qv O3))))).down
def QiK (_x:Qn):Bool:=false
def QiL [Fuel](x:Qn):Bool:=okT Jk x
def Wq [Fuel](l:List Qn):Bool:=decide (l.length<=100000)&&l.all (okT Jk)
def QUt:TC:=aF Tryz.f307 []
def g_f307:G:=gG 6 [(300,O3)] (fun _ _=>none)
def QF9 (p0:Qn):OV:=br (okT Jk p0) (some (.t .bool (!(Ga p0)),[])) none
theorem s_f307 (x:Qn)(h:QiL x=true):QF9 x=some (.t .bool (QiK x),[]):=by
 simp only [QF9,show okT Jk x=true from h,Qf]
 rfl
def QGa:Ent:=Qo (.pr QJ .nil) (fun x=>(QiL x.1)) (fun x=>(.t .bool (QiK x.1)))
theorem QUu:EM 307 QGa:=mS g_f307 QUt [((.t 2),some .bool)] false (gB (gC QUr QUs gN)) fun m=>Qs m fun x hok=>kT (s_f307 x.1 hok)
def QrF (_l:List Qn):Int:= -1
abbrev QiM:Sh:=⟨[(0,.ty (.sl QJ)),(1,.cf 307),(7,.ty tI),(8,.ty tI)],[]⟩
abbrev QGb:Sh:=⟨[(4,.ty tI)],[]⟩
abbrev QiN:Sh:=⟨[],[]⟩
def QrG:Fg:=QiM.f
def QGc:TC:=aF Tryz.f311 [(26,pL 0 QrG),(421,.fg QiN.f),(13517,.fg QGb.f)]
def QGd:TC:=lb 0 QGc
def QGe (x0:List Qn)(x7 x8:Int):VS:=QiM.st (x0,(),x7,x8,()) ()
def QrH (x4:Int):VS:=QGb.st (x4,()) ()
def QrI  : VS:=QiN.st () ()
def QUv:VS->Option (Bool×List (Bool×Exit×VS)):=mkL QiM (fun x y=>(QD x.1 x.2.2.1 x.2.2.2.1&&Wq x.1)) (fun x y=>[((false),.ret,QrH (x.2.2.2.1)),(true,.exit 0,QrI)])
def QrJ:G:=gG 19 [(307,QGa)] (Ls [QUv])
def QiO (x0:List Qn)(x7 x8:Int):OX:=Qx (QA QrJ QrG QGd) (QGe x0 x7 x8)
def Qcl (kk:List Qn->Int->Int->OX)(x0:List Qn)(x7 x8:Int):OX:=
 let a1:=lgt QJ x0 (Int.toNat x8)
 br (ilt x8 x7) (br (cIx x0 x8) (br (QiL a1) (br (QiK a1) (some (.ret,QrH x8)) (kk x0 x7 (Qj .i64 x8 1))) none) none) (some (.exit 0,QrI))
def QrK (x0:List Qn)(x7 x8:Int):OX:=br (false) (some (.ret,QrH (x8)))<|some (.exit 0,QrI)
theorem QGf (x0:List Qn)(x7 x8:Int):QiO x0 x7 x8=Qcl QiO x0 x7 x8:=lnT (x:=Qcl (fun x0 x7 x8=>some (.normal,QGe x0 x7 x8)) x0 x7 x8) (by simp only [Qcl,nxA];rfl)
def QGg (p0:List Qn):OV:=br (QD p0 (Qc p0) (0:Int)&&Wq p0) (br (false) (some (.t tI (0:Int),[])) (some (.t tI (-1),[]))) none
theorem QUw (x0:List Qn)(x7 x8:Int)(h:(QD x0 x7 x8&&Wq x0)=true):QiO x0 x7 x8=QrK x0 x7 x8:=by
 simp only [Bc] at h
 obtain ⟨h0,hc⟩:=h
 obtain ⟨rfl,h3,k,rfl,hk⟩:=JG h0
 clear h0
 simp only [Wq,Bc,Bi] at hc
 refine QQ x0 (fun k=>QiO x0 (x0.length:Int) (k:Int)=QrK x0 (x0.length:Int) (k:Int)) ?_ ?_ k hk
 ·rw [QGf]
  simp [Qcl,QrK,Qy,Qi]
 ·intro k hk ih
  rw [QGf]
  have hx:=hc.2 x0[k] (Bw hk)
  simp only [Qcl,Qy,QK,hk,Bo,Qf,Bb,QO (show k<4611686018427387904 by omega),QL (y:=QJ) hk,show QiL x0[k]=true from hx,QiK,Qi,ih]
  rfl
theorem QUx:LO QrJ QrG QGd 0:=QI (s:=QiM) fun x y h _ q=>by simp only [QG,QH] at q;exact (QUw x.1 x.2.2.1 x.2.2.2.1 h).trans q
theorem QUy (l:List Qn)(h:Wq l=true):QGg l=some (.t tI (QrF l),[]):=by
 have hl:l.length<=100000:=by simp only [Wq,Bc,Ba] at h;exact h.1
 simp only [QGg,JH hl,h,Bu,Qf,Qi]
 rfl
def QGh:Ent:=UL [.ty (.sl QJ),.cf 307] [] (fun x d=>(Wq x.1)) (fun x d=>(.t tI (QrF x.1)))
theorem QUz:EM 311 QGh:=mS (lk:=lkL (lkc QUx lkn)) QrJ QGc [((.t 4),some tI)] false (gB (gD QUu gN)) fun m=>Fx m fun x d hok=>kT (QUy x.1 hok)
def QrL (_l:List Qn):Bool:=false
def QUA:TC:=aF Tryz.f306 []
def QUB:G:=gG 9 [(311,QGh)] (fun _ _=>none)
def QGi (p0:List Qn):OV:=br (Wq p0) (some (.t .bool (ige (QrF p0) 0),[])) none
theorem QUC (l:List Qn)(h:Wq l=true):QGi l=some (.t .bool (QrL l),[]):=by
 simp only [QGi,h,Qf]
 rfl
def QGj:Ent:=UL [.ty (.sl QJ),.cf 307] [] (fun x d=>(Wq x.1)) (fun x d=>(.t .bool (QrL x.1)))
theorem QUD:EM 306 QGj:=mS QUB QUA [((.t 4),some .bool)] false (gB (gD QUz gN)) fun m=>Fx m fun x d hok=>kT (QUC x.1 hok)
def QrM:TC:=aF Tryz.f300 []
def QGk:List (RV×Option Ty):=[((.t 2),some .bool)]
def QiP:G:=gG 41 [(305,Qzh),(306,QGj)] (fun _ _=>none)
def QrN (p0:Qn):OV:=
 let a1:=List.map Val.un p0.2.2.2.1
 br (Wq a1) (some (.t .bool (!(QrL a1)),[])) none
def QrO (p0:Qn):OV:=br (!p0.2.2.1) (br (igt (Qc (List.map Val.un p0.2.2.2.1)) 0) (some (.t .bool false,[])) (QrN p0)) (QrN p0)
def QrP (p0:Qn):OV:=br (!(QaK p0.1)) (some (.t .bool false,[])) (br (IX p0.2.2.1 (ine (EI .i64 p0.1 32) 0)) (some (.t .bool false,[])) (br (p0.2.2.1) (br (igt (Qc p0.2.1) 0) (some (.t .bool false,[])) (QrO p0)) (QrO p0)))
theorem e_f300 (p0:Qn):QS QiP QrM QGk false [.t QJ p0] []=QrP p0:=by kernel_rfl
theorem QUE:GOk Tryz.prog QiP:=Jp _ (gA (gD QNs (gD QUD gN)))
theorem QUF:QrM.lok QiP:=by repeat (first|exact trivial|refine ⟨?_, ?_⟩)
theorem s_f300 (x:Qn)(h:okT (Jk+1) x=true):QrP x=some (.t .bool (Ga x),[]):=by
 obtain ⟨h1,h2,h3,h4,h5,h6,h7⟩:=GW h
 have hu:Wq (List.map Val.un x.2.2.2.1)=true:=by
  simp only [Wq,Bc,Ba,BT,Bi,Dj]
  refine ⟨h6, ?_⟩
  rintro y ⟨v,hv,rfl⟩
  rw [QfB]
  exact h7 v hv
 have ht:QaK x.1=true:=by rcases h1 with e|e|e|e<;>rw [e]<;>rfl
 have hn:IX x.2.2.1 (ine (EI .i64 x.1 32) 0)=false:=by rw [h2];rcases h1 with e|e|e|e<;>rw [e]<;>rfl
 simp only [QrP,QrO,QrN,ht,hn,hu,BF,Qf,Qi]
 cases hq:x.2.2.1 with
 |true=>
  rw [h3 hq]
  rfl
 |false=>
  rw [h4 hq]
  rfl
theorem QUG:Qu Tryz.prog 300 (QS QiP QrM QGk false):=mG Tryz.func300 (by kernel_rfl) Tryz.ntmps300 (by kernel_rfl) QUE QUF
end
theorem QUH: ∀ N:Nat,Qu Tryz.prog 300 (Qv (@O3 ⟨N⟩))
 |0=>IV fun x=>by first|rfl|simp [okT]
 |N+1=>by
  letI:Fuel:=⟨N⟩
  haveI:Nonempty (PLift (Qu Tryz.prog 300 (Qv O3))):=⟨⟨QUH N⟩⟩
  exact Qs QUG fun x hok=>(e_f300 x.1).trans (s_f300 x.1 hok)
theorem QGl:Ja Tryz.prog 212:= .inr ⟨by decide,_,Tryz.func212,by kernel_rfl,by kernel_rfl⟩
def O4 [Fuel]:Ent:=Qo (.pr QJ .nil) (fun x=>(okT Jk x.1)) (fun x=>(.t .bool (Ga x.1)))
theorem QUI:Ja Tryz.prog 212:=QGl
section
variable [Fuel][Nonempty (PLift (Qu Tryz.prog 212 (Qv O4)))]
theorem QUJ:Qu Tryz.prog 212 (Qv O4):=(Classical.choice (inferInstance:Nonempty (PLift (Qu Tryz.prog 212 (Qv O4))))).down
def QiQ [Fuel](x:Qn):Bool:=okT (Jk+1) x
abbrev QiR:Sh:=⟨[(1,.ptr 1 0),(3,.ty tI)],[(1,.box QJ)]⟩
abbrev QGm:Sh:=⟨[(2,.ty .bool)],[]⟩
def QrQ:Fg:=QiR.f
def QiS:TC:=aF Tryz.f212 [(58,pL 0 QrQ),(931,.fg QiN.f),(7461,.fg QGm.f)]
def QGn:TC:=lb 0 QiS
def QGo:List (RV×Option Ty):=[((.t 2),some .bool)]
def QGp (x3:Int)(y1:Qn):VS:=QiR.st ((),x3,()) (y1,())
def QrR (x2:Bool):VS:=QGm.st (x2,()) ()
def QrS  : VS:=QiN.st () ()
def QUK:VS->Option (Bool×List (Bool×Exit×VS)):=mkL QiR (fun x y=>(decide (0<=x.2.1/\x.2.1<=y.1.2.2.2.1.length)&&QiQ y.1)) (fun x y=>[((false),.ret,QrR (false)),(true,.exit 0,QrS)])
def O5:G:=gG 53 [(212,O4),(246,Qzj)] (Ls [QUK])
def QiT (x3:Int)(y1:Qn):OX:=Qx (QA O5 QrQ QGn) (QGp x3 y1)
def Qcm (kk:Int->Qn->OX)(x3:Int)(y1:Qn):OX:=
 let a1:=List.map Val.un y1.2.2.2.1
 let a2:=lgt QJ a1 (Int.toNat x3)
 br (ilt x3 (Qc a1)) (br (cIx a1 x3) (br (okT Jk a2) (br (!(Ga a2)) (some (.ret,QrR false)) (kk (Qj .i64 x3 1) y1)) none) none) (some (.exit 0,QrS))
def QrT (x3:Int)(y1:Qn):OX:=br (false) (some (.ret,QrR (false)))<|some (.exit 0,QrS)
theorem QGq (x3:Int)(y1:Qn):QiT x3 y1=Qcm QiT x3 y1:=lnT (x:=Qcm (fun x3 y1=>some (.normal,QGp x3 y1)) x3 y1) (by simp only [Qcm,nxA];rfl)
def QrU (p0:Qn):OV:=br (decide (0<=(0:Int)/\(0:Int)<=p0.2.2.2.1.length)&&QiQ p0) (br (false) (some (.t .bool (false),[])) (some (.t .bool true,[]))) none
def QrV (p0:Qn):OV:=br (!p0.2.2.1) (br (igt (Qc (List.map Val.un p0.2.2.2.1)) 0) (some (.t .bool false,[])) (QrU p0)) (QrU p0)
def QrW (p0:Qn):OV:=br (!(QaL p0.1)) (some (.t .bool false,[])) (br (cNz 32) (br (cNz 2) (br (IX p0.2.2.1 (ieq (WB (Et .i64 p0.1 32) 2) 1)) (some (.t .bool false,[])) (br (p0.2.2.1) (br (igt (Qc p0.2.1) 0) (some (.t .bool false,[])) (QrV p0)) (QrV p0))) none) none)
theorem e_f212 (p0:Qn):QS O5 QiS QGo false [.t QJ p0] []=QrW p0:=by kernel_rfl
theorem QUL:GOk Tryz.prog O5:=Jp _ (gA (gC QUI QUJ (gD QNu gN)))
theorem QUM (x3:Int)(y1:Qn)(h:(decide (0<=x3/\x3<=y1.2.2.2.1.length)&&QiQ y1)=true):QiT x3 y1=QrT x3 y1:=by
 simp only [Bc,Ba] at h
 obtain ⟨⟨h0,h1⟩,hc⟩:=h
 obtain ⟨k,rfl⟩:=Bl h0
 have hm:=QrE hc
 have hl:=(GW hc).2.2.2.2.2.1
 refine QQ (List.map Val.un y1.2.2.2.1) (fun k=>QiT (k:Int) y1=QrT (k:Int) y1) ?_ ?_ k (by rw [BT];omega)
 ·rw [QGq]
  simp [Qcm,QrT,ilt,Qc,Qi]
 ·intro k hk ih
  rw [QGq]
  have hk2:k<y1.2.2.2.1.length:=by rw [BT] at hk;exact hk
  simp only [Qcm,show ilt (k:Int) (Qc (List.map Val.un y1.2.2.2.1))=true from Be (by simp only [Qc];omega),QK,hk,Bo,Qf,Bb,QO (show k<4611686018427387904 by omega),QL (y:=QJ) hk,hm k hk,Ga,BF,Qi,ih]
  rfl
theorem QUN:LO O5 QrQ QGn 0:=QI (s:=QiR) fun x y h _ q=>by simp only [QG,QH] at q;exact (QUM x.2.1 y.1 h).trans q
theorem QUO:QiS.lok O5:=by
 repeat (first|exact trivial|exact QUN|refine ⟨?_, ?_⟩)
theorem s_f212 (x:Qn)(h:okT (Jk+1) x=true):QrW x=some (.t .bool (Ga x),[]):=by
 obtain ⟨h1,h2,h3,h4,h5,h6,h7⟩:=GW h
 have ht:QaL x.1=true:=by rcases h1 with e|e|e|e<;>rw [e]<;>rfl
 have hn:IX x.2.2.1 (ieq (WB (Et .i64 x.1 32) 2) 1)=false:=by rw [h2];rcases h1 with e|e|e|e<;>rw [e]<;>rfl
 have hd:decide ((0:Int)<=0/\(0:Int)<=x.2.2.2.1.length)=true:=Be (by omega)
 simp only [QrW,QrV,QrU,ht,hn,hd,show QiQ x=true from h,B6,show cNz 32=true from rfl,show cNz 2=true from rfl,BF,Qf,Qi]
 cases hq:x.2.2.1 with
 |true=>
  rw [h3 hq]
  rfl
 |false=>
  rw [h4 hq]
  rfl
theorem QUP:Qu Tryz.prog 212 (QS O5 QiS QGo false):=mG Tryz.func212 (by kernel_rfl) Tryz.ntmps212 (by kernel_rfl) QUL QUO
end
theorem QGr: ∀ N:Nat,Qu Tryz.prog 212 (Qv (@O4 ⟨N⟩))
 |0=>IV fun x=>by first|rfl|simp [okT]
 |N+1=>by
  letI:Fuel:=⟨N⟩
  haveI:Nonempty (PLift (Qu Tryz.prog 212 (Qv O4))):=⟨⟨QGr N⟩⟩
  exact Qs QUP fun x hok=>(e_f212 x.1).trans (s_f212 x.1 hok)
def QGs:Ent:=Qo (.pr QJ .nil) (fun x=>(QiJ x.1)) (fun x=>(.t .bool (Ga x.1)))
theorem QUQ:Qu Tryz.prog 212 (Qv QGs):=QeC QGr fun x hok=>QUp x.1 hok
def dpV (x:Qn):Int:=(Fq (Val.of x):Int)
def XH (n:Nat)(x:Qn):Bool:=okT n x&&decide (n<=100)
def QiU (x:Qn):Bool:=okT 12 x
theorem QUR (x:Qn)(h:QiU x=true): ∃ N,XH N x=true:=⟨12,by rw [XH,show okT 12 x=true from h];rfl⟩
def Fa (l:List Qn):Nat:=IQ (l.map Val.of)
theorem QUS:Fa []=0:=rfl
theorem QUT (x:Qn)(l:List Qn):Fa (x::l)=max (Fq (Val.of x)) (Fa l):=rfl
theorem QiV (x:Qn):Fq (Val.of x)=IQ x.2.2.2.1+1:=rfl
theorem QUU (a b:Nat):imx (a:Int) (b:Int)=((max a b:Nat):Int):=by
 unfold imx
 split<;>omega
def QUV [Fuel]:Ent:=Qo (.pr QJ .nil) (fun x=>(XH Jk x.1)) (fun x=>(.t tI (dpV x.1)))
section
variable [Fuel][Nonempty (PLift (Qu Tryz.prog 301 (Qv QUV)))]
def QrX [Fuel](l:List Qn):Bool:=decide (l.length<=100000/\Jk+1<=100)&&l.all (okT Jk)
-- loop 0: (x3 : Int) (x7 : (List Qn)) (x8 : Int) (x9 : Int); out: ('exit', 0) (x3 : Int)
def QGt (p0:Qn):OV:=
 let a1:=List.map Val.un p0.2.2.2.1
 br (QD a1 (Qc a1) (0:Int)&&QrX a1&&decide (0<=(0:Int)/\(0:Int)<=100)) (some (.t tI (Qj .i64 ((max (0:Int).toNat (Fa (a1.drop (0:Int).toNat)):Nat):Int) 1),[])) none
theorem s_f301 (x:Qn)(h:XH (Jk+1) x=true):QGt x=some (.t tI (dpV x),[]):=by
 simp only [XH,Bc,Ba] at h
 obtain ⟨h,hf⟩:=h
 obtain ⟨h1,h2,h3,h4,h5,h6,h7⟩:=GW h
 have hu:QrX (List.map Val.un x.2.2.2.1)=true:=by
  simp only [QrX,Bc,Ba,BT,Bi,Dj]
  refine ⟨⟨h6,hf⟩, ?_⟩
  rintro y ⟨v,hv,rfl⟩
  rw [QfB]
  exact h7 v hv
 have hd:=Qen (v:=Val.of x) h
 rw [QiV] at hd
 simp only [QGt,JH (show (List.map Val.un x.2.2.2.1).length<=100000 by rw [BT];exact h6),hu,B6,show decide ((0:Int)<=0/\(0:Int)<=100)=true from rfl,Qf,By,BG,Fa,EC,Nat.zero_max]
 rw [Jz (by omega)]
 simp only [dpV,QiV]
 congr 2
end
theorem QGu:Ja Tryz.prog 213:= .inr ⟨by decide,_,Tryz.func213,by kernel_rfl,by kernel_rfl⟩
def O6 [Fuel]:Ent:=Qo (.pr QJ .nil) (fun x=>(XH Jk x.1)) (fun x=>(.t tI (dpV x.1)))
theorem QUW:Ja Tryz.prog 213:=QGu
section
variable [Fuel][Nonempty (PLift (Qu Tryz.prog 213 (Qv O6)))]
theorem QUX:Qu Tryz.prog 213 (Qv O6):=(Classical.choice (inferInstance:Nonempty (PLift (Qu Tryz.prog 213 (Qv O6))))).down
def Qcn [Fuel](x:Qn):Bool:=XH (Jk+1) x
abbrev QiW:Sh:=⟨[(1,.ptr 1 0),(3,.ty tI),(4,.ty tI)],[(1,.box QJ)]⟩
abbrev QGv:Sh:=⟨[(3,.ty tI)],[]⟩
def QrY:Fg:=QiW.f
def QiX:TC:=aF Tryz.f213 [(58,pL 0 QrY),(931,.fg QGv.f)]
def QGw:TC:=lb 0 QiX
def QGx:List (RV×Option Ty):=[((.t 2),some tI)]
def QGy (x3 x4:Int)(y1:Qn):VS:=QiW.st ((),x3,x4,()) (y1,())
def QrZ (x3:Int):VS:=QGv.st (x3,()) ()
def QUY:VS->Option (Bool×List (Bool×Exit×VS)):=mkL QiW (fun x y=>(decide (0<=x.2.2.1/\x.2.2.1<=y.1.2.2.2.1.length/\0<=x.2.1/\x.2.1<=100)&&Qcn y.1)) (fun x y=>[(true,.exit 0,QrZ ((max x.2.1.toNat (Fa ((List.map Val.un y.1.2.2.2.1).drop x.2.2.1.toNat)):Nat):Int))])
def O7:G:=gG 22 [(213,O6)] (Ls [QUY])
def QiY (x3 x4:Int)(y1:Qn):OX:=Qx (QA O7 QrY QGw) (QGy x3 x4 y1)
def Qco (kk:Int->Int->Qn->OX)(x3 x4:Int)(y1:Qn):OX:=
 let a1:=List.map Val.un y1.2.2.2.1
 let a2:=lgt QJ a1 (Int.toNat x4)
 br (ilt x4 (Qc a1)) (br (cIx a1 x4) (br (XH Jk a2) (kk (imx x3 (dpV a2)) (Qj .i64 x4 1) y1) none) none) (some (.exit 0,QrZ x3))
def QiZ (x3 x4:Int)(y1:Qn):OX:=some (.exit 0,QrZ ((max x3.toNat (Fa ((List.map Val.un y1.2.2.2.1).drop x4.toNat)):Nat):Int))
theorem QGz (x3 x4:Int)(y1:Qn):QiY x3 x4 y1=Qco QiY x3 x4 y1:=lnT (x:=Qco (fun x3 x4 y1=>some (.normal,QGy x3 x4 y1)) x3 x4 y1) (by simp only [Qco,nxA];rfl)
def Qr0 (p0:Qn):OV:=br (decide (0<=(0:Int)/\(0:Int)<=p0.2.2.2.1.length/\0<=(0:Int)/\(0:Int)<=100)&&Qcn p0) (some (.t tI (Qj .i64 ((max (0:Int).toNat (Fa ((List.map Val.un p0.2.2.2.1).drop (0:Int).toNat)):Nat):Int) 1),[])) none
theorem e_f213 (p0:Qn):QS O7 QiX QGx false [.t QJ p0] []=Qr0 p0:=by kernel_rfl
theorem QUZ:GOk Tryz.prog O7:=Jp _ (gA (gC QUW QUX gN))
theorem QU0 (x3 x4:Int)(y1:Qn)(h:(decide (0<=x4/\x4<=y1.2.2.2.1.length/\0<=x3/\x3<=100)&&Qcn y1)=true):QiY x3 x4 y1=QiZ x3 x4 y1:=by
 simp only [Bc,Ba] at h
 obtain ⟨⟨h0,h1,h2,h3⟩,hc⟩:=h
 obtain ⟨k,rfl⟩:=Bl h0
 obtain ⟨m,rfl⟩:=Bl h2
 clear h2 h3
 simp only [Qcn,XH,Bc,Ba] at hc
 obtain ⟨hc,hf⟩:=hc
 have hm:=QrE hc
 have hl:=(GW hc).2.2.2.2.2.1
 revert m
 refine QQ (List.map Val.un y1.2.2.2.1) (fun k=> ∀ m:Nat,QiY (m:Int) (k:Int) y1=QiZ (m:Int) (k:Int) y1) ?_ ?_ k (by rw [BT];omega)
 ·intro m
  rw [QGz]
  simp only [Qco,show ilt ((List.map Val.un y1.2.2.2.1).length:Int) (Qc (List.map Val.un y1.2.2.2.1))=false from Bq (by simp only [Qc];omega),Qi]
  simp only [QiZ,Bb,BS,QUS,Nat.max_zero]
 ·intro k hk ih m
  rw [QGz]
  have hk2:k<y1.2.2.2.1.length:=by rw [BT] at hk;exact hk
  have hd:XH Jk (List.map Val.un y1.2.2.2.1)[k]=true:=by rw [XH,hm k hk,Be (by omega)];rfl
  simp only [Qco,show ilt (k:Int) (Qc (List.map Val.un y1.2.2.2.1))=true from Be (by simp only [Qc];omega),QK,hk,Bo,Qf,Bb,QO (show k<4611686018427387904 by omega),QL (y:=QJ) hk,hd,dpV,QUU,ih]
  simp only [QiZ,Bb,Bg hk,QUT,Nat.max_assoc]
theorem QU1:LO O7 QrY QGw 0:=QI (s:=QiW) fun x y h _ q=>by simp only [QG,QH] at q;exact (QU0 x.2.1 x.2.2.1 y.1 h).trans q
theorem QU2:QiX.lok O7:=by
 repeat (first|exact trivial|exact QU1|refine ⟨?_, ?_⟩)
theorem s_f213 (x:Qn)(h:XH (Jk+1) x=true):Qr0 x=some (.t tI (dpV x),[]):=by
 have hin:Qcn x=true:=h
 simp only [XH,Bc,Ba] at h
 obtain ⟨h,hf⟩:=h
 have hd:=Qen (v:=Val.of x) h
 rw [QiV] at hd
 have hdd:decide ((0:Int)<=0/\(0:Int)<=x.2.2.2.1.length/\(0:Int)<=0/\(0:Int)<=100)=true:=Be (by omega)
 simp only [Qr0,hin,hdd,B6,Qf,By,BG,Fa,EC,Nat.zero_max]
 rw [Jz (by omega)]
 simp only [dpV,QiV]
 congr 2
theorem QU3:Qu Tryz.prog 213 (QS O7 QiX QGx false):=mG Tryz.func213 (by kernel_rfl) Tryz.ntmps213 (by kernel_rfl) QUZ QU2
end
theorem QGA: ∀ N:Nat,Qu Tryz.prog 213 (Qv (@O6 ⟨N⟩))
 |0=>IV fun x=>by first|rfl|simp [XH]
 |N+1=>by
  letI:Fuel:=⟨N⟩
  haveI:Nonempty (PLift (Qu Tryz.prog 213 (Qv O6))):=⟨⟨QGA N⟩⟩
  exact Qs QU3 fun x hok=>(e_f213 x.1).trans (s_f213 x.1 hok)
def QGB:Ent:=Qo (.pr QJ .nil) (fun x=>(QiU x.1)) (fun x=>(.t tI (dpV x.1)))
theorem QU4:Qu Tryz.prog 213 (Qv QGB):=QeC QGA fun x hok=>QUR x.1 hok
end
end Go.Proofs.YthlcobdnemhcdaaGreat.K
noncomputable section
set_option linter.unusedSectionVars false
namespace Go.Proofs.YthlcobdnemhcdaaGreat.K
open Go.RowKit
noncomputable section
def ZN (x:Qn):List Int:=Qem (Val.of x)
def ZX (l:List Qn):List Int:=Yo (l.map Val.of)
theorem QaO:ZX []=[]:=rfl
theorem Ex (x:Qn)(l:List Qn):ZX (x::l)=ZN x++ZX l:=rfl
theorem Qfc (x:Qn):ZN x=icv .u8 x.1::(Fp (x.2.1.length+(Yo x.2.2.2.1).length)++(x.2.1++Yo x.2.2.2.1)):=rfl
theorem Qzs (x:Qn):x.2.1.length+(Yo x.2.2.2.1).length<=(ZN x).length:=QLZ x.1 x.2.1 x.2.2.1 x.2.2.2.1
theorem Qzt: ∀ (l:List Qn) (k:Nat) (hk:k<l.length),(ZX (l.take k)).length+(ZN l[k]).length<=(ZX l).length
 | [],k,hk=>by simp at hk
 |x::l,0,_=>by
  rw [List.take_zero,QaO,Ex,Bm]
  simp
 |x::l,k+1,hk=>by
  simp only [Br] at hk
  have:=Qzt l k (by omega)
  simp only [List.take_succ_cons,Ex,Bm,DF]
  omega
theorem Qfd (n:Nat):(Fp n).length<=9:=by
 unfold Fp
 split
 ·simp
 ·rw [Br,Qmw]
  have:=Qmx 8 n
  omega
def Uj (n:Nat)(x:Qn):Bool:=okT n x&&decide ((ZN x).length<=100000000)
def GJ (x:Qn):Bool:=okT 12 x&&decide ((ZN x).length<=100000000)
theorem QNA (x:Qn)(h:GJ x=true): ∃ N,Uj N x=true:=⟨12,h⟩
theorem Qzu:Ja Tryz.prog 214:= .inr ⟨by decide,_,Tryz.func214,by kernel_rfl,by kernel_rfl⟩
def I9 [Fuel]:Ent:=Qo (.pr QJ .nil) (fun x=>(Uj Jk x.1)) (fun x=>(.t (.sl (.int .u8)) (ZN x.1)))
theorem QNB:Ja Tryz.prog 214:=Qzu
section
variable [Fuel][Nonempty (PLift (Qu Tryz.prog 214 (Qv I9)))]
theorem QNC:Qu Tryz.prog 214 (Qv I9):=(Classical.choice (inferInstance:Nonempty (PLift (Qu Tryz.prog 214 (Qv I9))))).down
def QaP [Fuel](x:Qn):Bool:=Uj (Jk+1) x
abbrev Qfe:Sh:=⟨[(1,.ptr 1 0),(3,.ms 5),(4,.ty tI)],[(1,.box QJ),(3,.no),(5,.arr 5 (.int .u8)),(8,.no),(23,.no)]⟩
abbrev Qzv:Sh:=⟨[(1,.ptr 1 0),(3,.ms 5)],[(1,.box QJ),(3,.no),(5,.arr 5 (.int .u8)),(8,.no),(23,.no)]⟩
def QnR:Fg:=Qfe.f
def Qff:TC:=aF Tryz.f214 [(58,.nw 3 5),(58,pL 0 QnR),(931,.fg Qzv.f),(30,pD [(0,[1]),(1,[1]),(2,[]),(3,[27,5027,10027,15027]),(4,[3,5,8,23]),(5,[3,5,8,23]),(6,[]),(7,[27,31,5031,10031,15031]),(8,[3,5,8,23]),(9,[3,5,8,23,27,31,33,5033,10033,15033]),(10,[27,31,33])] (.of [0,1,2,4,5,6,8,3,7,9,10]))]
def Qzw:TC:=lb 0 Qff
def Qzx:List (RV×Option Ty):=[((.t 2),some (.sl (.int .u8)))]
def Qzy (x4:Int)(y1:Qn)(y5:List Int):VS:=Qfe.st ((),(),x4,()) (y1,(),y5,(),(),())
def QnS (y1:Qn)(y5:List Int):VS:=Qzv.st ((),(),()) (y1,(),y5,(),(),())
def QND:VS->Option (Bool×List (Bool×Exit×VS)):=mkL Qfe (fun x y=>(decide (0<=x.2.2.1/\x.2.2.1<=y.1.2.2.2.1.length/\y.2.2.1.length+(ZX ((List.map Val.un y.1.2.2.2.1).drop x.2.2.1.toNat)).length<=1000000000)&&QaP y.1)) (fun x y=>[(true,.exit 0,QnS (y.1) (y.2.2.1++ZX ((List.map Val.un y.1.2.2.2.1).drop x.2.2.1.toNat)))])
def Oa:G:=⟨TYs,[5,27],34,EL [(214,I9),(247,Qzr)],keeps,(Ls [QND]),IL [],RL []⟩
def Qfg (x4:Int)(y1:Qn)(y5:List Int):OX:=Qx (QA Oa QnR Qzw) (Qzy x4 y1 y5)
def QaQ (kk:Int->Qn->List Int->OX)(x4:Int)(y1:Qn)(y5:List Int):OX:=
 let a2:=List.map Val.un y1.2.2.2.1
 let a1:=lgt QJ a2 (Int.toNat x4)
 br (ilt x4 (Qc a2)) (br (cIx a2 x4) (br (Uj Jk a1) (br (Qq y5 (ZN a1) 1) (kk (Qj .i64 x4 1) y1 (y5++(ZN a1))) none) none) none) (some (.exit 0,QnS y1 y5))
def Qfh (x4:Int)(y1:Qn)(y5:List Int):OX:=some (.exit 0,QnS (y1) (y5++ZX ((List.map Val.un y1.2.2.2.1).drop x4.toNat)))
theorem Qzz (x4:Int)(y1:Qn)(y5:List Int):Qfg x4 y1 y5=QaQ Qfg x4 y1 y5:=lnT (x:=QaQ (fun x4 y1 y5=>some (.normal,Qzy x4 y1 y5)) x4 y1 y5) (by simp only [QaQ,nxA];rfl)
def QnT (p0:Qn):OV:=
 let a2:=List.map Val.un p0.2.2.2.1
 let a3:=(a2.drop (0:Int).toNat)
 let a1:=(Qc ((([]:List Int)++p0.2.1)++ZX a3))
 let a4:=icv .u8 ((p0).1)
 br (Qq ([]:List Int) p0.2.1 1) (br (decide (0<=(0:Int)/\(0:Int)<=p0.2.2.2.1.length/\(([]:List Int)++p0.2.1).length+(ZX a3).length<=1000000000)&&QaP p0) (br (QaM a1) (br (Qq ([a4]) (GI a1) 1) (br (Qq (([a4])++(GI a1)) ((([]:List Int)++p0.2.1)++ZX a3) 1) (some (.t (.sl (.int .u8)) ((([a4])++(GI a1))++((([]:List Int)++p0.2.1)++ZX a3)),[])) none) none) none) none) none
theorem e_f214 (p0:Qn):QS Oa Qff Qzx false [.t QJ p0] []=QnT p0:=by kernel_rfl
theorem QNE:GOk Tryz.prog Oa:=Jp _ (gA (gC QNB QNC (gD QNz gN)))
theorem QNF (x4:Int)(y1:Qn)(y5:List Int)(h:(decide (0<=x4/\x4<=y1.2.2.2.1.length/\y5.length+(ZX ((List.map Val.un y1.2.2.2.1).drop x4.toNat)).length<=1000000000)&&QaP y1)=true):Qfg x4 y1 y5=Qfh x4 y1 y5:=by
 simp only [Bc,Ba] at h
 obtain ⟨⟨h0,h1,h2⟩,hc⟩:=h
 obtain ⟨k,rfl⟩:=Bl h0
 simp only [QaP,Uj,Bc,Ba] at hc
 obtain ⟨hc,hf⟩:=hc
 have hm:=QrE hc
 have hl:=(GW hc).2.2.2.2.2.1
 rw [Bb] at h2
 have hel:=Qzs y1
 have hE:ZX (List.map Val.un y1.2.2.2.1)=Yo y1.2.2.2.1:=by rw [ZX,EC]
 revert y5
 refine QQ (List.map Val.un y1.2.2.2.1) (fun k=> ∀ y5:List Int,y5.length+(ZX ((List.map Val.un y1.2.2.2.1).drop k)).length<=1000000000->Qfg (k:Int) y1 y5=Qfh (k:Int) y1 y5) ?_ ?_ k (by rw [BT];omega)
 ·intro y5 _
  rw [Qzz]
  simp only [QaQ,show ilt ((List.map Val.un y1.2.2.2.1).length:Int) (Qc (List.map Val.un y1.2.2.2.1))=false from Bq (by simp only [Qc];omega),Qi]
  simp only [Qfh,Bb,BS,QaO,BL]
 ·intro k hk ih y5 hy
  rw [Qzz]
  have hk2:k<y1.2.2.2.1.length:=by rw [BT] at hk;exact hk
  have hs:=Qzt (List.map Val.un y1.2.2.2.1) k hk
  rw [hE] at hs
  rw [Bg hk,Ex,Bm] at hy
  have hd:Uj Jk (List.map Val.un y1.2.2.2.1)[k]=true:=by rw [Uj,hm k hk,Be (by omega)];rfl
  simp only [QaQ,show ilt (k:Int) (Qc (List.map Val.un y1.2.2.2.1))=true from Be (by simp only [Qc];omega),QK,hk,Bo,Qf,Bb,QO (show k<4611686018427387904 by omega),QL (y:=QJ) hk,hd]
  rw [Q1 (by omega) (by omega),Qf,ih _ (by rw [Bm];omega)]
  simp only [Qfh,Bb,Bg hk,Ex,BI]
theorem QNG:LO Oa QnR Qzw 0:=QI (s:=Qfe) fun x y h _ q=>by simp only [QG,QH] at q;exact (QNF x.2.2.1 y.1 y.2.2.1 h).trans q
theorem QNH:Qff.lok Oa:=by
 repeat (first|exact trivial|exact QNG|refine ⟨?_, ?_⟩)
theorem s_f214 (x:Qn)(h:Uj (Jk+1) x=true):QnT x=some (.t (.sl (.int .u8)) (ZN x),[]):=by
 have hin:QaP x=true:=h
 simp only [Uj,Bc,Ba] at h
 obtain ⟨h,hf⟩:=h
 have hel:=Qzs x
 have hE:ZX (List.map Val.un x.2.2.2.1)=Yo x.2.2.2.1:=by rw [ZX,EC]
 have hll:=Qfd (x.2.1.length+(Yo x.2.2.2.1).length)
 simp only [QnT,hin,B7,BV,By,BG,hE]
 rw [Q1 (by omega) (by simp only [Bv];omega),Qf,Be ⟨by omega,by omega,by omega⟩,Qf]
 have e1:QaM (Qc (x.2.1++Yo x.2.2.2.1))=true:=Be (by simp only [Qc,Bm];omega)
 have e2:GI (Qc (x.2.1++Yo x.2.2.2.1))=Fp (x.2.1.length+(Yo x.2.2.2.1).length):=by simp only [GI,Qc,Bm,Bb]
 rw [e1,Qf,e2,Q1 (by omega) (by simp only [Bh];omega),Qf,Q1 (by omega) (by simp only [Bm,Bh];omega),Qf,Qfc]
 simp only [BH,Dt,BV]
theorem QNI:Qu Tryz.prog 214 (QS Oa Qff Qzx false):=mG Tryz.func214 (by kernel_rfl) Tryz.ntmps214 (by kernel_rfl) QNE QNH
end
theorem QzA: ∀ N:Nat,Qu Tryz.prog 214 (Qv (@I9 ⟨N⟩))
 |0=>IV fun x=>by first|rfl|simp [Uj]
 |N+1=>by
  letI:Fuel:=⟨N⟩
  haveI:Nonempty (PLift (Qu Tryz.prog 214 (Qv I9))):=⟨⟨QzA N⟩⟩
  exact Qs QNI fun x hok=>(e_f214 x.1).trans (s_f214 x.1 hok)
def QzB:Ent:=Qo (.pr QJ .nil) (fun x=>(GJ x.1)) (fun x=>(.t (.sl (.int .u8)) (ZN x.1)))
theorem QNJ:Qu Tryz.prog 214 (Qv QzB):=QeC QzA fun x hok=>QNA x.1 hok
def GK (x:Qn):List Int×Int:=if 4096<(ZN x).length then ([],3) else (ZN x,0)
theorem QNK {x:Qn}(h:okT 12 x=true):igt (dpV x) 16=false:=by
 have:=Qen (v:=Val.of x) h
 exact Bq (by show ¬ ((Fq (Val.of x):Int) > 16);omega)
def QNL:TC:=aF Tryz.f166 []
def g_f166:G:=gG 17 [(212,QGs),(213,QGB),(214,QzB)] (fun _ _=>none)
def QzC (p0:Qn):OV:=br (QiJ p0) (br (!(Ga p0)) (some (.tu [(.t (.sl (.int .u8)) ([]:List Int)),(.t tI 1)],[])) (br (QiU p0) (br (igt (dpV p0) 16) (some (.tu [(.t (.sl (.int .u8)) ([]:List Int)),(.t tI 3)],[])) (br (GJ p0) (br (igt (Qc (ZN p0)) 4096) (some (.tu [(.t (.sl (.int .u8)) ([]:List Int)),(.t tI 3)],[])) (some (.tu [(.t (.sl (.int .u8)) (ZN p0)),(.t tI 0)],[]))) none)) none)) none
theorem s_f166 (x:Qn)(h:GJ x=true):QzC x=some (.tu [.t (.sl (.int .u8)) (GK x).1,.t tI (GK x).2],[]):=by
 have h':=h
 simp only [GJ,Bc,Ba] at h'
 obtain ⟨h1,h2⟩:=h'
 simp only [QzC,show QiJ x=true from h1,show QiU x=true from h1,h,QNK h1,Ga,BF,Qf,Qi]
 unfold GK
 refine QY (fun g=> ?_) (fun g=> ?_)
 ·simp only [igt,Qc,Ba] at g
  rw [if_pos (by omega)]
 ·simp only [igt,Qc,Bn] at g
  rw [if_neg (by omega)]
def QzD:Ent:=Qo (.pr QJ .nil) (fun x=>(GJ x.1)) (fun x=>(.tu [(.t (.sl (.int .u8)) ((GK x.1).1)),(.t tI ((GK x.1).2))]))
theorem QNM:EM 166 QzD:=mS g_f166 QNL [((.t 2),some (.sl (.int .u8))),((.t 3),some tI)] false (gB (gC QGl QUQ (gC QGu QU4 (gC Qzu QNJ gN)))) fun m=>Qs m fun x hok=>kT (s_f166 x.1 hok)
def conV (x:Qn):List Int:=x.2.1++Yo x.2.2.2.1
def QNN [Fuel]:Ent:=Qo (.pr QJ .nil) (fun x=>(Uj Jk x.1)) (fun x=>(.t (.sl (.int .u8)) (conV x.1)))
section
variable [Fuel][Nonempty (PLift (Qu Tryz.prog 308 (Qv QNN)))]
end
def WF (l:List Qn):Qn:=(48,(([]:List Int),(true,(List.map Val.of l,()))))
def QNO:TC:=aF Tryz.f167 []
def g_f167:G:=gG 6 [(215,QAj)] (fun _ _=>none)
def QzE (p0:List Qn):OV:=br (Um p0) (some (.t QJ (48,(([]:List Int),(true,((List.map Val.of (US p0)),())))),[])) none
theorem s_f167 (l:List Qn)(h:Um l=true):QzE l=some (.t QJ (WF l),[]):=by
 simp only [QzE,h,Qf]
 rfl
def QnU:Ent:=Qo (.pr (.sl QJ) .nil) (fun x=>(Um x.1)) (fun x=>(.t QJ (WF x.1)))
theorem QzF:EM 167 QnU:=mS g_f167 QNO [((.c 2 true 4),some QJ)] false (gB (gC QAc QOD gN)) fun m=>Qs m fun x hok=>kT (s_f167 x.1 hok)
end
end Go.Proofs.YthlcobdnemhcdaaGreat.K
