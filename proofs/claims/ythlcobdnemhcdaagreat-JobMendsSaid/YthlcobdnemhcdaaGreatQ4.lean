import Derived.Test.YthlcobdnemhcdaaGreatQ3
set_option linter.unusedSimpArgs false
set_option linter.unusedVariables false
noncomputable section
namespace Go.Proofs.YthlcobdnemhcdaaGreat.K
open Go.RowKit
def QpW:TC:=aF Tryz.f236 []
def QpX:List (RV×Option Ty):=[((.c 0 true 115),some (.pr Qn (.pr Qn (.pr Qn (.pr Qn (.pr Qn (.pr Qn (.pr Qn (.pr Qn (.pr Qn (.pr Qn (.pr Qn (.pr Qn (.pr Qn (.pr Qn (.pr Qn (.pr Qn (.pr Qn (.pr Qn (.pr Qn (.pr Qn (.pr Qn (.pr Qn (.pr Qn .nil))))))))))))))))))))))))]
def QpY:G:=gG 46 [] (fun _ _=>none)
def QpZ  : OV:=some (.t (.pr Qn (.pr Qn (.pr Qn (.pr Qn (.pr Qn (.pr Qn (.pr Qn (.pr Qn (.pr Qn (.pr Qn (.pr Qn (.pr Qn (.pr Qn (.pr Qn (.pr Qn (.pr Qn (.pr Qn (.pr Qn (.pr Qn (.pr Qn (.pr Qn (.pr Qn (.pr Qn .nil))))))))))))))))))))))) (((ByteArray.mk #[]),(0,(0,(([]:List Int),(([]:List Int),()))))),(((ByteArray.mk #[109,100,53]),(1,(0,(([]:List Int),([18],()))))),(((ByteArray.mk #[115,104,97,49]),(1,(0,(([]:List Int),([60],()))))),(((ByteArray.mk #[115,104,97,50,53,54]),(1,(0,(([]:List Int),([128],()))))),(((ByteArray.mk #[115,104,97,51,56,52]),(1,(0,(([]:List Int),([192],()))))),(((ByteArray.mk #[114,115,97]),(2,(1,(([]:List Int),(([]:List Int),()))))),(((ByteArray.mk #[100,115,97]),(2,(1,(([]:List Int),(([]:List Int),()))))),(((ByteArray.mk #[101,99,100,115,97]),(2,(2,(([]:List Int),(([]:List Int),()))))),(((ByteArray.mk #[101,100,50,53,53,49,57]),(2,(0,(([]:List Int),([128],()))))),(((ByteArray.mk #[109,108,100,115,97]),(2,(3,([44,65,87],([128,192,256],()))))),(((ByteArray.mk #[114,115,97,107,120]),(3,(1,(([]:List Int),(([]:List Int),()))))),(((ByteArray.mk #[100,104,101]),(3,(1,(([]:List Int),(([]:List Int),()))))),(((ByteArray.mk #[101,99,100,104,101]),(3,(2,(([]:List Int),(([]:List Int),()))))),(((ByteArray.mk #[109,108,107,101,109]),(3,(3,([512,768,1024],([128,192,256],()))))),(((ByteArray.mk #[114,99,52]),(4,(3,([40,128],([40,60],()))))),(((ByteArray.mk #[100,101,115,51]),(4,(3,([112,168],([80,112],()))))),(((ByteArray.mk #[97,101,115,99,98,99]),(4,(3,([128,256],([128,256],()))))),(((ByteArray.mk #[97,101,115,103,99,109]),(4,(3,([128,256],([128,256],()))))),(((ByteArray.mk #[99,104,97,99,104,97]),(4,(0,(([]:List Int),([256],()))))),(((ByteArray.mk #[104,109,97,99,109,100,53]),(5,(0,(([]:List Int),([64],()))))),(((ByteArray.mk #[104,109,97,99,115,104,97,49]),(5,(0,(([]:List Int),([80],()))))),(((ByteArray.mk #[104,109,97,99,115,104,97,50,53,54]),(5,(0,(([]:List Int),([128],()))))),(((ByteArray.mk #[97,101,97,100]),(5,(0,(([]:List Int),([256],()))))),()))))))))))))))))))))))),[])
theorem e_f236  : QP QpY QpW QpX false [] []=QpZ  :=by kernel_rfl
def F3:Ty.T (.pr Qn (.pr Qn (.pr Qn (.pr Qn (.pr Qn (.pr Qn (.pr Qn (.pr Qn (.pr Qn (.pr Qn (.pr Qn (.pr Qn (.pr Qn (.pr Qn (.pr Qn (.pr Qn (.pr Qn (.pr Qn (.pr Qn (.pr Qn (.pr Qn (.pr Qn (.pr Qn .nil))))))))))))))))))))))):=(((ByteArray.mk #[]),(0,(0,(([]:List Int),(([]:List Int),()))))),(((ByteArray.mk #[109,100,53]),(1,(0,(([]:List Int),([18],()))))),(((ByteArray.mk #[115,104,97,49]),(1,(0,(([]:List Int),([60],()))))),(((ByteArray.mk #[115,104,97,50,53,54]),(1,(0,(([]:List Int),([128],()))))),(((ByteArray.mk #[115,104,97,51,56,52]),(1,(0,(([]:List Int),([192],()))))),(((ByteArray.mk #[114,115,97]),(2,(1,(([]:List Int),(([]:List Int),()))))),(((ByteArray.mk #[100,115,97]),(2,(1,(([]:List Int),(([]:List Int),()))))),(((ByteArray.mk #[101,99,100,115,97]),(2,(2,(([]:List Int),(([]:List Int),()))))),(((ByteArray.mk #[101,100,50,53,53,49,57]),(2,(0,(([]:List Int),([128],()))))),(((ByteArray.mk #[109,108,100,115,97]),(2,(3,([44,65,87],([128,192,256],()))))),(((ByteArray.mk #[114,115,97,107,120]),(3,(1,(([]:List Int),(([]:List Int),()))))),(((ByteArray.mk #[100,104,101]),(3,(1,(([]:List Int),(([]:List Int),()))))),(((ByteArray.mk #[101,99,100,104,101]),(3,(2,(([]:List Int),(([]:List Int),()))))),(((ByteArray.mk #[109,108,107,101,109]),(3,(3,([512,768,1024],([128,192,256],()))))),(((ByteArray.mk #[114,99,52]),(4,(3,([40,128],([40,60],()))))),(((ByteArray.mk #[100,101,115,51]),(4,(3,([112,168],([80,112],()))))),(((ByteArray.mk #[97,101,115,99,98,99]),(4,(3,([128,256],([128,256],()))))),(((ByteArray.mk #[97,101,115,103,99,109]),(4,(3,([128,256],([128,256],()))))),(((ByteArray.mk #[99,104,97,99,104,97]),(4,(0,(([]:List Int),([256],()))))),(((ByteArray.mk #[104,109,97,99,109,100,53]),(5,(0,(([]:List Int),([64],()))))),(((ByteArray.mk #[104,109,97,99,115,104,97,49]),(5,(0,(([]:List Int),([80],()))))),(((ByteArray.mk #[104,109,97,99,115,104,97,50,53,54]),(5,(0,(([]:List Int),([128],()))))),(((ByteArray.mk #[97,101,97,100]),(5,(0,(([]:List Int),([256],()))))),())))))))))))))))))))))))
theorem s_f236:QpZ=some (.t (tyR Qn 23) F3,[]):=rfl
def Qp0:Ent:=Qo .nil (fun x=>true) (fun x=>(.t (.pr Qn (.pr Qn (.pr Qn (.pr Qn (.pr Qn (.pr Qn (.pr Qn (.pr Qn (.pr Qn (.pr Qn (.pr Qn (.pr Qn (.pr Qn (.pr Qn (.pr Qn (.pr Qn (.pr Qn (.pr Qn (.pr Qn (.pr Qn (.pr Qn (.pr Qn (.pr Qn .nil))))))))))))))))))))))) F3))
theorem QBH:EM 236 Qp0:=mS QpY QpW QpX false (gB gN) fun m=>Qt m fun x _=>(e_f236 ).trans (s_f236)
def Om:Row:=((ByteArray.mk #[]),(0,(0,(([]:List Int),(([]:List Int),())))))
def ofF (a:Int):Row×Bool:=if a<1∨22<a then (Om,false) else (Er Qn 23 F3 a,true)
def QBI:TC:=aF Tryz.f199 []
def g_f199:G:=gG 14 [(236,Qp0),(1004738,Qrg)] (fun _ _=>none)
def Qp1 (p0:Int):OV:=br (ilt p0 1) (some (.tu [(.t Qn ((ByteArray.mk #[]),(0,(0,(([]:List Int),(([]:List Int),())))))),(.t .bool false)],[])) (br (igt p0 22) (some (.tu [(.t Qn ((ByteArray.mk #[]),(0,(0,(([]:List Int),(([]:List Int),())))))),(.t .bool false)],[])) (br (Ut Qn 23 F3 p0) (some (.tu [(.t Qn (Er Qn 23 F3 p0)),(.t .bool true)],[])) none))
theorem s_f199 (a:Int):Qp1 a=some (.tu [.t Qn (ofF a).1,.t .bool (ofF a).2],[]):=by
 simp only [Qp1]
 refine QV (fun h1=> ?_) (fun h1=>QV (fun h2=> ?_) (fun h2=> ?_))
 ·have h1:a<1:=by simpa [ilt] using h1
  simp [ofF,h1,Om]
 ·have h2:22<a:=by simpa [igt] using h2
  simp [ofF,h2,Om]
 ·have h1: ¬ a<1:=by simpa [ilt] using h1
  have h2: ¬ 22<a:=by simpa [igt] using h2
  have h3:Ut Qn 23 F3 a=true:=by simp [Ut];omega
  rw [h3,Qf]
  simp [ofF,h1,h2]
def Qht:Ent:=Qo (.pr tI .nil) (fun x=>true) (fun x=>(.tu [(.t Qn ((ofF x.1).1)),(.t .bool ((ofF x.1).2))]))
theorem Qp2:EM 199 Qht:=mS g_f199 QBI [((.c 2 true 5),some Qn),((.t 3),some .bool)] false (gB (gD QBH (gC QCE QCF gN))) fun m=>Qt m fun x _=>kT (s_f199 x.1)
def GY:List (Int×Int):=[(1024,56),(2048,80),(3072,112),(7680,128),(15360,192)]
def F4:(Keep×(Keep×(Keep×(Keep×(Keep×Unit))))):=((1024,(56,())),((2048,(80,())),((3072,(112,())),((7680,(128,())),((15360,(192,())),())))))
def Yv (b i:Int):Option Int:=((GY.drop i.toNat).find? fun x=>ilt b x.1).map (·.2)
def F5 (b:Int):Int:=(Yv b 0).getD 256
abbrev Qbp:Sh:=⟨[(0,.ty tI),(10,.ty (.pr Qi (.pr Qi (.pr Qi (.pr Qi (.pr Qi .nil)))))),(11,.ty tI)],[]⟩
abbrev Qp3:Sh:=⟨[(2,.ty tI)],[]⟩
abbrev Qbq:Sh:=⟨[],[]⟩
def Qhu:Fg:=Qbp.f
def Qp4:TC:=aF Tryz.f200 [(26,pL 0 Qhu),(421,.fg Qbq.f),(13517,.fg Qp3.f)]
def Qp5:TC:=lb 0 Qp4
def Qp6 (x0:Int)(x10:(Keep×(Keep×(Keep×(Keep×(Keep×Unit))))))(x11:Int):VS:=Qbp.st (x0,x10,x11,()) ()
def Qhv (x2:Int):VS:=Qp3.st (x2,()) ()
def Qhw  : VS:=Qbq.st () ()
def QBJ:VS->Option (Bool×List (Bool×Exit×VS)):=mkL Qbp (fun x y=>(x.2.1==F4&&decide (0<=x.2.2.1/\x.2.2.1<=5))) (fun x y=>[(((Yv x.1 x.2.2.1).isSome),.ret,Qhv ((Yv x.1 x.2.2.1).getD 0)),(true,.exit 0,Qhw)])
def Qhx:G:=gG 21 [(1004786,Qrh)] (Ls [QBJ])
def Qbr (x0:Int)(x10:(Keep×(Keep×(Keep×(Keep×(Keep×Unit))))))(x11:Int):OX:=QA (QC Qhx Qhu Qp5) (Qp6 x0 x10 x11)
def Qbs (kk:Int->(Keep×(Keep×(Keep×(Keep×(Keep×Unit)))))->Int->OX)(x0:Int)(x10:(Keep×(Keep×(Keep×(Keep×(Keep×Unit))))))(x11:Int):OX:=
 let a1:=Er Qi 5 x10 x11
 br (ilt x11 5) (br (Ut Qi 5 x10 x11) (br (ilt x0 (a1.1)) (some (.ret,Qhv ((a1.2).1))) (kk x0 x10 (Qh .i64 x11 1))) none) (some (.exit 0,Qhw))
def GZ (x0:Int)(x10:(Keep×(Keep×(Keep×(Keep×(Keep×Unit))))))(x11:Int):OX:=br ((Yv x0 x11).isSome) (some (.ret,Qhv ((Yv x0 x11).getD 0)))<|some (.exit 0,Qhw)
theorem Qp7 (x0:Int)(x10:(Keep×(Keep×(Keep×(Keep×(Keep×Unit))))))(x11:Int):Qbr x0 x10 x11=Qbs Qbr x0 x10 x11:=lnT (x:=Qbs (fun x0 x10 x11=>some (.normal,Qp6 x0 x10 x11)) x0 x10 x11) (by simp only [Qbs,nxA];rfl)
def Qp8 (p0:Int):OV:=br (((1024,(56,())),((2048,(80,())),((3072,(112,())),((7680,(128,())),((15360,(192,())),())))))==F4&&decide (0<=(0:Int)/\(0:Int)<=5)) (br ((Yv p0 (0:Int)).isSome) (some (.t tI ((Yv p0 (0:Int)).getD 0),[])) (some (.t tI 256,[]))) none
theorem QBK (x0:Int)(x10:(Keep×(Keep×(Keep×(Keep×(Keep×Unit))))))(x11:Int)(h:(x10==F4&&decide (0<=x11/\x11<=5))=true):Qbr x0 x10 x11=GZ x0 x10 x11:=by
 simp only [Bb,Ba,Di] at h
 obtain ⟨rfl,h1,h2⟩:=h
 obtain ⟨k,rfl⟩:=Bu h1
 refine Qae 5 (fun k=>Qbr x0 F4 (k:Int)=GZ x0 F4 (k:Int)) ?_ ?_ k (by omega)
 ·rw [Qp7]
  rfl
 ·intro k hk ih
  rw [Qp7]
  simp only [Qbs,QW (show k<4611686018427387904 by omega),ih]
  have e1:ilt (k:Int) 5=true:=by simp only [ilt,Ba];omega
  have e2:Ut Qi 5 F4 (k:Int)=true:=by simp only [Ut,Ba];omega
  simp only [e1,e2,Qf]
  have hk5:k=0∨k=1∨k=2∨k=3∨k=4:=by omega
  rcases hk5 with rfl|rfl|rfl|rfl|rfl
  ·show br (ilt x0 1024) _ _=_
   cases h:ilt x0 1024<;>simp [GZ,Yv,GY,h,Qf,Qj]<;>rfl
  ·show br (ilt x0 2048) _ _=_
   cases h:ilt x0 2048<;>simp [GZ,Yv,GY,h,Qf,Qj]<;>rfl
  ·show br (ilt x0 3072) _ _=_
   cases h:ilt x0 3072<;>simp [GZ,Yv,GY,h,Qf,Qj]<;>rfl
  ·show br (ilt x0 7680) _ _=_
   cases h:ilt x0 7680<;>simp [GZ,Yv,GY,h,Qf,Qj]<;>rfl
  ·show br (ilt x0 15360) _ _=_
   cases h:ilt x0 15360<;>simp [GZ,Yv,GY,h,Qf,Qj]<;>rfl
theorem QBL:LO Qhx Qhu Qp5 0:=QN (s:=Qbp) fun x y h _ q=>by simp only [QK,QL] at q;exact (QBK x.1 x.2.1 x.2.2.1 h).trans q
theorem s_f200 (b:Int):Qp8 b=some (.t tI (F5 b),[]):=by
 simp only [Qp8]
 show br true (br (Yv b 0).isSome (some (V.t tI ((Yv b 0).getD 0),[])) _) _=_
 rw [Qf,F5]
 cases Yv b 0<;>rfl
def Qp9:Ent:=Qo (.pr tI .nil) (fun x=>true) (fun x=>(.t tI (F5 x.1)))
theorem QBM:EM 200 Qp9:=mS (lk:=lkL (lkc QBL lkn)) Qhx Qp4 [((.t 2),some tI)] false (gB (gC QCG QCH gN)) fun m=>Qt m fun x _=>kT (s_f200 x.1)
def JP (v:Int):List Int->Option Nat
 | []=>none
 |a::l=>if a==v then some 0 else (JP v l).map (· + 1)
theorem Qqa {v:Int}: ∀ {l:List Int} {k:Nat},JP v l=some k->k<l.length
 | [],_,h=>by cases h
 |a::l,k,h=>by
  unfold JP at h
  split at h
  ·injection h with h;subst h;simp
  ·obtain ⟨j,h1,h2⟩:=Bf.1 h
   have:=Qqa h1
   simp only [Bq];omega
theorem Qhy {v:Int}: ∀ {l:List Int},JP v l=none↔v ∉ l
 | []=>by simp [JP]
 |a::l=>by
  have ih:=Qhy (v:=v) (l:=l)
  unfold JP
  by_cases h:a=v
  ·simp [h]
  ·have h': ¬ v=a:=fun e=>h e.symm
   simp [h,h',ih]
def G0 (l:List Int)(v:Int):Int:=match JP v l with|some k=>(k:Int)|none=> -1
def J3 (l:List Int)(_v:Int):Bool:=decide (l.length<=100000)
abbrev Qbt:Sh:=⟨[(0,.ty (.sl tI)),(1,.ty tI),(7,.ty tI),(8,.ty tI)],[]⟩
abbrev Qqb:Sh:=⟨[(4,.ty tI)],[]⟩
def Qhz:Fg:=Qbt.f
def Qqc:TC:=aF Tryz.f202 [(26,pL 0 Qhz),(421,.fg Qbq.f),(13517,.fg Qqb.f)]
def Qqd:TC:=lb 0 Qqc
def Qqe (x0:List Int)(x1 x7 x8:Int):VS:=Qbt.st (x0,x1,x7,x8,()) ()
def QhA (x4:Int):VS:=Qqb.st (x4,()) ()
def QhB  : VS:=Qbq.st () ()
def QBN:VS->Option (Bool×List (Bool×Exit×VS)):=mkL Qbt (fun x y=>(Qy x.1 x.2.2.1 x.2.2.2.1)) (fun x y=>[(((JP x.2.1 (x.1.drop x.2.2.2.1.toNat)).isSome),.ret,QhA (x.2.2.2.1+((JP x.2.1 (x.1.drop x.2.2.2.1.toNat)).getD 0:Nat))),(true,.exit 0,QhB)])
def QhC:G:=gG 19 [] (Ls [QBN])
def Qbu (x0:List Int)(x1 x7 x8:Int):OX:=QA (QC QhC Qhz Qqd) (Qqe x0 x1 x7 x8)
def On (kk:List Int->Int->Int->Int->OX)(x0:List Int)(x1 x7 x8:Int):OX:=br (ilt x8 x7) (br (cIx x0 x8) (br (ieq x1 (lgt tI x0 (Int.toNat x8))) (some (.ret,QhA x8)) (kk x0 x1 x7 (Qh .i64 x8 1))) none) (some (.exit 0,QhB))
def Qbv (x0:List Int)(x1 x7 x8:Int):OX:=
 let a1:=JP x1 (x0.drop x8.toNat)
 br (a1.isSome) (some (.ret,QhA (x8+(a1.getD 0:Nat))))<|some (.exit 0,QhB)
theorem Qqf (x0:List Int)(x1 x7 x8:Int):Qbu x0 x1 x7 x8=On Qbu x0 x1 x7 x8:=lnT (x:=On (fun x0 x1 x7 x8=>some (.normal,Qqe x0 x1 x7 x8)) x0 x1 x7 x8) (by simp only [On,nxA];rfl)
def Qqg (p0:List Int)(p1:Int):OV:=
 let a1:=(JP p1 (p0.drop (0:Int).toNat))
 br (Qy p0 (Qc p0) (0:Int)) (br (a1.isSome) (some (.t tI ((0:Int)+(a1.getD 0:Nat)),[])) (some (.t tI (-1),[]))) none
theorem QBO (x0:List Int)(x1 x7 x8:Int)(h:(Qy x0 x7 x8)=true):Qbu x0 x1 x7 x8=Qbv x0 x1 x7 x8:=by
 obtain ⟨rfl,h3,k,rfl,hk⟩:=JR h
 clear h
 refine Q5 x0 (fun k=>Qbu x0 x1 (x0.length:Int) (k:Int)=Qbv x0 x1 (x0.length:Int) (k:Int)) ?_ ?_ k hk
 ·rw [Qqf]
  simp [On,Qbv,QD,Qj,JP]
 ·intro k hk ih
  rw [Qqf]
  simp only [On,QD,QI,hk,Br,Qf,Bd,QW (show k<4611686018427387904 by omega),ih,QO (y:=tI) hk]
  simp only [Qbv,Bd,Bi hk,JP,ieq]
  have hc:(x1==x0[k])=(x0[k]==x1):=Bool.beq_comm
  cases h:x0[k]==x1 with
  |true=>simp [h,hc,Qf]
  |false=>
   simp only [h,hc,Qj,BE,B8]
   cases hq:JP x1 (x0.drop (k+1)) with
   |none=>rfl
   |some j=>
    simp only [B7,Dv,BU,Qf]
    congr 3
    omega
theorem QBP:LO QhC Qhz Qqd 0:=QN (s:=Qbt) fun x y h _ q=>by simp only [QK,QL] at q;exact (QBO x.1 x.2.1 x.2.2.1 x.2.2.2.1 h).trans q
theorem s_f202 (l:List Int)(v:Int)(h:J3 l v=true):Qqg l v=some (.t tI (G0 l v),[]):=by
 simp only [J3,Ba] at h
 simp only [Qqg,JS h,Qf,BC,BF,G0]
 cases JP v l<;>simp [Qf,Qj]
def QhD:Ent:=Qo (.pr (.sl tI) (.pr tI .nil)) (fun x=>(J3 x.1 x.2.1)) (fun x=>(.t tI (G0 x.1 x.2.1)))
theorem Qqh:EM 202 QhD:=mS (lk:=lkL (lkc QBP lkn)) QhC Qqc [((.t 4),some tI)] false (gB gN) fun m=>Qt m fun x hok=>kT (s_f202 x.1 x.2.1 hok)
def Q9 (l:List Int)(v:Int):Bool:=l.contains v
def QBQ:TC:=aF Tryz.f201 []
def g_f201:G:=gG 9 [(202,QhD)] (fun _ _=>none)
def Qqi (p0:List Int)(p1:Int):OV:=br (J3 p0 p1) (some (.t .bool (ige (G0 p0 p1) 0),[])) none
theorem s_f201 (l:List Int)(v:Int)(h:J3 l v=true):Qqi l v=some (.t .bool (Q9 l v),[]):=by
 simp only [Qqi,h,Qf]
 congr 3
 unfold G0 Q9
 cases hq:JP v l with
 |none=>
  have:=Qhy.1 hq
  simp [ige,this]
 |some k=>
  have:v∈l:=Dy fun hn=>by rw [Qhy.2 hn] at hq;cases hq
  simp only [ige,BH.2 this,Ba]
  omega
def QhE:Ent:=Qo (.pr (.sl tI) (.pr tI .nil)) (fun x=>(J3 x.1 x.2.1)) (fun x=>(.t .bool (Q9 x.1 x.2.1)))
theorem Qqj:EM 201 QhE:=mS g_f201 QBQ [((.t 4),some .bool)] false (gB (gD Qqh gN)) fun m=>Qt m fun x hok=>kT (s_f201 x.1 x.2.1 hok)
end Go.Proofs.YthlcobdnemhcdaaGreat.K
noncomputable section
namespace Go.Proofs.YthlcobdnemhcdaaGreat.K
open Go.RowKit
def Zm (b:Int)(s t:List Int):Int:=match JP b s with|some k=>t.getD k 0|none=>0
def XE (a:Int):Int:=if a=1 then 18 else if a=2 then 60 else if a=3∨a=8∨a=21 then 128 else if a=4 then 192 else if a=18∨a=22 then 256 else if a=19 then 64 else if a=20 then 80 else 0
def Gl (b:Int):Int:=if b<512∨16384<b then 0 else F5 b
def Et (b:Int):Int:=if Q9 [160,224,256,384,521] b then G8 .i64 b 2 else 0
def Xh (u:Keep):Int:=
 if u.1=5∨u.1=6∨u.1=10∨u.1=11 then Gl u.2.1
 else if u.1=7∨u.1=12 then Et u.2.1
 else if u.1=9 then Zm u.2.1 [44,65,87] [128,192,256]
 else if u.1=13 then Zm u.2.1 [512,768,1024] [128,192,256]
 else if u.1=14 then Zm u.2.1 [40,128] [40,60]
 else if u.1=15 then Zm u.2.1 [112,168] [80,112]
 else if u.1=16∨u.1=17 then Zm u.2.1 [128,256] [128,256]
 else Zm u.2.1 [0] [XE u.1]
def Je (u:Keep):Bool:=decide (Xh u > 0)
def QC1:TC:=aF Tryz.f150 []
def g_f150:G:=gG 61 [(199,Qht),(200,Qp9),(201,QhE),(202,QhD)] (fun _ _=>none)
def XY (p0:Keep):OV:=
 let a1:=((((ofF p0.1).1).2).2)
 let a2:=G0 ((a1.2).1) p0.2.1
 let a3:=(((a1.2).2).1)
 br (!((ofF p0.1).2)) (some (.t tI 0,[])) (br (ieq (a1.1) 0) (br (ieq p0.2.1 0) (br (cIx a3 0) (some (.t tI (lgt tI a3 (Int.toNat 0)),[])) none) (some (.t tI 0,[]))) (br (ieq (a1.1) 1) (br (ige p0.2.1 512) (br (ile p0.2.1 16384) (some (.t tI (F5 p0.2.1),[])) (some (.t tI 0,[]))) (some (.t tI 0,[]))) (br (ieq (a1.1) 2) (br (J3 ([160,224,256,384,521]) p0.2.1) (br (Q9 ([160,224,256,384,521]) p0.2.1) (br (cNz 2) (some (.t tI (G8 .i64 p0.2.1 2),[])) none) (some (.t tI 0,[]))) none) (br (ieq (a1.1) 3) (br (J3 ((a1.2).1) p0.2.1) (br (ige a2 0) (br (cIx a3 a2) (some (.t tI (lgt tI a3 (Int.toNat a2)),[])) none) (some (.t tI 0,[]))) none) (some (.t tI 0,[]))))))
theorem QC2 (u:Keep)(h1:(ofF u.1).2=false):XY u=some (.t tI 0,[]):=by
 simp only [XY,h1,DA,Qf]
theorem QC3 (u:Keep){v:Int}(h1:(ofF u.1).2=true)(h2:(ofF u.1).1.2.2.1=0)(h3:(ofF u.1).1.2.2.2.2.1=[v]):XY u=some (.t tI (Zm u.2.1 [0] [v]),[]):=by
 simp only [XY,h1,h2,h3,BK,Qj,show ieq 0 0=true from rfl,Qf,show cIx [v] 0=true from rfl]
 simp only [Zm,JP,ieq]
 have hc:((0:Int)==u.2.1)=(u.2.1==0):=Bool.beq_comm
 rw [hc]
 cases u.2.1==0<;>rfl
theorem QC4 (u:Keep)(h1:(ofF u.1).2=true)(h2:(ofF u.1).1.2.2.1=1):XY u=some (.t tI (Gl u.2.1),[]):=by
 simp only [XY,h1,h2,BK,Qj,show ieq 1 0=false from rfl,show ieq 1 1=true from rfl,Qf,Gl]
 refine QV (fun g1=>QV (fun g2=> ?_) (fun g2=> ?_)) (fun g1=> ?_)
 ·rw [if_neg]
  simp [ige,ile] at g1 g2
  omega
 ·rw [if_pos]
  simp [ige,ile] at g1 g2
  omega
 ·rw [if_pos]
  simp [ige] at g1
  omega
theorem QC5 (u:Keep)(h1:(ofF u.1).2=true)(h2:(ofF u.1).1.2.2.1=2):XY u=some (.t tI (Et u.2.1),[]):=by
 simp only [XY,h1,h2,BK,Qj,show ieq 2 0=false from rfl,show ieq 2 1=false from rfl,show ieq 2 2=true from rfl,Qf,Et,show J3 [160,224,256,384,521] u.2.1=true from rfl,show cNz 2=true from rfl]
 cases Q9 [160,224,256,384,521] u.2.1<;>rfl
theorem QC6 (u:Keep){s t:List Int}(h1:(ofF u.1).2=true)(h2:(ofF u.1).1.2.2.1=3)(h3:(ofF u.1).1.2.2.2.1=s)(h4:(ofF u.1).1.2.2.2.2.1=t)(h5:s.length=t.length)(h6:s.length<=100000):XY u=some (.t tI (Zm u.2.1 s t),[]):=by
 have e1:J3 s u.2.1=true:=by simp [J3,h6]
 simp only [XY,h1,h2,h3,h4,e1,BK,Qj,show ieq 3 0=false from rfl,show ieq 3 1=false from rfl,show ieq 3 2=false from rfl,show ieq 3 3=true from rfl,Qf,G0,Zm]
 cases hq:JP u.2.1 s with
 |none=>rfl
 |some k=>
  have hk:=Qqa hq
  have e2:ige (k:Int) 0=true:=by simp only [ige,Ba];omega
  have e3:k<t.length:=by omega
  simp only [e2,Qf,QI,e3,Br]
  rfl
theorem s_f150 (u:Keep):XY u=some (.t tI (Xh u),[]):=by
 obtain ⟨a,b,c⟩:=u
 by_cases hb:a<1∨22<a
 ·rw [QC2 _ (by simp [ofF,hb])]
  have e1:XE a=0:=by
   unfold XE
   repeat rw [if_neg (by omega)]
  have e2:Xh (a,b,c)=0:=by
   unfold Xh
   simp only
   repeat rw [if_neg (by omega)]
   rw [e1]
   simp only [Zm,JP]
   cases (0:Int)==b<;>rfl
  rw [e2]
 ·have hc:a=1∨a=2∨a=3∨a=4∨a=5∨a=6∨a=7∨a=8∨a=9∨a=10∨a=11∨a=12∨a=13∨a=14∨a=15∨a=16∨a=17∨a=18∨a=19∨a=20∨a=21∨a=22:=by omega
  rcases hc with rfl|rfl|rfl|rfl|rfl|rfl|rfl|rfl|rfl|rfl|rfl|rfl|rfl|rfl|rfl|rfl|rfl|rfl|rfl|rfl|rfl|rfl
  all_goals first
   |exact QC3 (v:=XE _) (_,b,c) rfl rfl rfl
   |exact QC4 (_,b,c) rfl rfl
   |exact QC5 (_,b,c) rfl rfl
   |exact QC6 (_,b,c) rfl rfl rfl rfl rfl (by decide)
def QrH:Ent:=Qo (.pr Qi .nil) (fun x=>true) (fun x=>(.t tI (Xh x.1)))
theorem QC7:EM 150 QrH:=mS g_f150 QC1 [((.t 2),some tI)] false (gB (gD Qp2 (gD QBM (gD Qqj (gD Qqh gN))))) fun m=>Qt m fun x _=>kT (s_f150 x.1)
def tc_f92:TC:=aF Tryz.f92 []
def g_f92:G:=gG 6 [(150,QrH)] (fun _ _=>none)
def r_f92 (p0:Keep):OV:=some (.t .bool (igt (Xh p0) 0),[])
theorem s_f92 (u:Keep):r_f92 u=some (.t .bool (Je u),[]):=rfl
def Gm:Ent:=Qo (.pr Qi .nil) (fun x=>true) (fun x=>(.t .bool (Je x.1)))
theorem G9:EM 92 Gm:=mS g_f92 tc_f92 [((.t 2),some .bool)] false (gB (gD QC7 gN)) fun m=>Qt m fun x _=>kT (s_f92 x.1)
def QC8:TC:=aF Tryz.f206 []
def g_f206:G:=gG 25 [] (fun _ _=>none)
def QrI (p0:Int):OV:=br (ilt p0 512) (some (.t tI 0,[])) (br (igt p0 16384) (some (.t tI 0,[])) (br (ilt p0 1024) (some (.t tI 56,[])) (br (ilt p0 2048) (some (.t tI 80,[])) (br (ilt p0 3072) (some (.t tI 112,[])) (br (ilt p0 7680) (some (.t tI 128,[])) (br (ilt p0 15360) (some (.t tI 192,[])) (some (.t tI 256,[]))))))))
theorem s_f206 (b:Int):QrI b=some (.t tI (Gl b),[]):=by
 simp only [QrI]
 repeat' (refine QV ?_ ?_<;>intro _)
 all_goals simp only [ilt,igt,Ba,Bn] at*
 all_goals simp only [Gl,F5,Yv,GY,BC,BF,List.find?_cons,ilt]
 all_goals first
  |(rw [if_pos (by omega)];done)
  |(rw [if_neg (by omega)];repeat first|rw [Yq (by omega)]|rw [QKJ (by omega)]
    rfl)
def QrJ:Ent:=Qo (.pr tI .nil) (fun x=>true) (fun x=>(.t tI (Gl x.1)))
theorem QC9:EM 206 QrJ:=mS g_f206 QC8 [((.t 2),some tI)] false (gB gN) fun m=>Qt m fun x _=>kT (s_f206 x.1)
theorem QrK (a:Int):((∀ k:Int,decide (1<=k/\k<=22)=true->ieq a k=false)/\(a<1∨22<a))∨(a=1∨a=2∨a=3∨a=4∨a=5∨a=6∨a=7∨a=8∨a=9∨a=10∨a=11∨a=12∨a=13∨a=14∨a=15∨a=16∨a=17∨a=18∨a=19∨a=20∨a=21∨a=22):=by
 by_cases hb:a<1∨22<a
 ·refine .inl ⟨fun k hk=> ?_,hb⟩
  simp only [Ba] at hk
  simp only [Zw,Bn]
  omega
 ·right
  omega
def QDa:TC:=aF Tryz.f208 []
def g_f208:G:=gG 21 [] (fun _ _=>none)
def Qit (p0:Int):OV:=br (ieq p0 19) (some (.t tI 64,[])) (br (ieq p0 20) (some (.t tI 80,[])) (some (.t tI 0,[])))
def Qb8 (p0:Int):OV:=br (ieq p0 4) (some (.t tI 192,[])) (br (ieq p0 18) (br (ieq p0 18) (some (.t tI 256,[])) (Qit p0)) (br (ieq p0 22) (some (.t tI 256,[])) (Qit p0)))
def QrL (p0:Int):OV:=br (ieq p0 1) (some (.t tI 18,[])) (br (ieq p0 2) (some (.t tI 60,[])) (br (ieq p0 3) (br (ieq p0 3) (some (.t tI 128,[])) (Qb8 p0)) (br (ieq p0 8) (br (ieq p0 8) (some (.t tI 128,[])) (Qb8 p0)) (br (ieq p0 21) (some (.t tI 128,[])) (Qb8 p0)))))
theorem s_f208 (a:Int):QrL a=some (.t tI (XE a),[]):=by
 rcases QrK a with ⟨e,hb⟩|hc
 ·have e1:XE a=0:=by
   unfold XE
   repeat rw [if_neg (by omega)]
  rw [e1]
  simp only [QrL,Qb8,Qit,e 1 (by decide),e 2 (by decide),e 3 (by decide),e 4 (by decide),e 8 (by decide),e 18 (by decide),e 19 (by decide),e 20 (by decide),e 21 (by decide),e 22 (by decide),Qj]
 ·rcases hc with rfl|rfl|rfl|rfl|rfl|rfl|rfl|rfl|rfl|rfl|rfl|rfl|rfl|rfl|rfl|rfl|rfl|rfl|rfl|rfl|rfl|rfl<;>rfl
def QrM:Ent:=Qo (.pr tI .nil) (fun x=>true) (fun x=>(.t tI (XE x.1)))
theorem QDb:EM 208 QrM:=mS g_f208 QDa [((.t 2),some tI)] false (gB gN) fun m=>Qt m fun x _=>kT (s_f208 x.1)
def Uv (_b:Int)(s t:List Int):Bool:=decide (s.length=t.length/\s.length<=100000)
abbrev Qb9:Sh:=⟨[(0,.ty tI),(1,.ty (.sl tI)),(2,.ty (.sl tI)),(7,.ty tI)],[]⟩
abbrev QrN:Sh:=⟨[(6,.ty tI)],[]⟩
abbrev QrO:Sh:=⟨[],[]⟩
def Qiu:Fg:=Qb9.f
def QrP:TC:=aF Tryz.f207 [(26,pL 0 Qiu),(419,.fg QrO.f),(3365,.fg QrN.f)]
def QrQ:TC:=lb 0 QrP
def QrR (x0:Int)(x1 x2:List Int)(x7:Int):VS:=Qb9.st (x0,x1,x2,x7,()) ()
def Qiv (x6:Int):VS:=QrN.st (x6,()) ()
def Qiw  : VS:=QrO.st () ()
def QDc:VS->Option (Bool×List (Bool×Exit×VS)):=mkL Qb9 (fun x y=>(decide (x.2.1.length=x.2.2.1.length/\x.2.1.length<=100000/\0<=x.2.2.2.1/\x.2.2.2.1<=x.2.1.length))) (fun x y=>[(((JP x.1 (x.2.1.drop x.2.2.2.1.toNat)).isSome),.ret,Qiv (x.2.2.1.getD (x.2.2.2.1.toNat+(JP x.1 (x.2.1.drop x.2.2.2.1.toNat)).getD 0) 0)),(true,.exit 0,Qiw)])
def Qix:G:=gG 24 [] (Ls [QDc])
def Qca (x0:Int)(x1 x2:List Int)(x7:Int):OX:=QA (QC Qix Qiu QrQ) (QrR x0 x1 x2 x7)
def OI (kk:Int->List Int->List Int->Int->OX)(x0:Int)(x1 x2:List Int)(x7:Int):OX:=br (ilt x7 (Qc x1)) (br (cIx x1 x7) (br (ieq (lgt tI x1 (Int.toNat x7)) x0) (br (cIx x2 x7) (some (.ret,Qiv (lgt tI x2 (Int.toNat x7)))) none) (kk x0 x1 x2 (Qh .i64 x7 1))) none) (some (.exit 0,Qiw))
def Qcb (x0:Int)(x1 x2:List Int)(x7:Int):OX:=
 let a1:=JP x0 (x1.drop x7.toNat)
 br (a1.isSome) (some (.ret,Qiv (x2.getD (x7.toNat+a1.getD 0) 0)))<|some (.exit 0,Qiw)
theorem QrS (x0:Int)(x1 x2:List Int)(x7:Int):Qca x0 x1 x2 x7=OI Qca x0 x1 x2 x7:=lnT (x:=OI (fun x0 x1 x2 x7=>some (.normal,QrR x0 x1 x2 x7)) x0 x1 x2 x7) (by simp only [OI,nxA];rfl)
def QrT (p0:Int)(p1 p2:List Int):OV:=
 let a1:=(JP p0 (p1.drop (0:Int).toNat))
 br (decide (p1.length=p2.length/\p1.length<=100000/\0<=(0:Int)/\(0:Int)<=p1.length)) (br (a1.isSome) (some (.t tI (p2.getD ((0:Int).toNat+a1.getD 0) 0),[])) (some (.t tI 0,[]))) none
theorem QDd (x0:Int)(x1 x2:List Int)(x7:Int)(h:(decide (x1.length=x2.length/\x1.length<=100000/\0<=x7/\x7<=x1.length))=true):Qca x0 x1 x2 x7=Qcb x0 x1 x2 x7:=by
 simp only [Ba] at h
 obtain ⟨h1,h2,h3,h4⟩:=h
 obtain ⟨k,rfl⟩:=Bu h3
 refine Q5 x1 (fun k=>Qca x0 x1 x2 (k:Int)=Qcb x0 x1 x2 (k:Int)) ?_ ?_ k (by omega)
 ·rw [QrS]
  simp [OI,Qcb,QD,Qc,Qj,JP]
 ·intro k hk ih
  rw [QrS]
  have hk2:k<x2.length:=by omega
  simp only [OI,QD,Qc,QI,hk,hk2,Br,Qf,Bd,QW (show k<4611686018427387904 by omega),ih,QO (y:=tI) hk,QO (y:=tI) hk2]
  simp only [Qcb,Bd,Bi hk,JP,ieq]
  cases h:x1[k]==x0 with
  |true=>simp [h,Qf,Bm,Bj hk2]
  |false=>
   simp only [h,Qj,BE,B8]
   cases hq:JP x0 (x1.drop (k+1)) with
   |none=>rfl
   |some j=>
    simp only [B7,Dv,BU,Qf]
    rw [show k+1+j=k+(j+1) by omega]
theorem QDe:LO Qix Qiu QrQ 0:=QN (s:=Qb9) fun x y h _ q=>by simp only [QK,QL] at q;exact (QDd x.1 x.2.1 x.2.2.1 x.2.2.2.1 h).trans q
theorem s_f207 (b:Int)(s t:List Int)(h:Uv b s t=true):QrT b s t=some (.t tI (Zm b s t),[]):=by
 simp only [Uv,Ba] at h
 simp only [QrT,Zm]
 rw [Yq ⟨h.1,h.2,B4 0,by omega⟩,Qf]
 simp only [BC,BF,DW]
 cases JP b s<;>simp [Qf,Qj]
def QrU:Ent:=Qo (.pr tI (.pr (.sl tI) (.pr (.sl tI) .nil))) (fun x=>(Uv x.1 x.2.1 x.2.2.1)) (fun x=>(.t tI (Zm x.1 x.2.1 x.2.2.1)))
theorem QDf:EM 207 QrU:=mS (lk:=lkL (lkc QDe lkn)) Qix QrP [((.t 6),some tI)] false (gB gN) fun m=>Qt m fun x hok=>kT (s_f207 x.1 x.2.1 x.2.2.1 hok)
def QDg:TC:=aF Tryz.f159 []
def g_f159:G:=gG 76 [(206,QrJ),(207,QrU),(208,QrM)] (fun _ _=>none)
def Fa (p0:Keep):OV:=br (cNz 2) (some (.t tI (G8 .i64 p0.2.1 2),[])) none
def OJ (p0:Keep):OV:=br (ieq p0.2.1 160) (Fa p0) (br (ieq p0.2.1 224) (Fa p0) (br (ieq p0.2.1 256) (Fa p0) (br (ieq p0.2.1 384) (Fa p0) (br (ieq p0.2.1 521) (Fa p0) (some (.t tI 0,[]))))))
def Qiy (p0:Keep):OV:=br (Uv p0.2.1 ([128,256]) ([128,256])) (some (.t tI (Zm p0.2.1 ([128,256]) ([128,256])),[])) none
def Qiz (p0:Keep):OV:=br (Uv p0.2.1 ([0]) ([(XE p0.1)])) (some (.t tI (Zm p0.2.1 ([0]) ([(XE p0.1)])),[])) none
def QiA (p0:Keep):OV:=br (ieq p0.1 9) (br (Uv p0.2.1 ([44,65,87]) ([128,192,256])) (some (.t tI (Zm p0.2.1 ([44,65,87]) ([128,192,256])),[])) none) (br (ieq p0.1 13) (br (Uv p0.2.1 ([512,768,1024]) ([128,192,256])) (some (.t tI (Zm p0.2.1 ([512,768,1024]) ([128,192,256])),[])) none) (br (ieq p0.1 14) (br (Uv p0.2.1 ([40,128]) ([40,60])) (some (.t tI (Zm p0.2.1 ([40,128]) ([40,60])),[])) none) (br (ieq p0.1 15) (br (Uv p0.2.1 ([112,168]) ([80,112])) (some (.t tI (Zm p0.2.1 ([112,168]) ([80,112])),[])) none) (br (ieq p0.1 16) (br (ieq p0.1 16) (Qiy p0) (Qiz p0)) (br (ieq p0.1 17) (Qiy p0) (Qiz p0))))))
def OK (p0:Keep):OV:=br (ieq p0.1 7) (br (ieq p0.1 7) (OJ p0) (QiA p0)) (br (ieq p0.1 12) (OJ p0) (QiA p0))
def QrV (p0:Keep):OV:=
 let a1:=Gl p0.2.1
 br (ieq p0.1 5) (br (ieq p0.1 5) (some (.t tI a1,[])) (OK p0)) (br (ieq p0.1 6) (br (ieq p0.1 6) (some (.t tI a1,[])) (OK p0)) (br (ieq p0.1 10) (br (ieq p0.1 10) (some (.t tI a1,[])) (OK p0)) (br (ieq p0.1 11) (some (.t tI a1,[])) (OK p0))))
theorem s_f159 (u:Keep):QrV u=some (.t tI (Xh u),[]):=by
 obtain ⟨a,b,c⟩:=u
 have hcv:OJ (a,b,c)=some (.t tI (Et b),[]):=by
  have hh:Q9 [160,224,256,384,521] b=(ieq b 160||(ieq b 224||(ieq b 256||(ieq b 384||ieq b 521)))):=by
   rw [DB]
   simp [Q9,ieq]
  simp only [OJ,Fa,show cNz 2=true from rfl,Qf,Et,hh]
  cases ieq b 160<;>cases ieq b 224<;>cases ieq b 256<;>cases ieq b 384<;>cases ieq b 521<;>rfl
 rcases QrK a with ⟨e,hb⟩|hc
 ·have e2:Xh (a,b,c)=Zm b [0] [XE a]:=by
   unfold Xh
   simp only
   repeat rw [if_neg (by omega)]
  rw [e2]
  simp only [QrV,OK,OJ,Fa,QiA,Qiy,Qiz,e 5 (by decide),e 6 (by decide),e 7 (by decide),e 9 (by decide),e 10 (by decide),e 11 (by decide),e 12 (by decide),e 13 (by decide),e 14 (by decide),e 15 (by decide),e 16 (by decide),e 17 (by decide),Qj]
  rfl
 ·rcases hc with rfl|rfl|rfl|rfl|rfl|rfl|rfl|rfl|rfl|rfl|rfl|rfl|rfl|rfl|rfl|rfl|rfl|rfl|rfl|rfl|rfl|rfl
  all_goals first
   |rfl
   |exact hcv
def QrW:Ent:=Qo (.pr Qi .nil) (fun x=>true) (fun x=>(.t tI (Xh x.1)))
theorem QDh:EM 159 QrW:=mS g_f159 QDg [((.t 2),some tI)] false (gB (gD QC9 (gD QDf (gD QDb gN)))) fun m=>Qt m fun x _=>kT (s_f159 x.1)
def QDi:TC:=aF Tryz.f105 []
def g_f105:G:=gG 6 [(159,QrW)] (fun _ _=>none)
def r_f105 (p0:Keep):OV:=some (.t .bool (igt (Xh p0) 0),[])
theorem s_f105 (u:Keep):r_f105 u=some (.t .bool (Je u),[]):=rfl
def OL:Ent:=Qo (.pr Qi .nil) (fun x=>true) (fun x=>(.t .bool (Je x.1)))
theorem Qcc:EM 105 OL:=mS g_f105 QDi [((.t 2),some .bool)] false (gB (gD QDh gN)) fun m=>Qt m fun x _=>kT (s_f105 x.1)
end Go.Proofs.YthlcobdnemhcdaaGreat.K
noncomputable section
namespace Go.Proofs.YthlcobdnemhcdaaGreat.K
open Go.RowKit
theorem Qsy {d:Dice}{n:Int}(h:dOk d=true):dOk (Qe d n)=true:=Q1 h
theorem XF {d:Dice}{l:List Int}(h:dOk d=true):dOk (Qu d l)=true:=Q1 h
theorem WD {d:Dice}{l:List Int}(h:l≠[]):dof d l∈l:=by
 have hl:0<(l.length:Int):=by
  cases l with
  |nil=>exact absurd rfl h
  |cons a l=>rw [Bq];omega
 have h2:=JC (d:=d) hl
 have h3:(Ql d l.length).toNat<l.length:=by omega
 unfold dof
 rw [Bm,Bj h3]
 exact Bx h3
def szL (a:Int):List Int:=
 if a=5∨a=6∨a=10∨a=11 then [2048,1024,512,3072,1023,4096,16384]
 else if a=7∨a=12 then [256,160,224,384,521]
 else if a=9 then [65,44,87]
 else if a=13 then [768,512,1024]
 else if a=14 then [128,40]
 else if a=15 then [168,112]
 else if a=16∨a=17 then [128,256]
 else []
def sizeV (d:Dice)(a:Int):Int:=if szL a=[] then 0 else dof d (szL a)
def sizeN (d:Dice)(a:Int):Dice:=if szL a=[] then d else Qu d (szL a)
end Go.Proofs.YthlcobdnemhcdaaGreat.K
noncomputable section
namespace Go.Proofs.YthlcobdnemhcdaaGreat.K
open Go.RowKit
noncomputable section
def WV {α:Type}(l:List α)(n i:Int):Bool:=decide (n=l.length/\0<=i/\i<=n/\l.length<=9223372036854775807)
theorem Qv9 {α:Type}{l:List α}{n i:Int}(h:WV l n i=true):n=l.length/\l.length<=9223372036854775807∧ ∃ k:Nat,i=k/\k<=l.length:=by
 simp only [WV,Ba] at h
 obtain ⟨h1,h2,h3,h4⟩:=h
 exact ⟨h1,h4,i.toNat,by omega,by omega⟩
theorem Qwa {α:Type}{l:List α}(h:l.length<=9223372036854775807):WV l (Qc l) 0=true:=by
 simp only [WV,Ba,Qc]
 exact ⟨trivial,by omega,by omega,h⟩
theorem Qk6 {k:Nat}(h:k<9223372036854775807):Qh .i64 (k:Int) 1=((k+1:Nat):Int):=by rw [JU (by omega)];omega
def Ju {α:Type}(m:α->Bool):List α->Option Nat
 | []=>none
 |a::l=>if m a then some 0 else (Ju m l).map (· + 1)
theorem VK {α:Type}{m:α->Bool}: ∀ {l:List α},Ju m l=none↔l.any m=false
 | []=>by simp [Ju]
 |a::l=>by
  have ih:=VK (m:=m) (l:=l)
  unfold Ju
  cases h:m a with
  |true=>simp [h]
  |false=>simpa [h] using ih
theorem Qwb {α:Type}{m:α->Bool}: ∀ {l:List α} {k:Nat},Ju m l=some k→ ∃ h:k<l.length,m l[k]=true
 | [],_,h=>by cases h
 |a::l,k,h=>by
  unfold Ju at h
  split at h
  ·rename_i ha
   injection h with h
   subst h
   exact ⟨by simp,ha⟩
  ·obtain ⟨j,h1,h2⟩:=Bf.1 h
   subst h2
   obtain ⟨q,h3⟩:=Qwb h1
   exact ⟨by simp only [Bq];omega,h3⟩
theorem Qk7 {α:Type}{m:α->Bool}{l:List α}:(Ju m l).isSome=l.any m:=by
 cases h:Ju m l with
 |none=>rw [VK.1 h];rfl
 |some k=>
  obtain ⟨q,h1⟩:=Qwb h
  exact (List.any_eq_true.2 ⟨l[k],Bx q,h1⟩).symm
theorem Ig (s:ByteArray):(Q3 s).length=s.size:=by simp [Q3]
def hasS (l:List ByteArray)(v:ByteArray):Bool:=l.any (seq v)
def XN (c:Int):Bool:=decide (32<c/\c<=126)
def JL (s:ByteArray):Bool:=(Q3 s).all XN&&decide (1<=s.size/\s.size<=32)
def Jz (s:ByteArray):Bool:=decide (s.size<=9223372036854775807)
abbrev QdZ:Sh:=⟨[(0,.ty .str),(6,.ty (.sl (.int .u8))),(7,.ty tI),(8,.ty tI)],[]⟩
abbrev Qk8:Sh:=⟨[(2,.ty .bool)],[]⟩
abbrev Qwc:Sh:=⟨[(0,.ty .str)],[]⟩
def Qk9:Fg:=QdZ.f
def Qwd:TC:=aF Tryz.f178 [(26,pL 0 Qk9),(421,.fg Qwc.f),(13517,.fg Qk8.f)]
def Qwe:TC:=lb 0 Qwd
def Qwf (x0:ByteArray)(x6:List Int)(x7 x8:Int):VS:=QdZ.st (x0,x6,x7,x8,()) ()
def GF (x2:Bool):VS:=Qk8.st (x2,()) ()
def Qla (x0:ByteArray):VS:=Qwc.st (x0,()) ()
def QIo:VS->Option (Bool×List (Bool×Exit×VS)):=mkL QdZ (fun x y=>(WV x.2.1 x.2.2.1 x.2.2.2.1)) (fun x y=>[((!((x.2.1.drop x.2.2.2.1.toNat).all XN)),.ret,GF (false)),(true,.exit 0,Qla (x.1))])
def Qlb:G:=gG 27 [(29000144,OC)] (Ls [QIo])
def Qd0 (x0:ByteArray)(x6:List Int)(x7 x8:Int):OX:=QA (QC Qlb Qk9 Qwe) (Qwf x0 x6 x7 x8)
def VL (kk:ByteArray->List Int->Int->Int->OX)(x0:ByteArray)(x6:List Int)(x7 x8:Int):OX:=
 let a1:=lgt (.int .u8) x6 (Int.toNat x8)
 br (ilt x8 x7) (br (cIx x6 x8) (br (ile a1 32) (some (.ret,GF false)) (br (igt a1 126) (some (.ret,GF false)) (kk x0 x6 x7 (Qh .i64 x8 1)))) none) (some (.exit 0,Qla x0))
def Qd1 (x0:ByteArray)(x6:List Int)(x7 x8:Int):OX:=br (!((x6.drop x8.toNat).all XN)) (some (.ret,GF (false)))<|some (.exit 0,Qla (x0))
theorem Qwg (x0:ByteArray)(x6:List Int)(x7 x8:Int):Qd0 x0 x6 x7 x8=VL Qd0 x0 x6 x7 x8:=lnT (x:=VL (fun x0 x6 x7 x8=>some (.normal,Qwf x0 x6 x7 x8)) x0 x6 x7 x8) (by simp only [VL,nxA];rfl)
def Qwh (p0:ByteArray):OV:=br (Xe p0) (br (WV (Q3 p0) (Qc (Q3 p0)) (0:Int)) (br (!(((Q3 p0).drop (0:Int).toNat).all XN)) (some (.t .bool (false),[])) (br (ige (ZZ (p0)) 1) (some (.t .bool (ile (ZZ (p0)) 32),[])) (some (.t .bool false,[])))) none) none
theorem QIp (x0:ByteArray)(x6:List Int)(x7 x8:Int)(h:(WV x6 x7 x8)=true):Qd0 x0 x6 x7 x8=Qd1 x0 x6 x7 x8:=by
 obtain ⟨rfl,h3,k,rfl,hk⟩:=Qv9 h
 clear h
 refine Q5 x6 (fun k=>Qd0 x0 x6 (x6.length:Int) (k:Int)=Qd1 x0 x6 (x6.length:Int) (k:Int)) ?_ ?_ k hk
 ·rw [Qwg]
  simp [VL,Qd1,QD,Qj]
 ·intro k hk ih
  rw [Qwg]
  simp only [VL,QD,QI,hk,Br,Qf,Bd,Qk6 (show k<9223372036854775807 by omega),QO (y:= .int .u8) hk,ih]
  simp only [Qd1,Bd,Bi hk,B9,XN]
  by_cases c1:x6[k]<=32
  ·rw [show ile x6[k] 32=true from Be c1,Qf,Bp (show ¬ (32<x6[k]/\x6[k]<=126) by omega)]
   rfl
  ·rw [show ile x6[k] 32=false from Bp c1,Qj]
   by_cases c2:126<x6[k]
   ·rw [show igt x6[k] 126=true from Be (by omega),Qf,Bp (show ¬ (32<x6[k]/\x6[k]<=126) by omega)]
    rfl
   ·rw [show igt x6[k] 126=false from Bp (by omega),Qj,Be (show 32<x6[k]/\x6[k]<=126 by omega),By]
theorem QIq:LO Qlb Qk9 Qwe 0:=QN (s:=QdZ) fun x y h _ q=>by simp only [QK,QL] at q;exact (QIp x.1 x.2.1 x.2.2.1 x.2.2.2.1 h).trans q
theorem s_f178 (s:ByteArray)(h:Jz s=true):Qwh s=some (.t .bool (JL s),[]):=by
 simp only [Jz,Ba] at h
 have hl:=Ig s
 simp only [Qwh,show Xe s=true from Be (by omega),Qwa (show (Q3 s).length<=9223372036854775807 by omega),Qf,BC,BF,JL]
 cases (Q3 s).all XN with
 |false=>rfl
 |true=>
  simp only [BK,Qj,By]
  refine QV (fun g=> ?_) (fun g=> ?_)
  ·simp only [ige,ZZ,Ba] at g
   apply GR
   rw [DB]
   simp only [ile,ZZ,Ba]
   omega
  ·simp only [ige,ZZ,Bn] at g
   apply GR
   rw [eq_comm,Bn]
   omega
def Qd2:Ent:=Qo (.pr .str .nil) (fun x=>(Jz x.1)) (fun x=>(.t .bool (JL x.1)))
theorem Qlc:EM 178 Qd2:=mS (lk:=lkL (lkc QIq lkn)) Qlb Qwd [((.t 2),some .bool)] false (gB (gC QbU QbV gN)) fun m=>Qt m fun x hok=>kT (s_f178 x.1 hok)
theorem QIr {s:ByteArray}{k:Nat}(h:k<s.size):sgt s (k:Int)=(Q3 s)[k]'(by rw [Ig];exact h):=by
 have hl:k<s.data.toList.length:=by simpa using h
 simp only [sgt,Q3,Bd,List.getElem_map,Bm,Bj hl,BU]
abbrev Qd3:Sh:=⟨[(0,.ty .str),(3,.ty tI)],[]⟩
abbrev Qwi:Sh:=⟨[],[]⟩
def Qld:Fg:=Qd3.f
def Qwj:TC:=aF Tryz.f187 [(58,pL 0 Qld),(931,.fg Qwi.f),(7461,.fg Qk8.f)]
def Qwk:TC:=lb 0 Qwj
def Qwl (x0:ByteArray)(x3:Int):VS:=Qd3.st (x0,x3,()) ()
def Qle  : VS:=Qwi.st () ()
def QIs:VS->Option (Bool×List (Bool×Exit×VS)):=mkL Qd3 (fun x y=>(Jz x.1&&decide (0<=x.2.1/\x.2.1<=x.1.size))) (fun x y=>[((!(((Q3 x.1).drop x.2.1.toNat).all XN)),.ret,GF (false)),(true,.exit 0,Qle)])
def Qlf:G:=gG 28 [] (Ls [QIs])
def Qd4 (x0:ByteArray)(x3:Int):OX:=QA (QC Qlf Qld Qwk) (Qwl x0 x3)
def VM (kk:ByteArray->Int->OX)(x0:ByteArray)(x3:Int):OX:=br (ilt x3 (ZZ x0)) (br (cSx x0 x3) (br (ilt (sgt x0 x3) 33) (some (.ret,GF false)) (br (cSx x0 x3) (br (igt (sgt x0 x3) 126) (some (.ret,GF false)) (kk x0 (Qh .i64 x3 1))) none)) none) (some (.exit 0,Qle))
def Qd5 (x0:ByteArray)(x3:Int):OX:=br (!(((Q3 x0).drop x3.toNat).all XN)) (some (.ret,GF (false)))<|some (.exit 0,Qle)
theorem Qwm (x0:ByteArray)(x3:Int):Qd4 x0 x3=VM Qd4 x0 x3:=lnT (x:=VM (fun x0 x3=>some (.normal,Qwl x0 x3)) x0 x3) (by simp only [VM,nxA];rfl)
def Qwn (p0:ByteArray):OV:=br (ilt (ZZ p0) 1) (some (.t .bool false,[])) (br (igt (ZZ p0) 32) (some (.t .bool false,[])) (br (Jz p0&&decide (0<=(0:Int)/\(0:Int)<=p0.size)) (br (!(((Q3 p0).drop (0:Int).toNat).all XN)) (some (.t .bool (false),[])) (some (.t .bool true,[]))) none))
theorem QIt (x0:ByteArray)(x3:Int)(h:(Jz x0&&decide (0<=x3/\x3<=x0.size))=true):Qd4 x0 x3=Qd5 x0 x3:=by
 simp only [Jz,Bb,Ba] at h
 obtain ⟨h0,h1,h2⟩:=h
 obtain ⟨k,rfl⟩:=Bu h1
 have hl:=Ig x0
 refine Q5 (Q3 x0) (fun k=>Qd4 x0 (k:Int)=Qd5 x0 (k:Int)) ?_ ?_ k (by omega)
 ·rw [Qwm]
  simp [VM,Qd5,ilt,ZZ,hl,Qj,Dq (show (Q3 x0).length<=x0.size by omega)]
 ·intro k hk ih
  have hk2:k<x0.size:=by omega
  rw [Qwm]
  simp only [VM,show ilt (k:Int) (ZZ x0)=true from by simp only [ilt,ZZ,Ba];omega,show cSx x0 (k:Int)=true from by simp only [cSx,Ba];omega,Qf,QIr hk2,Qk6 (show k<9223372036854775807 by omega),ih]
  simp only [Qd5,Bd,Bi hk,B9,XN]
  by_cases c1:(Q3 x0)[k]<33
  ·rw [show ilt (Q3 x0)[k] 33=true from Be c1,Qf,Bp (show ¬ (32<(Q3 x0)[k]/\(Q3 x0)[k]<=126) by omega)]
   rfl
  ·rw [show ilt (Q3 x0)[k] 33=false from Bp c1,Qj]
   by_cases c2:126<(Q3 x0)[k]
   ·rw [show igt (Q3 x0)[k] 126=true from Be c2,Qf,Bp (show ¬ (32<(Q3 x0)[k]/\(Q3 x0)[k]<=126) by omega)]
    rfl
   ·rw [show igt (Q3 x0)[k] 126=false from Bp c2,Qj,Be (show 32<(Q3 x0)[k]/\(Q3 x0)[k]<=126 by omega),By]
theorem QIu:LO Qlf Qld Qwk 0:=QN (s:=Qd3) fun x y h _ q=>by simp only [QK,QL] at q;exact (QIt x.1 x.2.1 h).trans q
theorem s_f187 (s:ByteArray)(h:Jz s=true):Qwn s=some (.t .bool (JL s),[]):=by
 simp only [Qwn]
 unfold JL
 refine QV (fun g=> ?_) (fun g=>QV (fun g2=> ?_) (fun g2=> ?_))
 ·simp only [ilt,ZZ,Ba] at g
  rw [Bp (show ¬ (1<=s.size/\s.size<=32) by omega),Bool.and_false]
 ·simp only [igt,ZZ,Ba] at g2
  rw [Bp (show ¬ (1<=s.size/\s.size<=32) by omega),Bool.and_false]
 ·simp only [ilt,igt,ZZ,Bn] at g g2
  rw [h,Be (show (0:Int)<=0/\(0:Int)<=s.size by omega),Be (show 1<=s.size/\s.size<=32 by omega),Dl,Dl,Qf,BC,BF]
  cases (Q3 s).all XN<;>rfl
def Qlg:Ent:=Qo (.pr .str .nil) (fun x=>(Jz x.1)) (fun x=>(.t .bool (JL x.1)))
theorem Qwo:EM 187 Qlg:=mS (lk:=lkL (lkc QIu lkn)) Qlf Qwj [((.t 2),some .bool)] false (gB gN) fun m=>Qt m fun x hok=>kT (s_f187 x.1 hok)
def ZH (d:Dice)(l:List ByteArray):ByteArray:=l.getD (Ql d l.length).toNat ByteArray.empty
def Y7 (d:Dice)(l:List ByteArray):Dice:=Qe d l.length
def Xv (d:Dice)(l:List ByteArray):Bool:=dOk d&&decide (0<l.length/\l.length<4611686018427387904)
def tc_f49:TC:=aF Tryz.f49 []
def g_f49:G:=gG 12 [(32,U1)] (fun _ _=>none)
def r_f49 (d0:Dice)(p1:List ByteArray):OV:=br (QG d0 (Qc p1)) (br (cIx p1 (Ql d0 (Qc p1))) (some (.t .str (lgt .str p1 (Int.toNat (Ql d0 (Qc p1)))),[.box (.t QF (Qe d0 (Qc p1)))])) none) none
theorem s_f49 (d:Dice)(l:List ByteArray)(h:Xv d l=true):r_f49 d l=some (.t .str (ZH d l),[.box (.t QF (Y7 d l))]):=by
 simp only [Xv,Bb,Ba] at h
 obtain ⟨h1,h2,h3⟩:=h
 simp only [r_f49]
 have e1:QG d (Qc l)=true:=by simp only [QG,h1,Qc,By,Ba];omega
 rw [e1,Qf]
 have h4:=JC (d:=d) (n:=Qc l) (by unfold Qc;omega)
 have e2:cIx l (Ql d (Qc l))=true:=by simp only [cIx,Ba];exact h4
 rw [e2,Qf]
 rfl
def Qd6:Ent:=Gi QF (.pr (.sl .str) .nil) (fun d x=>(Xv d x.1)) (fun d x=>(.t .str (ZH d x.1))) (fun d x=>(Y7 d x.1))
theorem Qlh:EM 49 Qd6:=mS g_f49 tc_f49 [((.t 4),some .str)] false (gB (gD GT gN)) fun m=>El m rfl fun d x hok=>kT (s_f49 d x.1 hok)
end
end Go.Proofs.YthlcobdnemhcdaaGreat.K
noncomputable section
namespace Go.Proofs.YthlcobdnemhcdaaGreat.K
open Go.RowKit
def byt (n:Int)(k:Nat):Int:=(n / 256 ^ k) % 256
theorem QhZ (a:Int):icv .u8 a=a % 256:=by
 show IntKind.u8.wrap a=_
 simp [IntKind.wrap,IntKind.bits,IntKind.signed]
theorem QCq {kd:IntKind}(hb:kd.bits=64)(a:Int)(k:Nat)(hk:k<=8):Wg kd a ((8*k:Nat):Int)=a / 256 ^ k:=by
 unfold Wg
 rw [Bd,hb,Nat.min_eq_left (by omega),Int.fdiv_eq_ediv_of_nonneg _ (by exact Int.pow_nonneg (by decide)),Int.pow_mul]
 rfl
def Un (n:Int):Nat->List Int
 |0=>[]
 |k+1=>byt n k::Un n k
theorem QqS (n:Int): ∀ k,(Un n k).length=k
 |0=>rfl
 |k+1=>by rw [Un,Bq,QqS n k]
def nbN (n:Int):Nat:=
 if-128<=n/\n<128 then 1 else if-32768<=n/\n<32768 then 2 else if-8388608<=n/\n<8388608 then 3
 else if-2147483648<=n/\n<2147483648 then 4 else if-549755813888<=n/\n<549755813888 then 5
 else if-140737488355328<=n/\n<140737488355328 then 6 else if-36028797018963968<=n/\n<36028797018963968 then 7 else 8
theorem QbK (n:Int):nbN n<=8:=by unfold nbN;(repeat' split)<;>omega
def Xd (x b:Int):Bool:=(x != 0&&x != -1)||(x==0&&decide (b≥128))||(x== -1&&decide (b<128))
def ZC:Nat->Int->List Int->List Int
 |0,_,b=>b
 |k+1,x,b=>bif Xd x (b.headD 0) then ZC k (x / 256) (x % 256::b) else b
theorem QCr (x y:Int):Xd x y=true↔((x≠0/\x≠ -1)∨(x=0/\y≥128)∨(x= -1/\y<128)):=by simp [Xd,or_assoc]
theorem Ee (n:Int){k:Nat}(h:1<=k):Un n k=byt n (k-1)::Un n (k-1):=by
 obtain ⟨j,rfl⟩: ∃ j,k=j+1:=⟨k-1,by omega⟩
 rfl
theorem Qh0 {n:Int}(k:Nat)(h1:k<=8)(h0:1<=k)(h: -9223372036854775808<=n/\n<9223372036854775808):Xd (n / 256 ^ k) (byt n (k-1))=decide (k<nbN n):=by
 have key:((n / 256 ^ k≠0/\n / 256 ^ k≠ -1)∨(n / 256 ^ k=0/\byt n (k-1)≥128)∨(n / 256 ^ k= -1/\byt n (k-1)<128))↔k<nbN n:=by
  unfold nbN byt
  have:k=1∨k=2∨k=3∨k=4∨k=5∨k=6∨k=7∨k=8:=by omega
  rcases this with rfl|rfl|rfl|rfl|rfl|rfl|rfl|rfl<;>simp only [Int.reducePow,Nat.reduceSub]<;>(repeat' split)<;>omega
 rw [DB,QCr,decide_eq_true_iff,key]
theorem QCs (n:Int):1<=nbN n:=by unfold nbN;(repeat' split)<;>omega
theorem QqT {n:Int}(h: -9223372036854775808<=n/\n<9223372036854775808): ∀ f k,1<=k->k<=nbN n->nbN n-k<=f->ZC (f+1) (n / 256 ^ k) (Un n k)=Un n (nbN n)
 |0,k,h1,h2,h3=>by
  have e:k=nbN n:=by omega
  rw [Ee n h1,ZC,List.headD_cons,Qh0 k (by have:=QbK n;omega) h1 h,Bp (by omega),B0, ← e, ← Ee n h1]
 |f+1,k,h1,h2,h3=>by
  have h8:=QbK n
  rcases Dc k (nbN n) with h4|h4
  ·rw [Ee n h1,ZC,List.headD_cons,Qh0 k (by omega) h1 h,Be (by omega),Da]
   have e:n / 256 ^ k / 256=n / 256 ^ (k+1):=by rw [Int.pow_succ,Int.ediv_ediv_of_nonneg (Int.pow_nonneg (by decide))]
   rw [e, ← Ee n h1]
   exact QqT h f (k+1) (by omega) (by omega) (by omega)
  ·have e:k=nbN n:=by omega
   rw [Ee n h1,ZC,List.headD_cons,Qh0 k (by omega) h1 h,Bp (by omega),B0, ← e, ← Ee n h1]
def G1 (n:Int):List Int:=Un n (nbN n)
theorem QCt {n:Int}(h: -9223372036854775808<=n/\n<9223372036854775808):ZC 9 (n / 256) [byt n 0]=G1 n:=by
 have:=QqT h 8 1 (Bw _) (QCs n) (by have:=QbK n;omega)
 simpa [Un,G1] using this
def Yk:Nat->Nat->List Int
 |0,_=>[]
 |f+1,n=>if n=0 then [] else Yk f (n / 256)++[((n % 256:Nat):Int)]
def XA:Nat->Nat->Nat
 |0,_=>0
 |f+1,n=>if n=0 then 0 else XA f (n / 256)+1
theorem Qh1: ∀ f n,(Yk f n).length=XA f n
 |0,_=>rfl
 |f+1,n=>by
  simp only [Yk,XA]
  split
  ·rfl
  ·rw [Bl,Qh1 f];rfl
theorem Qh2: ∀ f n,XA f n<=f
 |0,_=>Bw _
 |f+1,n=>by
  simp only [XA]
  split
  ·omega
  ·have:=Qh2 f (n / 256);omega
theorem QCu (n k:Nat):byt (n:Int) k=((n / 256 ^ k % 256:Nat):Int):=by
 unfold byt
 have:(256:Int) ^ k=((256 ^ k:Nat):Int):=by simp
 rw [this]
 omega
def Ge (n:Nat):List Int:=if n<128 then [(n:Int)] else (((128+XA 8 n:Nat)):Int)::Yk 8 n
mutual
def QbL:Val->List Int
 |.mk t b _ es=>icv .u8 t::(Ge (b.length+(Z7 es).length)++(b++Z7 es))
def Z7:List Val->List Int
 | []=>[]
 |v::r=>QbL v++Z7 r
end
mutual
def Gf:Val->Nat
 |.mk _ _ _ es=>Ef es+1
def Ef:List Val->Nat
 | []=>0
 |v::r=>max (Gf v) (Ef r)
end
def okV:Nat->Val->Bool
 |0,_=>false
 |n+1,.mk t b nst es=>(t==1||t==2||t==12||t==48)&&(nst==(t==48))&&(bif nst then b.isEmpty else es.isEmpty)&&decide (b.length<=100000/\es.length<=100000)&&es.all (okV n)
theorem QqU {n:Nat}{t:Int}{b:List Int}{q:Bool}{es:List Val}(h:okV (n+1) (.mk t b q es)=true):
  (t=1∨t=2∨t=12∨t=48)/\q=(t==48)/\(q=true->b=[])/\(q=false->es=[])/\b.length<=100000/\es.length<=100000∧ ∀ v∈es,okV n v=true:=by
 simp only [okV,Bb,Dh,Di,Ba,Bh] at h
 obtain ⟨⟨⟨⟨h1,h2⟩,h3⟩,h4⟩,h5⟩:=h
 refine ⟨by omega,h2,fun hq=> ?_,fun hq=> ?_,h4.1,h4.2,h5⟩
 ·rw [hq,Da] at h3
  exact DZ.1 h3
 ·rw [hq,B0] at h3
  exact DZ.1 h3
theorem okV_up: ∀ {n:Nat} {v:Val},okV n v=true->okV (n+1) v=true
 |0,_,h=>by cases h
 |n+1,.mk t b q es,h=>by
  simp only [okV,Bb,Bh] at h ⊢
  exact ⟨h.1,fun v hv=>by have:=okV_up (h.2 v hv);simpa only [okV] using this⟩
theorem QqV: ∀ {n:Nat} {es:List Val},(∀ v∈es,Gf v<=n)->Ef es<=n
 |_,[],_=>B3 _
 |n,v::r,h=>by
  rw [Ef]
  have:=h v (by simp)
  have:=QqV (es:=r) fun u hu=>h u (by simp [hu])
  omega
theorem QbM: ∀ {n:Nat} {v:Val},okV n v=true->Gf v<=n
 |0,_,h=>by cases h
 |n+1,.mk t b q es,h=>by
  rw [Gf]
  have:=QqV (n:=n) fun v hv=>QbM ((QqU h).2.2.2.2.2.2 v hv)
  omega
theorem QCv (t:Int)(b:List Int)(q:Bool)(es:List Val):b.length+(Z7 es).length<=(QbL (.mk t b q es)).length:=by
 rw [QbL,Bq,Bl,Bl]
 omega
end Go.Proofs.YthlcobdnemhcdaaGreat.K
noncomputable section
namespace Go.Proofs.YthlcobdnemhcdaaGreat.K
open Go.RowKit
mutual
def V.plain:V->Bool
 |.t (.int _) _=>true
 |.t .bool _=>true
 |.tu vs=>V.plains vs
 |_=>false
def V.plains:List V->Bool
 | []=>true
 |v::vs=>v.plain&&V.plains vs
end
section
variable {X X':Nat->Nat->Prop}{w w':World}{σ σ':Pl}
mutual
theorem QzY: ∀ (v:V) (u:Value),v.plain=true->C X w σ v.d u->C X' w' σ' v.d u
 |.t (.int _) x,u,_,h=>by simpa only [V.d,Ty.d,C] using h
 |.t .bool x,u,_,h=>by simpa only [V.d,Ty.d,C] using h
 |.tu vs,u,hp,h=>by
  simp only [V.plain] at hp
  simp only [V.d,C] at h ⊢
  obtain ⟨us,h1,h2⟩:=h
  exact ⟨us,h1,QoB vs us hp h2⟩
theorem QoB: ∀ (vs:List V) (us:List Value),V.plains vs=true->Cs X w σ (V.ds vs) us->Cs X' w' σ' (V.ds vs) us
 | [],us,_,h=>by simpa only [V.ds,Cs] using h
 |v::vs,us,hp,h=>by
  simp only [V.plains,Bb] at hp
  simp only [V.ds,Cs] at h ⊢
  obtain ⟨u,us',h1,h2,h3⟩:=h
  exact ⟨u,us',h1,QzY v u hp.1 h2,QoB vs us' hp.2 h3⟩
end
end
section
variable {P:Program}
end
end Go.Proofs.YthlcobdnemhcdaaGreat.K
noncomputable section
namespace Go.Proofs.YthlcobdnemhcdaaGreat.K
open Go.RowKit
section
variable {P:Program}
theorem Qdv {f:FuncId}{e:Nat}{y:Ty}{N:Nat}{ok:(Ty.pr (.sl y) .nil).T->Bool}(hlt:f<1000000)
  (hok: ∀ x,ok x=true->x.1.length<=N)
  (h: ∀ (A:Option Addr) (c n:Nat) (cells:List Value) (w:World),Sl w (.slice A n c) y.sz n cells->(∀ u∈cells,u.oneCell'=true)->n<=N→
   Calls P f #[.slice A n c] w fun r w'=> ∃ sv,r= .returned sv/\w'.ownsRow w.heap.size e y.sz sv n cells/\Below w.heap.size w w'):
  Qp P f (Qq (XW (.pr (.sl y) .nil) ok (fun _=> .ms 50000) (fun x=>[.arr e y x.1]))):=by
 intro args objs r os hF X w σ vs hfin hl hc
 unfold Qq XW at hF
 cases objs with
 |cons o os'=>simp at hF
 |nil=>
  simp only at hF
  cases ha:(Ty.pr (.sl y) .nil).args args with
  |none=>rw [ha] at hF;cases hF
  |some x=>
   rw [ha] at hF
   simp only at hF
   split at hF
   ·rename_i r' os' hq
    simp only [Bc,Bo] at hF hq
    obtain ⟨rfl,rfl⟩:=hF
    obtain ⟨h1,rfl,rfl⟩:=hq
    have hcc:=Ur ha hc
    obtain ⟨l,u0⟩:=x
    have hlen:=hok _ h1
    simp only [Ty.canon,V.ds,V.d,Ty.d,Cs,C] at hcc
    obtain ⟨u,us,rfl,⟨A,c,rfl,hnc,hmx,hz,hp⟩,rfl⟩:=hcc
    have hsl: ∃ cells,Sl w (.slice A l.length c) y.sz l.length cells/\(∀ u∈cells,u.oneCell'=true)/\Cs X w QT (List.flatMap y.cells l) cells:=by
     by_cases hq:l=[]
     ·subst hq
      exact ⟨[],⟨by simp,A,c,rfl,B3 _,hmx,fun hn=>absurd hn (by simp)⟩,fun u hu=>(by cases hu),by simp [Cs]⟩
     ·have hn:0<l.length:=List.length_pos_iff.2 hq
      obtain ⟨b,off,vs,rfl,g1,g2⟩:=hp hn
      have hvl:=Cs.len g1
      rw [WP] at hvl
      exact ⟨vs,⟨hvl,_,c,rfl,hnc,hmx,fun _=>⟨b,off,rfl,g2.lt,fun j u hu=>g2.at_ j u hu⟩⟩,g2.one,g1⟩
    obtain ⟨cells,s1,s2,s3⟩:=hsl
    refine (VT hlt (h A c l.length cells w s1 s2 hlen)).mono ?_
    rintro _ w' ⟨sv,rfl,ho,hb⟩
    let X':Nat->Nat->Prop:=fun b q=>X b q∨some b=sv.ownBlock
    let σ':Pl:=fun k=>if k=50000 then .arr sv else σ k
    have hsv:sv.oneCell'=true:=by
     rcases ho.2 with ⟨rfl,_⟩|⟨g,cap,cur,rfl,_⟩<;>rfl
    have hlo: ∀ b,sv.ownBlock=some b->w.heap.size<=b/\b<w'.heap.size:=fun b hbk=>ho.lt b hbk
    have ex:Ext0 X w X' w':=⟨hb.size,fun b q hbl hx=>⟨fun hx'=>by
     rcases hx' with hx'|hx'
     ·exact hx hx'
     ·have:=hlo b hx'.symm
      omega,World.cell?_of_block (w:=w) (a:=⟨b,q,none⟩) (hb.block b hbl)⟩⟩
    have e0:σ' 50000= .arr sv:=if_pos rfl
    refine ⟨sv,X',σ',rfl, ?_,⟨fun b q hq=> ?_,fun j o hj=> ?_,fun i j b hij hi hj=>by simp at hi hj;omega,by simp,fun j hj=>by simp at hj,fun j b _ hj hl=> ?_,Qrs hb,fun b q hbl hq=> ?_,fun b q _ _ hq=> .inl hq⟩⟩
    ·simp only [V.d,C]
     exact ⟨e0,hsv⟩
    ·rcases hq with hq|hq
     ·exact BZ (hfin b q hq) hb.size
     ·exact (hlo b hq.symm).2
    ·cases j with
     |zero=>
      simp only [BR,Bc] at hj
      subst hj
      have ho0:w'.ownsRow 0 e y.sz sv l.length cells:=by
       refine ⟨ho.1, ?_⟩
       rcases ho.2 with hq|⟨g,cap,cur,q1,q2,q3⟩
       ·exact .inl hq
       ·exact .inr ⟨g,cap,cur,q1,B3 _,q3⟩
      exact ⟨⟨sv,cells,e0,.of ho0,Cs.ext0 ex _ _ (fun _ _=>rfl) s3,s2,fun b hbk o=> .inr hbk.symm⟩,fun _ h=>by cases h⟩
     |succ j=>simp at hj
    ·simp only [Bq,BG] at hj
     have:j=0:=by omega
     subst this
     left
     rw [show 50000+0=50000 from rfl,e0] at hl
     exact (hlo b hl).1
    ·rcases hq with hq|hq
     ·exact hq
     ·have:=hlo b hq.symm
      omega
   ·cases hF
theorem QGw {f:FuncId}{e:Nat}{y:Ty}{a:Ty}{ok:a.T->Bool}{L:a.T->List y.T}(h:Qp P f (Qq (XW a ok (fun _=> .ms 50000) (fun x=>[.arr e y (L x)])))):Qp P f (Qq (Qo a ok (fun x=> .t (.sl y) (L x)))):=by
 intro args objs r os hF X w σ vs hfin hl hc
 unfold Qq Qo at hF
 cases objs with
 |cons o os'=>simp at hF
 |nil=>
  simp only at hF
  cases ha:a.args args with
  |none=>rw [ha] at hF;cases hF
  |some x=>
   rw [ha] at hF
   simp only at hF
   split at hF
   ·rename_i r' os' hq
    simp only [Bc,Bo] at hF hq
    obtain ⟨rfl,rfl⟩:=hF
    obtain ⟨h1,rfl,rfl⟩:=hq
    have h2:=h args [] (.ms 50000) [.arr e y (L x)] (by unfold Qq XW;simp only [ha,h1]) X w σ vs hfin hl hc
    refine h2.mono ?_
    rintro e0 w' ⟨u,X',σ',rfl,hu,hE⟩
    have hat:=(hE.at_ 0 _ rfl).1
    let X'':Nat->Nat->Prop:=fun b q=>X' b q/\(σ' 50000).blk≠some b
    have ex:Ext X' w' X'' w':=⟨Bw _,fun b q _ hx=>⟨fun hx'=>hx hx'.1,rfl⟩,fun _ _ _=>rfl⟩
    have hX: ∀ u b,σ' 50000= .arr u->u.ownBlock=some b→ ∀ q, ¬ X'' b q:=fun u b h1 h2 q hx=>hx.2 (by rw [h1];exact h2)
    have hz:=Wk (k:=50000) (y:=y) (l:=L x) (e:=e) hat ex hX (.ms 50000) u hu
    simp only [V.fz,if_true] at hz
    refine ⟨u,X'',σ',rfl,hz,⟨fun b q hq=>hE.fin b q hq.1,fun j o hj=>by simp at hj,fun i j b _ hi=>absurd hi (by simp),by simp,fun j hj=>absurd hj (by simp),fun j b _ hj=>absurd hj (by simp),hE.fr,fun b q hb hq=>hE.sub b q hb hq.1,fun b q hb hn hq=>⟨hE.old b q hb (fun i hi=>absurd hi (by simp)) hq,fun hb2=> ?_⟩⟩⟩
    rcases hE.new 0 b (B3 _) (by simp) hb2 with h3|⟨i,hi,_⟩
    ·omega
    ·exact absurd hi (by simp)
   ·cases hF
end
end Go.Proofs.YthlcobdnemhcdaaGreat.K
noncomputable section
namespace Go.Proofs.YthlcobdnemhcdaaGreat.K
open Go.RowKit
noncomputable section
theorem JE {α:Type}{l l2:List α}{c:Nat}(hc:c<=1000)(h:l.length+l2.length<=100000000000):Qx l l2 c=true:=by
 simp only [Qx,Ba]
 have:(l.length+l2.length)*(c+1)<=100000000000*1001:=Nat.mul_le_mul h (by omega)
 omega
def Qi6 (l:List Int):List Int:=l
def Qi7 (l:List Int):Bool:=decide (l.length<=4000000)
def QsF:Ent:=Qo (.pr (.sl (.int .u8)) .nil) (fun x=>(Qi7 x.1)) (fun x=>(.t (.sl (.int .u8)) (Qi6 x.1)))
theorem QDQ:Q6 Tryz.prog 310:= .inr ⟨by decide,_,Tryz.func310,by kernel_rfl,by kernel_rfl⟩
theorem elemU8:ElemOk Tryz.prog 175 5 1 1:=ElemOk.of (.int .u8 0) (by kernel_rfl) (by kernel_rfl) (by kernel_rfl) (by decide)
theorem QDR {P:Program}(w:World)(t e:TypeId)(a:Option Addr)(l c:Nat)(h:P.underlying t=some (.slice e)):(binOp .eql t (.slice a l c) (.slice none 0 0)).run P w= .ok (.bool a.isNone) w:=by
 simp [binOp,run_equal_slice_nil w t e a l c h]
set_option maxHeartbeats 400000 in
theorem QDS (A:Option Addr)(c n:Nat)(cells:List Value)(w:World)(h:Sl w (.slice A n c) 1 n cells)(h1: ∀ u∈cells,u.oneCell'=true)(hn:n<=4000000):
  Calls Tryz.prog 310 #[.slice A n c] w fun r w'=> ∃ sv,r= .returned sv/\w'.ownsRow w.heap.size 5 1 sv n cells/\Below w.heap.size w w':=by
 have he:=QDR (P:=Tryz.prog) w 175 5 A n c (by kernel_rfl)
 rcases A with _|ad
 ·have hnil:n=0:=Dy fun h0=>by
   obtain ⟨_,A',c',hv,_,_,h3⟩:=h
   obtain ⟨b,off,e,_⟩:=h3 (by omega)
   rw [e] at hv
   simp at hv
  subst hnil
  have hc:cells=[]:=Bt (by rw [h.1,DR])
  subst hc
  clear h
  simp only [D3] at he
  go_enter Tryz.func310,Tryz.ntmps310
  go_wp2_with fail
  go_ret
  exact ⟨_,rfl,World.ownsRow_nil _ _ _ _,Below.refl _ _⟩
 ·simp only [D4] at he
  have hown:=World.ownsRow_made w #[] (size:=1) (e:=5) 0 (Bw _) (B3 _) rfl
  have hsrc:=h.alloc (.cells #[] 5)
  have HSRC:=Lib.hid hsrc
  clear h hsrc
  go_enter Tryz.func310,Tryz.ntmps310
  go_wp2_with (at_builtin;refine E3 elemU8 rfl _ _ rfl w.heap.size (.slice (some ⟨w.heap.size,0,none⟩) 0 0) 0 [] rfl hown (some ad) n c cells rfl HSRC.out h1 (by omega) (by omega) (by simp) ?_;intro v' w4 hown4 hg4 hat4)
  go_ret
  refine ⟨v',rfl,by simpa using hown4, ?_⟩
  have hal:=(Below.refl w.heap.size w).alloc (Bw _) (.cells #[] 5)
  exact GB hal hg4 (Bw _) hal.size
theorem QDT:Qp Tryz.prog 310 (Qq QsF):=
 QGw (a:= .pr (.sl (.int .u8)) .nil) (e:=5) (y:= .int .u8) (L:=fun x=>x.1) (Qdv (e:=5) (y:= .int .u8) (by decide) (fun x hx=>BJ hx) fun A c n cells w h h1 hn=>QDS A c n cells w h h1 hn)
def O3 (n:Int):Bool:=decide (1<=n/\n<=255)&&(Fu .i64 n 31 != 31)
def QDU:TC:=aF Tryz.f305 []
def g_f305:G:=gG 14 [] (fun _ _=>none)
def QsG (p0:Int):OV:=br (ige p0 1) (br (ile p0 255) (some (.t .bool (ine (Fu .i64 p0 31) 31),[])) (some (.t .bool false,[]))) (some (.t .bool false,[]))
theorem s_f305 (n:Int):QsG n=some (.t .bool (O3 n),[]):=by
 simp only [QsG]
 unfold O3
 refine QV (fun h1=>QV (fun h2=> ?_) (fun h2=> ?_)) (fun h1=> ?_)
 ·simp only [ige,ile,Ba] at h1 h2
  rw [Be (show 1<=n/\n<=255 by omega),By]
 ·simp only [ige,ile,Ba,Bn] at h1 h2
  rw [Bp (show ¬ (1<=n/\n<=255) by omega),DT]
 ·simp only [ige,Bn] at h1
  rw [Bp (show ¬ (1<=n/\n<=255) by omega),DT]
def QsH:Ent:=Qo (.pr tI .nil) (fun x=>true) (fun x=>(.t .bool (O3 x.1)))
theorem QDV:EM 305 QsH:=mS g_f305 QDU [((.t 2),some .bool)] false (gB gN) fun m=>Qt m fun x _=>kT (s_f305 x.1)
def O4 (n:Int):Bool:=decide (1<=n/\n<=255)&&(XC n 32 != 31)
def QDW:TC:=aF Tryz.f246 []
def g_f246:G:=gG 14 [] (fun _ _=>none)
def QsI (p0:Int):OV:=br (ige p0 1) (br (ile p0 255) (br (cNz 32) (some (.t .bool (ine (XC p0 32) 31),[])) none) (some (.t .bool false,[]))) (some (.t .bool false,[]))
theorem s_f246 (n:Int):QsI n=some (.t .bool (O4 n),[]):=by
 simp only [QsI,show cNz 32=true from rfl,Qf]
 unfold O4
 refine QV (fun h1=>QV (fun h2=> ?_) (fun h2=> ?_)) (fun h1=> ?_)
 ·simp only [ige,ile,Ba] at h1 h2
  rw [Be (show 1<=n/\n<=255 by omega),By]
 ·simp only [ige,ile,Ba,Bn] at h1 h2
  rw [Bp (show ¬ (1<=n/\n<=255) by omega),DT]
 ·simp only [ige,Bn] at h1
  rw [Bp (show ¬ (1<=n/\n<=255) by omega),DT]
def QsJ:Ent:=Qo (.pr tI .nil) (fun x=>true) (fun x=>(.t .bool (O4 x.1)))
theorem QDX:EM 246 QsJ:=mS g_f246 QDW [((.t 2),some .bool)] false (gB gN) fun m=>Qt m fun x _=>kT (s_f246 x.1)
theorem byt_low (n:Nat)(h:n<256):byt (n:Int) 0=n:=by
 rw [QCu]
 simp
 omega
-- loop 0: (x1 : Int) (x5 : Int) (x6 : Int) (Qm5 : (List Int)); out: ('exit', 0) (x1 : Int) (x5 : Int) (Qm5 : (List Int))
-- loop 1: (x1 : Int) (x7 : Int) (Qm5 : (List Int)); out: ('exit', 2) (Qm5 : (List Int))
theorem QDY: ∀ (f g n:Nat),n<256 ^ f->n<256 ^ g->XA f n=XA g n
 |0,g,n,h1,h2=>by
  have:n=0:=by simpa using h1
  subst this
  cases g<;>rfl
 |f+1,0,n,h1,h2=>by
  have:n=0:=by simpa using h2
  subst this
  rfl
 |f+1,g+1,n,h1,h2=>by
  rw [XA,XA]
  split
  ·rfl
  ·rw [Nat.pow_succ] at h1 h2
   rw [QDY f g (n / 256) (by omega) (by omega)]
theorem Qi8 {n:Nat}(h:n<256):icv .u8 (n:Int)=n:=by
 rw [QhZ]
 omega
def Ux (n:Int):List Int:=Ge n.toNat
def O5 (n:Int):Bool:=decide (0<=n/\n<=1000000000)
abbrev Qcw:Sh:=⟨[(0,.ty tI),(3,.ms 3)],[(3,.arr 5 (.int .u8)),(14,.no),(16,.no)]⟩
abbrev QsK:Sh:=⟨[(3,.ms 3)],[(3,.arr 5 (.int .u8)),(14,.no),(16,.no)]⟩
def Qi9:Fg:=Qcw.f
def QsL:TC:=aF Tryz.f247 [(60,.nw 3 5),(60,pL 0 Qi9),(120,.mv [(14,3)]),(963,.fg QsK.f)]
def QsM:TC:=lb 0 QsL
def QsN (x0:Int)(y3:List Int):VS:=Qcw.st (x0,(),()) (y3,(),(),())
def Qja (y3:List Int):VS:=QsK.st ((),()) (y3,(),(),())
def QDZ:VS->Option (Bool×List (Bool×Exit×VS)):=mkL Qcw (fun x y=>(decide (0<=x.1/\x.1<=1000000000/\y.1.length<=100))) (fun x y=>[(true,.exit 0,Qja (Yk 8 x.1.toNat++y.1))])
def Qjb:G:=⟨TYs,[14,23],26,EL [],keeps,(Ls [QDZ]),IL [],RL []⟩
def Qcx (x0:Int)(y3:List Int):OX:=QA (QC Qjb Qi9 QsM) (QsN x0 y3)
def EA (kk:Int->List Int->OX)(x0:Int)(y3:List Int):OX:=
 let a1:=icv .u8 (XC x0 256)
 br (igt x0 0) (br (cNz 256) (br (Qx ([a1]) y3 1) (br (cNz 256) (kk (G8 .i64 x0 256) (([a1])++y3)) none) none) none) (some (.exit 0,Qja y3))
def O6 (x0:Int)(y3:List Int):OX:=some (.exit 0,Qja (Yk 8 x0.toNat++y3))
theorem QsO (x0:Int)(y3:List Int):Qcx x0 y3=EA Qcx x0 y3:=lnT (x:=EA (fun x0 y3=>some (.normal,QsN x0 y3)) x0 y3) (by simp only [EA,nxA];rfl)
def QsP (p0:Int):OV:=
 let a1:=(Yk 8 p0.toNat++([]:List Int))
 let a2:=icv .u8 (Qh .i64 128 (Qc a1))
 br (ilt p0 128) (some (.t (.sl (.int .u8)) ([(icv .u8 p0)]),[])) (br (decide (0<=p0/\p0<=1000000000/\([]:List Int).length<=100)) (br (Qx ([a2]) a1 1) (some (.t (.sl (.int .u8)) (([a2])++a1),[])) none) none)
theorem QsQ: ∀ (f g n:Nat),n<256 ^ f->n<256 ^ g->Yk f n=Yk g n
 |0,g,n,h1,h2=>by
  have:n=0:=by simpa using h1
  subst this
  cases g<;>rfl
 |f+1,0,n,h1,h2=>by
  have:n=0:=by simpa using h2
  subst this
  rfl
 |f+1,g+1,n,h1,h2=>by
  rw [Yk,Yk]
  split
  ·rfl
  ·rw [Nat.pow_succ] at h1 h2
   rw [QsQ f g (n / 256) (by omega) (by omega)]
theorem QD0 (x0:Int)(y3:List Int)(h:(decide (0<=x0/\x0<=1000000000/\y3.length<=100))=true):Qcx x0 y3=O6 x0 y3:=by
 simp only [Ba] at h
 obtain ⟨h1,h2,h3⟩:=h
 obtain ⟨n,rfl⟩:=Bu h1
 have key: ∀ (m n:Nat),n<=m->n<=1000000000→ ∀ y3:List Int,y3.length+n<=2000000000->Qcx (n:Int) y3=O6 (n:Int) y3:=by
  intro m
  induction m with
  |zero=>
   intro n hn _ y3 _
   have:n=0:=by omega
   subst this
   rw [QsO]
   simp only [EA,O6,show igt ((0:Nat):Int) 0=false from rfl,Qj,Bd,show Yk 8 0=[] from rfl,BS]
  |succ m ih=>
   intro n hn hb y3 h6
   rw [QsO]
   by_cases h0:n=0
   ·subst h0
    simp only [EA,O6,show igt ((0:Nat):Int) 0=false from rfl,Qj,Bd,show Yk 8 0=[] from rfl,BS]
   ·have e1:XC (n:Int) 256=((n % 256:Nat):Int):=by
     show (n:Int).tmod 256=_
     rw [Int.tmod_eq_emod_of_nonneg (by omega)]
     omega
    have e2:G8 .i64 (n:Int) 256=((n / 256:Nat):Int):=by
     show IntKind.i64.wrap ((n:Int).tdiv 256)=_
     rw [Int.tdiv_eq_ediv_of_nonneg (by omega),Go.IntWalk.i64_in _ (by omega)]
     omega
    simp only [EA,show igt (n:Int) 0=true from Be (by omega),Qf,show cNz 256=true from rfl,e1,e2,Qi8 (show n % 256<256 by omega)]
    rw [JE (by omega) (by simp only [Bk];omega),Qf,ih (n / 256) (by omega) (by omega) _ (by simp only [Bl,Bk];omega)]
    simp only [O6,Bd]
    have:Yk 8 n=Yk 8 (n / 256)++[((n % 256:Nat):Int)]:=by
     rw [show Yk 8 n=(if n=0 then [] else Yk 7 (n / 256)++[((n % 256:Nat):Int)]) from rfl,if_neg h0,QsQ 7 8 (n / 256) (by omega) (by omega)]
    rw [this,BN]
 exact key n n (Bw _) (by omega) y3 (by omega)
theorem QD1:LO Qjb Qi9 QsM 0:=QN (s:=Qcw) fun x y h _ q=>by simp only [QK,QL] at q;exact (QD0 x.1 y.1 h).trans q
theorem s_f247 (n:Int)(h:O5 n=true):QsP n=some (.t (.sl (.int .u8)) (Ux n),[]):=by
 simp only [O5,Ba] at h
 obtain ⟨h2,h3⟩:=h
 obtain ⟨n,rfl⟩:=Bu h2
 have hc:=Qh2 8 n
 have hd:=Qh1 8 n
 simp only [QsP]
 by_cases hn:n<128
 ·rw [show ilt (n:Int) 128=true from Be (by omega),Qf]
  simp only [Ux,Ge,Bd,if_pos hn,Qi8 (show n<256 by omega)]
 ·rw [show ilt (n:Int) 128=false from Bp (by omega),Qj,Be ⟨by omega,by omega,by simp⟩,Qf]
  simp only [Bd,BP,Qc,hd]
  rw [JE (by omega) (by simp only [Bk];omega),Qf,JU (by omega)]
  have e2:(128+(XA 8 n:Int))=((128+XA 8 n:Nat):Int):=by omega
  simp only [Ux,Ge,Bd,if_neg hn]
  rw [e2,Qi8 (by omega),BM]
def QsR:Ent:=Qo (.pr tI .nil) (fun x=>(O5 x.1)) (fun x=>(.t (.sl (.int .u8)) (Ux x.1)))
theorem QD2:EM 247 QsR:=mS (lk:=lkL (lkc QD1 lkn)) Qjb QsL [((.t 2),some (.sl (.int .u8)))] false (Jw _ (fun p hp=>by cases hp)) fun m=>Qt m fun x hok=>kT (s_f247 x.1 hok)
end
end Go.Proofs.YthlcobdnemhcdaaGreat.K
noncomputable section
namespace Go.Proofs.YthlcobdnemhcdaaGreat.K
open Go.RowKit
noncomputable section
def Jd (n:Int):Qk:=(2,(G1 n,(false,(([]:List Val),()))))
def Z6 (n:Int):Bool:=decide (-9223372036854775808<=n/\n<9223372036854775808)
-- loop 0: (x0 : Int) (x4 : Int) (y2 : Qk) (y3 : (List Int)); out: ('exit', 0) (y2 : Qk) (y3 : (List Int))
-- loop 1: (x3 : (List Int)) (y2 : Qk); out: ('exit', 2) (x3 : (List Int)) (y2 : Qk)
abbrev QaM:Sh:=⟨[(2,.ptr 2 0),(3,.ms 7),(4,.ty tI)],[(2,.box Qz),(3,.no),(7,.arr 5 (.int .u8)),(40,.no),(42,.no)]⟩
abbrev QoC:Sh:=⟨[(2,.ptr 2 0),(3,.ms 7)],[(2,.box Qz),(3,.no),(7,.arr 5 (.int .u8)),(40,.no),(42,.no)]⟩
def Qf5:Fg:=QaM.f
def QoD:TC:=aF Tryz.f164 [(58,.nw 3 5),(58,pL 0 Qf5),(116,.mv [(40,7)]),(931,.fg QoC.f)]
def QoE:TC:=lb 0 QoD
def QoF (x4:Int)(y2:Qk)(y7:List Int):VS:=QaM.st ((),(),x4,()) (y2,(),y7,(),(),())
def FS (y2:Qk)(y7:List Int):VS:=QoC.st ((),(),()) (y2,(),y7,(),(),())
def QzZ:VS->Option (Bool×List (Bool×Exit×VS)):=mkL QaM (fun x y=>(decide (-9223372036854775808<=x.2.2.1/\x.2.2.1<9223372036854775808/\1<=y.2.2.1.length/\y.2.2.1.length<=100))) (fun x y=>[(true,.exit 0,FS (y.1) (ZC 10 x.2.2.1 y.2.2.1))])
def Qf6:G:=⟨TYs,[7,40],45,EL [],keeps,(Ls [QzZ]),IL [],RL []⟩
def FT (x4:Int)(y2:Qk)(y7:List Int):OX:=QA (QC Qf6 Qf5 QoE) (QoF x4 y2 y7)
def IY (kk:Int->Qk->List Int->OX)(x4:Int)(y2:Qk)(y7:List Int):OX:=br (Qx ([(icv .u8 x4)]) y7 1) (br (decide ((0:Int)<=8)) (kk (Wg .i64 x4 8) y2 (([(icv .u8 x4)])++y7)) none) none
def QaN (kk:Int->Qk->List Int->OX)(x4:Int)(y2:Qk)(y7:List Int):OX:=br (ieq x4 (-1)) (br (cIx y7 0) (br (cLd y7 (Int.toNat 0)) (br (ilt (lgt (.int .u8) y7 (Int.toNat 0)) 128) (IY kk x4 y2 y7) (some (.exit 0,FS y2 y7))) none) none) (some (.exit 0,FS y2 y7))
def QaO (kk:Int->Qk->List Int->OX)(x4:Int)(y2:Qk)(y7:List Int):OX:=br (ieq x4 0) (br (cIx y7 0) (br (cLd y7 (Int.toNat 0)) (br (ige (lgt (.int .u8) y7 (Int.toNat 0)) 128) (IY kk x4 y2 y7) (QaN kk x4 y2 y7)) none) none) (QaN kk x4 y2 y7)
def QaP (kk:Int->Qk->List Int->OX)(x4:Int)(y2:Qk)(y7:List Int):OX:=br (ine x4 0) (br (ine x4 (-1)) (IY kk x4 y2 y7) (QaO kk x4 y2 y7)) (QaO kk x4 y2 y7)
def Qf7 (x4:Int)(y2:Qk)(y7:List Int):OX:=some (.exit 0,FS (y2) (ZC 10 x4 y7))
theorem Qz0 (x4:Int)(y2:Qk)(y7:List Int):FT x4 y2 y7=QaP FT x4 y2 y7:=lnT (x:=QaP (fun x4 y2 y7=>some (.normal,QoF x4 y2 y7)) x4 y2 y7) (by simp only [QaP,IY,QaO,QaN,nxA];rfl)
def QoG (p0:Int):OV:=
 let a1:=Wg .i64 p0 8
 br (decide ((0:Int)<=8)) (br (decide (-9223372036854775808<=a1/\a1<9223372036854775808/\1<=([(icv .u8 p0)]).length/\([(icv .u8 p0)]).length<=100)) (some (.t Qz (2,((ZC 10 a1 ([(icv .u8 p0)])),(false,(([]:List Val),())))),[])) none) none
theorem QoH (n:Int):Wg .i64 n 8=n / 256:=by
 have:=QCq (kd:= .i64) rfl n 1 (by omega)
 rw [show ((8*1:Nat):Int)=8 from rfl] at this
 rw [this]
 rfl
theorem Qf8: ∀ (k:Nat) (x:Int) (b:List Int), -(256 ^ k:Int)<=x->x<256 ^ k→ ∀ f,ZC (k+2+f) x b=ZC (k+2) x b
 |0,x,b,h1,h2,f=>by
  simp only [Int.pow_zero] at h1 h2
  have hx:x= -1∨x=0:=by omega
  have g: ∀ f,ZC (f+2) x b=bif Xd x (b.headD 0) then (x % 256::b) else b:=by
   intro f
   rw [show f+2=(f+1)+1 from rfl,ZC,ZC]
   rcases hx with rfl|rfl
   ·rw [show ((-1:Int) % 256::b).headD 0=255 from rfl,show Xd (-1 / 256) 255=false from rfl];rfl
   ·rw [show ((0:Int) % 256::b).headD 0=0 from rfl,show Xd (0 / 256) 0=false from rfl];rfl
  rw [show 0+2+f=f+2 by omega,g f]
  exact (g 0).symm
 |k+1,x,b,h1,h2,f=>by
  rw [show k+1+2+f=(k+2+f)+1 by omega,ZC,show k+1+2=(k+2)+1 from rfl,ZC]
  have e:(256:Int) ^ (k+1)=256 ^ k*256:=by rw [Int.pow_succ]
  rw [e] at h1 h2
  rw [Qf8 k (x / 256) (x % 256::b) (by omega) (by omega) f]
theorem Qf9 (x:Int)(b:List Int)(h: -9223372036854775808<=x/\x<9223372036854775808):ZC 10 x b=bif Xd x (b.headD 0) then ZC 10 (x / 256) (x % 256::b) else b:=by
 have:=Qf8 8 x b (by omega) (by omega) 1
 rw [←this]
 rfl
theorem Qz1 (x4:Int)(y2:Qk)(y7:List Int)(h:(decide (-9223372036854775808<=x4/\x4<9223372036854775808/\1<=y7.length/\y7.length<=100))=true):FT x4 y2 y7=Qf7 x4 y2 y7:=by
 simp only [Ba] at h
 obtain ⟨h1,h2,h3,h4⟩:=h
 have step: ∀ (x c:Int) (r:List Int),r.length<=300->FT x y2 (c::r)=bif Xd x c then FT (x / 256) y2 (x % 256::c::r) else some (.exit 0,FS y2 (c::r)):=by
  intro x c r hr
  rw [Qz0]
  have e1:cIx (c::r) 0=true:=by simp only [cIx,Bq,Ba];omega
  have e2:cLd (c::r) (Int.toNat 0)=true:=by simp only [cLd,Bq,Ba,BC];omega
  have e3:lgt (.int .u8) (c::r) (Int.toNat 0)=c:=rfl
  have e4:Qx [x % 256] (c::r) 1=true:=JE (by omega) (by simp only [Bq,BG];omega)
  simp only [QaP,IY,QaO,QaN,e1,e2,e3,e4,Qf,show decide ((0:Int)<=8)=true from rfl,QoH,QhZ,BM]
  simp only [Xd,ine,ieq,ilt,ige]
  have q1:(x != 0)= !(x==0):=rfl
  have q2:(x != -1)= !(x== -1):=rfl
  rw [q1,q2]
  by_cases hx:x=0
  ·subst hx
   cases decide (c≥128)<;>rfl
  ·by_cases hy:x= -1
   ·subst hy
    cases decide (c<128)<;>rfl
   ·rw [show (x==0)=false from beq_false_of_ne hx,show (x== -1)=false from beq_false_of_ne hy]
    rfl
 have lae: ∀ (x:Int) (y:List Int),Qf7 x y2 y=some (.exit 0,FS y2 (ZC 10 x y)):=fun _ _=>rfl
 have key: ∀ (k:Nat) (x:Int) (y:List Int), -(256 ^ k:Int)<=x->x<256 ^ k->k<=8->1<=y.length->y.length+k<=200→ -9223372036854775808<=x->x<9223372036854775808->FT x y2 y=Qf7 x y2 y:=by
  intro k
  induction k with
  |zero=>
   intro x y g1 g2 g3 g4 g5 g6 g7
   simp only [Int.pow_zero] at g1 g2
   have hx:x= -1∨x=0:=by omega
   obtain ⟨c,r,rfl⟩: ∃ c r,y=c::r:=by
    cases y with
    |nil=>simp at g4
    |cons c r=>exact ⟨c,r,rfl⟩
   simp only [Bq] at g5
   rw [step x c r (by omega),lae,Qf9 x (c::r) ⟨g6,g7⟩,List.headD_cons]
   cases Xd x c with
   |false=>rfl
   |true=>
    rw [Da,Da,step (x / 256) (x % 256) (c::r) (by simp only [Bq];omega),Qf9 (x / 256) (x % 256::c::r) (by omega),List.headD_cons]
    have:Xd (x / 256) (x % 256)=false:=by rcases hx with rfl|rfl<;>rfl
    rw [this]
    rfl
  |succ k ih=>
   intro x y g1 g2 g3 g4 g5 g6 g7
   obtain ⟨c,r,rfl⟩: ∃ c r,y=c::r:=by
    cases y with
    |nil=>simp at g4
    |cons c r=>exact ⟨c,r,rfl⟩
   have e:(256:Int) ^ (k+1)=256 ^ k*256:=by rw [Int.pow_succ]
   rw [e] at g1 g2
   simp only [Bq] at g5
   rw [step x c r (by omega),lae,Qf9 x (c::r) ⟨g6,g7⟩,List.headD_cons]
   cases Xd x c with
   |false=>rfl
   |true=>
    rw [Da,Da,ih (x / 256) (x % 256::c::r) (by omega) (by omega) (by omega) (by simp) (by simp only [Bq];omega) (by omega) (by omega),lae]
 exact key 8 x4 y7 (by omega) (by omega) (by omega) h3 (by omega) (by omega) (by omega)
theorem Qz2:LO Qf6 Qf5 QoE 0:=QN (s:=QaM) fun x y h _ q=>by simp only [QK,QL] at q;exact (Qz1 x.2.2.1 y.1 y.2.2.1 h).trans q
theorem s_f164 (n:Int)(h:Z6 n=true):QoG n=some (.t Qz (Jd n),[]):=by
 have h1:=h
 simp only [Z6,Ba] at h1
 have e0:icv .u8 n=byt n 0:=by
  rw [QhZ]
  simp [byt]
 simp only [QoG,show decide ((0:Int)<=8)=true from rfl,Qf,QoH,e0]
 rw [Be ⟨by omega,by omega,by simp,by simp⟩,Qf]
 have e1:=Qf8 7 (n / 256) [byt n 0] (by omega) (by omega) 1
 rw [show ZC 10 (n / 256) [byt n 0]=ZC 9 (n / 256) [byt n 0] from e1,QCt h1]
 rfl
def Qga:Ent:=Qo (.pr tI .nil) (fun x=>(Z6 x.1)) (fun x=>(.t Qz (Jd x.1)))
theorem QoI:EM 164 Qga:=mS (lk:=lkL (lkc Qz2 lkn)) Qf6 QoD [((.c 2 true 4),some Qz)] false (Jw _ (fun p hp=>by cases hp)) fun m=>Qt m fun x hok=>kT (s_f164 x.1 hok)
def Zg (s:ByteArray):Qk:=(12,(Q3 s,(false,(([]:List Val),()))))
def g_f293:G:=gG 6 [(29000144,OC)] (fun _ _=>none)
theorem gk_f293:GOk Tryz.prog g_f293:=Jw _ (gA (gC QbU QbV gN))
def Qz3:TC:=aF Tryz.f165 []
def g_f165:G:=gG 6 [(29000144,OC)] (fun _ _=>none)
def QoJ (p0:ByteArray):OV:=br (Xe p0) (some (.t Qz (12,((Q3 p0),(false,(([]:List Val),())))),[])) none
theorem s_f165 (s:ByteArray)(h:Xe s=true):QoJ s=some (.t Qz (Zg s),[]):=by
 simp only [QoJ,h,Qf]
 rfl
def QoK:Ent:=Qo (.pr .str .nil) (fun x=>(Xe x.1)) (fun x=>(.t Qz (Zg x.1)))
theorem Qz4:EM 165 QoK:=mS g_f165 Qz3 [((.c 2 true 4),some Qz)] false (gB (gC QbU QbV gN)) fun m=>Qt m fun x hok=>kT (s_f165 x.1 hok)
def Uc (b:Bool):Qk:=(1,([bif b then 255 else 0],(false,(([]:List Val),()))))
def Qz5:TC:=aF Tryz.f263 []
def g_f263:G:=gG 8 [] (fun _ _=>none)
def r_f263 (p0:Bool):OV:=br (p0) (some (.t Qz (1,([255],(false,(([]:List Val),())))),[])) (some (.t Qz (1,([0],(false,(([]:List Val),())))),[]))
theorem s_f263 (b:Bool):r_f263 b=some (.t Qz (Uc b),[]):=by cases b<;>rfl
def QoL:Ent:=Qo (.pr .bool .nil) (fun x=>true) (fun x=>(.t Qz (Uc x.1)))
theorem Qz6:EM 263 QoL:=mS g_f263 Qz5 [((.c 2 true 4),some Qz)] false (gB gN) fun m=>Qt m fun x _=>kT (s_f263 x.1)
end
end Go.Proofs.YthlcobdnemhcdaaGreat.K
noncomputable section
set_option linter.unusedSectionVars false
namespace Go.Proofs.YthlcobdnemhcdaaGreat.K
open Go.RowKit
noncomputable section
def okT (n:Nat)(x:Qk):Bool:=okV n (Val.of x)
theorem QcK {n:Nat}{v:Val}:okT n v.un=okV n v:=by rw [okT,Val.of_un]
theorem UL {n:Nat}{x:Qk}(h:okT (n+1) x=true):
  (x.1=1∨x.1=2∨x.1=12∨x.1=48)/\x.2.2.1=(x.1==48)/\(x.2.2.1=true->x.2.1=[])/\(x.2.2.1=false->x.2.2.2.1=[])/\x.2.1.length<=100000/\x.2.2.2.1.length<=100000∧ ∀ v∈x.2.2.2.1,okV n v=true:=by
 obtain ⟨t,b,q,es,_⟩:=x
 exact QqU h
def Zt:Nat->List Qk->Bool
 |0,_=>false
 |n+1,l=>decide (l.length<=100000)&&l.all (okT n)
theorem QEu {n:Nat}{es:List Val}(hl:es.length<=100000)(h: ∀ v∈es,okV n v=true):Zt (n+1) (es.map Val.un)=true:=by
 simp only [Zt,Bb,Ba,BL,Bh,Dd]
 refine ⟨hl, ?_⟩
 rintro x ⟨v,hv,rfl⟩
 rw [QcK]
 exact h v hv
theorem Qtc {n:Nat}{x:Qk}(h:okT n x=true):Zt n (x.2.2.2.1.map Val.un)=true:=by
 cases n with
 |zero=>obtain ⟨t,b,q,es,_⟩:=x;cases h
 |succ n=>
  obtain ⟨_,_,_,_,_,h6,h7⟩:=UL h
  exact QEu h6 h7
theorem Fk (es:List Val):List.map Val.of (List.map Val.un es)=es:=by
 rw [List.map_map]
 have:(Val.of ∘ Val.un)=id:=funext Val.of_un
 rw [this,List.map_id]
def WH (l:List Qk):List Qk:=l
def X8 (l:List Qk):Bool:=Zt 12 l
theorem Qtd {n:Nat}{x:Qk}(h:okT n x=true):x.2.1.length<=100000:=by
 cases n with
 |zero=>obtain ⟨t,b,q,es,_⟩:=x;cases h
 |succ n=>exact (UL h).2.2.2.2.1
theorem QEv:Q6 Tryz.prog 303:= .inr ⟨by decide,_,Tryz.func303,by kernel_rfl,by kernel_rfl⟩
def EI [Fuel]:Ent:=Qo (.pr (.sl Qz) .nil) (fun x=>(Zt Jh x.1)) (fun x=>(.t (.sl Qz) (WH x.1)))
theorem QEw:Q6 Tryz.prog 303:=QEv
section
variable [Fuel][Nonempty (PLift (Qp Tryz.prog 303 (Qq EI)))]
theorem QEx:Qp Tryz.prog 303 (Qq EI):=(Classical.choice (inferInstance:Nonempty (PLift (Qp Tryz.prog 303 (Qq EI))))).down
def Vh [Fuel](l:List Qk):Bool:=Zt (Jh+1) l
abbrev QcL:Sh:=⟨[(3,.ms 3),(6,.ty (.sl Qz)),(7,.ty tI),(8,.ty tI)],[(3,.arr 233 Qz),(23,.no)]⟩
abbrev Qte:Sh:=⟨[(3,.ms 3)],[(3,.arr 233 Qz),(23,.no)]⟩
def QjG:Fg:=QcL.f
def QcM:TC:=aF Tryz.f303 [(58,.nw 3 233),(58,pL 0 QjG),(933,.fg Qte.f),(7474,pD [(0,[5]),(1,[5]),(2,[]),(3,[5]),(4,[5]),(5,[]),(6,[5]),(7,[5]),(8,[5]),(9,[5])] (.of [0,1,2,3,4,5,6,7,8,9]))]
def Qtf:TC:=lb 0 QcM
def Qtg:List (RV×Option Ty):=[((.t 2),some (.sl Qz))]
def Qth (x6:List Qk)(x7 x8:Int)(y3:List Qk):VS:=QcL.st ((),x6,x7,x8,()) (y3,(),())
def QjH (y3:List Qk):VS:=Qte.st ((),()) (y3,(),())
def QEy:VS->Option (Bool×List (Bool×Exit×VS)):=mkL QcL (fun x y=>(Qy x.2.1 x.2.2.1 x.2.2.2.1&&Vh x.2.1&&decide (y.1.length+x.2.1.length<=200000+x.2.2.2.1.toNat))) (fun x y=>[(true,.exit 0,QjH (y.1++x.2.1.drop x.2.2.2.1.toNat))])
def EJ:G:=gG 26 [(303,EI),(310,QsF)] (Ls [QEy])
def QcN (x6:List Qk)(x7 x8:Int)(y3:List Qk):OX:=QA (QC EJ QjG Qtf) (Qth x6 x7 x8 y3)
def Vi (kk:List Qk->Int->Int->List Qk->OX)(x6:List Qk)(x7 x8:Int)(y3:List Qk):OX:=
 let a2:=((lgt Qz x6 (Int.toNat x8)).2)
 let a1:=((lgt Qz x6 (Int.toNat x8)).1,((Qi6 (a2.1)),((a2.2).1,((List.map Val.of (List.map Val.un (List.map Val.of (WH (List.map Val.un (((a2.2).2).1)))))),()))))
 br (ilt x8 x7) (br (cIx x6 x8) (br (Qi7 (a2.1)) (br (Zt Jh (List.map Val.un (((a2.2).2).1))) (br (Qx y3 ([a1]) 64) (kk x6 x7 (Qh .i64 x8 1) (y3++([a1]))) none) none) none) none) (some (.exit 0,QjH y3))
def QcO (x6:List Qk)(x7 x8:Int)(y3:List Qk):OX:=some (.exit 0,QjH (y3++x6.drop x8.toNat))
theorem Qti (x6:List Qk)(x7 x8:Int)(y3:List Qk):QcN x6 x7 x8 y3=Vi QcN x6 x7 x8 y3:=lnT (x:=Vi (fun x6 x7 x8 y3=>some (.normal,Qth x6 x7 x8 y3)) x6 x7 x8 y3) (by simp only [Vi,nxA];rfl)
def QjI (p0:List Qk):OV:=br (Qy p0 (Qc p0) (0:Int)&&Vh p0&&decide (([]:List Qk).length+p0.length<=200000+(0:Int).toNat)) (some (.t (.sl Qz) (([]:List Qk)++p0.drop (0:Int).toNat),[])) none
theorem e_f303 (p0:List Qk):QP EJ QcM Qtg false [.t (.sl Qz) p0] []=QjI p0:=by kernel_rfl
theorem QEz:GOk Tryz.prog EJ:=Jw _ (gA (gC QEw QEx (gC QDQ QDT gN)))
theorem QEA (x6:List Qk)(x7 x8:Int)(y3:List Qk)(h:(Qy x6 x7 x8&&Vh x6&&decide (y3.length+x6.length<=200000+x8.toNat))=true):QcN x6 x7 x8 y3=QcO x6 x7 x8 y3:=by
 simp only [Bb,Ba] at h
 obtain ⟨⟨h0,hc⟩,h2⟩:=h
 obtain ⟨rfl,h3,k,rfl,hk⟩:=JR h0
 clear h0
 rw [Bd] at h2
 simp only [Vh,Zt,Bb,Bh] at hc
 revert y3
 refine Q5 x6 (fun k=> ∀ y3:List Qk,y3.length+x6.length<=200000+k->QcN x6 (x6.length:Int) (k:Int) y3=QcO x6 (x6.length:Int) (k:Int) y3) ?_ ?_ k hk
 ·intro y3 _
  rw [Qti]
  simp [Vi,QcO,QD,Qj]
 ·intro k hk ih y3 hy
  rw [Qti]
  have hx:=hc.2 x6[k] (Bx hk)
  have e1:Qi7 x6[k].2.1=true:=Be (by have:=Qtd hx;omega)
  have e2:Zt Jh (List.map Val.un x6[k].2.2.2.1)=true:=Qtc hx
  simp only [Vi,QD,QI,hk,Br,Qf,Bd,QW (show k<4611686018427387904 by omega),QO (y:=Qz) hk,e1,e2,Qi6,WH,Fk]
  rw [JE (by omega) (by simp only [Bk];omega),Qf,ih _ (by simp only [Bl,Bk];omega)]
  simp only [QcO,Bd,Bi hk,BN,BM]
theorem QEB:LO EJ QjG Qtf 0:=QN (s:=QcL) fun x y h _ q=>by simp only [QK,QL] at q;exact (QEA x.2.1 x.2.2.1 x.2.2.2.1 y.1 h).trans q
theorem QEC:QcM.lok EJ:=by
 repeat (first|exact trivial|exact QEB|refine ⟨?_, ?_⟩)
theorem s_f303 (l:List Qk)(h:Zt (Jh+1) l=true):QjI l=some (.t (.sl Qz) (WH l),[]):=by
 have hl:l.length<=100000:=by simp only [Zt,Bb,Ba] at h;exact h.1
 simp only [QjI,JS hl,show Vh l=true from h,By,BG,BC,BF,BS]
 rw [Be (by omega),Qf]
 rfl
theorem QED:Qp Tryz.prog 303 (QP EJ QcM Qtg false):=mG Tryz.func303 (by kernel_rfl) Tryz.ntmps303 (by kernel_rfl) QEz QEC
end
theorem QEE: ∀ N:Nat,Qp Tryz.prog 303 (Qq (@EI ⟨N⟩))
 |0=>Ek fun x=>by first|rfl|simp [Zt]
 |N+1=>by
  letI:Fuel:=⟨N⟩
  haveI:Nonempty (PLift (Qp Tryz.prog 303 (Qq EI))):=⟨⟨QEE N⟩⟩
  exact Qt QED fun x hok=>(e_f303 x.1).trans (s_f303 x.1 hok)
theorem QEF (l:List Qk)(h:X8 l=true): ∃ N,Zt N l=true:=⟨12,h⟩
theorem Qtj:Q6 Tryz.prog 215:= .inr ⟨by decide,_,Tryz.func215,by kernel_rfl,by kernel_rfl⟩
def EK [Fuel]:Ent:=Qo (.pr (.sl Qz) .nil) (fun x=>(Zt Jh x.1)) (fun x=>(.t (.sl Qz) (WH x.1)))
theorem QEG:Q6 Tryz.prog 215:=Qtj
section
variable [Fuel][Nonempty (PLift (Qp Tryz.prog 215 (Qq EK)))]
theorem QEH:Qp Tryz.prog 215 (Qq EK):=(Classical.choice (inferInstance:Nonempty (PLift (Qp Tryz.prog 215 (Qq EK))))).down
def Vj [Fuel](l:List Qk):Bool:=Zt (Jh+1) l
abbrev QcP:Sh:=⟨[(0,.ty (.sl Qz)),(3,.ms 3),(4,.ty tI)],[(3,.arr 233 Qz),(28,.no)]⟩
abbrev Qtk:Sh:=⟨[(3,.ms 3)],[(3,.arr 233 Qz),(28,.no)]⟩
def QjJ:Fg:=QcP.f
def QcQ:TC:=aF Tryz.f215 [(58,.nf 5 1 5 20501),(58,.nw 3 233),(58,pL 0 QjJ),(931,.fg Qtk.f)]
def Qtl:TC:=lb 0 QcQ
def Qtm:List (RV×Option Ty):=[((.t 2),some (.sl Qz))]
def Qtn (x0:List Qk)(x4:Int)(y3:List Qk):VS:=QcP.st (x0,(),x4,()) (y3,(),())
def QjK (y3:List Qk):VS:=Qtk.st ((),()) (y3,(),())
def QEI:VS->Option (Bool×List (Bool×Exit×VS)):=mkL QcP (fun x y=>(W9 x.1 x.2.2.1&&Vj x.1&&decide (y.1.length+x.1.length<=200000+x.2.2.1.toNat))) (fun x y=>[(true,.exit 0,QjK (y.1++x.1.drop x.2.2.1.toNat))])
def EN:G:=⟨TYs,[16],30,EL [(215,EK)],keeps,(Ls [QEI]),IL [],RL []⟩
def QcR (x0:List Qk)(x4:Int)(y3:List Qk):OX:=QA (QC EN QjJ Qtl) (Qtn x0 x4 y3)
def Vk (kk:List Qk->Int->List Qk->OX)(x0:List Qk)(x4:Int)(y3:List Qk):OX:=
 let a1:=lgt Qz x0 (Int.toNat x4)
 let a2:=(((a1.2).2).1,((List.map Val.of (WH (List.map Val.un ((((a1.2).2).2).1)))),()))
 br (ilt x4 (Qc x0)) (br (cIx x0 x4) (br (Qx ([]:List Int) ((a1.2).1) 1) (br (Zt Jh (List.map Val.un ((((a1.2).2).2).1))) (br (Qx y3 ([(a1.1,((([]:List Int)++((a1.2).1)),a2))]) 64) (kk x0 (Qh .i64 x4 1) (y3++([(a1.1,((([]:List Int)++((a1.2).1)),a2))]))) none) none) none) none) (some (.exit 0,QjK y3))
def QcS (x0:List Qk)(x4:Int)(y3:List Qk):OX:=some (.exit 0,QjK (y3++x0.drop x4.toNat))
theorem Qto (x0:List Qk)(x4:Int)(y3:List Qk):QcR x0 x4 y3=Vk QcR x0 x4 y3:=lnT (x:=Vk (fun x0 x4 y3=>some (.normal,Qtn x0 x4 y3)) x0 x4 y3) (by simp only [Vk,nxA];rfl)
def QjL (p0:List Qk):OV:=br (W9 p0 (0:Int)&&Vj p0&&decide (([]:List Qk).length+p0.length<=200000+(0:Int).toNat)) (some (.t (.sl Qz) (([]:List Qk)++p0.drop (0:Int).toNat),[])) none
theorem e_f215 (p0:List Qk):QP EN QcQ Qtm false [.t (.sl Qz) p0] []=QjL p0:=by kernel_rfl
theorem QEJ:GOk Tryz.prog EN:=Jw _ (gA (gC QEG QEH gN))
theorem QEK (x0:List Qk)(x4:Int)(y3:List Qk)(h:(W9 x0 x4&&Vj x0&&decide (y3.length+x0.length<=200000+x4.toNat))=true):QcR x0 x4 y3=QcS x0 x4 y3:=by
 simp only [Bb,Ba,W9] at h
 obtain ⟨⟨⟨h0,h1,h3⟩,hc⟩,h2⟩:=h
 obtain ⟨k,rfl⟩:=Bu h0
 rw [Bd] at h2
 simp only [Vj,Zt,Bb,Bh] at hc
 revert y3
 refine Q5 x0 (fun k=> ∀ y3:List Qk,y3.length+x0.length<=200000+k->QcR x0 (k:Int) y3=QcS x0 (k:Int) y3) ?_ ?_ k (by omega)
 ·intro y3 _
  rw [Qto]
  simp [Vk,QcS,ilt,Qc,Qj]
 ·intro k hk ih y3 hy
  rw [Qto]
  have hx:=hc.2 x0[k] (Bx hk)
  have e2:Zt Jh (List.map Val.un x0[k].2.2.2.1)=true:=Qtc hx
  simp only [Vk,show ilt (k:Int) (Qc x0)=true from Be (by simp only [Qc];omega),QI,hk,Br,Qf,Bd,QW (show k<4611686018427387904 by omega),QO (y:=Qz) hk,e2,WH,Fk]
  rw [JE (by omega) (by have:=Qtd hx;simp only [BG];omega),Qf,JE (by omega) (by simp only [Bk];omega),Qf,ih _ (by simp only [Bl,Bk];omega)]
  simp only [QcS,Bd,Bi hk,BN,BM,BS]
theorem QEL:LO EN QjJ Qtl 0:=QN (s:=QcP) fun x y h _ q=>by simp only [QK,QL] at q;exact (QEK x.1 x.2.2.1 y.1 h).trans q
theorem QEM:QcQ.lok EN:=by
 repeat (first|exact trivial|exact QEL|refine ⟨?_, ?_⟩)
theorem s_f215 (l:List Qk)(h:Zt (Jh+1) l=true):QjL l=some (.t (.sl Qz) (WH l),[]):=by
 have hl:l.length<=100000:=by simp only [Zt,Bb,Ba] at h;exact h.1
 simp only [QjL,show W9 l 0=true from Be (by omega),show Vj l=true from h,By,BG,BC,BF,BS]
 rw [Be (by omega),Qf]
 rfl
theorem QEN:Qp Tryz.prog 215 (QP EN QcQ Qtm false):=mG Tryz.func215 (by kernel_rfl) Tryz.ntmps215 (by kernel_rfl) QEJ QEM
end
theorem Qtp: ∀ N:Nat,Qp Tryz.prog 215 (Qq (@EK ⟨N⟩))
 |0=>Ek fun x=>by first|rfl|simp [Zt]
 |N+1=>by
  letI:Fuel:=⟨N⟩
  haveI:Nonempty (PLift (Qp Tryz.prog 215 (Qq EK))):=⟨⟨Qtp N⟩⟩
  exact Qt QEN fun x hok=>(e_f215 x.1).trans (s_f215 x.1 hok)
def Qtq:Ent:=Qo (.pr (.sl Qz) .nil) (fun x=>(X8 x.1)) (fun x=>(.t (.sl Qz) (WH x.1)))
theorem QEO:Qp Tryz.prog 215 (Qq Qtq):=Qb0 Qtp fun x hok=>QEF x.1 hok
end
end Go.Proofs.YthlcobdnemhcdaaGreat.K
noncomputable section
set_option linter.unusedSectionVars false
namespace Go.Proofs.YthlcobdnemhcdaaGreat.K
open Go.RowKit
noncomputable section
theorem Qmk {n:Nat}{x:Qk}(h:okT (n+1) x=true): ∀ k (hk:k<(List.map Val.un x.2.2.2.1).length),okT n (List.map Val.un x.2.2.2.1)[k]=true:=by
 intro k hk
 rw [List.getElem_map,QcK]
 exact (UL h).2.2.2.2.2.2 _ (Bx _)
def W8 (_x:Qk):Bool:=true
def QeR (x:Qk):Bool:=okT 12 x
theorem QJ2 (x:Qk)(h:QeR x=true): ∃ N,okT N x=true:=⟨12,h⟩
theorem QJ3:Q6 Tryz.prog 300:= .inr ⟨by decide,_,Tryz.func300,by kernel_rfl,by kernel_rfl⟩
def Iv [Fuel]:Ent:=Qo (.pr Qz .nil) (fun x=>(okT Jh x.1)) (fun x=>(.t .bool (W8 x.1)))
theorem QJ4:Q6 Tryz.prog 300:=QJ3
section
variable [Fuel][Nonempty (PLift (Qp Tryz.prog 300 (Qq Iv)))]
theorem QJ5:Qp Tryz.prog 300 (Qq Iv):=(Classical.choice (inferInstance:Nonempty (PLift (Qp Tryz.prog 300 (Qq Iv))))).down
def QeS (_x:Qk):Bool:=false
def QeT [Fuel](x:Qk):Bool:=okT Jh x
def Xw [Fuel](l:List Qk):Bool:=decide (l.length<=100000)&&l.all (okT Jh)
def QJ6:TC:=aF Tryz.f307 []
def g_f307:G:=gG 6 [(300,Iv)] (fun _ _=>none)
def QxK (p0:Qk):OV:=br (okT Jh p0) (some (.t .bool (!(W8 p0)),[])) none
theorem s_f307 (x:Qk)(h:QeT x=true):QxK x=some (.t .bool (QeS x),[]):=by
 simp only [QxK,show okT Jh x=true from h,Qf]
 rfl
def QxL:Ent:=Qo (.pr Qz .nil) (fun x=>(QeT x.1)) (fun x=>(.t .bool (QeS x.1)))
theorem QJ7:EM 307 QxL:=mS g_f307 QJ6 [((.t 2),some .bool)] false (gB (gC QJ4 QJ5 gN)) fun m=>Qt m fun x hok=>kT (s_f307 x.1 hok)
def Qml (_l:List Qk):Int:= -1
abbrev QeU:Sh:=⟨[(0,.ty (.sl Qz)),(1,.cf 307),(7,.ty tI),(8,.ty tI)],[]⟩
abbrev QxM:Sh:=⟨[(4,.ty tI)],[]⟩
abbrev QeV:Sh:=⟨[],[]⟩
def Qmm:Fg:=QeU.f
def QxN:TC:=aF Tryz.f311 [(26,pL 0 Qmm),(421,.fg QeV.f),(13517,.fg QxM.f)]
def QxO:TC:=lb 0 QxN
def QxP (x0:List Qk)(x7 x8:Int):VS:=QeU.st (x0,(),x7,x8,()) ()
def Qmn (x4:Int):VS:=QxM.st (x4,()) ()
def Qmo  : VS:=QeV.st () ()
def QJ8:VS->Option (Bool×List (Bool×Exit×VS)):=mkL QeU (fun x y=>(Qy x.1 x.2.2.1 x.2.2.2.1&&Xw x.1)) (fun x y=>[((false),.ret,Qmn (x.2.2.2.1)),(true,.exit 0,Qmo)])
def Qmp:G:=gG 19 [(307,QxL)] (Ls [QJ8])
def QeW (x0:List Qk)(x7 x8:Int):OX:=QA (QC Qmp Qmm QxO) (QxP x0 x7 x8)
def Qaa (kk:List Qk->Int->Int->OX)(x0:List Qk)(x7 x8:Int):OX:=
 let a1:=lgt Qz x0 (Int.toNat x8)
 br (ilt x8 x7) (br (cIx x0 x8) (br (QeT a1) (br (QeS a1) (some (.ret,Qmn x8)) (kk x0 x7 (Qh .i64 x8 1))) none) none) (some (.exit 0,Qmo))
def Qmq (x0:List Qk)(x7 x8:Int):OX:=br (false) (some (.ret,Qmn (x8)))<|some (.exit 0,Qmo)
theorem QxQ (x0:List Qk)(x7 x8:Int):QeW x0 x7 x8=Qaa QeW x0 x7 x8:=lnT (x:=Qaa (fun x0 x7 x8=>some (.normal,QxP x0 x7 x8)) x0 x7 x8) (by simp only [Qaa,nxA];rfl)
def QxR (p0:List Qk):OV:=br (Qy p0 (Qc p0) (0:Int)&&Xw p0) (br (false) (some (.t tI (0:Int),[])) (some (.t tI (-1),[]))) none
theorem QJ9 (x0:List Qk)(x7 x8:Int)(h:(Qy x0 x7 x8&&Xw x0)=true):QeW x0 x7 x8=Qmq x0 x7 x8:=by
 simp only [Bb] at h
 obtain ⟨h0,hc⟩:=h
 obtain ⟨rfl,h3,k,rfl,hk⟩:=JR h0
 clear h0
 simp only [Xw,Bb,Bh] at hc
 refine Q5 x0 (fun k=>QeW x0 (x0.length:Int) (k:Int)=Qmq x0 (x0.length:Int) (k:Int)) ?_ ?_ k hk
 ·rw [QxQ]
  simp [Qaa,Qmq,QD,Qj]
 ·intro k hk ih
  rw [QxQ]
  have hx:=hc.2 x0[k] (Bx hk)
  simp only [Qaa,QD,QI,hk,Br,Qf,Bd,QW (show k<4611686018427387904 by omega),QO (y:=Qz) hk,show QeT x0[k]=true from hx,QeS,Qj,ih]
  rfl
theorem QKa:LO Qmp Qmm QxO 0:=QN (s:=QeU) fun x y h _ q=>by simp only [QK,QL] at q;exact (QJ9 x.1 x.2.2.1 x.2.2.2.1 h).trans q
theorem QKb (l:List Qk)(h:Xw l=true):QxR l=some (.t tI (Qml l),[]):=by
 have hl:l.length<=100000:=by simp only [Xw,Bb,Ba] at h;exact h.1
 simp only [QxR,JS hl,h,By,Qf,Qj]
 rfl
def QxS:Ent:=WA [.ty (.sl Qz),.cf 307] [] (fun x d=>(Xw x.1)) (fun x d=>(.t tI (Qml x.1)))
theorem QKc:EM 311 QxS:=mS (lk:=lkL (lkc QKa lkn)) Qmp QxN [((.t 4),some tI)] false (gB (gD QJ7 gN)) fun m=>Gj m fun x d hok=>kT (QKb x.1 hok)
def Qmr (_l:List Qk):Bool:=false
def QKd:TC:=aF Tryz.f306 []
def QKe:G:=gG 9 [(311,QxS)] (fun _ _=>none)
def QxT (p0:List Qk):OV:=br (Xw p0) (some (.t .bool (ige (Qml p0) 0),[])) none
theorem QKf (l:List Qk)(h:Xw l=true):QxT l=some (.t .bool (Qmr l),[]):=by
 simp only [QxT,h,Qf]
 rfl
def QxU:Ent:=WA [.ty (.sl Qz),.cf 307] [] (fun x d=>(Xw x.1)) (fun x d=>(.t .bool (Qmr x.1)))
theorem QKg:EM 306 QxU:=mS QKe QKd [((.t 4),some .bool)] false (gB (gD QKc gN)) fun m=>Gj m fun x d hok=>kT (QKf x.1 hok)
def Qms:TC:=aF Tryz.f300 []
def QxV:List (RV×Option Ty):=[((.t 2),some .bool)]
def QeX:G:=gG 41 [(305,QsH),(306,QxU)] (fun _ _=>none)
def Qmt (p0:Qk):OV:=
 let a1:=List.map Val.un p0.2.2.2.1
 br (Xw a1) (some (.t .bool (!(Qmr a1)),[])) none
def Qmu (p0:Qk):OV:=br (!p0.2.2.1) (br (igt (Qc (List.map Val.un p0.2.2.2.1)) 0) (some (.t .bool false,[])) (Qmt p0)) (Qmt p0)
def Qmv (p0:Qk):OV:=br (!(O3 p0.1)) (some (.t .bool false,[])) (br (En p0.2.2.1 (ine (Fu .i64 p0.1 32) 0)) (some (.t .bool false,[])) (br (p0.2.2.1) (br (igt (Qc p0.2.1) 0) (some (.t .bool false,[])) (Qmu p0)) (Qmu p0)))
theorem e_f300 (p0:Qk):QP QeX Qms QxV false [.t Qz p0] []=Qmv p0:=by kernel_rfl
theorem QKh:GOk Tryz.prog QeX:=Jw _ (gA (gD QDV (gD QKg gN)))
theorem QKi:Qms.lok QeX:=by repeat (first|exact trivial|refine ⟨?_, ?_⟩)
theorem s_f300 (x:Qk)(h:okT (Jh+1) x=true):Qmv x=some (.t .bool (W8 x),[]):=by
 obtain ⟨h1,h2,h3,h4,h5,h6,h7⟩:=UL h
 have hu:Xw (List.map Val.un x.2.2.2.1)=true:=by
  simp only [Xw,Bb,Ba,BL,Bh,Dd]
  refine ⟨h6, ?_⟩
  rintro y ⟨v,hv,rfl⟩
  rw [QcK]
  exact h7 v hv
 have ht:O3 x.1=true:=by rcases h1 with e|e|e|e<;>rw [e]<;>rfl
 have hn:En x.2.2.1 (ine (Fu .i64 x.1 32) 0)=false:=by rw [h2];rcases h1 with e|e|e|e<;>rw [e]<;>rfl
 simp only [Qmv,Qmu,Qmt,ht,hn,hu,BK,Qf,Qj]
 cases hq:x.2.2.1 with
 |true=>
  rw [h3 hq]
  rfl
 |false=>
  rw [h4 hq]
  rfl
theorem QKj:Qp Tryz.prog 300 (QP QeX Qms QxV false):=mG Tryz.func300 (by kernel_rfl) Tryz.ntmps300 (by kernel_rfl) QKh QKi
end
theorem QKk: ∀ N:Nat,Qp Tryz.prog 300 (Qq (@Iv ⟨N⟩))
 |0=>Ek fun x=>by first|rfl|simp [okT]
 |N+1=>by
  letI:Fuel:=⟨N⟩
  haveI:Nonempty (PLift (Qp Tryz.prog 300 (Qq Iv))):=⟨⟨QKk N⟩⟩
  exact Qt QKj fun x hok=>(e_f300 x.1).trans (s_f300 x.1 hok)
theorem QxW:Q6 Tryz.prog 212:= .inr ⟨by decide,_,Tryz.func212,by kernel_rfl,by kernel_rfl⟩
def Iw [Fuel]:Ent:=Qo (.pr Qz .nil) (fun x=>(okT Jh x.1)) (fun x=>(.t .bool (W8 x.1)))
theorem QKl:Q6 Tryz.prog 212:=QxW
section
variable [Fuel][Nonempty (PLift (Qp Tryz.prog 212 (Qq Iw)))]
theorem QKm:Qp Tryz.prog 212 (Qq Iw):=(Classical.choice (inferInstance:Nonempty (PLift (Qp Tryz.prog 212 (Qq Iw))))).down
def QeY [Fuel](x:Qk):Bool:=okT (Jh+1) x
abbrev QeZ:Sh:=⟨[(1,.ptr 1 0),(3,.ty tI)],[(1,.box Qz)]⟩
abbrev QxX:Sh:=⟨[(2,.ty .bool)],[]⟩
def Qmw:Fg:=QeZ.f
def Qe0:TC:=aF Tryz.f212 [(58,pL 0 Qmw),(931,.fg QeV.f),(7461,.fg QxX.f)]
def QxY:TC:=lb 0 Qe0
def QxZ:List (RV×Option Ty):=[((.t 2),some .bool)]
def Qx0 (x3:Int)(y1:Qk):VS:=QeZ.st ((),x3,()) (y1,())
def Qmx (x2:Bool):VS:=QxX.st (x2,()) ()
def Qmy  : VS:=QeV.st () ()
def QKn:VS->Option (Bool×List (Bool×Exit×VS)):=mkL QeZ (fun x y=>(decide (0<=x.2.1/\x.2.1<=y.1.2.2.2.1.length)&&QeY y.1)) (fun x y=>[((false),.ret,Qmx (false)),(true,.exit 0,Qmy)])
def Ix:G:=gG 53 [(212,Iw),(246,QsJ)] (Ls [QKn])
def Qe1 (x3:Int)(y1:Qk):OX:=QA (QC Ix Qmw QxY) (Qx0 x3 y1)
def Qab (kk:Int->Qk->OX)(x3:Int)(y1:Qk):OX:=
 let a1:=List.map Val.un y1.2.2.2.1
 let a2:=lgt Qz a1 (Int.toNat x3)
 br (ilt x3 (Qc a1)) (br (cIx a1 x3) (br (okT Jh a2) (br (!(W8 a2)) (some (.ret,Qmx false)) (kk (Qh .i64 x3 1) y1)) none) none) (some (.exit 0,Qmy))
def Qmz (x3:Int)(y1:Qk):OX:=br (false) (some (.ret,Qmx (false)))<|some (.exit 0,Qmy)
theorem Qx1 (x3:Int)(y1:Qk):Qe1 x3 y1=Qab Qe1 x3 y1:=lnT (x:=Qab (fun x3 y1=>some (.normal,Qx0 x3 y1)) x3 y1) (by simp only [Qab,nxA];rfl)
def QmA (p0:Qk):OV:=br (decide (0<=(0:Int)/\(0:Int)<=p0.2.2.2.1.length)&&QeY p0) (br (false) (some (.t .bool (false),[])) (some (.t .bool true,[]))) none
def QmB (p0:Qk):OV:=br (!p0.2.2.1) (br (igt (Qc (List.map Val.un p0.2.2.2.1)) 0) (some (.t .bool false,[])) (QmA p0)) (QmA p0)
def QmC (p0:Qk):OV:=br (!(O4 p0.1)) (some (.t .bool false,[])) (br (cNz 32) (br (cNz 2) (br (En p0.2.2.1 (ieq (XC (G8 .i64 p0.1 32) 2) 1)) (some (.t .bool false,[])) (br (p0.2.2.1) (br (igt (Qc p0.2.1) 0) (some (.t .bool false,[])) (QmB p0)) (QmB p0))) none) none)
theorem e_f212 (p0:Qk):QP Ix Qe0 QxZ false [.t Qz p0] []=QmC p0:=by kernel_rfl
theorem QKo:GOk Tryz.prog Ix:=Jw _ (gA (gC QKl QKm (gD QDX gN)))
theorem QKp (x3:Int)(y1:Qk)(h:(decide (0<=x3/\x3<=y1.2.2.2.1.length)&&QeY y1)=true):Qe1 x3 y1=Qmz x3 y1:=by
 simp only [Bb,Ba] at h
 obtain ⟨⟨h0,h1⟩,hc⟩:=h
 obtain ⟨k,rfl⟩:=Bu h0
 have hm:=Qmk hc
 have hl:=(UL hc).2.2.2.2.2.1
 refine Q5 (List.map Val.un y1.2.2.2.1) (fun k=>Qe1 (k:Int) y1=Qmz (k:Int) y1) ?_ ?_ k (by rw [BL];omega)
 ·rw [Qx1]
  simp [Qab,Qmz,ilt,Qc,Qj]
 ·intro k hk ih
  rw [Qx1]
  have hk2:k<y1.2.2.2.1.length:=by rw [BL] at hk;exact hk
  simp only [Qab,show ilt (k:Int) (Qc (List.map Val.un y1.2.2.2.1))=true from Be (by simp only [Qc];omega),QI,hk,Br,Qf,Bd,QW (show k<4611686018427387904 by omega),QO (y:=Qz) hk,hm k hk,W8,BK,Qj,ih]
  rfl
theorem QKq:LO Ix Qmw QxY 0:=QN (s:=QeZ) fun x y h _ q=>by simp only [QK,QL] at q;exact (QKp x.2.1 y.1 h).trans q
theorem QKr:Qe0.lok Ix:=by
 repeat (first|exact trivial|exact QKq|refine ⟨?_, ?_⟩)
theorem s_f212 (x:Qk)(h:okT (Jh+1) x=true):QmC x=some (.t .bool (W8 x),[]):=by
 obtain ⟨h1,h2,h3,h4,h5,h6,h7⟩:=UL h
 have ht:O4 x.1=true:=by rcases h1 with e|e|e|e<;>rw [e]<;>rfl
 have hn:En x.2.2.1 (ieq (XC (G8 .i64 x.1 32) 2) 1)=false:=by rw [h2];rcases h1 with e|e|e|e<;>rw [e]<;>rfl
 have hd:decide ((0:Int)<=0/\(0:Int)<=x.2.2.2.1.length)=true:=Be (by omega)
 simp only [QmC,QmB,QmA,ht,hn,hd,show QeY x=true from h,B2,show cNz 32=true from rfl,show cNz 2=true from rfl,BK,Qf,Qj]
 cases hq:x.2.2.1 with
 |true=>
  rw [h3 hq]
  rfl
 |false=>
  rw [h4 hq]
  rfl
theorem QKs:Qp Tryz.prog 212 (QP Ix Qe0 QxZ false):=mG Tryz.func212 (by kernel_rfl) Tryz.ntmps212 (by kernel_rfl) QKo QKr
end
theorem Qx2: ∀ N:Nat,Qp Tryz.prog 212 (Qq (@Iw ⟨N⟩))
 |0=>Ek fun x=>by first|rfl|simp [okT]
 |N+1=>by
  letI:Fuel:=⟨N⟩
  haveI:Nonempty (PLift (Qp Tryz.prog 212 (Qq Iw))):=⟨⟨Qx2 N⟩⟩
  exact Qt QKs fun x hok=>(e_f212 x.1).trans (s_f212 x.1 hok)
def Qx3:Ent:=Qo (.pr Qz .nil) (fun x=>(QeR x.1)) (fun x=>(.t .bool (W8 x.1)))
theorem QKt:Qp Tryz.prog 212 (Qq Qx3):=Qb0 Qx2 fun x hok=>QJ2 x.1 hok
def dpV (x:Qk):Int:=(Gf (Val.of x):Int)
def Xa (n:Nat)(x:Qk):Bool:=okT n x&&decide (n<=100)
def Qe2 (x:Qk):Bool:=okT 12 x
theorem QKu (x:Qk)(h:Qe2 x=true): ∃ N,Xa N x=true:=⟨12,by rw [Xa,show okT 12 x=true from h];rfl⟩
def UZ (l:List Qk):Nat:=Ef (l.map Val.of)
theorem QKv:UZ []=0:=rfl
theorem QKw (x:Qk)(l:List Qk):UZ (x::l)=max (Gf (Val.of x)) (UZ l):=rfl
theorem Qe3 (x:Qk):Gf (Val.of x)=Ef x.2.2.2.1+1:=rfl
theorem QKx (a b:Nat):imx (a:Int) (b:Int)=((max a b:Nat):Int):=by
 unfold imx
 split<;>omega
def QKy [Fuel]:Ent:=Qo (.pr Qz .nil) (fun x=>(Xa Jh x.1)) (fun x=>(.t tI (dpV x.1)))
section
variable [Fuel][Nonempty (PLift (Qp Tryz.prog 301 (Qq QKy)))]
def QmD [Fuel](l:List Qk):Bool:=decide (l.length<=100000/\Jh+1<=100)&&l.all (okT Jh)
-- loop 0: (x3 : Int) (x7 : (List Qk)) (x8 : Int) (x9 : Int); out: ('exit', 0) (x3 : Int)
def Qx4 (p0:Qk):OV:=
 let a1:=List.map Val.un p0.2.2.2.1
 br (Qy a1 (Qc a1) (0:Int)&&QmD a1&&decide (0<=(0:Int)/\(0:Int)<=100)) (some (.t tI (Qh .i64 ((max (0:Int).toNat (UZ (a1.drop (0:Int).toNat)):Nat):Int) 1),[])) none
theorem s_f301 (x:Qk)(h:Xa (Jh+1) x=true):Qx4 x=some (.t tI (dpV x),[]):=by
 simp only [Xa,Bb,Ba] at h
 obtain ⟨h,hf⟩:=h
 obtain ⟨h1,h2,h3,h4,h5,h6,h7⟩:=UL h
 have hu:QmD (List.map Val.un x.2.2.2.1)=true:=by
  simp only [QmD,Bb,Ba,BL,Bh,Dd]
  refine ⟨⟨h6,hf⟩, ?_⟩
  rintro y ⟨v,hv,rfl⟩
  rw [QcK]
  exact h7 v hv
 have hd:=QbM (v:=Val.of x) h
 rw [Qe3] at hd
 simp only [Qx4,JS (show (List.map Val.un x.2.2.2.1).length<=100000 by rw [BL];exact h6),hu,B2,show decide ((0:Int)<=0/\(0:Int)<=100)=true from rfl,Qf,BC,BF,UZ,Fk,Nat.zero_max]
 rw [JU (by omega)]
 simp only [dpV,Qe3]
 congr 2
end
theorem Qx5:Q6 Tryz.prog 213:= .inr ⟨by decide,_,Tryz.func213,by kernel_rfl,by kernel_rfl⟩
def Iy [Fuel]:Ent:=Qo (.pr Qz .nil) (fun x=>(Xa Jh x.1)) (fun x=>(.t tI (dpV x.1)))
theorem QKz:Q6 Tryz.prog 213:=Qx5
section
variable [Fuel][Nonempty (PLift (Qp Tryz.prog 213 (Qq Iy)))]
theorem QKA:Qp Tryz.prog 213 (Qq Iy):=(Classical.choice (inferInstance:Nonempty (PLift (Qp Tryz.prog 213 (Qq Iy))))).down
def Qac [Fuel](x:Qk):Bool:=Xa (Jh+1) x
abbrev Qe4:Sh:=⟨[(1,.ptr 1 0),(3,.ty tI),(4,.ty tI)],[(1,.box Qz)]⟩
abbrev Qx6:Sh:=⟨[(3,.ty tI)],[]⟩
def QmE:Fg:=Qe4.f
def Qe5:TC:=aF Tryz.f213 [(58,pL 0 QmE),(931,.fg Qx6.f)]
def Qx7:TC:=lb 0 Qe5
def Qx8:List (RV×Option Ty):=[((.t 2),some tI)]
def Qx9 (x3 x4:Int)(y1:Qk):VS:=Qe4.st ((),x3,x4,()) (y1,())
def QmF (x3:Int):VS:=Qx6.st (x3,()) ()
def QKB:VS->Option (Bool×List (Bool×Exit×VS)):=mkL Qe4 (fun x y=>(decide (0<=x.2.2.1/\x.2.2.1<=y.1.2.2.2.1.length/\0<=x.2.1/\x.2.1<=100)&&Qac y.1)) (fun x y=>[(true,.exit 0,QmF ((max x.2.1.toNat (UZ ((List.map Val.un y.1.2.2.2.1).drop x.2.2.1.toNat)):Nat):Int))])
def Iz:G:=gG 22 [(213,Iy)] (Ls [QKB])
def Qe6 (x3 x4:Int)(y1:Qk):OX:=QA (QC Iz QmE Qx7) (Qx9 x3 x4 y1)
def Qad (kk:Int->Int->Qk->OX)(x3 x4:Int)(y1:Qk):OX:=
 let a1:=List.map Val.un y1.2.2.2.1
 let a2:=lgt Qz a1 (Int.toNat x4)
 br (ilt x4 (Qc a1)) (br (cIx a1 x4) (br (Xa Jh a2) (kk (imx x3 (dpV a2)) (Qh .i64 x4 1) y1) none) none) (some (.exit 0,QmF x3))
def Qe7 (x3 x4:Int)(y1:Qk):OX:=some (.exit 0,QmF ((max x3.toNat (UZ ((List.map Val.un y1.2.2.2.1).drop x4.toNat)):Nat):Int))
theorem Qya (x3 x4:Int)(y1:Qk):Qe6 x3 x4 y1=Qad Qe6 x3 x4 y1:=lnT (x:=Qad (fun x3 x4 y1=>some (.normal,Qx9 x3 x4 y1)) x3 x4 y1) (by simp only [Qad,nxA];rfl)
def QmG (p0:Qk):OV:=br (decide (0<=(0:Int)/\(0:Int)<=p0.2.2.2.1.length/\0<=(0:Int)/\(0:Int)<=100)&&Qac p0) (some (.t tI (Qh .i64 ((max (0:Int).toNat (UZ ((List.map Val.un p0.2.2.2.1).drop (0:Int).toNat)):Nat):Int) 1),[])) none
theorem e_f213 (p0:Qk):QP Iz Qe5 Qx8 false [.t Qz p0] []=QmG p0:=by kernel_rfl
theorem QKC:GOk Tryz.prog Iz:=Jw _ (gA (gC QKz QKA gN))
theorem QKD (x3 x4:Int)(y1:Qk)(h:(decide (0<=x4/\x4<=y1.2.2.2.1.length/\0<=x3/\x3<=100)&&Qac y1)=true):Qe6 x3 x4 y1=Qe7 x3 x4 y1:=by
 simp only [Bb,Ba] at h
 obtain ⟨⟨h0,h1,h2,h3⟩,hc⟩:=h
 obtain ⟨k,rfl⟩:=Bu h0
 obtain ⟨m,rfl⟩:=Bu h2
 clear h2 h3
 simp only [Qac,Xa,Bb,Ba] at hc
 obtain ⟨hc,hf⟩:=hc
 have hm:=Qmk hc
 have hl:=(UL hc).2.2.2.2.2.1
 revert m
 refine Q5 (List.map Val.un y1.2.2.2.1) (fun k=> ∀ m:Nat,Qe6 (m:Int) (k:Int) y1=Qe7 (m:Int) (k:Int) y1) ?_ ?_ k (by rw [BL];omega)
 ·intro m
  rw [Qya]
  simp only [Qad,show ilt ((List.map Val.un y1.2.2.2.1).length:Int) (Qc (List.map Val.un y1.2.2.2.1))=false from Bp (by simp only [Qc];omega),Qj]
  simp only [Qe7,Bd,B5,QKv,Nat.max_zero]
 ·intro k hk ih m
  rw [Qya]
  have hk2:k<y1.2.2.2.1.length:=by rw [BL] at hk;exact hk
  have hd:Xa Jh (List.map Val.un y1.2.2.2.1)[k]=true:=by rw [Xa,hm k hk,Be (by omega)];rfl
  simp only [Qad,show ilt (k:Int) (Qc (List.map Val.un y1.2.2.2.1))=true from Be (by simp only [Qc];omega),QI,hk,Br,Qf,Bd,QW (show k<4611686018427387904 by omega),QO (y:=Qz) hk,hd,dpV,QKx,ih]
  simp only [Qe7,Bd,Bi hk,QKw,Nat.max_assoc]
theorem QKE:LO Iz QmE Qx7 0:=QN (s:=Qe4) fun x y h _ q=>by simp only [QK,QL] at q;exact (QKD x.2.1 x.2.2.1 y.1 h).trans q
theorem QKF:Qe5.lok Iz:=by
 repeat (first|exact trivial|exact QKE|refine ⟨?_, ?_⟩)
theorem s_f213 (x:Qk)(h:Xa (Jh+1) x=true):QmG x=some (.t tI (dpV x),[]):=by
 have hin:Qac x=true:=h
 simp only [Xa,Bb,Ba] at h
 obtain ⟨h,hf⟩:=h
 have hd:=QbM (v:=Val.of x) h
 rw [Qe3] at hd
 have hdd:decide ((0:Int)<=0/\(0:Int)<=x.2.2.2.1.length/\(0:Int)<=0/\(0:Int)<=100)=true:=Be (by omega)
 simp only [QmG,hin,hdd,B2,Qf,BC,BF,UZ,Fk,Nat.zero_max]
 rw [JU (by omega)]
 simp only [dpV,Qe3]
 congr 2
theorem QKG:Qp Tryz.prog 213 (QP Iz Qe5 Qx8 false):=mG Tryz.func213 (by kernel_rfl) Tryz.ntmps213 (by kernel_rfl) QKC QKF
end
theorem Qyb: ∀ N:Nat,Qp Tryz.prog 213 (Qq (@Iy ⟨N⟩))
 |0=>Ek fun x=>by first|rfl|simp [Xa]
 |N+1=>by
  letI:Fuel:=⟨N⟩
  haveI:Nonempty (PLift (Qp Tryz.prog 213 (Qq Iy))):=⟨⟨Qyb N⟩⟩
  exact Qt QKG fun x hok=>(e_f213 x.1).trans (s_f213 x.1 hok)
def Qyc:Ent:=Qo (.pr Qz .nil) (fun x=>(Qe2 x.1)) (fun x=>(.t tI (dpV x.1)))
theorem QKH:Qp Tryz.prog 213 (Qq Qyc):=Qb0 Qyb fun x hok=>QKu x.1 hok
end
end Go.Proofs.YthlcobdnemhcdaaGreat.K
noncomputable section
set_option linter.unusedSectionVars false
namespace Go.Proofs.YthlcobdnemhcdaaGreat.K
open Go.RowKit
noncomputable section
def Zx (x:Qk):List Int:=QbL (Val.of x)
def ZF (l:List Qk):List Int:=Z7 (l.map Val.of)
theorem O7:ZF []=[]:=rfl
theorem Fd (x:Qk)(l:List Qk):ZF (x::l)=Zx x++ZF l:=rfl
theorem Qcy (x:Qk):Zx x=icv .u8 x.1::(Ge (x.2.1.length+(Z7 x.2.2.2.1).length)++(x.2.1++Z7 x.2.2.2.1)):=rfl
theorem QsS (x:Qk):x.2.1.length+(Z7 x.2.2.2.1).length<=(Zx x).length:=QCv x.1 x.2.1 x.2.2.1 x.2.2.2.1
theorem QsT: ∀ (l:List Qk) (k:Nat) (hk:k<l.length),(ZF (l.take k)).length+(Zx l[k]).length<=(ZF l).length
 | [],k,hk=>by simp at hk
 |x::l,0,_=>by
  rw [List.take_zero,O7,Fd,Bl]
  simp
 |x::l,k+1,hk=>by
  simp only [Bq] at hk
  have:=QsT l k (by omega)
  simp only [List.take_succ_cons,Fd,Bl,DG]
  omega
theorem Qcz (n:Nat):(Ge n).length<=9:=by
 unfold Ge
 split
 ·simp
 ·rw [Bq,Qh1]
  have:=Qh2 8 n
  omega
def X5 (n:Nat)(x:Qk):Bool:=okT n x&&decide ((Zx x).length<=100000000)
def Uy (x:Qk):Bool:=okT 12 x&&decide ((Zx x).length<=100000000)
theorem QD3 (x:Qk)(h:Uy x=true): ∃ N,X5 N x=true:=⟨12,h⟩
theorem QsU:Q6 Tryz.prog 214:= .inr ⟨by decide,_,Tryz.func214,by kernel_rfl,by kernel_rfl⟩
def EB [Fuel]:Ent:=Qo (.pr Qz .nil) (fun x=>(X5 Jh x.1)) (fun x=>(.t (.sl (.int .u8)) (Zx x.1)))
theorem QD4:Q6 Tryz.prog 214:=QsU
section
variable [Fuel][Nonempty (PLift (Qp Tryz.prog 214 (Qq EB)))]
theorem QD5:Qp Tryz.prog 214 (Qq EB):=(Classical.choice (inferInstance:Nonempty (PLift (Qp Tryz.prog 214 (Qq EB))))).down
def O8 [Fuel](x:Qk):Bool:=X5 (Jh+1) x
abbrev QcA:Sh:=⟨[(1,.ptr 1 0),(3,.ms 5),(4,.ty tI)],[(1,.box Qz),(3,.no),(5,.arr 5 (.int .u8)),(8,.no),(23,.no)]⟩
abbrev QsV:Sh:=⟨[(1,.ptr 1 0),(3,.ms 5)],[(1,.box Qz),(3,.no),(5,.arr 5 (.int .u8)),(8,.no),(23,.no)]⟩
def Qjc:Fg:=QcA.f
def QcB:TC:=aF Tryz.f214 [(58,.nw 3 5),(58,pL 0 Qjc),(931,.fg QsV.f),(30,pD [(0,[1]),(1,[1]),(2,[]),(3,[27,5027,10027,15027]),(4,[3,5,8,23]),(5,[3,5,8,23]),(6,[]),(7,[27,31,5031,10031,15031]),(8,[3,5,8,23]),(9,[3,5,8,23,27,31,33,5033,10033,15033]),(10,[27,31,33])] (.of [0,1,2,4,5,6,8,3,7,9,10]))]
def QsW:TC:=lb 0 QcB
def QsX:List (RV×Option Ty):=[((.t 2),some (.sl (.int .u8)))]
def QsY (x4:Int)(y1:Qk)(y5:List Int):VS:=QcA.st ((),(),x4,()) (y1,(),y5,(),(),())
def Qjd (y1:Qk)(y5:List Int):VS:=QsV.st ((),(),()) (y1,(),y5,(),(),())
def QD6:VS->Option (Bool×List (Bool×Exit×VS)):=mkL QcA (fun x y=>(decide (0<=x.2.2.1/\x.2.2.1<=y.1.2.2.2.1.length/\y.2.2.1.length+(ZF ((List.map Val.un y.1.2.2.2.1).drop x.2.2.1.toNat)).length<=1000000000)&&O8 y.1)) (fun x y=>[(true,.exit 0,Qjd (y.1) (y.2.2.1++ZF ((List.map Val.un y.1.2.2.2.1).drop x.2.2.1.toNat)))])
def EC:G:=⟨TYs,[5,27],34,EL [(214,EB),(247,QsR)],keeps,(Ls [QD6]),IL [],RL []⟩
def QcC (x4:Int)(y1:Qk)(y5:List Int):OX:=QA (QC EC Qjc QsW) (QsY x4 y1 y5)
def O9 (kk:Int->Qk->List Int->OX)(x4:Int)(y1:Qk)(y5:List Int):OX:=
 let a2:=List.map Val.un y1.2.2.2.1
 let a1:=lgt Qz a2 (Int.toNat x4)
 br (ilt x4 (Qc a2)) (br (cIx a2 x4) (br (X5 Jh a1) (br (Qx y5 (Zx a1) 1) (kk (Qh .i64 x4 1) y1 (y5++(Zx a1))) none) none) none) (some (.exit 0,Qjd y1 y5))
def QcD (x4:Int)(y1:Qk)(y5:List Int):OX:=some (.exit 0,Qjd (y1) (y5++ZF ((List.map Val.un y1.2.2.2.1).drop x4.toNat)))
theorem QsZ (x4:Int)(y1:Qk)(y5:List Int):QcC x4 y1 y5=O9 QcC x4 y1 y5:=lnT (x:=O9 (fun x4 y1 y5=>some (.normal,QsY x4 y1 y5)) x4 y1 y5) (by simp only [O9,nxA];rfl)
def Qje (p0:Qk):OV:=
 let a2:=List.map Val.un p0.2.2.2.1
 let a3:=(a2.drop (0:Int).toNat)
 let a1:=(Qc ((([]:List Int)++p0.2.1)++ZF a3))
 let a4:=icv .u8 ((p0).1)
 br (Qx ([]:List Int) p0.2.1 1) (br (decide (0<=(0:Int)/\(0:Int)<=p0.2.2.2.1.length/\(([]:List Int)++p0.2.1).length+(ZF a3).length<=1000000000)&&O8 p0) (br (O5 a1) (br (Qx ([a4]) (Ux a1) 1) (br (Qx (([a4])++(Ux a1)) ((([]:List Int)++p0.2.1)++ZF a3) 1) (some (.t (.sl (.int .u8)) ((([a4])++(Ux a1))++((([]:List Int)++p0.2.1)++ZF a3)),[])) none) none) none) none) none
theorem e_f214 (p0:Qk):QP EC QcB QsX false [.t Qz p0] []=Qje p0:=by kernel_rfl
theorem QD7:GOk Tryz.prog EC:=Jw _ (gA (gC QD4 QD5 (gD QD2 gN)))
theorem QD8 (x4:Int)(y1:Qk)(y5:List Int)(h:(decide (0<=x4/\x4<=y1.2.2.2.1.length/\y5.length+(ZF ((List.map Val.un y1.2.2.2.1).drop x4.toNat)).length<=1000000000)&&O8 y1)=true):QcC x4 y1 y5=QcD x4 y1 y5:=by
 simp only [Bb,Ba] at h
 obtain ⟨⟨h0,h1,h2⟩,hc⟩:=h
 obtain ⟨k,rfl⟩:=Bu h0
 simp only [O8,X5,Bb,Ba] at hc
 obtain ⟨hc,hf⟩:=hc
 have hm:=Qmk hc
 have hl:=(UL hc).2.2.2.2.2.1
 rw [Bd] at h2
 have hel:=QsS y1
 have hE:ZF (List.map Val.un y1.2.2.2.1)=Z7 y1.2.2.2.1:=by rw [ZF,Fk]
 revert y5
 refine Q5 (List.map Val.un y1.2.2.2.1) (fun k=> ∀ y5:List Int,y5.length+(ZF ((List.map Val.un y1.2.2.2.1).drop k)).length<=1000000000->QcC (k:Int) y1 y5=QcD (k:Int) y1 y5) ?_ ?_ k (by rw [BL];omega)
 ·intro y5 _
  rw [QsZ]
  simp only [O9,show ilt ((List.map Val.un y1.2.2.2.1).length:Int) (Qc (List.map Val.un y1.2.2.2.1))=false from Bp (by simp only [Qc];omega),Qj]
  simp only [QcD,Bd,B5,O7,BP]
 ·intro k hk ih y5 hy
  rw [QsZ]
  have hk2:k<y1.2.2.2.1.length:=by rw [BL] at hk;exact hk
  have hs:=QsT (List.map Val.un y1.2.2.2.1) k hk
  rw [hE] at hs
  rw [Bi hk,Fd,Bl] at hy
  have hd:X5 Jh (List.map Val.un y1.2.2.2.1)[k]=true:=by rw [X5,hm k hk,Be (by omega)];rfl
  simp only [O9,show ilt (k:Int) (Qc (List.map Val.un y1.2.2.2.1))=true from Be (by simp only [Qc];omega),QI,hk,Br,Qf,Bd,QW (show k<4611686018427387904 by omega),QO (y:=Qz) hk,hd]
  rw [JE (by omega) (by omega),Qf,ih _ (by rw [Bl];omega)]
  simp only [QcD,Bd,Bi hk,Fd,BN]
theorem QD9:LO EC Qjc QsW 0:=QN (s:=QcA) fun x y h _ q=>by simp only [QK,QL] at q;exact (QD8 x.2.2.1 y.1 y.2.2.1 h).trans q
theorem QEa:QcB.lok EC:=by
 repeat (first|exact trivial|exact QD9|refine ⟨?_, ?_⟩)
theorem s_f214 (x:Qk)(h:X5 (Jh+1) x=true):Qje x=some (.t (.sl (.int .u8)) (Zx x),[]):=by
 have hin:O8 x=true:=h
 simp only [X5,Bb,Ba] at h
 obtain ⟨h,hf⟩:=h
 have hel:=QsS x
 have hE:ZF (List.map Val.un x.2.2.2.1)=Z7 x.2.2.2.1:=by rw [ZF,Fk]
 have hll:=Qcz (x.2.1.length+(Z7 x.2.2.2.1).length)
 simp only [Qje,hin,Dl,BS,BC,BF,hE]
 rw [JE (by omega) (by simp only [BG];omega),Qf,Be ⟨by omega,by omega,by omega⟩,Qf]
 have e1:O5 (Qc (x.2.1++Z7 x.2.2.2.1))=true:=Be (by simp only [Qc,Bl];omega)
 have e2:Ux (Qc (x.2.1++Z7 x.2.2.2.1))=Ge (x.2.1.length+(Z7 x.2.2.2.1).length):=by simp only [Ux,Qc,Bl,Bd]
 rw [e1,Qf,e2,JE (by omega) (by simp only [Bk];omega),Qf,JE (by omega) (by simp only [Bl,Bk];omega),Qf,Qcy]
 simp only [BM,Dm,BS]
theorem QEb:Qp Tryz.prog 214 (QP EC QcB QsX false):=mG Tryz.func214 (by kernel_rfl) Tryz.ntmps214 (by kernel_rfl) QD7 QEa
end
theorem Qs0: ∀ N:Nat,Qp Tryz.prog 214 (Qq (@EB ⟨N⟩))
 |0=>Ek fun x=>by first|rfl|simp [X5]
 |N+1=>by
  letI:Fuel:=⟨N⟩
  haveI:Nonempty (PLift (Qp Tryz.prog 214 (Qq EB))):=⟨⟨Qs0 N⟩⟩
  exact Qt QEb fun x hok=>(e_f214 x.1).trans (s_f214 x.1 hok)
def Qs1:Ent:=Qo (.pr Qz .nil) (fun x=>(Uy x.1)) (fun x=>(.t (.sl (.int .u8)) (Zx x.1)))
theorem QEc:Qp Tryz.prog 214 (Qq Qs1):=Qb0 Qs0 fun x hok=>QD3 x.1 hok
def Uz (x:Qk):List Int×Int:=if 4096<(Zx x).length then ([],3) else (Zx x,0)
theorem QEd {x:Qk}(h:okT 12 x=true):igt (dpV x) 16=false:=by
 have:=QbM (v:=Val.of x) h
 exact Bp (by show ¬ ((Gf (Val.of x):Int) > 16);omega)
def QEe:TC:=aF Tryz.f166 []
def g_f166:G:=gG 17 [(212,Qx3),(213,Qyc),(214,Qs1)] (fun _ _=>none)
def Qs2 (p0:Qk):OV:=br (QeR p0) (br (!(W8 p0)) (some (.tu [(.t (.sl (.int .u8)) ([]:List Int)),(.t tI 1)],[])) (br (Qe2 p0) (br (igt (dpV p0) 16) (some (.tu [(.t (.sl (.int .u8)) ([]:List Int)),(.t tI 3)],[])) (br (Uy p0) (br (igt (Qc (Zx p0)) 4096) (some (.tu [(.t (.sl (.int .u8)) ([]:List Int)),(.t tI 3)],[])) (some (.tu [(.t (.sl (.int .u8)) (Zx p0)),(.t tI 0)],[]))) none)) none)) none
theorem s_f166 (x:Qk)(h:Uy x=true):Qs2 x=some (.tu [.t (.sl (.int .u8)) (Uz x).1,.t tI (Uz x).2],[]):=by
 have h':=h
 simp only [Uy,Bb,Ba] at h'
 obtain ⟨h1,h2⟩:=h'
 simp only [Qs2,show QeR x=true from h1,show Qe2 x=true from h1,h,QEd h1,W8,BK,Qf,Qj]
 unfold Uz
 refine QV (fun g=> ?_) (fun g=> ?_)
 ·simp only [igt,Qc,Ba] at g
  rw [if_pos (by omega)]
 ·simp only [igt,Qc,Bn] at g
  rw [if_neg (by omega)]
def Qs3:Ent:=Qo (.pr Qz .nil) (fun x=>(Uy x.1)) (fun x=>(.tu [(.t (.sl (.int .u8)) ((Uz x.1).1)),(.t tI ((Uz x.1).2))]))
theorem QEf:EM 166 Qs3:=mS g_f166 QEe [((.t 2),some (.sl (.int .u8))),((.t 3),some tI)] false (gB (gC QxW QKt (gC Qx5 QKH (gC QsU QEc gN)))) fun m=>Qt m fun x hok=>kT (s_f166 x.1 hok)
def conV (x:Qk):List Int:=x.2.1++Z7 x.2.2.2.1
def QEg [Fuel]:Ent:=Qo (.pr Qz .nil) (fun x=>(X5 Jh x.1)) (fun x=>(.t (.sl (.int .u8)) (conV x.1)))
section
variable [Fuel][Nonempty (PLift (Qp Tryz.prog 308 (Qq QEg)))]
end
def XG (l:List Qk):Qk:=(48,(([]:List Int),(true,(List.map Val.of l,()))))
def QEh:TC:=aF Tryz.f167 []
def g_f167:G:=gG 6 [(215,Qtq)] (fun _ _=>none)
def Qs4 (p0:List Qk):OV:=br (X8 p0) (some (.t Qz (48,(([]:List Int),(true,((List.map Val.of (WH p0)),())))),[])) none
theorem s_f167 (l:List Qk)(h:X8 l=true):Qs4 l=some (.t Qz (XG l),[]):=by
 simp only [Qs4,h,Qf]
 rfl
def Qjf:Ent:=Qo (.pr (.sl Qz) .nil) (fun x=>(X8 x.1)) (fun x=>(.t Qz (XG x.1)))
theorem Qs5:EM 167 Qjf:=mS g_f167 QEh [((.c 2 true 4),some Qz)] false (gB (gC Qtj QEO gN)) fun m=>Qt m fun x hok=>kT (s_f167 x.1 hok)
end
end Go.Proofs.YthlcobdnemhcdaaGreat.K
