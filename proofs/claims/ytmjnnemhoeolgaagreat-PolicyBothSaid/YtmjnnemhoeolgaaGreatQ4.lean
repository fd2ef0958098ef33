import Derived.Test.YtmjnnemhoeolgaaGreatQ3
set_option linter.unusedSimpArgs false
set_option linter.unusedVariables false
noncomputable section
namespace Go.Proofs.YtmjnnemhoeolgaaGreat.K
open Go.RowKit
def QmR:TC:=aF Tryz.f197 []
def QmS:List (RV×Option Ty):=[((.c 0 true 115),some (.pr Ql (.pr Ql (.pr Ql (.pr Ql (.pr Ql (.pr Ql (.pr Ql (.pr Ql (.pr Ql (.pr Ql (.pr Ql (.pr Ql (.pr Ql (.pr Ql (.pr Ql (.pr Ql (.pr Ql (.pr Ql (.pr Ql (.pr Ql (.pr Ql (.pr Ql (.pr Ql .nil))))))))))))))))))))))))]
def QmT:G:=gG 46 [] (fun _ _=>none)
def QmU  : OV:=some (.t (.pr Ql (.pr Ql (.pr Ql (.pr Ql (.pr Ql (.pr Ql (.pr Ql (.pr Ql (.pr Ql (.pr Ql (.pr Ql (.pr Ql (.pr Ql (.pr Ql (.pr Ql (.pr Ql (.pr Ql (.pr Ql (.pr Ql (.pr Ql (.pr Ql (.pr Ql (.pr Ql .nil))))))))))))))))))))))) (((ByteArray.mk #[]),(0,(0,(([]:List Int),(([]:List Int),()))))),(((ByteArray.mk #[109,100,53]),(1,(0,(([]:List Int),([18],()))))),(((ByteArray.mk #[115,104,97,49]),(1,(0,(([]:List Int),([60],()))))),(((ByteArray.mk #[115,104,97,50,53,54]),(1,(0,(([]:List Int),([128],()))))),(((ByteArray.mk #[115,104,97,51,56,52]),(1,(0,(([]:List Int),([192],()))))),(((ByteArray.mk #[114,115,97]),(2,(1,(([]:List Int),(([]:List Int),()))))),(((ByteArray.mk #[100,115,97]),(2,(1,(([]:List Int),(([]:List Int),()))))),(((ByteArray.mk #[101,99,100,115,97]),(2,(2,(([]:List Int),(([]:List Int),()))))),(((ByteArray.mk #[101,100,50,53,53,49,57]),(2,(0,(([]:List Int),([128],()))))),(((ByteArray.mk #[109,108,100,115,97]),(2,(3,([44,65,87],([128,192,256],()))))),(((ByteArray.mk #[114,115,97,107,120]),(3,(1,(([]:List Int),(([]:List Int),()))))),(((ByteArray.mk #[100,104,101]),(3,(1,(([]:List Int),(([]:List Int),()))))),(((ByteArray.mk #[101,99,100,104,101]),(3,(2,(([]:List Int),(([]:List Int),()))))),(((ByteArray.mk #[109,108,107,101,109]),(3,(3,([512,768,1024],([128,192,256],()))))),(((ByteArray.mk #[114,99,52]),(4,(3,([40,128],([40,60],()))))),(((ByteArray.mk #[100,101,115,51]),(4,(3,([112,168],([80,112],()))))),(((ByteArray.mk #[97,101,115,99,98,99]),(4,(3,([128,256],([128,256],()))))),(((ByteArray.mk #[97,101,115,103,99,109]),(4,(3,([128,256],([128,256],()))))),(((ByteArray.mk #[99,104,97,99,104,97]),(4,(0,(([]:List Int),([256],()))))),(((ByteArray.mk #[104,109,97,99,109,100,53]),(5,(0,(([]:List Int),([64],()))))),(((ByteArray.mk #[104,109,97,99,115,104,97,49]),(5,(0,(([]:List Int),([80],()))))),(((ByteArray.mk #[104,109,97,99,115,104,97,50,53,54]),(5,(0,(([]:List Int),([128],()))))),(((ByteArray.mk #[97,101,97,100]),(5,(0,(([]:List Int),([256],()))))),()))))))))))))))))))))))),[])
theorem e_f197  : JS QmT QmR QmS false [] []=QmU  :=by kernel_rfl
def G4:Ty.T (.pr Ql (.pr Ql (.pr Ql (.pr Ql (.pr Ql (.pr Ql (.pr Ql (.pr Ql (.pr Ql (.pr Ql (.pr Ql (.pr Ql (.pr Ql (.pr Ql (.pr Ql (.pr Ql (.pr Ql (.pr Ql (.pr Ql (.pr Ql (.pr Ql (.pr Ql (.pr Ql .nil))))))))))))))))))))))):=(((ByteArray.mk #[]),(0,(0,(([]:List Int),(([]:List Int),()))))),(((ByteArray.mk #[109,100,53]),(1,(0,(([]:List Int),([18],()))))),(((ByteArray.mk #[115,104,97,49]),(1,(0,(([]:List Int),([60],()))))),(((ByteArray.mk #[115,104,97,50,53,54]),(1,(0,(([]:List Int),([128],()))))),(((ByteArray.mk #[115,104,97,51,56,52]),(1,(0,(([]:List Int),([192],()))))),(((ByteArray.mk #[114,115,97]),(2,(1,(([]:List Int),(([]:List Int),()))))),(((ByteArray.mk #[100,115,97]),(2,(1,(([]:List Int),(([]:List Int),()))))),(((ByteArray.mk #[101,99,100,115,97]),(2,(2,(([]:List Int),(([]:List Int),()))))),(((ByteArray.mk #[101,100,50,53,53,49,57]),(2,(0,(([]:List Int),([128],()))))),(((ByteArray.mk #[109,108,100,115,97]),(2,(3,([44,65,87],([128,192,256],()))))),(((ByteArray.mk #[114,115,97,107,120]),(3,(1,(([]:List Int),(([]:List Int),()))))),(((ByteArray.mk #[100,104,101]),(3,(1,(([]:List Int),(([]:List Int),()))))),(((ByteArray.mk #[101,99,100,104,101]),(3,(2,(([]:List Int),(([]:List Int),()))))),(((ByteArray.mk #[109,108,107,101,109]),(3,(3,([512,768,1024],([128,192,256],()))))),(((ByteArray.mk #[114,99,52]),(4,(3,([40,128],([40,60],()))))),(((ByteArray.mk #[100,101,115,51]),(4,(3,([112,168],([80,112],()))))),(((ByteArray.mk #[97,101,115,99,98,99]),(4,(3,([128,256],([128,256],()))))),(((ByteArray.mk #[97,101,115,103,99,109]),(4,(3,([128,256],([128,256],()))))),(((ByteArray.mk #[99,104,97,99,104,97]),(4,(0,(([]:List Int),([256],()))))),(((ByteArray.mk #[104,109,97,99,109,100,53]),(5,(0,(([]:List Int),([64],()))))),(((ByteArray.mk #[104,109,97,99,115,104,97,49]),(5,(0,(([]:List Int),([80],()))))),(((ByteArray.mk #[104,109,97,99,115,104,97,50,53,54]),(5,(0,(([]:List Int),([128],()))))),(((ByteArray.mk #[97,101,97,100]),(5,(0,(([]:List Int),([256],()))))),())))))))))))))))))))))))
theorem s_f197:QmU=some (.t (tyR Ql 23) G4,[]):=rfl
def QmV:Ent:=Qk .nil (fun x=>true) (fun x=>(.t (.pr Ql (.pr Ql (.pr Ql (.pr Ql (.pr Ql (.pr Ql (.pr Ql (.pr Ql (.pr Ql (.pr Ql (.pr Ql (.pr Ql (.pr Ql (.pr Ql (.pr Ql (.pr Ql (.pr Ql (.pr Ql (.pr Ql (.pr Ql (.pr Ql (.pr Ql (.pr Ql .nil))))))))))))))))))))))) G4))
theorem Qzj:EM 197 QmV:=mS QmT QmR QmS false (gB gN) fun m=>Qm m fun x _=>(e_f197 ).trans (s_f197)
def E8:Row:=((ByteArray.mk #[]),(0,(0,(([]:List Int),(([]:List Int),())))))
def ofF (a:Int):Row×Bool:=if a<1∨22<a then (E8,false) else (FA Ql 23 G4 a,true)
def Qzk:TC:=aF Tryz.f166 []
def g_f166:G:=gG 14 [(197,QmV),(1004194,Qvq)] (fun _ _=>none)
def QmW (p0:Int):OV:=br (ilt p0 1) (some (.tu [(.t Ql ((ByteArray.mk #[]),(0,(0,(([]:List Int),(([]:List Int),())))))),(.t .bool false)],[])) (br (igt p0 22) (some (.tu [(.t Ql ((ByteArray.mk #[]),(0,(0,(([]:List Int),(([]:List Int),())))))),(.t .bool false)],[])) (br (WG Ql 23 G4 p0) (some (.tu [(.t Ql (FA Ql 23 G4 p0)),(.t .bool true)],[])) none))
theorem s_f166 (a:Int):QmW a=some (.tu [.t Ql (ofF a).1,.t .bool (ofF a).2],[]):=by
 simp only [QmW]
 refine QY (fun h1=> ?_) (fun h1=>QY (fun h2=> ?_) (fun h2=> ?_))
 ·have h1:a<1:=by simpa [ilt] using h1
  simp [ofF,h1,E8]
 ·have h2:22<a:=by simpa [igt] using h2
  simp [ofF,h2,E8]
 ·have h1: ¬ a<1:=by simpa [ilt] using h1
  have h2: ¬ 22<a:=by simpa [igt] using h2
  have h3:WG Ql 23 G4 a=true:=by simp [WG];omega
  rw [h3,Qc]
  simp [ofF,h1,h2]
def QfD:Ent:=Qk (.pr tI .nil) (fun x=>true) (fun x=>(.tu [(.t Ql ((ofF x.1).1)),(.t .bool ((ofF x.1).2))]))
theorem QmX:EM 166 QfD:=mS g_f166 Qzk [((.c 2 true 5),some Ql),((.t 3),some .bool)] false (gB (gD Qzj (gC QHP QHQ gN))) fun m=>Qm m fun x _=>kT (s_f166 x.1)
def U0:List (Int×Int):=[(1024,56),(2048,80),(3072,112),(7680,128),(15360,192)]
def G5:(Keep×(Keep×(Keep×(Keep×(Keep×Unit))))):=((1024,(56,())),((2048,(80,())),((3072,(112,())),((7680,(128,())),((15360,(192,())),())))))
def Ya (b i:Int):Option Int:=((U0.drop i.toNat).find? fun x=>ilt b x.1).map (·.2)
def G6 (b:Int):Int:=(Ya b 0).getD 256
abbrev Qab:Sh:=⟨[(0,.ty tI),(10,.ty (.pr Qd (.pr Qd (.pr Qd (.pr Qd (.pr Qd .nil)))))),(11,.ty tI)],[]⟩
abbrev QmY:Sh:=⟨[(2,.ty tI)],[]⟩
abbrev Qac:Sh:=⟨[],[]⟩
def QfE:Fg:=Qab.f
def QmZ:TC:=aF Tryz.f168 [(26,pL 0 QfE),(421,.fg Qac.f),(13517,.fg QmY.f)]
def Qm0:TC:=lb 0 QmZ
def Qm1 (x0:Int)(x10:(Keep×(Keep×(Keep×(Keep×(Keep×Unit))))))(x11:Int):VS:=Qab.st (x0,x10,x11,()) ()
def QfF (x2:Int):VS:=QmY.st (x2,()) ()
def QfG  : VS:=Qac.st () ()
def Qzl:VS->Option (Bool×List (Bool×Exit×VS)):=mkL Qab (fun x y=>(x.2.1==G5&&decide (0<=x.2.2.1/\x.2.2.1<=5))) (fun x y=>[(((Ya x.1 x.2.2.1).isSome),.ret,QfF ((Ya x.1 x.2.2.1).getD 0)),(true,.exit 0,QfG)])
def QfH:G:=gG 21 [(1004274,Qvr)] (Ls [Qzl])
def Qad (x0:Int)(x10:(Keep×(Keep×(Keep×(Keep×(Keep×Unit))))))(x11:Int):OX:=Qv (QB QfH QfE Qm0) (Qm1 x0 x10 x11)
def Qae (kk:Int->(Keep×(Keep×(Keep×(Keep×(Keep×Unit)))))->Int->OX)(x0:Int)(x10:(Keep×(Keep×(Keep×(Keep×(Keep×Unit))))))(x11:Int):OX:=
 let a1:=FA Qd 5 x10 x11
 br (ilt x11 5) (br (WG Qd 5 x10 x11) (br (ilt x0 (a1.1)) (some (.ret,QfF ((a1.2).1))) (kk x0 x10 (Qg .i64 x11 1))) none) (some (.exit 0,QfG))
def U1 (x0:Int)(x10:(Keep×(Keep×(Keep×(Keep×(Keep×Unit))))))(x11:Int):OX:=br ((Ya x0 x11).isSome) (some (.ret,QfF ((Ya x0 x11).getD 0)))<|some (.exit 0,QfG)
theorem Qm2 (x0:Int)(x10:(Keep×(Keep×(Keep×(Keep×(Keep×Unit))))))(x11:Int):Qad x0 x10 x11=Qae Qad x0 x10 x11:=lnT (x:=Qae (fun x0 x10 x11=>some (.normal,Qm1 x0 x10 x11)) x0 x10 x11) (by simp only [Qae,nxA];rfl)
def Qm3 (p0:Int):OV:=br (((1024,(56,())),((2048,(80,())),((3072,(112,())),((7680,(128,())),((15360,(192,())),())))))==G5&&decide (0<=(0:Int)/\(0:Int)<=5)) (br ((Ya p0 (0:Int)).isSome) (some (.t tI ((Ya p0 (0:Int)).getD 0),[])) (some (.t tI 256,[]))) none
theorem Qzm (x0:Int)(x10:(Keep×(Keep×(Keep×(Keep×(Keep×Unit))))))(x11:Int)(h:(x10==G5&&decide (0<=x11/\x11<=5))=true):Qad x0 x10 x11=U1 x0 x10 x11:=by
 simp only [Bc,Ba,Dj] at h
 obtain ⟨rfl,h1,h2⟩:=h
 obtain ⟨k,rfl⟩:=Bq h1
 refine Qne 5 (fun k=>Qad x0 G5 (k:Int)=U1 x0 G5 (k:Int)) ?_ ?_ k (by omega)
 ·rw [Qm2]
  rfl
 ·intro k hk ih
  rw [Qm2]
  simp only [Qae,QQ (show k<4611686018427387904 by omega),ih]
  have e1:ilt (k:Int) 5=true:=by simp only [ilt,Ba];omega
  have e2:WG Qd 5 G5 (k:Int)=true:=by simp only [WG,Ba];omega
  simp only [e1,e2,Qc]
  have hk5:k=0∨k=1∨k=2∨k=3∨k=4:=by omega
  rcases hk5 with rfl|rfl|rfl|rfl|rfl
  ·show br (ilt x0 1024) _ _=_
   cases h:ilt x0 1024<;>simp [U1,Ya,U0,h,Qc,Qf]<;>rfl
  ·show br (ilt x0 2048) _ _=_
   cases h:ilt x0 2048<;>simp [U1,Ya,U0,h,Qc,Qf]<;>rfl
  ·show br (ilt x0 3072) _ _=_
   cases h:ilt x0 3072<;>simp [U1,Ya,U0,h,Qc,Qf]<;>rfl
  ·show br (ilt x0 7680) _ _=_
   cases h:ilt x0 7680<;>simp [U1,Ya,U0,h,Qc,Qf]<;>rfl
  ·show br (ilt x0 15360) _ _=_
   cases h:ilt x0 15360<;>simp [U1,Ya,U0,h,Qc,Qf]<;>rfl
theorem Qzn:LO QfH QfE Qm0 0:=QH (s:=Qab) fun x y h _ q=>by simp only [QF,QG] at q;exact (Qzm x.1 x.2.1 x.2.2.1 h).trans q
theorem s_f168 (b:Int):Qm3 b=some (.t tI (G6 b),[]):=by
 simp only [Qm3]
 show br true (br (Ya b 0).isSome (some (V.t tI ((Ya b 0).getD 0),[])) _) _=_
 rw [Qc,G6]
 cases Ya b 0<;>rfl
def Qm4:Ent:=Qk (.pr tI .nil) (fun x=>true) (fun x=>(.t tI (G6 x.1)))
theorem Qzo:EM 168 Qm4:=mS (lk:=lkL (lkc Qzn lkn)) QfH QmZ [((.t 2),some tI)] false (gB (gC QHR QHS gN)) fun m=>Qm m fun x _=>kT (s_f168 x.1)
def Jw (v:Int):List Int->Option Nat
 | []=>none
 |a::l=>if a==v then some 0 else (Jw v l).map (· + 1)
theorem Qm5 {v:Int}: ∀ {l:List Int} {k:Nat},Jw v l=some k->k<l.length
 | [],_,h=>by cases h
 |a::l,k,h=>by
  unfold Jw at h
  split at h
  ·injection h with h;subst h;simp
  ·obtain ⟨j,h1,h2⟩:=Bh.1 h
   have:=Qm5 h1
   simp only [Bt];omega
theorem QfI {v:Int}: ∀ {l:List Int},Jw v l=none↔v ∉ l
 | []=>by simp [Jw]
 |a::l=>by
  have ih:=QfI (v:=v) (l:=l)
  unfold Jw
  by_cases h:a=v
  ·simp [h]
  ·have h': ¬ v=a:=fun e=>h e.symm
   simp [h,h',ih]
def U2 (l:List Int)(v:Int):Int:=match Jw v l with|some k=>(k:Int)|none=> -1
def Jk (l:List Int)(_v:Int):Bool:=decide (l.length<=100000)
abbrev Qaf:Sh:=⟨[(0,.ty (.sl tI)),(1,.ty tI),(7,.ty tI),(8,.ty tI)],[]⟩
abbrev Qm6:Sh:=⟨[(4,.ty tI)],[]⟩
def QfJ:Fg:=Qaf.f
def Qm7:TC:=aF Tryz.f165 [(26,pL 0 QfJ),(421,.fg Qac.f),(13517,.fg Qm6.f)]
def Qm8:TC:=lb 0 Qm7
def Qm9 (x0:List Int)(x1 x7 x8:Int):VS:=Qaf.st (x0,x1,x7,x8,()) ()
def QfK (x4:Int):VS:=Qm6.st (x4,()) ()
def QfL  : VS:=Qac.st () ()
def Qzp:VS->Option (Bool×List (Bool×Exit×VS)):=mkL Qaf (fun x y=>(Qt x.1 x.2.2.1 x.2.2.2.1)) (fun x y=>[(((Jw x.2.1 (x.1.drop x.2.2.2.1.toNat)).isSome),.ret,QfK (x.2.2.2.1+((Jw x.2.1 (x.1.drop x.2.2.2.1.toNat)).getD 0:Nat))),(true,.exit 0,QfL)])
def QfM:G:=gG 19 [] (Ls [Qzp])
def Qag (x0:List Int)(x1 x7 x8:Int):OX:=Qv (QB QfM QfJ Qm8) (Qm9 x0 x1 x7 x8)
def E9 (kk:List Int->Int->Int->Int->OX)(x0:List Int)(x1 x7 x8:Int):OX:=br (ilt x8 x7) (br (cIx x0 x8) (br (ieq x1 (lgt tI x0 (Int.toNat x8))) (some (.ret,QfK x8)) (kk x0 x1 x7 (Qg .i64 x8 1))) none) (some (.exit 0,QfL))
def Qah (x0:List Int)(x1 x7 x8:Int):OX:=
 let a1:=Jw x1 (x0.drop x8.toNat)
 br (a1.isSome) (some (.ret,QfK (x8+(a1.getD 0:Nat))))<|some (.exit 0,QfL)
theorem Qna (x0:List Int)(x1 x7 x8:Int):Qag x0 x1 x7 x8=E9 Qag x0 x1 x7 x8:=lnT (x:=E9 (fun x0 x1 x7 x8=>some (.normal,Qm9 x0 x1 x7 x8)) x0 x1 x7 x8) (by simp only [E9,nxA];rfl)
def Qnb (p0:List Int)(p1:Int):OV:=
 let a1:=(Jw p1 (p0.drop (0:Int).toNat))
 br (Qt p0 (Qa p0) (0:Int)) (br (a1.isSome) (some (.t tI ((0:Int)+(a1.getD 0:Nat)),[])) (some (.t tI (-1),[]))) none
theorem Qzq (x0:List Int)(x1 x7 x8:Int)(h:(Qt x0 x7 x8)=true):Qag x0 x1 x7 x8=Qah x0 x1 x7 x8:=by
 obtain ⟨rfl,h3,k,rfl,hk⟩:=Jy h
 clear h
 refine QR x0 (fun k=>Qag x0 x1 (x0.length:Int) (k:Int)=Qah x0 x1 (x0.length:Int) (k:Int)) ?_ ?_ k hk
 ·rw [Qna]
  simp [E9,Qah,QC,Qf,Jw]
 ·intro k hk ih
  rw [Qna]
  simp only [E9,QC,QI,hk,Bv,Qc,Bd,QQ (show k<4611686018427387904 by omega),ih,QP (y:=tI) hk]
  simp only [Qah,Bd,Bj hk,Jw,ieq]
  have hc:(x1==x0[k])=(x0[k]==x1):=Bool.beq_comm
  cases h:x0[k]==x1 with
  |true=>simp [h,hc,Qc]
  |false=>
   simp only [h,hc,Qf,BK,Do]
   cases hq:Jw x1 (x0.drop (k+1)) with
   |none=>rfl
   |some j=>
    simp only [B0,B8,BI,Qc]
    congr 3
    omega
theorem Qzr:LO QfM QfJ Qm8 0:=QH (s:=Qaf) fun x y h _ q=>by simp only [QF,QG] at q;exact (Qzq x.1 x.2.1 x.2.2.1 x.2.2.2.1 h).trans q
theorem s_f165 (l:List Int)(v:Int)(h:Jk l v=true):Qnb l v=some (.t tI (U2 l v),[]):=by
 simp only [Jk,Ba] at h
 simp only [Qnb,Jz h,Qc,Bu,BA,U2]
 cases Jw v l<;>simp [Qc,Qf]
def QfN:Ent:=Qk (.pr (.sl tI) (.pr tI .nil)) (fun x=>(Jk x.1 x.2.1)) (fun x=>(.t tI (U2 x.1 x.2.1)))
theorem Qnc:EM 165 QfN:=mS (lk:=lkL (lkc Qzr lkn)) QfM Qm7 [((.t 4),some tI)] false (gB gN) fun m=>Qm m fun x hok=>kT (s_f165 x.1 x.2.1 hok)
def QO (l:List Int)(v:Int):Bool:=l.contains v
def Qzs:TC:=aF Tryz.f125 []
def g_f125:G:=gG 9 [(165,QfN)] (fun _ _=>none)
def Qnd (p0:List Int)(p1:Int):OV:=br (Jk p0 p1) (some (.t .bool (ige (U2 p0 p1) 0),[])) none
theorem s_f125 (l:List Int)(v:Int)(h:Jk l v=true):Qnd l v=some (.t .bool (QO l v),[]):=by
 simp only [Qnd,h,Qc]
 congr 3
 unfold U2 QO
 cases hq:Jw v l with
 |none=>
  have:=QfI.1 hq
  simp [ige,this]
 |some k=>
  have:v∈l:=Classical.byContradiction fun hn=>by rw [QfI.2 hn] at hq;cases hq
  simp only [ige,BH.2 this,Ba]
  omega
def Qai:Ent:=Qk (.pr (.sl tI) (.pr tI .nil)) (fun x=>(Jk x.1 x.2.1)) (fun x=>(.t .bool (QO x.1 x.2.1)))
theorem QfO:EM 125 Qai:=mS g_f125 Qzs [((.t 4),some .bool)] false (gB (gD Qnc gN)) fun m=>Qm m fun x hok=>kT (s_f125 x.1 x.2.1 hok)
end Go.Proofs.YtmjnnemhoeolgaaGreat.K
noncomputable section
namespace Go.Proofs.YtmjnnemhoeolgaaGreat.K
open Go.RowKit
def Zc (b:Int)(s t:List Int):Int:=match Jw b s with|some k=>t.getD k 0|none=>0
def XE (a:Int):Int:=if a=1 then 18 else if a=2 then 60 else if a=3∨a=8∨a=21 then 128 else if a=4 then 192 else if a=18∨a=22 then 256 else if a=19 then 64 else if a=20 then 80 else 0
def UV (b:Int):Int:=if b<512∨16384<b then 0 else G6 b
def EN (b:Int):Int:=if QO [160,224,256,384,521] b then Ge .i64 b 2 else 0
def Xj (u:Keep):Int:=
 if u.1=5∨u.1=6∨u.1=10∨u.1=11 then UV u.2.1
 else if u.1=7∨u.1=12 then EN u.2.1
 else if u.1=9 then Zc u.2.1 [44,65,87] [128,192,256]
 else if u.1=13 then Zc u.2.1 [512,768,1024] [128,192,256]
 else if u.1=14 then Zc u.2.1 [40,128] [40,60]
 else if u.1=15 then Zc u.2.1 [112,168] [80,112]
 else if u.1=16∨u.1=17 then Zc u.2.1 [128,256] [128,256]
 else Zc u.2.1 [0] [XE u.1]
def JR (u:Keep):Bool:=decide (Xj u > 0)
def QJX:TC:=aF Tryz.f129 []
def g_f129:G:=gG 61 [(125,Qai),(165,QfN),(166,QfD),(168,Qm4)] (fun _ _=>none)
def X6 (p0:Keep):OV:=
 let a1:=((((ofF p0.1).1).2).2)
 let a2:=U2 ((a1.2).1) p0.2.1
 let a3:=(((a1.2).2).1)
 br (!((ofF p0.1).2)) (some (.t tI 0,[])) (br (ieq (a1.1) 0) (br (ieq p0.2.1 0) (br (cIx a3 0) (some (.t tI (lgt tI a3 (Int.toNat 0)),[])) none) (some (.t tI 0,[]))) (br (ieq (a1.1) 1) (br (ige p0.2.1 512) (br (ile p0.2.1 16384) (some (.t tI (G6 p0.2.1),[])) (some (.t tI 0,[]))) (some (.t tI 0,[]))) (br (ieq (a1.1) 2) (br (Jk ([160,224,256,384,521]) p0.2.1) (br (QO ([160,224,256,384,521]) p0.2.1) (br (cNz 2) (some (.t tI (Ge .i64 p0.2.1 2),[])) none) (some (.t tI 0,[]))) none) (br (ieq (a1.1) 3) (br (Jk ((a1.2).1) p0.2.1) (br (ige a2 0) (br (cIx a3 a2) (some (.t tI (lgt tI a3 (Int.toNat a2)),[])) none) (some (.t tI 0,[]))) none) (some (.t tI 0,[]))))))
theorem QJY (u:Keep)(h1:(ofF u.1).2=false):X6 u=some (.t tI 0,[]):=by
 simp only [X6,h1,Bool.not_false,Qc]
theorem QJZ (u:Keep){v:Int}(h1:(ofF u.1).2=true)(h2:(ofF u.1).1.2.2.1=0)(h3:(ofF u.1).1.2.2.2.2.1=[v]):X6 u=some (.t tI (Zc u.2.1 [0] [v]),[]):=by
 simp only [X6,h1,h2,h3,BG,Qf,show ieq 0 0=true from rfl,Qc,show cIx [v] 0=true from rfl]
 simp only [Zc,Jw,ieq]
 have hc:((0:Int)==u.2.1)=(u.2.1==0):=Bool.beq_comm
 rw [hc]
 cases u.2.1==0<;>rfl
theorem QJ0 (u:Keep)(h1:(ofF u.1).2=true)(h2:(ofF u.1).1.2.2.1=1):X6 u=some (.t tI (UV u.2.1),[]):=by
 simp only [X6,h1,h2,BG,Qf,show ieq 1 0=false from rfl,show ieq 1 1=true from rfl,Qc,UV]
 refine QY (fun g1=>QY (fun g2=> ?_) (fun g2=> ?_)) (fun g1=> ?_)
 ·rw [if_neg]
  simp [ige,ile] at g1 g2
  omega
 ·rw [if_pos]
  simp [ige,ile] at g1 g2
  omega
 ·rw [if_pos]
  simp [ige] at g1
  omega
theorem QJ1 (u:Keep)(h1:(ofF u.1).2=true)(h2:(ofF u.1).1.2.2.1=2):X6 u=some (.t tI (EN u.2.1),[]):=by
 simp only [X6,h1,h2,BG,Qf,show ieq 2 0=false from rfl,show ieq 2 1=false from rfl,show ieq 2 2=true from rfl,Qc,EN,show Jk [160,224,256,384,521] u.2.1=true from rfl,show cNz 2=true from rfl]
 cases QO [160,224,256,384,521] u.2.1<;>rfl
theorem QJ2 (u:Keep){s t:List Int}(h1:(ofF u.1).2=true)(h2:(ofF u.1).1.2.2.1=3)(h3:(ofF u.1).1.2.2.2.1=s)(h4:(ofF u.1).1.2.2.2.2.1=t)(h5:s.length=t.length)(h6:s.length<=100000):X6 u=some (.t tI (Zc u.2.1 s t),[]):=by
 have e1:Jk s u.2.1=true:=by simp [Jk,h6]
 simp only [X6,h1,h2,h3,h4,e1,BG,Qf,show ieq 3 0=false from rfl,show ieq 3 1=false from rfl,show ieq 3 2=false from rfl,show ieq 3 3=true from rfl,Qc,U2,Zc]
 cases hq:Jw u.2.1 s with
 |none=>rfl
 |some k=>
  have hk:=Qm5 hq
  have e2:ige (k:Int) 0=true:=by simp only [ige,Ba];omega
  have e3:k<t.length:=by omega
  simp only [e2,Qc,QI,e3,Bv]
  rfl
theorem s_f129 (u:Keep):X6 u=some (.t tI (Xj u),[]):=by
 obtain ⟨a,b,c⟩:=u
 by_cases hb:a<1∨22<a
 ·rw [QJY _ (by simp [ofF,hb])]
  have e1:XE a=0:=by
   unfold XE
   repeat rw [if_neg (by omega)]
  have e2:Xj (a,b,c)=0:=by
   unfold Xj
   simp only
   repeat rw [if_neg (by omega)]
   rw [e1]
   simp only [Zc,Jw]
   cases (0:Int)==b<;>rfl
  rw [e2]
 ·have hc:a=1∨a=2∨a=3∨a=4∨a=5∨a=6∨a=7∨a=8∨a=9∨a=10∨a=11∨a=12∨a=13∨a=14∨a=15∨a=16∨a=17∨a=18∨a=19∨a=20∨a=21∨a=22:=by omega
  rcases hc with rfl|rfl|rfl|rfl|rfl|rfl|rfl|rfl|rfl|rfl|rfl|rfl|rfl|rfl|rfl|rfl|rfl|rfl|rfl|rfl|rfl|rfl
  all_goals first
   |exact QJZ (v:=XE _) (_,b,c) rfl rfl rfl
   |exact QJ0 (_,b,c) rfl rfl
   |exact QJ1 (_,b,c) rfl rfl
   |exact QJ2 (_,b,c) rfl rfl rfl rfl rfl (by decide)
def Qxz:Ent:=Qk (.pr Qd .nil) (fun x=>true) (fun x=>(.t tI (Xj x.1)))
theorem QJ3:EM 129 Qxz:=mS g_f129 QJX [((.t 2),some tI)] false (gB (gD QfO (gD Qnc (gD QmX (gD Qzo gN))))) fun m=>Qm m fun x _=>kT (s_f129 x.1)
def tc_f87:TC:=aF Tryz.f87 []
def g_f87:G:=gG 6 [(129,Qxz)] (fun _ _=>none)
def r_f87 (p0:Keep):OV:=some (.t .bool (igt (Xj p0) 0),[])
theorem s_f87 (u:Keep):r_f87 u=some (.t .bool (JR u),[]):=rfl
def EO:Ent:=Qk (.pr Qd .nil) (fun x=>true) (fun x=>(.t .bool (JR x.1)))
theorem Vr:EM 87 EO:=mS g_f87 tc_f87 [((.t 2),some .bool)] false (gB (gD QJ3 gN)) fun m=>Qm m fun x _=>kT (s_f87 x.1)
def QJ4:TC:=aF Tryz.f106 []
def g_f106:G:=gG 25 [] (fun _ _=>none)
def QxA (p0:Int):OV:=br (ilt p0 512) (some (.t tI 0,[])) (br (igt p0 16384) (some (.t tI 0,[])) (br (ilt p0 1024) (some (.t tI 56,[])) (br (ilt p0 2048) (some (.t tI 80,[])) (br (ilt p0 3072) (some (.t tI 112,[])) (br (ilt p0 7680) (some (.t tI 128,[])) (br (ilt p0 15360) (some (.t tI 192,[])) (some (.t tI 256,[]))))))))
theorem s_f106 (b:Int):QxA b=some (.t tI (UV b),[]):=by
 simp only [QxA]
 repeat' (refine QY ?_ ?_<;>intro _)
 all_goals simp only [ilt,igt,Ba,Bo] at*
 all_goals simp only [UV,G6,Ya,U0,Bu,BA,List.find?_cons,ilt]
 all_goals first
  |(rw [if_pos (by omega)];done)
  |(rw [if_neg (by omega)];repeat first|rw [G7 (by omega)]|rw [Qzt (by omega)]
    rfl)
def QxB:Ent:=Qk (.pr tI .nil) (fun x=>true) (fun x=>(.t tI (UV x.1)))
theorem QJ5:EM 106 QxB:=mS g_f106 QJ4 [((.t 2),some tI)] false (gB gN) fun m=>Qm m fun x _=>kT (s_f106 x.1)
theorem QxC (a:Int):((∀ k:Int,decide (1<=k/\k<=22)=true->ieq a k=false)/\(a<1∨22<a))∨(a=1∨a=2∨a=3∨a=4∨a=5∨a=6∨a=7∨a=8∨a=9∨a=10∨a=11∨a=12∨a=13∨a=14∨a=15∨a=16∨a=17∨a=18∨a=19∨a=20∨a=21∨a=22):=by
 by_cases hb:a<1∨22<a
 ·refine .inl ⟨fun k hk=> ?_,hb⟩
  simp only [Ba] at hk
  simp only [YA,Bo]
  omega
 ·right
  omega
def QJ6:TC:=aF Tryz.f108 []
def g_f108:G:=gG 21 [] (fun _ _=>none)
def Qlt (p0:Int):OV:=br (ieq p0 19) (some (.t tI 64,[])) (br (ieq p0 20) (some (.t tI 80,[])) (some (.t tI 0,[])))
def QeB (p0:Int):OV:=br (ieq p0 4) (some (.t tI 192,[])) (br (ieq p0 18) (br (ieq p0 18) (some (.t tI 256,[])) (Qlt p0)) (br (ieq p0 22) (some (.t tI 256,[])) (Qlt p0)))
def QxD (p0:Int):OV:=br (ieq p0 1) (some (.t tI 18,[])) (br (ieq p0 2) (some (.t tI 60,[])) (br (ieq p0 3) (br (ieq p0 3) (some (.t tI 128,[])) (QeB p0)) (br (ieq p0 8) (br (ieq p0 8) (some (.t tI 128,[])) (QeB p0)) (br (ieq p0 21) (some (.t tI 128,[])) (QeB p0)))))
theorem s_f108 (a:Int):QxD a=some (.t tI (XE a),[]):=by
 rcases QxC a with ⟨e,hb⟩|hc
 ·have e1:XE a=0:=by
   unfold XE
   repeat rw [if_neg (by omega)]
  rw [e1]
  simp only [QxD,QeB,Qlt,e 1 (by decide),e 2 (by decide),e 3 (by decide),e 4 (by decide),e 8 (by decide),e 18 (by decide),e 19 (by decide),e 20 (by decide),e 21 (by decide),e 22 (by decide),Qf]
 ·rcases hc with rfl|rfl|rfl|rfl|rfl|rfl|rfl|rfl|rfl|rfl|rfl|rfl|rfl|rfl|rfl|rfl|rfl|rfl|rfl|rfl|rfl|rfl<;>rfl
def QxE:Ent:=Qk (.pr tI .nil) (fun x=>true) (fun x=>(.t tI (XE x.1)))
theorem QJ7:EM 108 QxE:=mS g_f108 QJ6 [((.t 2),some tI)] false (gB gN) fun m=>Qm m fun x _=>kT (s_f108 x.1)
def Ue (_b:Int)(s t:List Int):Bool:=decide (s.length=t.length/\s.length<=100000)
abbrev QeC:Sh:=⟨[(0,.ty tI),(1,.ty (.sl tI)),(2,.ty (.sl tI)),(7,.ty tI)],[]⟩
abbrev QxF:Sh:=⟨[(6,.ty tI)],[]⟩
abbrev QxG:Sh:=⟨[],[]⟩
def Qlu:Fg:=QeC.f
def QxH:TC:=aF Tryz.f107 [(26,pL 0 Qlu),(419,.fg QxG.f),(3365,.fg QxF.f)]
def QxI:TC:=lb 0 QxH
def QxJ (x0:Int)(x1 x2:List Int)(x7:Int):VS:=QeC.st (x0,x1,x2,x7,()) ()
def Qlv (x6:Int):VS:=QxF.st (x6,()) ()
def Qlw  : VS:=QxG.st () ()
def QJ8:VS->Option (Bool×List (Bool×Exit×VS)):=mkL QeC (fun x y=>(decide (x.2.1.length=x.2.2.1.length/\x.2.1.length<=100000/\0<=x.2.2.2.1/\x.2.2.2.1<=x.2.1.length))) (fun x y=>[(((Jw x.1 (x.2.1.drop x.2.2.2.1.toNat)).isSome),.ret,Qlv (x.2.2.1.getD (x.2.2.2.1.toNat+(Jw x.1 (x.2.1.drop x.2.2.2.1.toNat)).getD 0) 0)),(true,.exit 0,Qlw)])
def Qlx:G:=gG 24 [] (Ls [QJ8])
def QeD (x0:Int)(x1 x2:List Int)(x7:Int):OX:=Qv (QB Qlx Qlu QxI) (QxJ x0 x1 x2 x7)
def Vs (kk:Int->List Int->List Int->Int->OX)(x0:Int)(x1 x2:List Int)(x7:Int):OX:=br (ilt x7 (Qa x1)) (br (cIx x1 x7) (br (ieq (lgt tI x1 (Int.toNat x7)) x0) (br (cIx x2 x7) (some (.ret,Qlv (lgt tI x2 (Int.toNat x7)))) none) (kk x0 x1 x2 (Qg .i64 x7 1))) none) (some (.exit 0,Qlw))
def QeE (x0:Int)(x1 x2:List Int)(x7:Int):OX:=
 let a1:=Jw x0 (x1.drop x7.toNat)
 br (a1.isSome) (some (.ret,Qlv (x2.getD (x7.toNat+a1.getD 0) 0)))<|some (.exit 0,Qlw)
theorem QxK (x0:Int)(x1 x2:List Int)(x7:Int):QeD x0 x1 x2 x7=Vs QeD x0 x1 x2 x7:=lnT (x:=Vs (fun x0 x1 x2 x7=>some (.normal,QxJ x0 x1 x2 x7)) x0 x1 x2 x7) (by simp only [Vs,nxA];rfl)
def QxL (p0:Int)(p1 p2:List Int):OV:=
 let a1:=(Jw p0 (p1.drop (0:Int).toNat))
 br (decide (p1.length=p2.length/\p1.length<=100000/\0<=(0:Int)/\(0:Int)<=p1.length)) (br (a1.isSome) (some (.t tI (p2.getD ((0:Int).toNat+a1.getD 0) 0),[])) (some (.t tI 0,[]))) none
theorem QJ9 (x0:Int)(x1 x2:List Int)(x7:Int)(h:(decide (x1.length=x2.length/\x1.length<=100000/\0<=x7/\x7<=x1.length))=true):QeD x0 x1 x2 x7=QeE x0 x1 x2 x7:=by
 simp only [Ba] at h
 obtain ⟨h1,h2,h3,h4⟩:=h
 obtain ⟨k,rfl⟩:=Bq h3
 refine QR x1 (fun k=>QeD x0 x1 x2 (k:Int)=QeE x0 x1 x2 (k:Int)) ?_ ?_ k (by omega)
 ·rw [QxK]
  simp [Vs,QeE,QC,Qa,Qf,Jw]
 ·intro k hk ih
  rw [QxK]
  have hk2:k<x2.length:=by omega
  simp only [Vs,QC,Qa,QI,hk,hk2,Bv,Qc,Bd,QQ (show k<4611686018427387904 by omega),ih,QP (y:=tI) hk,QP (y:=tI) hk2]
  simp only [QeE,Bd,Bj hk,Jw,ieq]
  cases h:x1[k]==x0 with
  |true=>simp [h,Qc,Bk,Bf hk2]
  |false=>
   simp only [h,Qf,BK,Do]
   cases hq:Jw x0 (x1.drop (k+1)) with
   |none=>rfl
   |some j=>
    simp only [B0,B8,BI,Qc]
    rw [show k+1+j=k+(j+1) by omega]
theorem QKa:LO Qlx Qlu QxI 0:=QH (s:=QeC) fun x y h _ q=>by simp only [QF,QG] at q;exact (QJ9 x.1 x.2.1 x.2.2.1 x.2.2.2.1 h).trans q
theorem s_f107 (b:Int)(s t:List Int)(h:Ue b s t=true):QxL b s t=some (.t tI (Zc b s t),[]):=by
 simp only [Ue,Ba] at h
 simp only [QxL,Zc]
 rw [G7 ⟨h.1,h.2,BX 0,by omega⟩,Qc]
 simp only [Bu,BA,DR]
 cases Jw b s<;>simp [Qc,Qf]
def QxM:Ent:=Qk (.pr tI (.pr (.sl tI) (.pr (.sl tI) .nil))) (fun x=>(Ue x.1 x.2.1 x.2.2.1)) (fun x=>(.t tI (Zc x.1 x.2.1 x.2.2.1)))
theorem QKb:EM 107 QxM:=mS (lk:=lkL (lkc QKa lkn)) Qlx QxH [((.t 6),some tI)] false (gB gN) fun m=>Qm m fun x hok=>kT (s_f107 x.1 x.2.1 x.2.2.1 hok)
def tc_f65:TC:=aF Tryz.f65 []
def g_f65:G:=gG 76 [(106,QxB),(107,QxM),(108,QxE)] (fun _ _=>none)
def GV (p0:Keep):OV:=br (cNz 2) (some (.t tI (Ge .i64 p0.2.1 2),[])) none
def Vt (p0:Keep):OV:=br (ieq p0.2.1 160) (GV p0) (br (ieq p0.2.1 224) (GV p0) (br (ieq p0.2.1 256) (GV p0) (br (ieq p0.2.1 384) (GV p0) (br (ieq p0.2.1 521) (GV p0) (some (.t tI 0,[]))))))
def Qly (p0:Keep):OV:=br (Ue p0.2.1 ([128,256]) ([128,256])) (some (.t tI (Zc p0.2.1 ([128,256]) ([128,256])),[])) none
def Qlz (p0:Keep):OV:=br (Ue p0.2.1 ([0]) ([(XE p0.1)])) (some (.t tI (Zc p0.2.1 ([0]) ([(XE p0.1)])),[])) none
def QlA (p0:Keep):OV:=br (ieq p0.1 9) (br (Ue p0.2.1 ([44,65,87]) ([128,192,256])) (some (.t tI (Zc p0.2.1 ([44,65,87]) ([128,192,256])),[])) none) (br (ieq p0.1 13) (br (Ue p0.2.1 ([512,768,1024]) ([128,192,256])) (some (.t tI (Zc p0.2.1 ([512,768,1024]) ([128,192,256])),[])) none) (br (ieq p0.1 14) (br (Ue p0.2.1 ([40,128]) ([40,60])) (some (.t tI (Zc p0.2.1 ([40,128]) ([40,60])),[])) none) (br (ieq p0.1 15) (br (Ue p0.2.1 ([112,168]) ([80,112])) (some (.t tI (Zc p0.2.1 ([112,168]) ([80,112])),[])) none) (br (ieq p0.1 16) (br (ieq p0.1 16) (Qly p0) (Qlz p0)) (br (ieq p0.1 17) (Qly p0) (Qlz p0))))))
def Vu (p0:Keep):OV:=br (ieq p0.1 7) (br (ieq p0.1 7) (Vt p0) (QlA p0)) (br (ieq p0.1 12) (Vt p0) (QlA p0))
def r_f65 (p0:Keep):OV:=
 let a1:=UV p0.2.1
 br (ieq p0.1 5) (br (ieq p0.1 5) (some (.t tI a1,[])) (Vu p0)) (br (ieq p0.1 6) (br (ieq p0.1 6) (some (.t tI a1,[])) (Vu p0)) (br (ieq p0.1 10) (br (ieq p0.1 10) (some (.t tI a1,[])) (Vu p0)) (br (ieq p0.1 11) (some (.t tI a1,[])) (Vu p0))))
theorem s_f65 (u:Keep):r_f65 u=some (.t tI (Xj u),[]):=by
 obtain ⟨a,b,c⟩:=u
 have hcv:Vt (a,b,c)=some (.t tI (EN b),[]):=by
  have hh:QO [160,224,256,384,521] b=(ieq b 160||(ieq b 224||(ieq b 256||(ieq b 384||ieq b 521)))):=by
   rw [DD]
   simp [QO,ieq]
  simp only [Vt,GV,show cNz 2=true from rfl,Qc,EN,hh]
  cases ieq b 160<;>cases ieq b 224<;>cases ieq b 256<;>cases ieq b 384<;>cases ieq b 521<;>rfl
 rcases QxC a with ⟨e,hb⟩|hc
 ·have e2:Xj (a,b,c)=Zc b [0] [XE a]:=by
   unfold Xj
   simp only
   repeat rw [if_neg (by omega)]
  rw [e2]
  simp only [r_f65,Vu,Vt,GV,QlA,Qly,Qlz,e 5 (by decide),e 6 (by decide),e 7 (by decide),e 9 (by decide),e 10 (by decide),e 11 (by decide),e 12 (by decide),e 13 (by decide),e 14 (by decide),e 15 (by decide),e 16 (by decide),e 17 (by decide),Qf]
  rfl
 ·rcases hc with rfl|rfl|rfl|rfl|rfl|rfl|rfl|rfl|rfl|rfl|rfl|rfl|rfl|rfl|rfl|rfl|rfl|rfl|rfl|rfl|rfl|rfl
  all_goals first
   |rfl
   |exact hcv
def QxN:Ent:=Qk (.pr Qd .nil) (fun x=>true) (fun x=>(.t tI (Xj x.1)))
theorem ms_f65:EM 65 QxN:=mS g_f65 tc_f65 [((.t 2),some tI)] false (gB (gD QJ5 (gD QKb (gD QJ7 gN)))) fun m=>Qm m fun x _=>kT (s_f65 x.1)
def QKc:TC:=aF Tryz.f117 []
def g_f117:G:=gG 6 [(65,QxN)] (fun _ _=>none)
def r_f117 (p0:Keep):OV:=some (.t .bool (igt (Xj p0) 0),[])
theorem s_f117 (u:Keep):r_f117 u=some (.t .bool (JR u),[]):=rfl
def QeF:Ent:=Qk (.pr Qd .nil) (fun x=>true) (fun x=>(.t .bool (JR x.1)))
theorem QlB:EM 117 QeF:=mS g_f117 QKc [((.t 2),some .bool)] false (gB (gD ms_f65 gN)) fun m=>Qm m fun x _=>kT (s_f117 x.1)
end Go.Proofs.YtmjnnemhoeolgaaGreat.K
noncomputable section
namespace Go.Proofs.YtmjnnemhoeolgaaGreat.K
open Go.RowKit
theorem Ic {d:Dice}{l:List Int}(h:dOk d=true):dOk (QM d l)=true:=JA h
theorem Id {d:Dice}{l:List Int}(h:l≠[]):dof d l∈l:=by
 have hl:0<(l.length:Int):=by
  cases l with
  |nil=>exact absurd rfl h
  |cons a l=>rw [Bt];omega
 have h2:=Zz (d:=d) hl
 have h3:(Qn d l.length).toNat<l.length:=by omega
 unfold dof
 rw [Bk,Bf h3]
 exact Bw h3
def szL (a:Int):List Int:=
 if a=5∨a=6∨a=10∨a=11 then [2048,1024,512,3072,1023,4096,16384]
 else if a=7∨a=12 then [256,160,224,384,521]
 else if a=9 then [65,44,87]
 else if a=13 then [768,512,1024]
 else if a=14 then [128,40]
 else if a=15 then [168,112]
 else if a=16∨a=17 then [128,256]
 else []
def sizeV (d:Dice)(a:Int):Int:=if szL a=[] then 0 else dof d (szL a)
def sizeN (d:Dice)(a:Int):Dice:=if szL a=[] then d else QM d (szL a)
end Go.Proofs.YtmjnnemhoeolgaaGreat.K
noncomputable section
namespace Go.Proofs.YtmjnnemhoeolgaaGreat.K
open Go.RowKit
noncomputable section
def Wi {α:Type}(l:List α)(n i:Int):Bool:=decide (n=l.length/\0<=i/\i<=n/\l.length<=9223372036854775807)
theorem Qrq {α:Type}{l:List α}{n i:Int}(h:Wi l n i=true):n=l.length/\l.length<=9223372036854775807∧ ∃ k:Nat,i=k/\k<=l.length:=by
 simp only [Wi,Ba] at h
 obtain ⟨h1,h2,h3,h4⟩:=h
 exact ⟨h1,h4,i.toNat,by omega,by omega⟩
theorem Qrr {α:Type}{l:List α}(h:l.length<=9223372036854775807):Wi l (Qa l) 0=true:=by
 simp only [Wi,Ba,Qa]
 exact ⟨trivial,by omega,by omega,h⟩
theorem QbR {k:Nat}(h:k<9223372036854775807):Qg .i64 (k:Int) 1=((k+1:Nat):Int):=by rw [J5 (by omega)];omega
def QD {α:Type}(m:α->Bool):List α->Option Nat
 | []=>none
 |a::l=>if m a then some 0 else (QD m l).map (· + 1)
theorem I1 {α:Type}{m:α->Bool}: ∀ {l:List α},QD m l=none↔l.any m=false
 | []=>by simp [QD]
 |a::l=>by
  have ih:=I1 (m:=m) (l:=l)
  unfold QD
  cases h:m a with
  |true=>simp [h]
  |false=>simpa [h] using ih
theorem QbS {α:Type}{m:α->Bool}: ∀ {l:List α} {k:Nat},QD m l=some k→ ∃ h:k<l.length,m l[k]=true
 | [],_,h=>by cases h
 |a::l,k,h=>by
  unfold QD at h
  split at h
  ·rename_i ha
   injection h with h
   subst h
   exact ⟨by simp,ha⟩
  ·obtain ⟨j,h1,h2⟩:=Bh.1 h
   subst h2
   obtain ⟨q,h3⟩:=QbS h1
   exact ⟨by simp only [Bt];omega,h3⟩
theorem QbT {α:Type}{m:α->Bool}{l:List α}:(QD m l).isSome=l.any m:=by
 cases h:QD m l with
 |none=>rw [I1.1 h];rfl
 |some k=>
  obtain ⟨q,h1⟩:=QbS h
  exact (DA.2 ⟨l[k],Bw q,h1⟩).symm
theorem Gq (s:ByteArray):(QS s).length=s.size:=by simp [QS]
def hasS (l:List ByteArray)(v:ByteArray):Bool:=l.any (seq v)
def XT (c:Int):Bool:=decide (32<c/\c<=126)
def Jt (s:ByteArray):Bool:=(QS s).all XT&&decide (1<=s.size/\s.size<=32)
def Ja (s:ByteArray):Bool:=decide (s.size<=9223372036854775807)
abbrev QbU:Sh:=⟨[(0,.ty .str),(6,.ty (.sl (.int .u8))),(7,.ty tI),(8,.ty tI)],[]⟩
abbrev QhZ:Sh:=⟨[(2,.ty .bool)],[]⟩
abbrev Qrs:Sh:=⟨[(0,.ty .str)],[]⟩
def Qh0:Fg:=QbU.f
def Qrt:TC:=aF Tryz.f86 [(26,pL 0 Qh0),(421,.fg Qrs.f),(13517,.fg QhZ.f)]
def Qru:TC:=lb 0 Qrt
def Qrv (x0:ByteArray)(x6:List Int)(x7 x8:Int):VS:=QbU.st (x0,x6,x7,x8,()) ()
def UA (x2:Bool):VS:=QhZ.st (x2,()) ()
def Qh1 (x0:ByteArray):VS:=Qrs.st (x0,()) ()
def QDJ:VS->Option (Bool×List (Bool×Exit×VS)):=mkL QbU (fun x y=>(Wi x.2.1 x.2.2.1 x.2.2.2.1)) (fun x y=>[((!((x.2.1.drop x.2.2.2.1.toNat).all XT)),.ret,UA (false)),(true,.exit 0,Qh1 (x.1))])
def Qh2:G:=gG 27 [(31080144,OT)] (Ls [QDJ])
def QbV (x0:ByteArray)(x6:List Int)(x7 x8:Int):OX:=Qv (QB Qh2 Qh0 Qru) (Qrv x0 x6 x7 x8)
def I2 (kk:ByteArray->List Int->Int->Int->OX)(x0:ByteArray)(x6:List Int)(x7 x8:Int):OX:=
 let a1:=lgt (.int .u8) x6 (Int.toNat x8)
 br (ilt x8 x7) (br (cIx x6 x8) (br (ile a1 32) (some (.ret,UA false)) (br (igt a1 126) (some (.ret,UA false)) (kk x0 x6 x7 (Qg .i64 x8 1)))) none) (some (.exit 0,Qh1 x0))
def QbW (x0:ByteArray)(x6:List Int)(x7 x8:Int):OX:=br (!((x6.drop x8.toNat).all XT)) (some (.ret,UA (false)))<|some (.exit 0,Qh1 (x0))
theorem Qrw (x0:ByteArray)(x6:List Int)(x7 x8:Int):QbV x0 x6 x7 x8=I2 QbV x0 x6 x7 x8:=lnT (x:=I2 (fun x0 x6 x7 x8=>some (.normal,Qrv x0 x6 x7 x8)) x0 x6 x7 x8) (by simp only [I2,nxA];rfl)
def r_f86 (p0:ByteArray):OV:=br (Y5 p0) (br (Wi (QS p0) (Qa (QS p0)) (0:Int)) (br (!(((QS p0).drop (0:Int).toNat).all XT)) (some (.t .bool (false),[])) (br (ige (JQ (p0)) 1) (some (.t .bool (ile (JQ (p0)) 32),[])) (some (.t .bool false,[])))) none) none
theorem QDK (x0:ByteArray)(x6:List Int)(x7 x8:Int)(h:(Wi x6 x7 x8)=true):QbV x0 x6 x7 x8=QbW x0 x6 x7 x8:=by
 obtain ⟨rfl,h3,k,rfl,hk⟩:=Qrq h
 clear h
 refine QR x6 (fun k=>QbV x0 x6 (x6.length:Int) (k:Int)=QbW x0 x6 (x6.length:Int) (k:Int)) ?_ ?_ k hk
 ·rw [Qrw]
  simp [I2,QbW,QC,Qf]
 ·intro k hk ih
  rw [Qrw]
  simp only [I2,QC,QI,hk,Bv,Qc,Bd,QbR (show k<9223372036854775807 by omega),QP (y:= .int .u8) hk,ih]
  simp only [QbW,Bd,Bj hk,BU,XT]
  by_cases c1:x6[k]<=32
  ·rw [show ile x6[k] 32=true from Be c1,Qc,Bn (show ¬ (32<x6[k]/\x6[k]<=126) by omega)]
   rfl
  ·rw [show ile x6[k] 32=false from Bn c1,Qf]
   by_cases c2:126<x6[k]
   ·rw [show igt x6[k] 126=true from Be (by omega),Qc,Bn (show ¬ (32<x6[k]/\x6[k]<=126) by omega)]
    rfl
   ·rw [show igt x6[k] 126=false from Bn (by omega),Qf,Be (show 32<x6[k]/\x6[k]<=126 by omega),BE]
theorem QDL:LO Qh2 Qh0 Qru 0:=QH (s:=QbU) fun x y h _ q=>by simp only [QF,QG] at q;exact (QDK x.1 x.2.1 x.2.2.1 x.2.2.2.1 h).trans q
theorem s_f86 (s:ByteArray)(h:Ja s=true):r_f86 s=some (.t .bool (Jt s),[]):=by
 simp only [Ja,Ba] at h
 have hl:=Gq s
 simp only [r_f86,show Y5 s=true from Be (by omega),Qrr (show (QS s).length<=9223372036854775807 by omega),Qc,Bu,BA,Jt]
 cases (QS s).all XT with
 |false=>rfl
 |true=>
  simp only [BG,Qf,BE]
  refine QY (fun g=> ?_) (fun g=> ?_)
  ·simp only [ige,JQ,Ba] at g
   apply G8
   rw [DD]
   simp only [ile,JQ,Ba]
   omega
  ·simp only [ige,JQ,Bo] at g
   apply G8
   rw [eq_comm,Bo]
   omega
def I3:Ent:=Qk (.pr .str .nil) (fun x=>(Ja x.1)) (fun x=>(.t .bool (Jt x.1)))
theorem QbX:EM 86 I3:=mS (lk:=lkL (lkc QDL lkn)) Qh2 Qrt [((.t 2),some .bool)] false (gB (gC QdE QdF gN)) fun m=>Qm m fun x hok=>kT (s_f86 x.1 hok)
theorem Qrx {s:ByteArray}{k:Nat}(h:k<s.size):sgt s (k:Int)=(QS s)[k]'(by rw [Gq];exact h):=by
 have hl:k<s.data.toList.length:=by simpa using h
 simp only [sgt,QS,Bd,List.getElem_map,Bk,Bf hl,BI]
abbrev QbY:Sh:=⟨[(0,.ty .str),(3,.ty tI)],[]⟩
abbrev Qry:Sh:=⟨[],[]⟩
def Qh3:Fg:=QbY.f
def Qrz:TC:=aF Tryz.f116 [(58,pL 0 Qh3),(931,.fg Qry.f),(7461,.fg QhZ.f)]
def QrA:TC:=lb 0 Qrz
def QrB (x0:ByteArray)(x3:Int):VS:=QbY.st (x0,x3,()) ()
def Qh4  : VS:=Qry.st () ()
def QDM:VS->Option (Bool×List (Bool×Exit×VS)):=mkL QbY (fun x y=>(Ja x.1&&decide (0<=x.2.1/\x.2.1<=x.1.size))) (fun x y=>[((!(((QS x.1).drop x.2.1.toNat).all XT)),.ret,UA (false)),(true,.exit 0,Qh4)])
def Qh5:G:=gG 28 [] (Ls [QDM])
def QbZ (x0:ByteArray)(x3:Int):OX:=Qv (QB Qh5 Qh3 QrA) (QrB x0 x3)
def I4 (kk:ByteArray->Int->OX)(x0:ByteArray)(x3:Int):OX:=br (ilt x3 (JQ x0)) (br (cSx x0 x3) (br (ilt (sgt x0 x3) 33) (some (.ret,UA false)) (br (cSx x0 x3) (br (igt (sgt x0 x3) 126) (some (.ret,UA false)) (kk x0 (Qg .i64 x3 1))) none)) none) (some (.exit 0,Qh4))
def Qb0 (x0:ByteArray)(x3:Int):OX:=br (!(((QS x0).drop x3.toNat).all XT)) (some (.ret,UA (false)))<|some (.exit 0,Qh4)
theorem QrC (x0:ByteArray)(x3:Int):QbZ x0 x3=I4 QbZ x0 x3:=lnT (x:=I4 (fun x0 x3=>some (.normal,QrB x0 x3)) x0 x3) (by simp only [I4,nxA];rfl)
def QrD (p0:ByteArray):OV:=br (ilt (JQ p0) 1) (some (.t .bool false,[])) (br (igt (JQ p0) 32) (some (.t .bool false,[])) (br (Ja p0&&decide (0<=(0:Int)/\(0:Int)<=p0.size)) (br (!(((QS p0).drop (0:Int).toNat).all XT)) (some (.t .bool (false),[])) (some (.t .bool true,[]))) none))
theorem QDN (x0:ByteArray)(x3:Int)(h:(Ja x0&&decide (0<=x3/\x3<=x0.size))=true):QbZ x0 x3=Qb0 x0 x3:=by
 simp only [Ja,Bc,Ba] at h
 obtain ⟨h0,h1,h2⟩:=h
 obtain ⟨k,rfl⟩:=Bq h1
 have hl:=Gq x0
 refine QR (QS x0) (fun k=>QbZ x0 (k:Int)=Qb0 x0 (k:Int)) ?_ ?_ k (by omega)
 ·rw [QrC]
  simp [I4,Qb0,ilt,JQ,hl,Qf,DT (show (QS x0).length<=x0.size by omega)]
 ·intro k hk ih
  have hk2:k<x0.size:=by omega
  rw [QrC]
  simp only [I4,show ilt (k:Int) (JQ x0)=true from by simp only [ilt,JQ,Ba];omega,show cSx x0 (k:Int)=true from by simp only [cSx,Ba];omega,Qc,Qrx hk2,QbR (show k<9223372036854775807 by omega),ih]
  simp only [Qb0,Bd,Bj hk,BU,XT]
  by_cases c1:(QS x0)[k]<33
  ·rw [show ilt (QS x0)[k] 33=true from Be c1,Qc,Bn (show ¬ (32<(QS x0)[k]/\(QS x0)[k]<=126) by omega)]
   rfl
  ·rw [show ilt (QS x0)[k] 33=false from Bn c1,Qf]
   by_cases c2:126<(QS x0)[k]
   ·rw [show igt (QS x0)[k] 126=true from Be c2,Qc,Bn (show ¬ (32<(QS x0)[k]/\(QS x0)[k]<=126) by omega)]
    rfl
   ·rw [show igt (QS x0)[k] 126=false from Bn c2,Qf,Be (show 32<(QS x0)[k]/\(QS x0)[k]<=126 by omega),BE]
theorem QDO:LO Qh5 Qh3 QrA 0:=QH (s:=QbY) fun x y h _ q=>by simp only [QF,QG] at q;exact (QDN x.1 x.2.1 h).trans q
theorem s_f116 (s:ByteArray)(h:Ja s=true):QrD s=some (.t .bool (Jt s),[]):=by
 simp only [QrD]
 unfold Jt
 refine QY (fun g=> ?_) (fun g=>QY (fun g2=> ?_) (fun g2=> ?_))
 ·simp only [ilt,JQ,Ba] at g
  rw [Bn (show ¬ (1<=s.size/\s.size<=32) by omega),DL]
 ·simp only [igt,JQ,Ba] at g2
  rw [Bn (show ¬ (1<=s.size/\s.size<=32) by omega),DL]
 ·simp only [ilt,igt,JQ,Bo] at g g2
  rw [h,Be (show (0:Int)<=0/\(0:Int)<=s.size by omega),Be (show 1<=s.size/\s.size<=32 by omega),B6,B6,Qc,Bu,BA]
  cases (QS s).all XT<;>rfl
def Qh6:Ent:=Qk (.pr .str .nil) (fun x=>(Ja x.1)) (fun x=>(.t .bool (Jt x.1)))
theorem QrE:EM 116 Qh6:=mS (lk:=lkL (lkc QDO lkn)) Qh5 Qrz [((.t 2),some .bool)] false (gB gN) fun m=>Qm m fun x hok=>kT (s_f116 x.1 hok)
def Xc (d:Dice)(l:List ByteArray):ByteArray:=l.getD (Qn d l.length).toNat ByteArray.empty
def WT (d:Dice)(l:List ByteArray):Dice:=Qh d l.length
def F1 (d:Dice)(l:List ByteArray):Bool:=dOk d&&decide (0<l.length/\l.length<4611686018427387904)
def tc_f41:TC:=aF Tryz.f41 []
def g_f41:G:=gG 12 [(22,G9)] (fun _ _=>none)
def r_f41 (d0:Dice)(p1:List ByteArray):OV:=br (Jf d0 (Qa p1)) (br (cIx p1 (Qn d0 (Qa p1))) (some (.t .str (lgt .str p1 (Int.toNat (Qn d0 (Qa p1)))),[.box (.t Q1 (Qh d0 (Qa p1)))])) none) none
theorem s_f41 (d:Dice)(l:List ByteArray)(h:F1 d l=true):r_f41 d l=some (.t .str (Xc d l),[.box (.t Q1 (WT d l))]):=by
 simp only [F1,Bc,Ba] at h
 obtain ⟨h1,h2,h3⟩:=h
 simp only [r_f41]
 have e1:Jf d (Qa l)=true:=by simp only [Jf,h1,Qa,BE,Ba];omega
 rw [e1,Qc]
 have h4:=Zz (d:=d) (n:=Qa l) (by unfold Qa;omega)
 have e2:cIx l (Qn d (Qa l))=true:=by simp only [cIx,Ba];exact h4
 rw [e2,Qc]
 rfl
def QrF:Ent:=Uq Q1 (.pr (.sl .str) .nil) (fun d x=>(F1 d x.1)) (fun d x=>(.t .str (Xc d x.1))) (fun d x=>(WT d x.1))
theorem ms_f41:EM 41 QrF:=mS g_f41 tc_f41 [((.t 4),some .str)] false (gB (gD Ib gN)) fun m=>Fs m rfl fun d x hok=>kT (s_f41 d x.1 hok)
end
end Go.Proofs.YtmjnnemhoeolgaaGreat.K
noncomputable section
namespace Go.Proofs.YtmjnnemhoeolgaaGreat.K
open Go.RowKit
def byt (n:Int)(k:Nat):Int:=(n / 256 ^ k) % 256
theorem QfR (a:Int):icv .u8 a=a % 256:=by
 show IntKind.u8.wrap a=_
 simp [IntKind.wrap,IntKind.bits,IntKind.signed]
theorem QzF {kd:IntKind}(hb:kd.bits=64)(a:Int)(k:Nat)(hk:k<=8):XM kd a ((8*k:Nat):Int)=a / 256 ^ k:=by
 unfold XM
 rw [Bd,hb,Nat.min_eq_left (by omega),Int.fdiv_eq_ediv_of_nonneg _ (by exact Int.pow_nonneg (by decide)),Int.pow_mul]
 rfl
def Wz (n:Int):Nat->List Int
 |0=>[]
 |k+1=>byt n k::Wz n k
theorem Qnn (n:Int): ∀ k,(Wz n k).length=k
 |0=>rfl
 |k+1=>by rw [Wz,Bt,Qnn n k]
def nbN (n:Int):Nat:=
 if-128<=n/\n<128 then 1 else if-32768<=n/\n<32768 then 2 else if-8388608<=n/\n<8388608 then 3
 else if-2147483648<=n/\n<2147483648 then 4 else if-549755813888<=n/\n<549755813888 then 5
 else if-140737488355328<=n/\n<140737488355328 then 6 else if-36028797018963968<=n/\n<36028797018963968 then 7 else 8
theorem Qaj (n:Int):nbN n<=8:=by unfold nbN;(repeat' split)<;>omega
def YY (x b:Int):Bool:=(x != 0&&x != -1)||(x==0&&decide (b≥128))||(x== -1&&decide (b<128))
def Zo:Nat->Int->List Int->List Int
 |0,_,b=>b
 |k+1,x,b=>bif YY x (b.headD 0) then Zo k (x / 256) (x % 256::b) else b
theorem QzG (x y:Int):YY x y=true↔((x≠0/\x≠ -1)∨(x=0/\y≥128)∨(x= -1/\y<128)):=by simp [YY,or_assoc]
theorem Fb (n:Int){k:Nat}(h:1<=k):Wz n k=byt n (k-1)::Wz n (k-1):=by
 obtain ⟨j,rfl⟩: ∃ j,k=j+1:=⟨k-1,by omega⟩
 rfl
theorem QfS {n:Int}(k:Nat)(h1:k<=8)(h0:1<=k)(h: -9223372036854775808<=n/\n<9223372036854775808):YY (n / 256 ^ k) (byt n (k-1))=decide (k<nbN n):=by
 have key:((n / 256 ^ k≠0/\n / 256 ^ k≠ -1)∨(n / 256 ^ k=0/\byt n (k-1)≥128)∨(n / 256 ^ k= -1/\byt n (k-1)<128))↔k<nbN n:=by
  unfold nbN byt
  have:k=1∨k=2∨k=3∨k=4∨k=5∨k=6∨k=7∨k=8:=by omega
  rcases this with rfl|rfl|rfl|rfl|rfl|rfl|rfl|rfl<;>simp only [Int.reducePow,Nat.reduceSub]<;>(repeat' split)<;>omega
 rw [DD,QzG,decide_eq_true_iff,key]
theorem QzH (n:Int):1<=nbN n:=by unfold nbN;(repeat' split)<;>omega
theorem Qno {n:Int}(h: -9223372036854775808<=n/\n<9223372036854775808): ∀ f k,1<=k->k<=nbN n->nbN n-k<=f->Zo (f+1) (n / 256 ^ k) (Wz n k)=Wz n (nbN n)
 |0,k,h1,h2,h3=>by
  have e:k=nbN n:=by omega
  rw [Fb n h1,Zo,List.headD_cons,QfS k (by have:=Qaj n;omega) h1 h,Bn (by omega),Di, ← e, ← Fb n h1]
 |f+1,k,h1,h2,h3=>by
  have h8:=Qaj n
  rcases B9 k (nbN n) with h4|h4
  ·rw [Fb n h1,Zo,List.headD_cons,QfS k (by omega) h1 h,Be (by omega),Dl]
   have e:n / 256 ^ k / 256=n / 256 ^ (k+1):=by rw [Int.pow_succ,Int.ediv_ediv_of_nonneg (Int.pow_nonneg (by decide))]
   rw [e, ← Fb n h1]
   exact Qno h f (k+1) (by omega) (by omega) (by omega)
  ·have e:k=nbN n:=by omega
   rw [Fb n h1,Zo,List.headD_cons,QfS k (by omega) h1 h,Bn (by omega),Di, ← e, ← Fb n h1]
def U6 (n:Int):List Int:=Wz n (nbN n)
theorem QzI {n:Int}(h: -9223372036854775808<=n/\n<9223372036854775808):Zo 9 (n / 256) [byt n 0]=U6 n:=by
 have:=Qno h 8 1 (BJ _) (QzH n) (by have:=Qaj n;omega)
 simpa [Wz,U6] using this
def ZV:Nat->Nat->List Int
 |0,_=>[]
 |f+1,n=>if n=0 then [] else ZV f (n / 256)++[((n % 256:Nat):Int)]
def Xl:Nat->Nat->Nat
 |0,_=>0
 |f+1,n=>if n=0 then 0 else Xl f (n / 256)+1
theorem QfT: ∀ f n,(ZV f n).length=Xl f n
 |0,_=>rfl
 |f+1,n=>by
  simp only [ZV,Xl]
  split
  ·rfl
  ·rw [Bl,QfT f];rfl
theorem QfU: ∀ f n,Xl f n<=f
 |0,_=>BJ _
 |f+1,n=>by
  simp only [Xl]
  split
  ·omega
  ·have:=QfU f (n / 256);omega
theorem QzJ (n k:Nat):byt (n:Int) k=((n / 256 ^ k % 256:Nat):Int):=by
 unfold byt
 have:(256:Int) ^ k=((256 ^ k:Nat):Int):=by simp
 rw [this]
 omega
def Uk (n:Nat):List Int:=if n<128 then [(n:Int)] else (((128+Xl 8 n:Nat)):Int)::ZV 8 n
mutual
def Qak:Val->List Int
 |.mk t b _ es=>icv .u8 t::(Uk (b.length+(ZL es).length)++(b++ZL es))
def ZL:List Val->List Int
 | []=>[]
 |v::r=>Qak v++ZL r
end
mutual
def Ul:Val->Nat
 |.mk _ _ _ es=>Fc es+1
def Fc:List Val->Nat
 | []=>0
 |v::r=>max (Ul v) (Fc r)
end
def okV:Nat->Val->Bool
 |0,_=>false
 |n+1,.mk t b nst es=>(t==1||t==2||t==12||t==48)&&(nst==(t==48))&&(bif nst then b.isEmpty else es.isEmpty)&&decide (b.length<=100000/\es.length<=100000)&&es.all (okV n)
theorem Qnp {n:Nat}{t:Int}{b:List Int}{q:Bool}{es:List Val}(h:okV (n+1) (.mk t b q es)=true):
  (t=1∨t=2∨t=12∨t=48)/\q=(t==48)/\(q=true->b=[])/\(q=false->es=[])/\b.length<=100000/\es.length<=100000∧ ∀ v∈es,okV n v=true:=by
 simp only [okV,Bc,Db,Dj,Ba,Bg] at h
 obtain ⟨⟨⟨⟨h1,h2⟩,h3⟩,h4⟩,h5⟩:=h
 refine ⟨by omega,h2,fun hq=> ?_,fun hq=> ?_,h4.1,h4.2,h5⟩
 ·rw [hq,Dl] at h3
  exact DK.1 h3
 ·rw [hq,Di] at h3
  exact DK.1 h3
theorem okV_up: ∀ {n:Nat} {v:Val},okV n v=true->okV (n+1) v=true
 |0,_,h=>by cases h
 |n+1,.mk t b q es,h=>by
  simp only [okV,Bc,Bg] at h ⊢
  exact ⟨h.1,fun v hv=>by have:=okV_up (h.2 v hv);simpa only [okV] using this⟩
theorem Qnq: ∀ {n:Nat} {es:List Val},(∀ v∈es,Ul v<=n)->Fc es<=n
 |_,[],_=>B4 _
 |n,v::r,h=>by
  rw [Fc]
  have:=h v (by simp)
  have:=Qnq (es:=r) fun u hu=>h u (by simp [hu])
  omega
theorem Qal: ∀ {n:Nat} {v:Val},okV n v=true->Ul v<=n
 |0,_,h=>by cases h
 |n+1,.mk t b q es,h=>by
  rw [Ul]
  have:=Qnq (n:=n) fun v hv=>Qal ((Qnp h).2.2.2.2.2.2 v hv)
  omega
theorem QzK (t:Int)(b:List Int)(q:Bool)(es:List Val):b.length+(ZL es).length<=(Qak (.mk t b q es)).length:=by
 rw [Qak,Bt,Bl,Bl]
 omega
end Go.Proofs.YtmjnnemhoeolgaaGreat.K
noncomputable section
namespace Go.Proofs.YtmjnnemhoeolgaaGreat.K
open Go.RowKit
mutual
def V.plain:V->Bool
 |.t (.int _) _=>true
 |.t .bool _=>true
 |.tu vs=>V.plains vs
 |_=>false
def V.plains:List V->Bool
 | []=>true
 |v::vs=>v.plain&&V.plains vs
end
section
variable {X X':Nat->Nat->Prop}{w w':World}{σ σ':Pl}
mutual
theorem QEf: ∀ (v:V) (u:Value),v.plain=true->C X w σ v.d u->C X' w' σ' v.d u
 |.t (.int _) x,u,_,h=>by simpa only [V.d,Ty.d,C] using h
 |.t .bool x,u,_,h=>by simpa only [V.d,Ty.d,C] using h
 |.tu vs,u,hp,h=>by
  simp only [V.plain] at hp
  simp only [V.d,C] at h ⊢
  obtain ⟨us,h1,h2⟩:=h
  exact ⟨us,h1,Qsj vs us hp h2⟩
theorem Qsj: ∀ (vs:List V) (us:List Value),V.plains vs=true->Cs X w σ (V.ds vs) us->Cs X' w' σ' (V.ds vs) us
 | [],us,_,h=>by simpa only [V.ds,Cs] using h
 |v::vs,us,hp,h=>by
  simp only [V.plains,Bc] at hp
  simp only [V.ds,Cs] at h ⊢
  obtain ⟨u,us',h1,h2,h3⟩:=h
  exact ⟨u,us',h1,QEf v u hp.1 h2,Qsj vs us' hp.2 h3⟩
end
end
section
variable {P:Program}
end
end Go.Proofs.YtmjnnemhoeolgaaGreat.K
noncomputable section
namespace Go.Proofs.YtmjnnemhoeolgaaGreat.K
open Go.RowKit
section
variable {P:Program}
theorem QBY {f:FuncId}{e:Nat}{y:Ty}{N:Nat}{ok:(Ty.pr (.sl y) .nil).T->Bool}(hlt:f<1000000)
  (hok: ∀ x,ok x=true->x.1.length<=N)
  (h: ∀ (A:Option Addr) (c n:Nat) (cells:List Value) (w:World),Sl w (.slice A n c) y.sz n cells->(∀ u∈cells,u.oneCell'=true)->n<=N→
   Calls P f #[.slice A n c] w fun r w'=> ∃ sv,r= .returned sv/\w'.ownsRow w.heap.size e y.sz sv n cells/\Below w.heap.size w w'):
  Qz P f (Qy (WD (.pr (.sl y) .nil) ok (fun _=> .ms 50000) (fun x=>[.arr e y x.1]))):=by
 intro args objs r os hF X w σ vs hfin hl hc
 unfold Qy WD at hF
 cases objs with
 |cons o os'=>simp at hF
 |nil=>
  simp only at hF
  cases ha:(Ty.pr (.sl y) .nil).args args with
  |none=>rw [ha] at hF;cases hF
  |some x=>
   rw [ha] at hF
   simp only at hF
   split at hF
   ·rename_i r' os' hq
    simp only [Bb,Bm] at hF hq
    obtain ⟨rfl,rfl⟩:=hF
    obtain ⟨h1,rfl,rfl⟩:=hq
    have hcc:=WE ha hc
    obtain ⟨l,u0⟩:=x
    have hlen:=hok _ h1
    simp only [Ty.canon,V.ds,V.d,Ty.d,Cs,C] at hcc
    obtain ⟨u,us,rfl,⟨A,c,rfl,hnc,hmx,hz,hp⟩,rfl⟩:=hcc
    have hsl: ∃ cells,Sl w (.slice A l.length c) y.sz l.length cells/\(∀ u∈cells,u.oneCell'=true)/\Cs X w Q5 (List.flatMap y.cells l) cells:=by
     by_cases hq:l=[]
     ·subst hq
      exact ⟨[],⟨by simp,A,c,rfl,B4 _,hmx,fun hn=>absurd hn (by simp)⟩,fun u hu=>(by cases hu),by simp [Cs]⟩
     ·have hn:0<l.length:=List.length_pos_iff.2 hq
      obtain ⟨b,off,vs,rfl,g1,g2⟩:=hp hn
      have hvl:=Cs.len g1
      rw [WM] at hvl
      exact ⟨vs,⟨hvl,_,c,rfl,hnc,hmx,fun _=>⟨b,off,rfl,g2.lt,fun j u hu=>g2.at_ j u hu⟩⟩,g2.one,g1⟩
    obtain ⟨cells,s1,s2,s3⟩:=hsl
    refine (Qd4 hlt (h A c l.length cells w s1 s2 hlen)).mono ?_
    rintro _ w' ⟨sv,rfl,ho,hb⟩
    let X':Nat->Nat->Prop:=fun b q=>X b q∨some b=sv.ownBlock
    let σ':Pl:=fun k=>if k=50000 then .arr sv else σ k
    have hsv:sv.oneCell'=true:=by
     rcases ho.2 with ⟨rfl,_⟩|⟨g,cap,cur,rfl,_⟩<;>rfl
    have hlo: ∀ b,sv.ownBlock=some b->w.heap.size<=b/\b<w'.heap.size:=fun b hbk=>ho.lt b hbk
    have ex:Ext0 X w X' w':=⟨hb.size,fun b q hbl hx=>⟨fun hx'=>by
     rcases hx' with hx'|hx'
     ·exact hx hx'
     ·have:=hlo b hx'.symm
      omega,World.cell?_of_block (w:=w) (a:=⟨b,q,none⟩) (hb.block b hbl)⟩⟩
    have e0:σ' 50000= .arr sv:=if_pos rfl
    refine ⟨sv,X',σ',rfl, ?_,⟨fun b q hq=> ?_,fun j o hj=> ?_,fun i j b hij hi hj=>by simp at hi hj;omega,by simp,fun j hj=>by simp at hj,fun j b _ hj hl=> ?_,Qpn hb,fun b q hbl hq=> ?_,fun b q _ _ hq=> .inl hq⟩⟩
    ·simp only [V.d,C]
     exact ⟨e0,hsv⟩
    ·rcases hq with hq|hq
     ·exact BP (hfin b q hq) hb.size
     ·exact (hlo b hq.symm).2
    ·cases j with
     |zero=>
      simp only [BZ,Bb] at hj
      subst hj
      have ho0:w'.ownsRow 0 e y.sz sv l.length cells:=by
       refine ⟨ho.1, ?_⟩
       rcases ho.2 with hq|⟨g,cap,cur,q1,q2,q3⟩
       ·exact .inl hq
       ·exact .inr ⟨g,cap,cur,q1,B4 _,q3⟩
      exact ⟨⟨sv,cells,e0,.of ho0,Cs.ext0 ex _ _ (fun _ _=>rfl) s3,s2,fun b hbk o=> .inr hbk.symm⟩,fun _ h=>by cases h⟩
     |succ j=>simp at hj
    ·simp only [Bt,BD] at hj
     have:j=0:=by omega
     subst this
     left
     rw [show 50000+0=50000 from rfl,e0] at hl
     exact (hlo b hl).1
    ·rcases hq with hq|hq
     ·exact hq
     ·have:=hlo b hq.symm
      omega
   ·cases hF
theorem QBZ {f:FuncId}{e:Nat}{y:Ty}{a:Ty}{ok:a.T->Bool}{L:a.T->List y.T}(h:Qz P f (Qy (WD a ok (fun _=> .ms 50000) (fun x=>[.arr e y (L x)])))):Qz P f (Qy (Qk a ok (fun x=> .t (.sl y) (L x)))):=by
 intro args objs r os hF X w σ vs hfin hl hc
 unfold Qy Qk at hF
 cases objs with
 |cons o os'=>simp at hF
 |nil=>
  simp only at hF
  cases ha:a.args args with
  |none=>rw [ha] at hF;cases hF
  |some x=>
   rw [ha] at hF
   simp only at hF
   split at hF
   ·rename_i r' os' hq
    simp only [Bb,Bm] at hF hq
    obtain ⟨rfl,rfl⟩:=hF
    obtain ⟨h1,rfl,rfl⟩:=hq
    have h2:=h args [] (.ms 50000) [.arr e y (L x)] (by unfold Qy WD;simp only [ha,h1]) X w σ vs hfin hl hc
    refine h2.mono ?_
    rintro e0 w' ⟨u,X',σ',rfl,hu,hE⟩
    have hat:=(hE.at_ 0 _ rfl).1
    let X'':Nat->Nat->Prop:=fun b q=>X' b q/\(σ' 50000).blk≠some b
    have ex:Ext X' w' X'' w':=⟨BJ _,fun b q _ hx=>⟨fun hx'=>hx hx'.1,rfl⟩,fun _ _ _=>rfl⟩
    have hX: ∀ u b,σ' 50000= .arr u->u.ownBlock=some b→ ∀ q, ¬ X'' b q:=fun u b h1 h2 q hx=>hx.2 (by rw [h1];exact h2)
    have hz:=XQ (k:=50000) (y:=y) (l:=L x) (e:=e) hat ex hX (.ms 50000) u hu
    simp only [V.fz,if_true] at hz
    refine ⟨u,X'',σ',rfl,hz,⟨fun b q hq=>hE.fin b q hq.1,fun j o hj=>by simp at hj,fun i j b _ hi=>absurd hi (by simp),by simp,fun j hj=>absurd hj (by simp),fun j b _ hj=>absurd hj (by simp),hE.fr,fun b q hb hq=>hE.sub b q hb hq.1,fun b q hb hn hq=>⟨hE.old b q hb (fun i hi=>absurd hi (by simp)) hq,fun hb2=> ?_⟩⟩⟩
    rcases hE.new 0 b (B4 _) (by simp) hb2 with h3|⟨i,hi,_⟩
    ·omega
    ·exact absurd hi (by simp)
   ·cases hF
end
end Go.Proofs.YtmjnnemhoeolgaaGreat.K
noncomputable section
namespace Go.Proofs.YtmjnnemhoeolgaaGreat.K
open Go.RowKit
noncomputable section
theorem Ji {α:Type}{l l2:List α}{c:Nat}(hc:c<=1000)(h:l.length+l2.length<=100000000000):QJ l l2 c=true:=by
 simp only [QJ,Ba]
 have:(l.length+l2.length)*(c+1)<=100000000000*1001:=Nat.mul_le_mul h (by omega)
 omega
def Qll (l:List Int):List Int:=l
def Qlm (l:List Int):Bool:=decide (l.length<=4000000)
def Qxl:Ent:=Qk (.pr (.sl (.int .u8)) .nil) (fun x=>(Qlm x.1)) (fun x=>(.t (.sl (.int .u8)) (Qll x.1)))
theorem QJI:JZ Tryz.prog 247:= .inr ⟨by decide,_,Tryz.func247,by kernel_rfl,by kernel_rfl⟩
theorem elemU8:ElemOk Tryz.prog 188 5 1 1:=ElemOk.of (.int .u8 0) (by kernel_rfl) (by kernel_rfl) (by kernel_rfl) (by decide)
theorem QJJ {P:Program}(w:World)(t e:TypeId)(a:Option Addr)(l c:Nat)(h:P.underlying t=some (.slice e)):(binOp .eql t (.slice a l c) (.slice none 0 0)).run P w= .ok (.bool a.isNone) w:=by
 simp [binOp,run_equal_slice_nil w t e a l c h]
set_option maxHeartbeats 400000 in
theorem QJK (A:Option Addr)(c n:Nat)(cells:List Value)(w:World)(h:Sl w (.slice A n c) 1 n cells)(h1: ∀ u∈cells,u.oneCell'=true)(hn:n<=4000000):
  Calls Tryz.prog 247 #[.slice A n c] w fun r w'=> ∃ sv,r= .returned sv/\w'.ownsRow w.heap.size 5 1 sv n cells/\Below w.heap.size w w':=by
 have he:=QJJ (P:=Tryz.prog) w 188 5 A n c (by kernel_rfl)
 rcases A with _|ad
 ·have hnil:n=0:=Classical.byContradiction fun h0=>by
   obtain ⟨_,A',c',hv,_,_,h3⟩:=h
   obtain ⟨b,off,e,_⟩:=h3 (by omega)
   rw [e] at hv
   simp at hv
  subst hnil
  have hc:cells=[]:=By (by rw [h.1,Nat.zero_mul])
  subst hc
  clear h
  simp only [Option.isNone_none] at he
  go_enter Tryz.func247,Tryz.ntmps247
  go_wp2_with fail
  go_ret
  exact ⟨_,rfl,World.ownsRow_nil _ _ _ _,Below.refl _ _⟩
 ·simp only [Option.isNone_some] at he
  have hown:=World.ownsRow_made w #[] (size:=1) (e:=5) 0 (BJ _) (B4 _) rfl
  have hsrc:=h.alloc (.cells #[] 5)
  have HSRC:=Lib.hid hsrc
  clear h hsrc
  go_enter Tryz.func247,Tryz.ntmps247
  go_wp2_with (at_builtin;refine Qqh elemU8 rfl _ _ rfl w.heap.size (.slice (some ⟨w.heap.size,0,none⟩) 0 0) 0 [] rfl hown (some ad) n c cells rfl HSRC.out h1 (by omega) (by omega) (by simp) ?_;intro v' w4 hown4 hg4 hat4)
  go_ret
  refine ⟨v',rfl,by simpa using hown4, ?_⟩
  have hal:=(Below.refl w.heap.size w).alloc (BJ _) (.cells #[] 5)
  exact Qqg hal hg4 (BJ _) hal.size
theorem QJL:Qz Tryz.prog 247 (Qy Qxl):=
 QBZ (a:= .pr (.sl (.int .u8)) .nil) (e:=5) (y:= .int .u8) (L:=fun x=>x.1) (QBY (e:=5) (y:= .int .u8) (by decide) (fun x hx=>Bx hx) fun A c n cells w h h1 hn=>QJK A c n cells w h h1 hn)
def Vn (n:Int):Bool:=decide (1<=n/\n<=255)&&(Gi .i64 n 31 != 31)
def QJM:TC:=aF Tryz.f242 []
def g_f242:G:=gG 14 [] (fun _ _=>none)
def Qxm (p0:Int):OV:=br (ige p0 1) (br (ile p0 255) (some (.t .bool (ine (Gi .i64 p0 31) 31),[])) (some (.t .bool false,[]))) (some (.t .bool false,[]))
theorem s_f242 (n:Int):Qxm n=some (.t .bool (Vn n),[]):=by
 simp only [Qxm]
 unfold Vn
 refine QY (fun h1=>QY (fun h2=> ?_) (fun h2=> ?_)) (fun h1=> ?_)
 ·simp only [ige,ile,Ba] at h1 h2
  rw [Be (show 1<=n/\n<=255 by omega),BE]
 ·simp only [ige,ile,Ba,Bo] at h1 h2
  rw [Bn (show ¬ (1<=n/\n<=255) by omega),DM]
 ·simp only [ige,Bo] at h1
  rw [Bn (show ¬ (1<=n/\n<=255) by omega),DM]
def Qxn:Ent:=Qk (.pr tI .nil) (fun x=>true) (fun x=>(.t .bool (Vn x.1)))
theorem QJN:EM 242 Qxn:=mS g_f242 QJM [((.t 2),some .bool)] false (gB gN) fun m=>Qm m fun x _=>kT (s_f242 x.1)
def Vo (n:Int):Bool:=decide (1<=n/\n<=255)&&(Xm n 32 != 31)
def QJO:TC:=aF Tryz.f210 []
def g_f210:G:=gG 14 [] (fun _ _=>none)
def Qxo (p0:Int):OV:=br (ige p0 1) (br (ile p0 255) (br (cNz 32) (some (.t .bool (ine (Xm p0 32) 31),[])) none) (some (.t .bool false,[]))) (some (.t .bool false,[]))
theorem s_f210 (n:Int):Qxo n=some (.t .bool (Vo n),[]):=by
 simp only [Qxo,show cNz 32=true from rfl,Qc]
 unfold Vo
 refine QY (fun h1=>QY (fun h2=> ?_) (fun h2=> ?_)) (fun h1=> ?_)
 ·simp only [ige,ile,Ba] at h1 h2
  rw [Be (show 1<=n/\n<=255 by omega),BE]
 ·simp only [ige,ile,Ba,Bo] at h1 h2
  rw [Bn (show ¬ (1<=n/\n<=255) by omega),DM]
 ·simp only [ige,Bo] at h1
  rw [Bn (show ¬ (1<=n/\n<=255) by omega),DM]
def Qxp:Ent:=Qk (.pr tI .nil) (fun x=>true) (fun x=>(.t .bool (Vo x.1)))
theorem QJP:EM 210 Qxp:=mS g_f210 QJO [((.t 2),some .bool)] false (gB gN) fun m=>Qm m fun x _=>kT (s_f210 x.1)
theorem byt_low (n:Nat)(h:n<256):byt (n:Int) 0=n:=by
 rw [QzJ]
 simp
 omega
-- loop 0: (x1 : Int) (x5 : Int) (x6 : Int) (QlX : (List Int)); out: ('exit', 0) (x1 : Int) (x5 : Int) (QlX : (List Int))
-- loop 1: (x1 : Int) (x7 : Int) (QlX : (List Int)); out: ('exit', 2) (QlX : (List Int))
theorem QJQ: ∀ (f g n:Nat),n<256 ^ f->n<256 ^ g->Xl f n=Xl g n
 |0,g,n,h1,h2=>by
  have:n=0:=by simpa using h1
  subst this
  cases g<;>rfl
 |f+1,0,n,h1,h2=>by
  have:n=0:=by simpa using h2
  subst this
  rfl
 |f+1,g+1,n,h1,h2=>by
  rw [Xl,Xl]
  split
  ·rfl
  ·rw [Nat.pow_succ] at h1 h2
   rw [QJQ f g (n / 256) (by omega) (by omega)]
theorem Qln {n:Nat}(h:n<256):icv .u8 (n:Int)=n:=by
 rw [QfR]
 omega
def Ud (n:Int):List Int:=Uk n.toNat
def Vp (n:Int):Bool:=decide (0<=n/\n<=1000000000)
abbrev Qex:Sh:=⟨[(0,.ty tI),(3,.ms 3)],[(3,.arr 5 (.int .u8)),(14,.no),(16,.no)]⟩
abbrev Qxq:Sh:=⟨[(3,.ms 3)],[(3,.arr 5 (.int .u8)),(14,.no),(16,.no)]⟩
def Qlo:Fg:=Qex.f
def Qxr:TC:=aF Tryz.f211 [(60,.nw 3 5),(60,pL 0 Qlo),(120,.mv [(14,3)]),(963,.fg Qxq.f)]
def Qxs:TC:=lb 0 Qxr
def Qxt (x0:Int)(y3:List Int):VS:=Qex.st (x0,(),()) (y3,(),(),())
def Qlp (y3:List Int):VS:=Qxq.st ((),()) (y3,(),(),())
def QJR:VS->Option (Bool×List (Bool×Exit×VS)):=mkL Qex (fun x y=>(decide (0<=x.1/\x.1<=1000000000/\y.1.length<=100))) (fun x y=>[(true,.exit 0,Qlp (ZV 8 x.1.toNat++y.1))])
def Qlq:G:=⟨TYs,[14,23],26,EL [],Wp,(Ls [QJR]),IL [],RL []⟩
def Qey (x0:Int)(y3:List Int):OX:=Qv (QB Qlq Qlo Qxs) (Qxt x0 y3)
def EK (kk:Int->List Int->OX)(x0:Int)(y3:List Int):OX:=
 let a1:=icv .u8 (Xm x0 256)
 br (igt x0 0) (br (cNz 256) (br (QJ ([a1]) y3 1) (br (cNz 256) (kk (Ge .i64 x0 256) (([a1])++y3)) none) none) none) (some (.exit 0,Qlp y3))
def Vq (x0:Int)(y3:List Int):OX:=some (.exit 0,Qlp (ZV 8 x0.toNat++y3))
theorem Qxu (x0:Int)(y3:List Int):Qey x0 y3=EK Qey x0 y3:=lnT (x:=EK (fun x0 y3=>some (.normal,Qxt x0 y3)) x0 y3) (by simp only [EK,nxA];rfl)
def Qxv (p0:Int):OV:=
 let a1:=(ZV 8 p0.toNat++([]:List Int))
 let a2:=icv .u8 (Qg .i64 128 (Qa a1))
 br (ilt p0 128) (some (.t (.sl (.int .u8)) ([(icv .u8 p0)]),[])) (br (decide (0<=p0/\p0<=1000000000/\([]:List Int).length<=100)) (br (QJ ([a2]) a1 1) (some (.t (.sl (.int .u8)) (([a2])++a1),[])) none) none)
theorem Qxw: ∀ (f g n:Nat),n<256 ^ f->n<256 ^ g->ZV f n=ZV g n
 |0,g,n,h1,h2=>by
  have:n=0:=by simpa using h1
  subst this
  cases g<;>rfl
 |f+1,0,n,h1,h2=>by
  have:n=0:=by simpa using h2
  subst this
  rfl
 |f+1,g+1,n,h1,h2=>by
  rw [ZV,ZV]
  split
  ·rfl
  ·rw [Nat.pow_succ] at h1 h2
   rw [Qxw f g (n / 256) (by omega) (by omega)]
theorem QJS (x0:Int)(y3:List Int)(h:(decide (0<=x0/\x0<=1000000000/\y3.length<=100))=true):Qey x0 y3=Vq x0 y3:=by
 simp only [Ba] at h
 obtain ⟨h1,h2,h3⟩:=h
 obtain ⟨n,rfl⟩:=Bq h1
 have key: ∀ (m n:Nat),n<=m->n<=1000000000→ ∀ y3:List Int,y3.length+n<=2000000000->Qey (n:Int) y3=Vq (n:Int) y3:=by
  intro m
  induction m with
  |zero=>
   intro n hn _ y3 _
   have:n=0:=by omega
   subst this
   rw [Qxu]
   simp only [EK,Vq,show igt ((0:Nat):Int) 0=false from rfl,Qf,Bd,show ZV 8 0=[] from rfl,BT]
  |succ m ih=>
   intro n hn hb y3 h6
   rw [Qxu]
   by_cases h0:n=0
   ·subst h0
    simp only [EK,Vq,show igt ((0:Nat):Int) 0=false from rfl,Qf,Bd,show ZV 8 0=[] from rfl,BT]
   ·have e1:Xm (n:Int) 256=((n % 256:Nat):Int):=by
     show (n:Int).tmod 256=_
     rw [Int.tmod_eq_emod_of_nonneg (by omega)]
     omega
    have e2:Ge .i64 (n:Int) 256=((n / 256:Nat):Int):=by
     show IntKind.i64.wrap ((n:Int).tdiv 256)=_
     rw [Int.tdiv_eq_ediv_of_nonneg (by omega),Go.IntWalk.i64_in _ (by omega)]
     omega
    simp only [EK,show igt (n:Int) 0=true from Be (by omega),Qc,show cNz 256=true from rfl,e1,e2,Qln (show n % 256<256 by omega)]
    rw [Ji (by omega) (by simp only [Bp];omega),Qc,ih (n / 256) (by omega) (by omega) _ (by simp only [Bl,Bp];omega)]
    simp only [Vq,Bd]
    have:ZV 8 n=ZV 8 (n / 256)++[((n % 256:Nat):Int)]:=by
     rw [show ZV 8 n=(if n=0 then [] else ZV 7 (n / 256)++[((n % 256:Nat):Int)]) from rfl,if_neg h0,Qxw 7 8 (n / 256) (by omega) (by omega)]
    rw [this,BR]
 exact key n n (BJ _) (by omega) y3 (by omega)
theorem QJT:LO Qlq Qlo Qxs 0:=QH (s:=Qex) fun x y h _ q=>by simp only [QF,QG] at q;exact (QJS x.1 y.1 h).trans q
theorem s_f211 (n:Int)(h:Vp n=true):Qxv n=some (.t (.sl (.int .u8)) (Ud n),[]):=by
 simp only [Vp,Ba] at h
 obtain ⟨h2,h3⟩:=h
 obtain ⟨n,rfl⟩:=Bq h2
 have hc:=QfU 8 n
 have hd:=QfT 8 n
 simp only [Qxv]
 by_cases hn:n<128
 ·rw [show ilt (n:Int) 128=true from Be (by omega),Qc]
  simp only [Ud,Uk,Bd,if_pos hn,Qln (show n<256 by omega)]
 ·rw [show ilt (n:Int) 128=false from Bn (by omega),Qf,Be ⟨by omega,by omega,by simp⟩,Qc]
  simp only [Bd,BO,Qa,hd]
  rw [Ji (by omega) (by simp only [Bp];omega),Qc,J5 (by omega)]
  have e2:(128+(Xl 8 n:Int))=((128+Xl 8 n:Nat):Int):=by omega
  simp only [Ud,Uk,Bd,if_neg hn]
  rw [e2,Qln (by omega),BN]
def Qxx:Ent:=Qk (.pr tI .nil) (fun x=>(Vp x.1)) (fun x=>(.t (.sl (.int .u8)) (Ud x.1)))
theorem QJU:EM 211 Qxx:=mS (lk:=lkL (lkc QJT lkn)) Qlq Qxr [((.t 2),some (.sl (.int .u8)))] false (ZW _ (fun p hp=>by cases hp)) fun m=>Qm m fun x hok=>kT (s_f211 x.1 hok)
end
end Go.Proofs.YtmjnnemhoeolgaaGreat.K
noncomputable section
namespace Go.Proofs.YtmjnnemhoeolgaaGreat.K
open Go.RowKit
noncomputable section
def Q9 (n:Int):Qe:=(2,(U6 n,(false,(([]:List Val),()))))
def ZP (n:Int):Bool:=decide (-9223372036854775808<=n/\n<9223372036854775808)
-- loop 0: (x0 : Int) (x4 : Int) (y2 : Qe) (y3 : (List Int)); out: ('exit', 0) (y2 : Qe) (y3 : (List Int))
-- loop 1: (x3 : (List Int)) (y2 : Qe); out: ('exit', 2) (x3 : (List Int)) (y2 : Qe)
abbrev Qbz:Sh:=⟨[(2,.ptr 2 0),(3,.ms 7),(4,.ty tI)],[(2,.box Qs),(3,.no),(7,.arr 5 (.int .u8)),(40,.no),(42,.no)]⟩
abbrev QqC:Sh:=⟨[(2,.ptr 2 0),(3,.ms 7)],[(2,.box Qs),(3,.no),(7,.arr 5 (.int .u8)),(40,.no),(42,.no)]⟩
def QhA:Fg:=Qbz.f
def QqD:TC:=aF Tryz.f190 [(58,.nw 3 5),(58,pL 0 QhA),(116,.mv [(40,7)]),(931,.fg QqC.f)]
def QqE:TC:=lb 0 QqD
def QqF (x4:Int)(y2:Qe)(y7:List Int):VS:=Qbz.st ((),(),x4,()) (y2,(),y7,(),(),())
def FV (y2:Qe)(y7:List Int):VS:=QqC.st ((),(),()) (y2,(),y7,(),(),())
def QCT:VS->Option (Bool×List (Bool×Exit×VS)):=mkL Qbz (fun x y=>(decide (-9223372036854775808<=x.2.2.1/\x.2.2.1<9223372036854775808/\1<=y.2.2.1.length/\y.2.2.1.length<=100))) (fun x y=>[(true,.exit 0,FV (y.1) (Zo 10 x.2.2.1 y.2.2.1))])
def QhB:G:=⟨TYs,[7,40],45,EL [],Wp,(Ls [QCT]),IL [],RL []⟩
def FW (x4:Int)(y2:Qe)(y7:List Int):OX:=Qv (QB QhB QhA QqE) (QqF x4 y2 y7)
def IR (kk:Int->Qe->List Int->OX)(x4:Int)(y2:Qe)(y7:List Int):OX:=br (QJ ([(icv .u8 x4)]) y7 1) (br (decide ((0:Int)<=8)) (kk (XM .i64 x4 8) y2 (([(icv .u8 x4)])++y7)) none) none
def QbA (kk:Int->Qe->List Int->OX)(x4:Int)(y2:Qe)(y7:List Int):OX:=br (ieq x4 (-1)) (br (cIx y7 0) (br (cLd y7 (Int.toNat 0)) (br (ilt (lgt (.int .u8) y7 (Int.toNat 0)) 128) (IR kk x4 y2 y7) (some (.exit 0,FV y2 y7))) none) none) (some (.exit 0,FV y2 y7))
def QbB (kk:Int->Qe->List Int->OX)(x4:Int)(y2:Qe)(y7:List Int):OX:=br (ieq x4 0) (br (cIx y7 0) (br (cLd y7 (Int.toNat 0)) (br (ige (lgt (.int .u8) y7 (Int.toNat 0)) 128) (IR kk x4 y2 y7) (QbA kk x4 y2 y7)) none) none) (QbA kk x4 y2 y7)
def QbC (kk:Int->Qe->List Int->OX)(x4:Int)(y2:Qe)(y7:List Int):OX:=br (ine x4 0) (br (ine x4 (-1)) (IR kk x4 y2 y7) (QbB kk x4 y2 y7)) (QbB kk x4 y2 y7)
def QhC (x4:Int)(y2:Qe)(y7:List Int):OX:=some (.exit 0,FV (y2) (Zo 10 x4 y7))
theorem QCU (x4:Int)(y2:Qe)(y7:List Int):FW x4 y2 y7=QbC FW x4 y2 y7:=lnT (x:=QbC (fun x4 y2 y7=>some (.normal,QqF x4 y2 y7)) x4 y2 y7) (by simp only [QbC,IR,QbB,QbA,nxA];rfl)
def QqG (p0:Int):OV:=
 let a1:=XM .i64 p0 8
 br (decide ((0:Int)<=8)) (br (decide (-9223372036854775808<=a1/\a1<9223372036854775808/\1<=([(icv .u8 p0)]).length/\([(icv .u8 p0)]).length<=100)) (some (.t Qs (2,((Zo 10 a1 ([(icv .u8 p0)])),(false,(([]:List Val),())))),[])) none) none
theorem QqH (n:Int):XM .i64 n 8=n / 256:=by
 have:=QzF (kd:= .i64) rfl n 1 (by omega)
 rw [show ((8*1:Nat):Int)=8 from rfl] at this
 rw [this]
 rfl
theorem QhD: ∀ (k:Nat) (x:Int) (b:List Int), -(256 ^ k:Int)<=x->x<256 ^ k→ ∀ f,Zo (k+2+f) x b=Zo (k+2) x b
 |0,x,b,h1,h2,f=>by
  simp only [Int.pow_zero] at h1 h2
  have hx:x= -1∨x=0:=by omega
  have g: ∀ f,Zo (f+2) x b=bif YY x (b.headD 0) then (x % 256::b) else b:=by
   intro f
   rw [show f+2=(f+1)+1 from rfl,Zo,Zo]
   rcases hx with rfl|rfl
   ·rw [show ((-1:Int) % 256::b).headD 0=255 from rfl,show YY (-1 / 256) 255=false from rfl];rfl
   ·rw [show ((0:Int) % 256::b).headD 0=0 from rfl,show YY (0 / 256) 0=false from rfl];rfl
  rw [show 0+2+f=f+2 by omega,g f]
  exact (g 0).symm
 |k+1,x,b,h1,h2,f=>by
  rw [show k+1+2+f=(k+2+f)+1 by omega,Zo,show k+1+2=(k+2)+1 from rfl,Zo]
  have e:(256:Int) ^ (k+1)=256 ^ k*256:=by rw [Int.pow_succ]
  rw [e] at h1 h2
  rw [QhD k (x / 256) (x % 256::b) (by omega) (by omega) f]
theorem QhE (x:Int)(b:List Int)(h: -9223372036854775808<=x/\x<9223372036854775808):Zo 10 x b=bif YY x (b.headD 0) then Zo 10 (x / 256) (x % 256::b) else b:=by
 have:=QhD 8 x b (by omega) (by omega) 1
 rw [←this]
 rfl
theorem QCV (x4:Int)(y2:Qe)(y7:List Int)(h:(decide (-9223372036854775808<=x4/\x4<9223372036854775808/\1<=y7.length/\y7.length<=100))=true):FW x4 y2 y7=QhC x4 y2 y7:=by
 simp only [Ba] at h
 obtain ⟨h1,h2,h3,h4⟩:=h
 have step: ∀ (x c:Int) (r:List Int),r.length<=300->FW x y2 (c::r)=bif YY x c then FW (x / 256) y2 (x % 256::c::r) else some (.exit 0,FV y2 (c::r)):=by
  intro x c r hr
  rw [QCU]
  have e1:cIx (c::r) 0=true:=by simp only [cIx,Bt,Ba];omega
  have e2:cLd (c::r) (Int.toNat 0)=true:=by simp only [cLd,Bt,Ba,Bu];omega
  have e3:lgt (.int .u8) (c::r) (Int.toNat 0)=c:=rfl
  have e4:QJ [x % 256] (c::r) 1=true:=Ji (by omega) (by simp only [Bt,BD];omega)
  simp only [QbC,IR,QbB,QbA,e1,e2,e3,e4,Qc,show decide ((0:Int)<=8)=true from rfl,QqH,QfR,BN]
  simp only [YY,ine,ieq,ilt,ige]
  have q1:(x != 0)= !(x==0):=rfl
  have q2:(x != -1)= !(x== -1):=rfl
  rw [q1,q2]
  by_cases hx:x=0
  ·subst hx
   cases decide (c≥128)<;>rfl
  ·by_cases hy:x= -1
   ·subst hy
    cases decide (c<128)<;>rfl
   ·rw [show (x==0)=false from beq_false_of_ne hx,show (x== -1)=false from beq_false_of_ne hy]
    rfl
 have lae: ∀ (x:Int) (y:List Int),QhC x y2 y=some (.exit 0,FV y2 (Zo 10 x y)):=fun _ _=>rfl
 have key: ∀ (k:Nat) (x:Int) (y:List Int), -(256 ^ k:Int)<=x->x<256 ^ k->k<=8->1<=y.length->y.length+k<=200→ -9223372036854775808<=x->x<9223372036854775808->FW x y2 y=QhC x y2 y:=by
  intro k
  induction k with
  |zero=>
   intro x y g1 g2 g3 g4 g5 g6 g7
   simp only [Int.pow_zero] at g1 g2
   have hx:x= -1∨x=0:=by omega
   obtain ⟨c,r,rfl⟩: ∃ c r,y=c::r:=by
    cases y with
    |nil=>simp at g4
    |cons c r=>exact ⟨c,r,rfl⟩
   simp only [Bt] at g5
   rw [step x c r (by omega),lae,QhE x (c::r) ⟨g6,g7⟩,List.headD_cons]
   cases YY x c with
   |false=>rfl
   |true=>
    rw [Dl,Dl,step (x / 256) (x % 256) (c::r) (by simp only [Bt];omega),QhE (x / 256) (x % 256::c::r) (by omega),List.headD_cons]
    have:YY (x / 256) (x % 256)=false:=by rcases hx with rfl|rfl<;>rfl
    rw [this]
    rfl
  |succ k ih=>
   intro x y g1 g2 g3 g4 g5 g6 g7
   obtain ⟨c,r,rfl⟩: ∃ c r,y=c::r:=by
    cases y with
    |nil=>simp at g4
    |cons c r=>exact ⟨c,r,rfl⟩
   have e:(256:Int) ^ (k+1)=256 ^ k*256:=by rw [Int.pow_succ]
   rw [e] at g1 g2
   simp only [Bt] at g5
   rw [step x c r (by omega),lae,QhE x (c::r) ⟨g6,g7⟩,List.headD_cons]
   cases YY x c with
   |false=>rfl
   |true=>
    rw [Dl,Dl,ih (x / 256) (x % 256::c::r) (by omega) (by omega) (by omega) (by simp) (by simp only [Bt];omega) (by omega) (by omega),lae]
 exact key 8 x4 y7 (by omega) (by omega) (by omega) h3 (by omega) (by omega) (by omega)
theorem QCW:LO QhB QhA QqE 0:=QH (s:=Qbz) fun x y h _ q=>by simp only [QF,QG] at q;exact (QCV x.2.2.1 y.1 y.2.2.1 h).trans q
theorem s_f190 (n:Int)(h:ZP n=true):QqG n=some (.t Qs (Q9 n),[]):=by
 have h1:=h
 simp only [ZP,Ba] at h1
 have e0:icv .u8 n=byt n 0:=by
  rw [QfR]
  simp [byt]
 simp only [QqG,show decide ((0:Int)<=8)=true from rfl,Qc,QqH,e0]
 rw [Be ⟨by omega,by omega,by simp,by simp⟩,Qc]
 have e1:=QhD 7 (n / 256) [byt n 0] (by omega) (by omega) 1
 rw [show Zo 10 (n / 256) [byt n 0]=Zo 9 (n / 256) [byt n 0] from e1,QzI h1]
 rfl
def QhF:Ent:=Qk (.pr tI .nil) (fun x=>(ZP x.1)) (fun x=>(.t Qs (Q9 x.1)))
theorem QqI:EM 190 QhF:=mS (lk:=lkL (lkc QCW lkn)) QhB QqD [((.c 2 true 4),some Qs)] false (ZW _ (fun p hp=>by cases hp)) fun m=>Qm m fun x hok=>kT (s_f190 x.1 hok)
def J1 (s:ByteArray):Qe:=(12,(QS s,(false,(([]:List Val),()))))
def g_f230:G:=gG 6 [(31080144,OT)] (fun _ _=>none)
theorem gk_f230:GOk Tryz.prog g_f230:=ZW _ (gA (gC QdE QdF gN))
def QCX:TC:=aF Tryz.f188 []
def g_f188:G:=gG 6 [(31080144,OT)] (fun _ _=>none)
def QqJ (p0:ByteArray):OV:=br (Y5 p0) (some (.t Qs (12,((QS p0),(false,(([]:List Val),())))),[])) none
theorem s_f188 (s:ByteArray)(h:Y5 s=true):QqJ s=some (.t Qs (J1 s),[]):=by
 simp only [QqJ,h,Qc]
 rfl
def QqK:Ent:=Qk (.pr .str .nil) (fun x=>(Y5 x.1)) (fun x=>(.t Qs (J1 x.1)))
theorem QCY:EM 188 QqK:=mS g_f188 QCX [((.c 2 true 4),some Qs)] false (gB (gC QdE QdF gN)) fun m=>Qm m fun x hok=>kT (s_f188 x.1 hok)
def WQ (b:Bool):Qe:=(1,([bif b then 255 else 0],(false,(([]:List Val),()))))
def QCZ:TC:=aF Tryz.f192 []
def g_f192:G:=gG 8 [] (fun _ _=>none)
def r_f192 (p0:Bool):OV:=br (p0) (some (.t Qs (1,([255],(false,(([]:List Val),())))),[])) (some (.t Qs (1,([0],(false,(([]:List Val),())))),[]))
theorem s_f192 (b:Bool):r_f192 b=some (.t Qs (WQ b),[]):=by cases b<;>rfl
def QqL:Ent:=Qk (.pr .bool .nil) (fun x=>true) (fun x=>(.t Qs (WQ x.1)))
theorem QC0:EM 192 QqL:=mS g_f192 QCZ [((.c 2 true 4),some Qs)] false (gB gN) fun m=>Qm m fun x _=>kT (s_f192 x.1)
end
end Go.Proofs.YtmjnnemhoeolgaaGreat.K
noncomputable section
set_option linter.unusedSectionVars false
namespace Go.Proofs.YtmjnnemhoeolgaaGreat.K
open Go.RowKit
noncomputable section
def okT (n:Nat)(x:Qe):Bool:=okV n (Val.of x)
theorem QcH {n:Nat}{v:Val}:okT n v.un=okV n v:=by rw [okT,Val.of_un]
theorem WY {n:Nat}{x:Qe}(h:okT (n+1) x=true):
  (x.1=1∨x.1=2∨x.1=12∨x.1=48)/\x.2.2.1=(x.1==48)/\(x.2.2.1=true->x.2.1=[])/\(x.2.2.1=false->x.2.2.2.1=[])/\x.2.1.length<=100000/\x.2.2.2.1.length<=100000∧ ∀ v∈x.2.2.2.1,okV n v=true:=by
 obtain ⟨t,b,q,es,_⟩:=x
 exact Qnp h
def Zi:Nat->List Qe->Bool
 |0,_=>false
 |n+1,l=>decide (l.length<=100000)&&l.all (okT n)
theorem QFm {n:Nat}{es:List Val}(hl:es.length<=100000)(h: ∀ v∈es,okV n v=true):Zi (n+1) (es.map Val.un)=true:=by
 simp only [Zi,Bc,Ba,BM,Bg,B5]
 refine ⟨hl, ?_⟩
 rintro x ⟨v,hv,rfl⟩
 rw [QcH]
 exact h v hv
theorem Qtn {n:Nat}{x:Qe}(h:okT n x=true):Zi n (x.2.2.2.1.map Val.un)=true:=by
 cases n with
 |zero=>obtain ⟨t,b,q,es,_⟩:=x;cases h
 |succ n=>
  obtain ⟨_,_,_,_,_,h6,h7⟩:=WY h
  exact QFm h6 h7
theorem Gv (es:List Val):List.map Val.of (List.map Val.un es)=es:=by
 rw [DH]
 have:(Val.of ∘ Val.un)=id:=funext Val.of_un
 rw [this,List.map_id]
def Wk (l:List Qe):List Qe:=l
def XW (l:List Qe):Bool:=Zi 12 l
theorem Qto {n:Nat}{x:Qe}(h:okT n x=true):x.2.1.length<=100000:=by
 cases n with
 |zero=>obtain ⟨t,b,q,es,_⟩:=x;cases h
 |succ n=>exact (WY h).2.2.2.2.1
theorem QFn:JZ Tryz.prog 240:= .inr ⟨by decide,_,Tryz.func240,by kernel_rfl,by kernel_rfl⟩
def Ec [Fuel]:Ent:=Qk (.pr (.sl Qs) .nil) (fun x=>(Zi Jb x.1)) (fun x=>(.t (.sl Qs) (Wk x.1)))
theorem QFo:JZ Tryz.prog 240:=QFn
section
variable [Fuel][Nonempty (PLift (Qz Tryz.prog 240 (Qy Ec)))]
theorem QFp:Qz Tryz.prog 240 (Qy Ec):=(Classical.choice (inferInstance:Nonempty (PLift (Qz Tryz.prog 240 (Qy Ec))))).down
def On [Fuel](l:List Qe):Bool:=Zi (Jb+1) l
abbrev QcI:Sh:=⟨[(3,.ms 3),(6,.ty (.sl Qs)),(7,.ty tI),(8,.ty tI)],[(3,.arr 225 Qs),(23,.no)]⟩
abbrev Qtp:Sh:=⟨[(3,.ms 3)],[(3,.arr 225 Qs),(23,.no)]⟩
def Qi3:Fg:=QcI.f
def QcJ:TC:=aF Tryz.f240 [(58,.nw 3 225),(58,pL 0 Qi3),(933,.fg Qtp.f),(7474,pD [(0,[5]),(1,[5]),(2,[]),(3,[5]),(4,[5]),(5,[]),(6,[5]),(7,[5]),(8,[5]),(9,[5])] (.of [0,1,2,3,4,5,6,7,8,9]))]
def Qtq:TC:=lb 0 QcJ
def Qtr:List (RV×Option Ty):=[((.t 2),some (.sl Qs))]
def Qts (x6:List Qe)(x7 x8:Int)(y3:List Qe):VS:=QcI.st ((),x6,x7,x8,()) (y3,(),())
def Qi4 (y3:List Qe):VS:=Qtp.st ((),()) (y3,(),())
def QFq:VS->Option (Bool×List (Bool×Exit×VS)):=mkL QcI (fun x y=>(Qt x.2.1 x.2.2.1 x.2.2.2.1&&On x.2.1&&decide (y.1.length+x.2.1.length<=200000+x.2.2.2.1.toNat))) (fun x y=>[(true,.exit 0,Qi4 (y.1++x.2.1.drop x.2.2.2.1.toNat))])
def Ed:G:=gG 26 [(240,Ec),(247,Qxl)] (Ls [QFq])
def QcK (x6:List Qe)(x7 x8:Int)(y3:List Qe):OX:=Qv (QB Ed Qi3 Qtq) (Qts x6 x7 x8 y3)
def Oo (kk:List Qe->Int->Int->List Qe->OX)(x6:List Qe)(x7 x8:Int)(y3:List Qe):OX:=
 let a2:=((lgt Qs x6 (Int.toNat x8)).2)
 let a1:=((lgt Qs x6 (Int.toNat x8)).1,((Qll (a2.1)),((a2.2).1,((List.map Val.of (List.map Val.un (List.map Val.of (Wk (List.map Val.un (((a2.2).2).1)))))),()))))
 br (ilt x8 x7) (br (cIx x6 x8) (br (Qlm (a2.1)) (br (Zi Jb (List.map Val.un (((a2.2).2).1))) (br (QJ y3 ([a1]) 64) (kk x6 x7 (Qg .i64 x8 1) (y3++([a1]))) none) none) none) none) (some (.exit 0,Qi4 y3))
def QcL (x6:List Qe)(x7 x8:Int)(y3:List Qe):OX:=some (.exit 0,Qi4 (y3++x6.drop x8.toNat))
theorem Qtt (x6:List Qe)(x7 x8:Int)(y3:List Qe):QcK x6 x7 x8 y3=Oo QcK x6 x7 x8 y3:=lnT (x:=Oo (fun x6 x7 x8 y3=>some (.normal,Qts x6 x7 x8 y3)) x6 x7 x8 y3) (by simp only [Oo,nxA];rfl)
def Qi5 (p0:List Qe):OV:=br (Qt p0 (Qa p0) (0:Int)&&On p0&&decide (([]:List Qe).length+p0.length<=200000+(0:Int).toNat)) (some (.t (.sl Qs) (([]:List Qe)++p0.drop (0:Int).toNat),[])) none
theorem e_f240 (p0:List Qe):JS Ed QcJ Qtr false [.t (.sl Qs) p0] []=Qi5 p0:=by kernel_rfl
theorem QFr:GOk Tryz.prog Ed:=ZW _ (gA (gC QFo QFp (gC QJI QJL gN)))
theorem QFs (x6:List Qe)(x7 x8:Int)(y3:List Qe)(h:(Qt x6 x7 x8&&On x6&&decide (y3.length+x6.length<=200000+x8.toNat))=true):QcK x6 x7 x8 y3=QcL x6 x7 x8 y3:=by
 simp only [Bc,Ba] at h
 obtain ⟨⟨h0,hc⟩,h2⟩:=h
 obtain ⟨rfl,h3,k,rfl,hk⟩:=Jy h0
 clear h0
 rw [Bd] at h2
 simp only [On,Zi,Bc,Bg] at hc
 revert y3
 refine QR x6 (fun k=> ∀ y3:List Qe,y3.length+x6.length<=200000+k->QcK x6 (x6.length:Int) (k:Int) y3=QcL x6 (x6.length:Int) (k:Int) y3) ?_ ?_ k hk
 ·intro y3 _
  rw [Qtt]
  simp [Oo,QcL,QC,Qf]
 ·intro k hk ih y3 hy
  rw [Qtt]
  have hx:=hc.2 x6[k] (Bw hk)
  have e1:Qlm x6[k].2.1=true:=Be (by have:=Qto hx;omega)
  have e2:Zi Jb (List.map Val.un x6[k].2.2.2.1)=true:=Qtn hx
  simp only [Oo,QC,QI,hk,Bv,Qc,Bd,QQ (show k<4611686018427387904 by omega),QP (y:=Qs) hk,e1,e2,Qll,Wk,Gv]
  rw [Ji (by omega) (by simp only [Bp];omega),Qc,ih _ (by simp only [Bl,Bp];omega)]
  simp only [QcL,Bd,Bj hk,BR,BN]
theorem QFt:LO Ed Qi3 Qtq 0:=QH (s:=QcI) fun x y h _ q=>by simp only [QF,QG] at q;exact (QFs x.2.1 x.2.2.1 x.2.2.2.1 y.1 h).trans q
theorem QFu:QcJ.lok Ed:=by
 repeat (first|exact trivial|exact QFt|refine ⟨?_, ?_⟩)
theorem s_f240 (l:List Qe)(h:Zi (Jb+1) l=true):Qi5 l=some (.t (.sl Qs) (Wk l),[]):=by
 have hl:l.length<=100000:=by simp only [Zi,Bc,Ba] at h;exact h.1
 simp only [Qi5,Jz hl,show On l=true from h,BE,BD,Bu,BA,BT]
 rw [Be (by omega),Qc]
 rfl
theorem QFv:Qz Tryz.prog 240 (JS Ed QcJ Qtr false):=mG Tryz.func240 (by kernel_rfl) Tryz.ntmps240 (by kernel_rfl) QFr QFu
end
theorem QFw: ∀ N:Nat,Qz Tryz.prog 240 (Qy (@Ec ⟨N⟩))
 |0=>Fq fun x=>by first|rfl|simp [Zi]
 |N+1=>by
  letI:Fuel:=⟨N⟩
  haveI:Nonempty (PLift (Qz Tryz.prog 240 (Qy Ec))):=⟨⟨QFw N⟩⟩
  exact Qm QFv fun x hok=>(e_f240 x.1).trans (s_f240 x.1 hok)
theorem QFx (l:List Qe)(h:XW l=true): ∃ N,Zi N l=true:=⟨12,h⟩
theorem Qtu:JZ Tryz.prog 212:= .inr ⟨by decide,_,Tryz.func212,by kernel_rfl,by kernel_rfl⟩
def Ee [Fuel]:Ent:=Qk (.pr (.sl Qs) .nil) (fun x=>(Zi Jb x.1)) (fun x=>(.t (.sl Qs) (Wk x.1)))
theorem QFy:JZ Tryz.prog 212:=Qtu
section
variable [Fuel][Nonempty (PLift (Qz Tryz.prog 212 (Qy Ee)))]
theorem QFz:Qz Tryz.prog 212 (Qy Ee):=(Classical.choice (inferInstance:Nonempty (PLift (Qz Tryz.prog 212 (Qy Ee))))).down
def Oq [Fuel](l:List Qe):Bool:=Zi (Jb+1) l
abbrev QcM:Sh:=⟨[(0,.ty (.sl Qs)),(3,.ms 3),(4,.ty tI)],[(3,.arr 225 Qs),(28,.no)]⟩
abbrev Qtv:Sh:=⟨[(3,.ms 3)],[(3,.arr 225 Qs),(28,.no)]⟩
def Qi6:Fg:=QcM.f
def QcN:TC:=aF Tryz.f212 [(58,.nf 5 1 5 20501),(58,.nw 3 225),(58,pL 0 Qi6),(931,.fg Qtv.f)]
def Qtw:TC:=lb 0 QcN
def Qtx:List (RV×Option Ty):=[((.t 2),some (.sl Qs))]
def Qty (x0:List Qe)(x4:Int)(y3:List Qe):VS:=QcM.st (x0,(),x4,()) (y3,(),())
def Qi7 (y3:List Qe):VS:=Qtv.st ((),()) (y3,(),())
def QFA:VS->Option (Bool×List (Bool×Exit×VS)):=mkL QcM (fun x y=>(X8 x.1 x.2.2.1&&Oq x.1&&decide (y.1.length+x.1.length<=200000+x.2.2.1.toNat))) (fun x y=>[(true,.exit 0,Qi7 (y.1++x.1.drop x.2.2.1.toNat))])
def Ef:G:=⟨TYs,[16],30,EL [(212,Ee)],Wp,(Ls [QFA]),IL [],RL []⟩
def QcO (x0:List Qe)(x4:Int)(y3:List Qe):OX:=Qv (QB Ef Qi6 Qtw) (Qty x0 x4 y3)
def Or (kk:List Qe->Int->List Qe->OX)(x0:List Qe)(x4:Int)(y3:List Qe):OX:=
 let a1:=lgt Qs x0 (Int.toNat x4)
 let a2:=(((a1.2).2).1,((List.map Val.of (Wk (List.map Val.un ((((a1.2).2).2).1)))),()))
 br (ilt x4 (Qa x0)) (br (cIx x0 x4) (br (QJ ([]:List Int) ((a1.2).1) 1) (br (Zi Jb (List.map Val.un ((((a1.2).2).2).1))) (br (QJ y3 ([(a1.1,((([]:List Int)++((a1.2).1)),a2))]) 64) (kk x0 (Qg .i64 x4 1) (y3++([(a1.1,((([]:List Int)++((a1.2).1)),a2))]))) none) none) none) none) (some (.exit 0,Qi7 y3))
def QcP (x0:List Qe)(x4:Int)(y3:List Qe):OX:=some (.exit 0,Qi7 (y3++x0.drop x4.toNat))
theorem Qtz (x0:List Qe)(x4:Int)(y3:List Qe):QcO x0 x4 y3=Or QcO x0 x4 y3:=lnT (x:=Or (fun x0 x4 y3=>some (.normal,Qty x0 x4 y3)) x0 x4 y3) (by simp only [Or,nxA];rfl)
def Qi8 (p0:List Qe):OV:=br (X8 p0 (0:Int)&&Oq p0&&decide (([]:List Qe).length+p0.length<=200000+(0:Int).toNat)) (some (.t (.sl Qs) (([]:List Qe)++p0.drop (0:Int).toNat),[])) none
theorem e_f212 (p0:List Qe):JS Ef QcN Qtx false [.t (.sl Qs) p0] []=Qi8 p0:=by kernel_rfl
theorem QFB:GOk Tryz.prog Ef:=ZW _ (gA (gC QFy QFz gN))
theorem QFC (x0:List Qe)(x4:Int)(y3:List Qe)(h:(X8 x0 x4&&Oq x0&&decide (y3.length+x0.length<=200000+x4.toNat))=true):QcO x0 x4 y3=QcP x0 x4 y3:=by
 simp only [Bc,Ba,X8] at h
 obtain ⟨⟨⟨h0,h1,h3⟩,hc⟩,h2⟩:=h
 obtain ⟨k,rfl⟩:=Bq h0
 rw [Bd] at h2
 simp only [Oq,Zi,Bc,Bg] at hc
 revert y3
 refine QR x0 (fun k=> ∀ y3:List Qe,y3.length+x0.length<=200000+k->QcO x0 (k:Int) y3=QcP x0 (k:Int) y3) ?_ ?_ k (by omega)
 ·intro y3 _
  rw [Qtz]
  simp [Or,QcP,ilt,Qa,Qf]
 ·intro k hk ih y3 hy
  rw [Qtz]
  have hx:=hc.2 x0[k] (Bw hk)
  have e2:Zi Jb (List.map Val.un x0[k].2.2.2.1)=true:=Qtn hx
  simp only [Or,show ilt (k:Int) (Qa x0)=true from Be (by simp only [Qa];omega),QI,hk,Bv,Qc,Bd,QQ (show k<4611686018427387904 by omega),QP (y:=Qs) hk,e2,Wk,Gv]
  rw [Ji (by omega) (by have:=Qto hx;simp only [BD];omega),Qc,Ji (by omega) (by simp only [Bp];omega),Qc,ih _ (by simp only [Bl,Bp];omega)]
  simp only [QcP,Bd,Bj hk,BR,BN,BT]
theorem QFD:LO Ef Qi6 Qtw 0:=QH (s:=QcM) fun x y h _ q=>by simp only [QF,QG] at q;exact (QFC x.1 x.2.2.1 y.1 h).trans q
theorem QFE:QcN.lok Ef:=by
 repeat (first|exact trivial|exact QFD|refine ⟨?_, ?_⟩)
theorem s_f212 (l:List Qe)(h:Zi (Jb+1) l=true):Qi8 l=some (.t (.sl Qs) (Wk l),[]):=by
 have hl:l.length<=100000:=by simp only [Zi,Bc,Ba] at h;exact h.1
 simp only [Qi8,show X8 l 0=true from Be (by omega),show Oq l=true from h,BE,BD,Bu,BA,BT]
 rw [Be (by omega),Qc]
 rfl
theorem QFF:Qz Tryz.prog 212 (JS Ef QcN Qtx false):=mG Tryz.func212 (by kernel_rfl) Tryz.ntmps212 (by kernel_rfl) QFB QFE
end
theorem QtA: ∀ N:Nat,Qz Tryz.prog 212 (Qy (@Ee ⟨N⟩))
 |0=>Fq fun x=>by first|rfl|simp [Zi]
 |N+1=>by
  letI:Fuel:=⟨N⟩
  haveI:Nonempty (PLift (Qz Tryz.prog 212 (Qy Ee))):=⟨⟨QtA N⟩⟩
  exact Qm QFF fun x hok=>(e_f212 x.1).trans (s_f212 x.1 hok)
def QtB:Ent:=Qk (.pr (.sl Qs) .nil) (fun x=>(XW x.1)) (fun x=>(.t (.sl Qs) (Wk x.1)))
theorem QFG:Qz Tryz.prog 212 (Qy QtB):=QaZ QtA fun x hok=>QFx x.1 hok
end
end Go.Proofs.YtmjnnemhoeolgaaGreat.K
noncomputable section
set_option linter.unusedSectionVars false
namespace Go.Proofs.YtmjnnemhoeolgaaGreat.K
open Go.RowKit
noncomputable section
theorem Qjq {n:Nat}{x:Qe}(h:okT (n+1) x=true): ∀ k (hk:k<(List.map Val.un x.2.2.2.1).length),okT n (List.map Val.un x.2.2.2.1)[k]=true:=by
 intro k hk
 rw [List.getElem_map,QcH]
 exact (WY h).2.2.2.2.2.2 _ (Bw _)
def Wl (_x:Qe):Bool:=true
def Qc4 (x:Qe):Bool:=okT 12 x
theorem QGq (x:Qe)(h:Qc4 x=true): ∃ N,okT N x=true:=⟨12,h⟩
theorem QGr:JZ Tryz.prog 237:= .inr ⟨by decide,_,Tryz.func237,by kernel_rfl,by kernel_rfl⟩
def Em [Fuel]:Ent:=Qk (.pr Qs .nil) (fun x=>(okT Jb x.1)) (fun x=>(.t .bool (Wl x.1)))
theorem QGs:JZ Tryz.prog 237:=QGr
section
variable [Fuel][Nonempty (PLift (Qz Tryz.prog 237 (Qy Em)))]
theorem QGt:Qz Tryz.prog 237 (Qy Em):=(Classical.choice (inferInstance:Nonempty (PLift (Qz Tryz.prog 237 (Qy Em))))).down
def Qc5 (_x:Qe):Bool:=false
def Qc6 [Fuel](x:Qe):Bool:=okT Jb x
def Xe [Fuel](l:List Qe):Bool:=decide (l.length<=100000)&&l.all (okT Jb)
def QGu:TC:=aF Tryz.f244 []
def g_f244:G:=gG 6 [(237,Em)] (fun _ _=>none)
def Quc (p0:Qe):OV:=br (okT Jb p0) (some (.t .bool (!(Wl p0)),[])) none
theorem s_f244 (x:Qe)(h:Qc6 x=true):Quc x=some (.t .bool (Qc5 x),[]):=by
 simp only [Quc,show okT Jb x=true from h,Qc]
 rfl
def Qud:Ent:=Qk (.pr Qs .nil) (fun x=>(Qc6 x.1)) (fun x=>(.t .bool (Qc5 x.1)))
theorem QGv:EM 244 Qud:=mS g_f244 QGu [((.t 2),some .bool)] false (gB (gC QGs QGt gN)) fun m=>Qm m fun x hok=>kT (s_f244 x.1 hok)
def Qjr (_l:List Qe):Int:= -1
abbrev Qc7:Sh:=⟨[(0,.ty (.sl Qs)),(1,.cf 244),(7,.ty tI),(8,.ty tI)],[]⟩
abbrev Que:Sh:=⟨[(4,.ty tI)],[]⟩
abbrev Qc8:Sh:=⟨[],[]⟩
def Qjs:Fg:=Qc7.f
def Quf:TC:=aF Tryz.f248 [(26,pL 0 Qjs),(421,.fg Qc8.f),(13517,.fg Que.f)]
def Qug:TC:=lb 0 Quf
def Quh (x0:List Qe)(x7 x8:Int):VS:=Qc7.st (x0,(),x7,x8,()) ()
def Qjt (x4:Int):VS:=Que.st (x4,()) ()
def Qju  : VS:=Qc8.st () ()
def QGw:VS->Option (Bool×List (Bool×Exit×VS)):=mkL Qc7 (fun x y=>(Qt x.1 x.2.2.1 x.2.2.2.1&&Xe x.1)) (fun x y=>[((false),.ret,Qjt (x.2.2.2.1)),(true,.exit 0,Qju)])
def Qjv:G:=gG 19 [(244,Qud)] (Ls [QGw])
def Qc9 (x0:List Qe)(x7 x8:Int):OX:=Qv (QB Qjv Qjs Qug) (Quh x0 x7 x8)
def OD (kk:List Qe->Int->Int->OX)(x0:List Qe)(x7 x8:Int):OX:=
 let a1:=lgt Qs x0 (Int.toNat x8)
 br (ilt x8 x7) (br (cIx x0 x8) (br (Qc6 a1) (br (Qc5 a1) (some (.ret,Qjt x8)) (kk x0 x7 (Qg .i64 x8 1))) none) none) (some (.exit 0,Qju))
def Qjw (x0:List Qe)(x7 x8:Int):OX:=br (false) (some (.ret,Qjt (x8)))<|some (.exit 0,Qju)
theorem Qui (x0:List Qe)(x7 x8:Int):Qc9 x0 x7 x8=OD Qc9 x0 x7 x8:=lnT (x:=OD (fun x0 x7 x8=>some (.normal,Quh x0 x7 x8)) x0 x7 x8) (by simp only [OD,nxA];rfl)
def Quj (p0:List Qe):OV:=br (Qt p0 (Qa p0) (0:Int)&&Xe p0) (br (false) (some (.t tI (0:Int),[])) (some (.t tI (-1),[]))) none
theorem QGx (x0:List Qe)(x7 x8:Int)(h:(Qt x0 x7 x8&&Xe x0)=true):Qc9 x0 x7 x8=Qjw x0 x7 x8:=by
 simp only [Bc] at h
 obtain ⟨h0,hc⟩:=h
 obtain ⟨rfl,h3,k,rfl,hk⟩:=Jy h0
 clear h0
 simp only [Xe,Bc,Bg] at hc
 refine QR x0 (fun k=>Qc9 x0 (x0.length:Int) (k:Int)=Qjw x0 (x0.length:Int) (k:Int)) ?_ ?_ k hk
 ·rw [Qui]
  simp [OD,Qjw,QC,Qf]
 ·intro k hk ih
  rw [Qui]
  have hx:=hc.2 x0[k] (Bw hk)
  simp only [OD,QC,QI,hk,Bv,Qc,Bd,QQ (show k<4611686018427387904 by omega),QP (y:=Qs) hk,show Qc6 x0[k]=true from hx,Qc5,Qf,ih]
  rfl
theorem QGy:LO Qjv Qjs Qug 0:=QH (s:=Qc7) fun x y h _ q=>by simp only [QF,QG] at q;exact (QGx x.1 x.2.2.1 x.2.2.2.1 h).trans q
theorem QGz (l:List Qe)(h:Xe l=true):Quj l=some (.t tI (Qjr l),[]):=by
 have hl:l.length<=100000:=by simp only [Xe,Bc,Ba] at h;exact h.1
 simp only [Quj,Jz hl,h,BE,Qc,Qf]
 rfl
def Quk:Ent:=ZM [.ty (.sl Qs),.cf 244] [] (fun x d=>(Xe x.1)) (fun x d=>(.t tI (Qjr x.1)))
theorem QGA:EM 248 Quk:=mS (lk:=lkL (lkc QGy lkn)) Qjv Quf [((.t 4),some tI)] false (gB (gD QGv gN)) fun m=>ZC m fun x d hok=>kT (QGz x.1 hok)
def Qjx (_l:List Qe):Bool:=false
def QGB:TC:=aF Tryz.f243 []
def QGC:G:=gG 9 [(248,Quk)] (fun _ _=>none)
def Qul (p0:List Qe):OV:=br (Xe p0) (some (.t .bool (ige (Qjr p0) 0),[])) none
theorem QGD (l:List Qe)(h:Xe l=true):Qul l=some (.t .bool (Qjx l),[]):=by
 simp only [Qul,h,Qc]
 rfl
def Qum:Ent:=ZM [.ty (.sl Qs),.cf 244] [] (fun x d=>(Xe x.1)) (fun x d=>(.t .bool (Qjx x.1)))
theorem QGE:EM 243 Qum:=mS QGC QGB [((.t 4),some .bool)] false (gB (gD QGA gN)) fun m=>ZC m fun x d hok=>kT (QGD x.1 hok)
def Qjy:TC:=aF Tryz.f237 []
def Qun:List (RV×Option Ty):=[((.t 2),some .bool)]
def Qda:G:=gG 41 [(242,Qxn),(243,Qum)] (fun _ _=>none)
def Qjz (p0:Qe):OV:=
 let a1:=List.map Val.un p0.2.2.2.1
 br (Xe a1) (some (.t .bool (!(Qjx a1)),[])) none
def QjA (p0:Qe):OV:=br (!p0.2.2.1) (br (igt (Qa (List.map Val.un p0.2.2.2.1)) 0) (some (.t .bool false,[])) (Qjz p0)) (Qjz p0)
def QjB (p0:Qe):OV:=br (!(Vn p0.1)) (some (.t .bool false,[])) (br (Fx p0.2.2.1 (ine (Gi .i64 p0.1 32) 0)) (some (.t .bool false,[])) (br (p0.2.2.1) (br (igt (Qa p0.2.1) 0) (some (.t .bool false,[])) (QjA p0)) (QjA p0)))
theorem e_f237 (p0:Qe):JS Qda Qjy Qun false [.t Qs p0] []=QjB p0:=by kernel_rfl
theorem QGF:GOk Tryz.prog Qda:=ZW _ (gA (gD QJN (gD QGE gN)))
theorem QGG:Qjy.lok Qda:=by repeat (first|exact trivial|refine ⟨?_, ?_⟩)
theorem s_f237 (x:Qe)(h:okT (Jb+1) x=true):QjB x=some (.t .bool (Wl x),[]):=by
 obtain ⟨h1,h2,h3,h4,h5,h6,h7⟩:=WY h
 have hu:Xe (List.map Val.un x.2.2.2.1)=true:=by
  simp only [Xe,Bc,Ba,BM,Bg,B5]
  refine ⟨h6, ?_⟩
  rintro y ⟨v,hv,rfl⟩
  rw [QcH]
  exact h7 v hv
 have ht:Vn x.1=true:=by rcases h1 with e|e|e|e<;>rw [e]<;>rfl
 have hn:Fx x.2.2.1 (ine (Gi .i64 x.1 32) 0)=false:=by rw [h2];rcases h1 with e|e|e|e<;>rw [e]<;>rfl
 simp only [QjB,QjA,Qjz,ht,hn,hu,BG,Qc,Qf]
 cases hq:x.2.2.1 with
 |true=>
  rw [h3 hq]
  rfl
 |false=>
  rw [h4 hq]
  rfl
theorem QGH:Qz Tryz.prog 237 (JS Qda Qjy Qun false):=mG Tryz.func237 (by kernel_rfl) Tryz.ntmps237 (by kernel_rfl) QGF QGG
end
theorem QGI: ∀ N:Nat,Qz Tryz.prog 237 (Qy (@Em ⟨N⟩))
 |0=>Fq fun x=>by first|rfl|simp [okT]
 |N+1=>by
  letI:Fuel:=⟨N⟩
  haveI:Nonempty (PLift (Qz Tryz.prog 237 (Qy Em))):=⟨⟨QGI N⟩⟩
  exact Qm QGH fun x hok=>(e_f237 x.1).trans (s_f237 x.1 hok)
theorem Quo:JZ Tryz.prog 185:= .inr ⟨by decide,_,Tryz.func185,by kernel_rfl,by kernel_rfl⟩
def En [Fuel]:Ent:=Qk (.pr Qs .nil) (fun x=>(okT Jb x.1)) (fun x=>(.t .bool (Wl x.1)))
theorem QGJ:JZ Tryz.prog 185:=Quo
section
variable [Fuel][Nonempty (PLift (Qz Tryz.prog 185 (Qy En)))]
theorem QGK:Qz Tryz.prog 185 (Qy En):=(Classical.choice (inferInstance:Nonempty (PLift (Qz Tryz.prog 185 (Qy En))))).down
def Qdb [Fuel](x:Qe):Bool:=okT (Jb+1) x
abbrev Qdc:Sh:=⟨[(1,.ptr 1 0),(3,.ty tI)],[(1,.box Qs)]⟩
abbrev Qup:Sh:=⟨[(2,.ty .bool)],[]⟩
def QjC:Fg:=Qdc.f
def Qdd:TC:=aF Tryz.f185 [(58,pL 0 QjC),(931,.fg Qc8.f),(7461,.fg Qup.f)]
def Quq:TC:=lb 0 Qdd
def Qur:List (RV×Option Ty):=[((.t 2),some .bool)]
def Qus (x3:Int)(y1:Qe):VS:=Qdc.st ((),x3,()) (y1,())
def QjD (x2:Bool):VS:=Qup.st (x2,()) ()
def QjE  : VS:=Qc8.st () ()
def QGL:VS->Option (Bool×List (Bool×Exit×VS)):=mkL Qdc (fun x y=>(decide (0<=x.2.1/\x.2.1<=y.1.2.2.2.1.length)&&Qdb y.1)) (fun x y=>[((false),.ret,QjD (false)),(true,.exit 0,QjE)])
def Eo:G:=gG 53 [(185,En),(210,Qxp)] (Ls [QGL])
def Qde (x3:Int)(y1:Qe):OX:=Qv (QB Eo QjC Quq) (Qus x3 y1)
def OE (kk:Int->Qe->OX)(x3:Int)(y1:Qe):OX:=
 let a1:=List.map Val.un y1.2.2.2.1
 let a2:=lgt Qs a1 (Int.toNat x3)
 br (ilt x3 (Qa a1)) (br (cIx a1 x3) (br (okT Jb a2) (br (!(Wl a2)) (some (.ret,QjD false)) (kk (Qg .i64 x3 1) y1)) none) none) (some (.exit 0,QjE))
def QjF (x3:Int)(y1:Qe):OX:=br (false) (some (.ret,QjD (false)))<|some (.exit 0,QjE)
theorem Qut (x3:Int)(y1:Qe):Qde x3 y1=OE Qde x3 y1:=lnT (x:=OE (fun x3 y1=>some (.normal,Qus x3 y1)) x3 y1) (by simp only [OE,nxA];rfl)
def QjG (p0:Qe):OV:=br (decide (0<=(0:Int)/\(0:Int)<=p0.2.2.2.1.length)&&Qdb p0) (br (false) (some (.t .bool (false),[])) (some (.t .bool true,[]))) none
def QjH (p0:Qe):OV:=br (!p0.2.2.1) (br (igt (Qa (List.map Val.un p0.2.2.2.1)) 0) (some (.t .bool false,[])) (QjG p0)) (QjG p0)
def QjI (p0:Qe):OV:=br (!(Vo p0.1)) (some (.t .bool false,[])) (br (cNz 32) (br (cNz 2) (br (Fx p0.2.2.1 (ieq (Xm (Ge .i64 p0.1 32) 2) 1)) (some (.t .bool false,[])) (br (p0.2.2.1) (br (igt (Qa p0.2.1) 0) (some (.t .bool false,[])) (QjH p0)) (QjH p0))) none) none)
theorem e_f185 (p0:Qe):JS Eo Qdd Qur false [.t Qs p0] []=QjI p0:=by kernel_rfl
theorem QGM:GOk Tryz.prog Eo:=ZW _ (gA (gC QGJ QGK (gD QJP gN)))
theorem QGN (x3:Int)(y1:Qe)(h:(decide (0<=x3/\x3<=y1.2.2.2.1.length)&&Qdb y1)=true):Qde x3 y1=QjF x3 y1:=by
 simp only [Bc,Ba] at h
 obtain ⟨⟨h0,h1⟩,hc⟩:=h
 obtain ⟨k,rfl⟩:=Bq h0
 have hm:=Qjq hc
 have hl:=(WY hc).2.2.2.2.2.1
 refine QR (List.map Val.un y1.2.2.2.1) (fun k=>Qde (k:Int) y1=QjF (k:Int) y1) ?_ ?_ k (by rw [BM];omega)
 ·rw [Qut]
  simp [OE,QjF,ilt,Qa,Qf]
 ·intro k hk ih
  rw [Qut]
  have hk2:k<y1.2.2.2.1.length:=by rw [BM] at hk;exact hk
  simp only [OE,show ilt (k:Int) (Qa (List.map Val.un y1.2.2.2.1))=true from Be (by simp only [Qa];omega),QI,hk,Bv,Qc,Bd,QQ (show k<4611686018427387904 by omega),QP (y:=Qs) hk,hm k hk,Wl,BG,Qf,ih]
  rfl
theorem QGO:LO Eo QjC Quq 0:=QH (s:=Qdc) fun x y h _ q=>by simp only [QF,QG] at q;exact (QGN x.2.1 y.1 h).trans q
theorem QGP:Qdd.lok Eo:=by
 repeat (first|exact trivial|exact QGO|refine ⟨?_, ?_⟩)
theorem s_f185 (x:Qe)(h:okT (Jb+1) x=true):QjI x=some (.t .bool (Wl x),[]):=by
 obtain ⟨h1,h2,h3,h4,h5,h6,h7⟩:=WY h
 have ht:Vo x.1=true:=by rcases h1 with e|e|e|e<;>rw [e]<;>rfl
 have hn:Fx x.2.2.1 (ieq (Xm (Ge .i64 x.1 32) 2) 1)=false:=by rw [h2];rcases h1 with e|e|e|e<;>rw [e]<;>rfl
 have hd:decide ((0:Int)<=0/\(0:Int)<=x.2.2.2.1.length)=true:=Be (by omega)
 simp only [QjI,QjH,QjG,ht,hn,hd,show Qdb x=true from h,B3,show cNz 32=true from rfl,show cNz 2=true from rfl,BG,Qc,Qf]
 cases hq:x.2.2.1 with
 |true=>
  rw [h3 hq]
  rfl
 |false=>
  rw [h4 hq]
  rfl
theorem QGQ:Qz Tryz.prog 185 (JS Eo Qdd Qur false):=mG Tryz.func185 (by kernel_rfl) Tryz.ntmps185 (by kernel_rfl) QGM QGP
end
theorem Quu: ∀ N:Nat,Qz Tryz.prog 185 (Qy (@En ⟨N⟩))
 |0=>Fq fun x=>by first|rfl|simp [okT]
 |N+1=>by
  letI:Fuel:=⟨N⟩
  haveI:Nonempty (PLift (Qz Tryz.prog 185 (Qy En))):=⟨⟨Quu N⟩⟩
  exact Qm QGQ fun x hok=>(e_f185 x.1).trans (s_f185 x.1 hok)
def Quv:Ent:=Qk (.pr Qs .nil) (fun x=>(Qc4 x.1)) (fun x=>(.t .bool (Wl x.1)))
theorem QGR:Qz Tryz.prog 185 (Qy Quv):=QaZ Quu fun x hok=>QGq x.1 hok
def dpV (x:Qe):Int:=(Ul (Val.of x):Int)
def YL (n:Nat)(x:Qe):Bool:=okT n x&&decide (n<=100)
def Qdf (x:Qe):Bool:=okT 12 x
theorem QGS (x:Qe)(h:Qdf x=true): ∃ N,YL N x=true:=⟨12,by rw [YL,show okT 12 x=true from h];rfl⟩
def W0 (l:List Qe):Nat:=Fc (l.map Val.of)
theorem QGT:W0 []=0:=rfl
theorem QGU (x:Qe)(l:List Qe):W0 (x::l)=max (Ul (Val.of x)) (W0 l):=rfl
theorem Qdg (x:Qe):Ul (Val.of x)=Fc x.2.2.2.1+1:=rfl
theorem QGV (a b:Nat):imx (a:Int) (b:Int)=((max a b:Nat):Int):=by
 unfold imx
 split<;>omega
def QGW [Fuel]:Ent:=Qk (.pr Qs .nil) (fun x=>(YL Jb x.1)) (fun x=>(.t tI (dpV x.1)))
section
variable [Fuel][Nonempty (PLift (Qz Tryz.prog 238 (Qy QGW)))]
def QjJ [Fuel](l:List Qe):Bool:=decide (l.length<=100000/\Jb+1<=100)&&l.all (okT Jb)
-- loop 0: (x3 : Int) (x7 : (List Qe)) (x8 : Int) (x9 : Int); out: ('exit', 0) (x3 : Int)
def Quw (p0:Qe):OV:=
 let a1:=List.map Val.un p0.2.2.2.1
 br (Qt a1 (Qa a1) (0:Int)&&QjJ a1&&decide (0<=(0:Int)/\(0:Int)<=100)) (some (.t tI (Qg .i64 ((max (0:Int).toNat (W0 (a1.drop (0:Int).toNat)):Nat):Int) 1),[])) none
theorem s_f238 (x:Qe)(h:YL (Jb+1) x=true):Quw x=some (.t tI (dpV x),[]):=by
 simp only [YL,Bc,Ba] at h
 obtain ⟨h,hf⟩:=h
 obtain ⟨h1,h2,h3,h4,h5,h6,h7⟩:=WY h
 have hu:QjJ (List.map Val.un x.2.2.2.1)=true:=by
  simp only [QjJ,Bc,Ba,BM,Bg,B5]
  refine ⟨⟨h6,hf⟩, ?_⟩
  rintro y ⟨v,hv,rfl⟩
  rw [QcH]
  exact h7 v hv
 have hd:=Qal (v:=Val.of x) h
 rw [Qdg] at hd
 simp only [Quw,Jz (show (List.map Val.un x.2.2.2.1).length<=100000 by rw [BM];exact h6),hu,B3,show decide ((0:Int)<=0/\(0:Int)<=100)=true from rfl,Qc,Bu,BA,W0,Gv,Nat.zero_max]
 rw [J5 (by omega)]
 simp only [dpV,Qdg]
 congr 2
end
theorem Qux:JZ Tryz.prog 186:= .inr ⟨by decide,_,Tryz.func186,by kernel_rfl,by kernel_rfl⟩
def Ep [Fuel]:Ent:=Qk (.pr Qs .nil) (fun x=>(YL Jb x.1)) (fun x=>(.t tI (dpV x.1)))
theorem QGX:JZ Tryz.prog 186:=Qux
section
variable [Fuel][Nonempty (PLift (Qz Tryz.prog 186 (Qy Ep)))]
theorem QGY:Qz Tryz.prog 186 (Qy Ep):=(Classical.choice (inferInstance:Nonempty (PLift (Qz Tryz.prog 186 (Qy Ep))))).down
def OF [Fuel](x:Qe):Bool:=YL (Jb+1) x
abbrev Qdh:Sh:=⟨[(1,.ptr 1 0),(3,.ty tI),(4,.ty tI)],[(1,.box Qs)]⟩
abbrev Quy:Sh:=⟨[(3,.ty tI)],[]⟩
def QjK:Fg:=Qdh.f
def Qdi:TC:=aF Tryz.f186 [(58,pL 0 QjK),(931,.fg Quy.f)]
def Quz:TC:=lb 0 Qdi
def QuA:List (RV×Option Ty):=[((.t 2),some tI)]
def QuB (x3 x4:Int)(y1:Qe):VS:=Qdh.st ((),x3,x4,()) (y1,())
def QjL (x3:Int):VS:=Quy.st (x3,()) ()
def QGZ:VS->Option (Bool×List (Bool×Exit×VS)):=mkL Qdh (fun x y=>(decide (0<=x.2.2.1/\x.2.2.1<=y.1.2.2.2.1.length/\0<=x.2.1/\x.2.1<=100)&&OF y.1)) (fun x y=>[(true,.exit 0,QjL ((max x.2.1.toNat (W0 ((List.map Val.un y.1.2.2.2.1).drop x.2.2.1.toNat)):Nat):Int))])
def Er:G:=gG 22 [(186,Ep)] (Ls [QGZ])
def Qdj (x3 x4:Int)(y1:Qe):OX:=Qv (QB Er QjK Quz) (QuB x3 x4 y1)
def OG (kk:Int->Int->Qe->OX)(x3 x4:Int)(y1:Qe):OX:=
 let a1:=List.map Val.un y1.2.2.2.1
 let a2:=lgt Qs a1 (Int.toNat x4)
 br (ilt x4 (Qa a1)) (br (cIx a1 x4) (br (YL Jb a2) (kk (imx x3 (dpV a2)) (Qg .i64 x4 1) y1) none) none) (some (.exit 0,QjL x3))
def Qdk (x3 x4:Int)(y1:Qe):OX:=some (.exit 0,QjL ((max x3.toNat (W0 ((List.map Val.un y1.2.2.2.1).drop x4.toNat)):Nat):Int))
theorem QuC (x3 x4:Int)(y1:Qe):Qdj x3 x4 y1=OG Qdj x3 x4 y1:=lnT (x:=OG (fun x3 x4 y1=>some (.normal,QuB x3 x4 y1)) x3 x4 y1) (by simp only [OG,nxA];rfl)
def QjM (p0:Qe):OV:=br (decide (0<=(0:Int)/\(0:Int)<=p0.2.2.2.1.length/\0<=(0:Int)/\(0:Int)<=100)&&OF p0) (some (.t tI (Qg .i64 ((max (0:Int).toNat (W0 ((List.map Val.un p0.2.2.2.1).drop (0:Int).toNat)):Nat):Int) 1),[])) none
theorem e_f186 (p0:Qe):JS Er Qdi QuA false [.t Qs p0] []=QjM p0:=by kernel_rfl
theorem QG0:GOk Tryz.prog Er:=ZW _ (gA (gC QGX QGY gN))
theorem QG1 (x3 x4:Int)(y1:Qe)(h:(decide (0<=x4/\x4<=y1.2.2.2.1.length/\0<=x3/\x3<=100)&&OF y1)=true):Qdj x3 x4 y1=Qdk x3 x4 y1:=by
 simp only [Bc,Ba] at h
 obtain ⟨⟨h0,h1,h2,h3⟩,hc⟩:=h
 obtain ⟨k,rfl⟩:=Bq h0
 obtain ⟨m,rfl⟩:=Bq h2
 clear h2 h3
 simp only [OF,YL,Bc,Ba] at hc
 obtain ⟨hc,hf⟩:=hc
 have hm:=Qjq hc
 have hl:=(WY hc).2.2.2.2.2.1
 revert m
 refine QR (List.map Val.un y1.2.2.2.1) (fun k=> ∀ m:Nat,Qdj (m:Int) (k:Int) y1=Qdk (m:Int) (k:Int) y1) ?_ ?_ k (by rw [BM];omega)
 ·intro m
  rw [QuC]
  simp only [OG,show ilt ((List.map Val.un y1.2.2.2.1).length:Int) (Qa (List.map Val.un y1.2.2.2.1))=false from Bn (by simp only [Qa];omega),Qf]
  simp only [Qdk,Bd,BQ,QGT,Nat.max_zero]
 ·intro k hk ih m
  rw [QuC]
  have hk2:k<y1.2.2.2.1.length:=by rw [BM] at hk;exact hk
  have hd:YL Jb (List.map Val.un y1.2.2.2.1)[k]=true:=by rw [YL,hm k hk,Be (by omega)];rfl
  simp only [OG,show ilt (k:Int) (Qa (List.map Val.un y1.2.2.2.1))=true from Be (by simp only [Qa];omega),QI,hk,Bv,Qc,Bd,QQ (show k<4611686018427387904 by omega),QP (y:=Qs) hk,hd,dpV,QGV,ih]
  simp only [Qdk,Bd,Bj hk,QGU,Nat.max_assoc]
theorem QG2:LO Er QjK Quz 0:=QH (s:=Qdh) fun x y h _ q=>by simp only [QF,QG] at q;exact (QG1 x.2.1 x.2.2.1 y.1 h).trans q
theorem QG3:Qdi.lok Er:=by
 repeat (first|exact trivial|exact QG2|refine ⟨?_, ?_⟩)
theorem s_f186 (x:Qe)(h:YL (Jb+1) x=true):QjM x=some (.t tI (dpV x),[]):=by
 have hin:OF x=true:=h
 simp only [YL,Bc,Ba] at h
 obtain ⟨h,hf⟩:=h
 have hd:=Qal (v:=Val.of x) h
 rw [Qdg] at hd
 have hdd:decide ((0:Int)<=0/\(0:Int)<=x.2.2.2.1.length/\(0:Int)<=0/\(0:Int)<=100)=true:=Be (by omega)
 simp only [QjM,hin,hdd,B3,Qc,Bu,BA,W0,Gv,Nat.zero_max]
 rw [J5 (by omega)]
 simp only [dpV,Qdg]
 congr 2
theorem QG4:Qz Tryz.prog 186 (JS Er Qdi QuA false):=mG Tryz.func186 (by kernel_rfl) Tryz.ntmps186 (by kernel_rfl) QG0 QG3
end
theorem QuD: ∀ N:Nat,Qz Tryz.prog 186 (Qy (@Ep ⟨N⟩))
 |0=>Fq fun x=>by first|rfl|simp [YL]
 |N+1=>by
  letI:Fuel:=⟨N⟩
  haveI:Nonempty (PLift (Qz Tryz.prog 186 (Qy Ep))):=⟨⟨QuD N⟩⟩
  exact Qm QG4 fun x hok=>(e_f186 x.1).trans (s_f186 x.1 hok)
def QuE:Ent:=Qk (.pr Qs .nil) (fun x=>(Qdf x.1)) (fun x=>(.t tI (dpV x.1)))
theorem QG5:Qz Tryz.prog 186 (Qy QuE):=QaZ QuD fun x hok=>QGS x.1 hok
end
end Go.Proofs.YtmjnnemhoeolgaaGreat.K
noncomputable section
set_option linter.unusedSectionVars false
namespace Go.Proofs.YtmjnnemhoeolgaaGreat.K
open Go.RowKit
noncomputable section
def Zl (x:Qe):List Int:=Qak (Val.of x)
def Zp (l:List Qe):List Int:=ZL (l.map Val.of)
theorem IY:Zp []=[]:=rfl
theorem Gp (x:Qe)(l:List Qe):Zp (x::l)=Zl x++Zp l:=rfl
theorem QbL (x:Qe):Zl x=icv .u8 x.1::(Uk (x.2.1.length+(ZL x.2.2.2.1).length)++(x.2.1++ZL x.2.2.2.1)):=rfl
theorem Qrc (x:Qe):x.2.1.length+(ZL x.2.2.2.1).length<=(Zl x).length:=QzK x.1 x.2.1 x.2.2.1 x.2.2.2.1
theorem Qrd: ∀ (l:List Qe) (k:Nat) (hk:k<l.length),(Zp (l.take k)).length+(Zl l[k]).length<=(Zp l).length
 | [],k,hk=>by simp at hk
 |x::l,0,_=>by
  rw [List.take_zero,IY,Gp,Bl]
  simp
 |x::l,k+1,hk=>by
  simp only [Bt] at hk
  have:=Qrd l k (by omega)
  simp only [List.take_succ_cons,Gp,Bl,DJ]
  omega
theorem QbM (n:Nat):(Uk n).length<=9:=by
 unfold Uk
 split
 ·simp
 ·rw [Bt,QfT]
  have:=QfU 8 n
  omega
def XS (n:Nat)(x:Qe):Bool:=okT n x&&decide ((Zl x).length<=100000000)
def WR (x:Qe):Bool:=okT 12 x&&decide ((Zl x).length<=100000000)
theorem QDu (x:Qe)(h:WR x=true): ∃ N,XS N x=true:=⟨12,h⟩
theorem Qre:JZ Tryz.prog 187:= .inr ⟨by decide,_,Tryz.func187,by kernel_rfl,by kernel_rfl⟩
def FZ [Fuel]:Ent:=Qk (.pr Qs .nil) (fun x=>(XS Jb x.1)) (fun x=>(.t (.sl (.int .u8)) (Zl x.1)))
theorem QDv:JZ Tryz.prog 187:=Qre
section
variable [Fuel][Nonempty (PLift (Qz Tryz.prog 187 (Qy FZ)))]
theorem QDw:Qz Tryz.prog 187 (Qy FZ):=(Classical.choice (inferInstance:Nonempty (PLift (Qz Tryz.prog 187 (Qy FZ))))).down
def IZ [Fuel](x:Qe):Bool:=XS (Jb+1) x
abbrev QbN:Sh:=⟨[(1,.ptr 1 0),(3,.ms 5),(4,.ty tI)],[(1,.box Qs),(3,.no),(5,.arr 5 (.int .u8)),(8,.no),(23,.no)]⟩
abbrev Qrf:Sh:=⟨[(1,.ptr 1 0),(3,.ms 5)],[(1,.box Qs),(3,.no),(5,.arr 5 (.int .u8)),(8,.no),(23,.no)]⟩
def QhV:Fg:=QbN.f
def QbO:TC:=aF Tryz.f187 [(58,.nw 3 5),(58,pL 0 QhV),(931,.fg Qrf.f),(30,pD [(0,[1]),(1,[1]),(2,[]),(3,[27,5027,10027,15027]),(4,[3,5,8,23]),(5,[3,5,8,23]),(6,[]),(7,[27,31,5031,10031,15031]),(8,[3,5,8,23]),(9,[3,5,8,23,27,31,33,5033,10033,15033]),(10,[27,31,33])] (.of [0,1,2,4,5,6,8,3,7,9,10]))]
def Qrg:TC:=lb 0 QbO
def Qrh:List (RV×Option Ty):=[((.t 2),some (.sl (.int .u8)))]
def Qri (x4:Int)(y1:Qe)(y5:List Int):VS:=QbN.st ((),(),x4,()) (y1,(),y5,(),(),())
def QhW (y1:Qe)(y5:List Int):VS:=Qrf.st ((),(),()) (y1,(),y5,(),(),())
def QDx:VS->Option (Bool×List (Bool×Exit×VS)):=mkL QbN (fun x y=>(decide (0<=x.2.2.1/\x.2.2.1<=y.1.2.2.2.1.length/\y.2.2.1.length+(Zp ((List.map Val.un y.1.2.2.2.1).drop x.2.2.1.toNat)).length<=1000000000)&&IZ y.1)) (fun x y=>[(true,.exit 0,QhW (y.1) (y.2.2.1++Zp ((List.map Val.un y.1.2.2.2.1).drop x.2.2.1.toNat)))])
def F0:G:=⟨TYs,[5,27],34,EL [(187,FZ),(211,Qxx)],Wp,(Ls [QDx]),IL [],RL []⟩
def QbP (x4:Int)(y1:Qe)(y5:List Int):OX:=Qv (QB F0 QhV Qrg) (Qri x4 y1 y5)
def I0 (kk:Int->Qe->List Int->OX)(x4:Int)(y1:Qe)(y5:List Int):OX:=
 let a2:=List.map Val.un y1.2.2.2.1
 let a1:=lgt Qs a2 (Int.toNat x4)
 br (ilt x4 (Qa a2)) (br (cIx a2 x4) (br (XS Jb a1) (br (QJ y5 (Zl a1) 1) (kk (Qg .i64 x4 1) y1 (y5++(Zl a1))) none) none) none) (some (.exit 0,QhW y1 y5))
def QbQ (x4:Int)(y1:Qe)(y5:List Int):OX:=some (.exit 0,QhW (y1) (y5++Zp ((List.map Val.un y1.2.2.2.1).drop x4.toNat)))
theorem Qrj (x4:Int)(y1:Qe)(y5:List Int):QbP x4 y1 y5=I0 QbP x4 y1 y5:=lnT (x:=I0 (fun x4 y1 y5=>some (.normal,Qri x4 y1 y5)) x4 y1 y5) (by simp only [I0,nxA];rfl)
def QhX (p0:Qe):OV:=
 let a2:=List.map Val.un p0.2.2.2.1
 let a3:=(a2.drop (0:Int).toNat)
 let a1:=(Qa ((([]:List Int)++p0.2.1)++Zp a3))
 let a4:=icv .u8 ((p0).1)
 br (QJ ([]:List Int) p0.2.1 1) (br (decide (0<=(0:Int)/\(0:Int)<=p0.2.2.2.1.length/\(([]:List Int)++p0.2.1).length+(Zp a3).length<=1000000000)&&IZ p0) (br (Vp a1) (br (QJ ([a4]) (Ud a1) 1) (br (QJ (([a4])++(Ud a1)) ((([]:List Int)++p0.2.1)++Zp a3) 1) (some (.t (.sl (.int .u8)) ((([a4])++(Ud a1))++((([]:List Int)++p0.2.1)++Zp a3)),[])) none) none) none) none) none
theorem e_f187 (p0:Qe):JS F0 QbO Qrh false [.t Qs p0] []=QhX p0:=by kernel_rfl
theorem QDy:GOk Tryz.prog F0:=ZW _ (gA (gC QDv QDw (gD QJU gN)))
theorem QDz (x4:Int)(y1:Qe)(y5:List Int)(h:(decide (0<=x4/\x4<=y1.2.2.2.1.length/\y5.length+(Zp ((List.map Val.un y1.2.2.2.1).drop x4.toNat)).length<=1000000000)&&IZ y1)=true):QbP x4 y1 y5=QbQ x4 y1 y5:=by
 simp only [Bc,Ba] at h
 obtain ⟨⟨h0,h1,h2⟩,hc⟩:=h
 obtain ⟨k,rfl⟩:=Bq h0
 simp only [IZ,XS,Bc,Ba] at hc
 obtain ⟨hc,hf⟩:=hc
 have hm:=Qjq hc
 have hl:=(WY hc).2.2.2.2.2.1
 rw [Bd] at h2
 have hel:=Qrc y1
 have hE:Zp (List.map Val.un y1.2.2.2.1)=ZL y1.2.2.2.1:=by rw [Zp,Gv]
 revert y5
 refine QR (List.map Val.un y1.2.2.2.1) (fun k=> ∀ y5:List Int,y5.length+(Zp ((List.map Val.un y1.2.2.2.1).drop k)).length<=1000000000->QbP (k:Int) y1 y5=QbQ (k:Int) y1 y5) ?_ ?_ k (by rw [BM];omega)
 ·intro y5 _
  rw [Qrj]
  simp only [I0,show ilt ((List.map Val.un y1.2.2.2.1).length:Int) (Qa (List.map Val.un y1.2.2.2.1))=false from Bn (by simp only [Qa];omega),Qf]
  simp only [QbQ,Bd,BQ,IY,BO]
 ·intro k hk ih y5 hy
  rw [Qrj]
  have hk2:k<y1.2.2.2.1.length:=by rw [BM] at hk;exact hk
  have hs:=Qrd (List.map Val.un y1.2.2.2.1) k hk
  rw [hE] at hs
  rw [Bj hk,Gp,Bl] at hy
  have hd:XS Jb (List.map Val.un y1.2.2.2.1)[k]=true:=by rw [XS,hm k hk,Be (by omega)];rfl
  simp only [I0,show ilt (k:Int) (Qa (List.map Val.un y1.2.2.2.1))=true from Be (by simp only [Qa];omega),QI,hk,Bv,Qc,Bd,QQ (show k<4611686018427387904 by omega),QP (y:=Qs) hk,hd]
  rw [Ji (by omega) (by omega),Qc,ih _ (by rw [Bl];omega)]
  simp only [QbQ,Bd,Bj hk,Gp,BR]
theorem QDA:LO F0 QhV Qrg 0:=QH (s:=QbN) fun x y h _ q=>by simp only [QF,QG] at q;exact (QDz x.2.2.1 y.1 y.2.2.1 h).trans q
theorem QDB:QbO.lok F0:=by
 repeat (first|exact trivial|exact QDA|refine ⟨?_, ?_⟩)
theorem s_f187 (x:Qe)(h:XS (Jb+1) x=true):QhX x=some (.t (.sl (.int .u8)) (Zl x),[]):=by
 have hin:IZ x=true:=h
 simp only [XS,Bc,Ba] at h
 obtain ⟨h,hf⟩:=h
 have hel:=Qrc x
 have hE:Zp (List.map Val.un x.2.2.2.1)=ZL x.2.2.2.1:=by rw [Zp,Gv]
 have hll:=QbM (x.2.1.length+(ZL x.2.2.2.1).length)
 simp only [QhX,hin,B6,BT,Bu,BA,hE]
 rw [Ji (by omega) (by simp only [BD];omega),Qc,Be ⟨by omega,by omega,by omega⟩,Qc]
 have e1:Vp (Qa (x.2.1++ZL x.2.2.2.1))=true:=Be (by simp only [Qa,Bl];omega)
 have e2:Ud (Qa (x.2.1++ZL x.2.2.2.1))=Uk (x.2.1.length+(ZL x.2.2.2.1).length):=by simp only [Ud,Qa,Bl,Bd]
 rw [e1,Qc,e2,Ji (by omega) (by simp only [Bp];omega),Qc,Ji (by omega) (by simp only [Bl,Bp];omega),Qc,QbL]
 simp only [BN,Dv,BT]
theorem QDC:Qz Tryz.prog 187 (JS F0 QbO Qrh false):=mG Tryz.func187 (by kernel_rfl) Tryz.ntmps187 (by kernel_rfl) QDy QDB
end
theorem Qrk: ∀ N:Nat,Qz Tryz.prog 187 (Qy (@FZ ⟨N⟩))
 |0=>Fq fun x=>by first|rfl|simp [XS]
 |N+1=>by
  letI:Fuel:=⟨N⟩
  haveI:Nonempty (PLift (Qz Tryz.prog 187 (Qy FZ))):=⟨⟨Qrk N⟩⟩
  exact Qm QDC fun x hok=>(e_f187 x.1).trans (s_f187 x.1 hok)
def Qrl:Ent:=Qk (.pr Qs .nil) (fun x=>(WR x.1)) (fun x=>(.t (.sl (.int .u8)) (Zl x.1)))
theorem QDD:Qz Tryz.prog 187 (Qy Qrl):=QaZ Qrk fun x hok=>QDu x.1 hok
def WS (x:Qe):List Int×Int:=if 4096<(Zl x).length then ([],3) else (Zl x,0)
theorem QDE {x:Qe}(h:okT 12 x=true):igt (dpV x) 16=false:=by
 have:=Qal (v:=Val.of x) h
 exact Bn (by show ¬ ((Ul (Val.of x):Int) > 16);omega)
def QDF:TC:=aF Tryz.f151 []
def g_f151:G:=gG 17 [(185,Quv),(186,QuE),(187,Qrl)] (fun _ _=>none)
def Qrm (p0:Qe):OV:=br (Qc4 p0) (br (!(Wl p0)) (some (.tu [(.t (.sl (.int .u8)) ([]:List Int)),(.t tI 1)],[])) (br (Qdf p0) (br (igt (dpV p0) 16) (some (.tu [(.t (.sl (.int .u8)) ([]:List Int)),(.t tI 3)],[])) (br (WR p0) (br (igt (Qa (Zl p0)) 4096) (some (.tu [(.t (.sl (.int .u8)) ([]:List Int)),(.t tI 3)],[])) (some (.tu [(.t (.sl (.int .u8)) (Zl p0)),(.t tI 0)],[]))) none)) none)) none
theorem s_f151 (x:Qe)(h:WR x=true):Qrm x=some (.tu [.t (.sl (.int .u8)) (WS x).1,.t tI (WS x).2],[]):=by
 have h':=h
 simp only [WR,Bc,Ba] at h'
 obtain ⟨h1,h2⟩:=h'
 simp only [Qrm,show Qc4 x=true from h1,show Qdf x=true from h1,h,QDE h1,Wl,BG,Qc,Qf]
 unfold WS
 refine QY (fun g=> ?_) (fun g=> ?_)
 ·simp only [igt,Qa,Ba] at g
  rw [if_pos (by omega)]
 ·simp only [igt,Qa,Bo] at g
  rw [if_neg (by omega)]
def Qrn:Ent:=Qk (.pr Qs .nil) (fun x=>(WR x.1)) (fun x=>(.tu [(.t (.sl (.int .u8)) ((WS x.1).1)),(.t tI ((WS x.1).2))]))
theorem QDG:EM 151 Qrn:=mS g_f151 QDF [((.t 2),some (.sl (.int .u8))),((.t 3),some tI)] false (gB (gC Quo QGR (gC Qux QG5 (gC Qre QDD gN)))) fun m=>Qm m fun x hok=>kT (s_f151 x.1 hok)
def conV (x:Qe):List Int:=x.2.1++ZL x.2.2.2.1
def QDH [Fuel]:Ent:=Qk (.pr Qs .nil) (fun x=>(XS Jb x.1)) (fun x=>(.t (.sl (.int .u8)) (conV x.1)))
section
variable [Fuel][Nonempty (PLift (Qz Tryz.prog 245 (Qy QDH)))]
end
def Xt (l:List Qe):Qe:=(48,(([]:List Int),(true,(List.map Val.of l,()))))
def QDI:TC:=aF Tryz.f189 []
def g_f189:G:=gG 6 [(212,QtB)] (fun _ _=>none)
def Qro (p0:List Qe):OV:=br (XW p0) (some (.t Qs (48,(([]:List Int),(true,((List.map Val.of (Wk p0)),())))),[])) none
theorem s_f189 (l:List Qe)(h:XW l=true):Qro l=some (.t Qs (Xt l),[]):=by
 simp only [Qro,h,Qc]
 rfl
def QhY:Ent:=Qk (.pr (.sl Qs) .nil) (fun x=>(XW x.1)) (fun x=>(.t Qs (Xt x.1)))
theorem Qrp:EM 189 QhY:=mS g_f189 QDI [((.c 2 true 4),some Qs)] false (gB (gC Qtu QFG gN)) fun m=>Qm m fun x hok=>kT (s_f189 x.1 hok)
end
end Go.Proofs.YtmjnnemhoeolgaaGreat.K
