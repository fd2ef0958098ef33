import Derived.Test.YtmjnnemhoeolgaaGreatQ3
set_option linter.unusedSimpArgs false
set_option linter.unusedVariables false
noncomputable section
namespace Go.Proofs.YtmjnnemhoeolgaaGreat.K
open Go.RowKit
def Qnv:TC:=aF Tryz.f197 []
def Qnw:List (RV×Option Ty):=[((.c 0 true 115),some (.pr Qm (.pr Qm (.pr Qm (.pr Qm (.pr Qm (.pr Qm (.pr Qm (.pr Qm (.pr Qm (.pr Qm (.pr Qm (.pr Qm (.pr Qm (.pr Qm (.pr Qm (.pr Qm (.pr Qm (.pr Qm (.pr Qm (.pr Qm (.pr Qm (.pr Qm (.pr Qm .nil))))))))))))))))))))))))]
def Qnx:G:=gG 46 [] (fun _ _=>none)
def Qny  : OV:=some (.t (.pr Qm (.pr Qm (.pr Qm (.pr Qm (.pr Qm (.pr Qm (.pr Qm (.pr Qm (.pr Qm (.pr Qm (.pr Qm (.pr Qm (.pr Qm (.pr Qm (.pr Qm (.pr Qm (.pr Qm (.pr Qm (.pr Qm (.pr Qm (.pr Qm (.pr Qm (.pr Qm .nil))))))))))))))))))))))) (((ByteArray.mk #[]),(0,(0,(([]:List Int),(([]:List Int),()))))),(((ByteArray.mk #[109,100,53]),(1,(0,(([]:List Int),([18],()))))),(((ByteArray.mk #[115,104,97,49]),(1,(0,(([]:List Int),([60],()))))),(((ByteArray.mk #[115,104,97,50,53,54]),(1,(0,(([]:List Int),([128],()))))),(((ByteArray.mk #[115,104,97,51,56,52]),(1,(0,(([]:List Int),([192],()))))),(((ByteArray.mk #[114,115,97]),(2,(1,(([]:List Int),(([]:List Int),()))))),(((ByteArray.mk #[100,115,97]),(2,(1,(([]:List Int),(([]:List Int),()))))),(((ByteArray.mk #[101,99,100,115,97]),(2,(2,(([]:List Int),(([]:List Int),()))))),(((ByteArray.mk #[101,100,50,53,53,49,57]),(2,(0,(([]:List Int),([128],()))))),(((ByteArray.mk #[109,108,100,115,97]),(2,(3,([44,65,87],([128,192,256],()))))),(((ByteArray.mk #[114,115,97,107,120]),(3,(1,(([]:List Int),(([]:List Int),()))))),(((ByteArray.mk #[100,104,101]),(3,(1,(([]:List Int),(([]:List Int),()))))),(((ByteArray.mk #[101,99,100,104,101]),(3,(2,(([]:List Int),(([]:List Int),()))))),(((ByteArray.mk #[109,108,107,101,109]),(3,(3,([512,768,1024],([128,192,256],()))))),(((ByteArray.mk #[114,99,52]),(4,(3,([40,128],([40,60],()))))),(((ByteArray.mk #[100,101,115,51]),(4,(3,([112,168],([80,112],()))))),(((ByteArray.mk #[97,101,115,99,98,99]),(4,(3,([128,256],([128,256],()))))),(((ByteArray.mk #[97,101,115,103,99,109]),(4,(3,([128,256],([128,256],()))))),(((ByteArray.mk #[99,104,97,99,104,97]),(4,(0,(([]:List Int),([256],()))))),(((ByteArray.mk #[104,109,97,99,109,100,53]),(5,(0,(([]:List Int),([64],()))))),(((ByteArray.mk #[104,109,97,99,115,104,97,49]),(5,(0,(([]:List Int),([80],()))))),(((ByteArray.mk #[104,109,97,99,115,104,97,50,53,54]),(5,(0,(([]:List Int),([128],()))))),(((ByteArray.mk #[97,101,97,100]),(5,(0,(([]:List Int),([256],()))))),()))))))))))))))))))))))),[])
theorem e_f197  : JS Qnx Qnv Qnw false [] []=Qny  :=by kernel_rfl
def Fe:Ty.T (.pr Qm (.pr Qm (.pr Qm (.pr Qm (.pr Qm (.pr Qm (.pr Qm (.pr Qm (.pr Qm (.pr Qm (.pr Qm (.pr Qm (.pr Qm (.pr Qm (.pr Qm (.pr Qm (.pr Qm (.pr Qm (.pr Qm (.pr Qm (.pr Qm (.pr Qm (.pr Qm .nil))))))))))))))))))))))):=(((ByteArray.mk #[]),(0,(0,(([]:List Int),(([]:List Int),()))))),(((ByteArray.mk #[109,100,53]),(1,(0,(([]:List Int),([18],()))))),(((ByteArray.mk #[115,104,97,49]),(1,(0,(([]:List Int),([60],()))))),(((ByteArray.mk #[115,104,97,50,53,54]),(1,(0,(([]:List Int),([128],()))))),(((ByteArray.mk #[115,104,97,51,56,52]),(1,(0,(([]:List Int),([192],()))))),(((ByteArray.mk #[114,115,97]),(2,(1,(([]:List Int),(([]:List Int),()))))),(((ByteArray.mk #[100,115,97]),(2,(1,(([]:List Int),(([]:List Int),()))))),(((ByteArray.mk #[101,99,100,115,97]),(2,(2,(([]:List Int),(([]:List Int),()))))),(((ByteArray.mk #[101,100,50,53,53,49,57]),(2,(0,(([]:List Int),([128],()))))),(((ByteArray.mk #[109,108,100,115,97]),(2,(3,([44,65,87],([128,192,256],()))))),(((ByteArray.mk #[114,115,97,107,120]),(3,(1,(([]:List Int),(([]:List Int),()))))),(((ByteArray.mk #[100,104,101]),(3,(1,(([]:List Int),(([]:List Int),()))))),(((ByteArray.mk #[101,99,100,104,101]),(3,(2,(([]:List Int),(([]:List Int),()))))),(((ByteArray.mk #[109,108,107,101,109]),(3,(3,([512,768,1024],([128,192,256],()))))),(((ByteArray.mk #[114,99,52]),(4,(3,([40,128],([40,60],()))))),(((ByteArray.mk #[100,101,115,51]),(4,(3,([112,168],([80,112],()))))),(((ByteArray.mk #[97,101,115,99,98,99]),(4,(3,([128,256],([128,256],()))))),(((ByteArray.mk #[97,101,115,103,99,109]),(4,(3,([128,256],([128,256],()))))),(((ByteArray.mk #[99,104,97,99,104,97]),(4,(0,(([]:List Int),([256],()))))),(((ByteArray.mk #[104,109,97,99,109,100,53]),(5,(0,(([]:List Int),([64],()))))),(((ByteArray.mk #[104,109,97,99,115,104,97,49]),(5,(0,(([]:List Int),([80],()))))),(((ByteArray.mk #[104,109,97,99,115,104,97,50,53,54]),(5,(0,(([]:List Int),([128],()))))),(((ByteArray.mk #[97,101,97,100]),(5,(0,(([]:List Int),([256],()))))),())))))))))))))))))))))))
theorem s_f197:Qny=some (.t (tyR Qm 23) Fe,[]):=rfl
def Qnz:Ent:=Ql .nil (fun x=>true) (fun x=>(.t (.pr Qm (.pr Qm (.pr Qm (.pr Qm (.pr Qm (.pr Qm (.pr Qm (.pr Qm (.pr Qm (.pr Qm (.pr Qm (.pr Qm (.pr Qm (.pr Qm (.pr Qm (.pr Qm (.pr Qm (.pr Qm (.pr Qm (.pr Qm (.pr Qm (.pr Qm (.pr Qm .nil))))))))))))))))))))))) Fe))
theorem QzY:EM 197 Qnz:=mS Qnx Qnv Qnw false (gB gN) fun m=>Qn m fun x _=>(e_f197 ).trans (s_f197)
def Ii:Row:=((ByteArray.mk #[]),(0,(0,(([]:List Int),(([]:List Int),())))))
def ofF (a:Int):Row×Bool:=if a<1∨22<a then (Ii,false) else (FI Qm 23 Fe a,true)
def QzZ:TC:=aF Tryz.f166 []
def g_f166:G:=gG 14 [(197,Qnz),(1004194,Qwa)] (fun _ _=>none)
def QnA (p0:Int):OV:=br (ilt p0 1) (some (.tu [(.t Qm ((ByteArray.mk #[]),(0,(0,(([]:List Int),(([]:List Int),())))))),(.t .bool false)],[])) (br (igt p0 22) (some (.tu [(.t Qm ((ByteArray.mk #[]),(0,(0,(([]:List Int),(([]:List Int),())))))),(.t .bool false)],[])) (br (WG Qm 23 Fe p0) (some (.tu [(.t Qm (FI Qm 23 Fe p0)),(.t .bool true)],[])) none))
theorem s_f166 (a:Int):QnA a=some (.tu [.t Qm (ofF a).1,.t .bool (ofF a).2],[]):=by
 simp only [QnA]
 refine QZ (fun h1=> ?_) (fun h1=>QZ (fun h2=> ?_) (fun h2=> ?_))
 ·have h1:a<1:=by simpa [ilt] using h1
  simp [ofF,h1,Ii]
 ·have h2:22<a:=by simpa [igt] using h2
  simp [ofF,h2,Ii]
 ·have h1: ¬ a<1:=by simpa [ilt] using h1
  have h2: ¬ 22<a:=by simpa [igt] using h2
  have h3:WG Qm 23 Fe a=true:=by simp [WG];omega
  rw [h3,Qd]
  simp [ofF,h1,h2]
def QfZ:Ent:=Ql (.pr tI .nil) (fun x=>true) (fun x=>(.tu [(.t Qm ((ofF x.1).1)),(.t .bool ((ofF x.1).2))]))
theorem QnB:EM 166 QfZ:=mS g_f166 QzZ [((.c 2 true 5),some Qm),((.t 3),some .bool)] false (gB (gD QzY (gC QIv QIw gN))) fun m=>Qn m fun x _=>kT (s_f166 x.1)
def U9:List (Int×Int):=[(1024,56),(2048,80),(3072,112),(7680,128),(15360,192)]
def Ff:(Keep×(Keep×(Keep×(Keep×(Keep×Unit))))):=((1024,(56,())),((2048,(80,())),((3072,(112,())),((7680,(128,())),((15360,(192,())),())))))
def Ye (b i:Int):Option Int:=((U9.drop i.toNat).find? fun x=>ilt b x.1).map (·.2)
def Fh (b:Int):Int:=(Ye b 0).getD 256
abbrev Qal:Sh:=⟨[(0,.ty tI),(10,.ty (.pr Qe (.pr Qe (.pr Qe (.pr Qe (.pr Qe .nil)))))),(11,.ty tI)],[]⟩
abbrev QnC:Sh:=⟨[(2,.ty tI)],[]⟩
abbrev Qam:Sh:=⟨[],[]⟩
def Qf0:Fg:=Qal.f
def QnD:TC:=aF Tryz.f168 [(26,pL 0 Qf0),(421,.fg Qam.f),(13517,.fg QnC.f)]
def QnE:TC:=lb 0 QnD
def QnF (x0:Int)(x10:(Keep×(Keep×(Keep×(Keep×(Keep×Unit))))))(x11:Int):VS:=Qal.st (x0,x10,x11,()) ()
def Qf1 (x2:Int):VS:=QnC.st (x2,()) ()
def Qf2  : VS:=Qam.st () ()
def Qz0:VS->Option (Bool×List (Bool×Exit×VS)):=mkL Qal (fun x y=>(x.2.1==Ff&&decide (0<=x.2.2.1/\x.2.2.1<=5))) (fun x y=>[(((Ye x.1 x.2.2.1).isSome),.ret,Qf1 ((Ye x.1 x.2.2.1).getD 0)),(true,.exit 0,Qf2)])
def Qf3:G:=gG 21 [(1004274,Qwb)] (Ls [Qz0])
def Qan (x0:Int)(x10:(Keep×(Keep×(Keep×(Keep×(Keep×Unit))))))(x11:Int):OX:=Qv (QB Qf3 Qf0 QnE) (QnF x0 x10 x11)
def Qao (kk:Int->(Keep×(Keep×(Keep×(Keep×(Keep×Unit)))))->Int->OX)(x0:Int)(x10:(Keep×(Keep×(Keep×(Keep×(Keep×Unit))))))(x11:Int):OX:=
 let a1:=FI Qe 5 x10 x11
 br (ilt x11 5) (br (WG Qe 5 x10 x11) (br (ilt x0 (a1.1)) (some (.ret,Qf1 ((a1.2).1))) (kk x0 x10 (Qf .i64 x11 1))) none) (some (.exit 0,Qf2))
def Ga (x0:Int)(x10:(Keep×(Keep×(Keep×(Keep×(Keep×Unit))))))(x11:Int):OX:=br ((Ye x0 x11).isSome) (some (.ret,Qf1 ((Ye x0 x11).getD 0)))<|some (.exit 0,Qf2)
theorem QnG (x0:Int)(x10:(Keep×(Keep×(Keep×(Keep×(Keep×Unit))))))(x11:Int):Qan x0 x10 x11=Qao Qan x0 x10 x11:=lnT (x:=Qao (fun x0 x10 x11=>some (.normal,QnF x0 x10 x11)) x0 x10 x11) (by simp only [Qao,nxA];rfl)
def QnH (p0:Int):OV:=br (((1024,(56,())),((2048,(80,())),((3072,(112,())),((7680,(128,())),((15360,(192,())),())))))==Ff&&decide (0<=(0:Int)/\(0:Int)<=5)) (br ((Ye p0 (0:Int)).isSome) (some (.t tI ((Ye p0 (0:Int)).getD 0),[])) (some (.t tI 256,[]))) none
theorem Qz1 (x0:Int)(x10:(Keep×(Keep×(Keep×(Keep×(Keep×Unit))))))(x11:Int)(h:(x10==Ff&&decide (0<=x11/\x11<=5))=true):Qan x0 x10 x11=Ga x0 x10 x11:=by
 simp only [Bc,Ba,Dj] at h
 obtain ⟨rfl,h1,h2⟩:=h
 obtain ⟨k,rfl⟩:=Bq h1
 refine QnS 5 (fun k=>Qan x0 Ff (k:Int)=Ga x0 Ff (k:Int)) ?_ ?_ k (by omega)
 ·rw [QnG]
  rfl
 ·intro k hk ih
  rw [QnG]
  simp only [Qao,QT (show k<4611686018427387904 by omega),ih]
  have e1:ilt (k:Int) 5=true:=by simp only [ilt,Ba];omega
  have e2:WG Qe 5 Ff (k:Int)=true:=by simp only [WG,Ba];omega
  simp only [e1,e2,Qd]
  have hk5:k=0∨k=1∨k=2∨k=3∨k=4:=by omega
  rcases hk5 with rfl|rfl|rfl|rfl|rfl
  ·show br (ilt x0 1024) _ _=_
   cases h:ilt x0 1024<;>simp [Ga,Ye,U9,h,Qd,Qh]<;>rfl
  ·show br (ilt x0 2048) _ _=_
   cases h:ilt x0 2048<;>simp [Ga,Ye,U9,h,Qd,Qh]<;>rfl
  ·show br (ilt x0 3072) _ _=_
   cases h:ilt x0 3072<;>simp [Ga,Ye,U9,h,Qd,Qh]<;>rfl
  ·show br (ilt x0 7680) _ _=_
   cases h:ilt x0 7680<;>simp [Ga,Ye,U9,h,Qd,Qh]<;>rfl
  ·show br (ilt x0 15360) _ _=_
   cases h:ilt x0 15360<;>simp [Ga,Ye,U9,h,Qd,Qh]<;>rfl
theorem Qz2:LO Qf3 Qf0 QnE 0:=QH (s:=Qal) fun x y h _ q=>by simp only [QE,QF] at q;exact (Qz1 x.1 x.2.1 x.2.2.1 h).trans q
theorem s_f168 (b:Int):QnH b=some (.t tI (Fh b),[]):=by
 simp only [QnH]
 show br true (br (Ye b 0).isSome (some (V.t tI ((Ye b 0).getD 0),[])) _) _=_
 rw [Qd,Fh]
 cases Ye b 0<;>rfl
def QnI:Ent:=Ql (.pr tI .nil) (fun x=>true) (fun x=>(.t tI (Fh x.1)))
theorem Qz3:EM 168 QnI:=mS (lk:=lkL (lkc Qz2 lkn)) Qf3 QnD [((.t 2),some tI)] false (gB (gC QIx QIy gN)) fun m=>Qn m fun x _=>kT (s_f168 x.1)
def Jy (v:Int):List Int->Option Nat
 | []=>none
 |a::l=>if a==v then some 0 else (Jy v l).map (· + 1)
theorem QnJ {v:Int}: ∀ {l:List Int} {k:Nat},Jy v l=some k->k<l.length
 | [],_,h=>by cases h
 |a::l,k,h=>by
  unfold Jy at h
  split at h
  ·injection h with h;subst h;simp
  ·obtain ⟨j,h1,h2⟩:=Bg.1 h
   have:=QnJ h1
   simp only [Bt];omega
theorem Qf4 {v:Int}: ∀ {l:List Int},Jy v l=none↔v ∉ l
 | []=>by simp [Jy]
 |a::l=>by
  have ih:=Qf4 (v:=v) (l:=l)
  unfold Jy
  by_cases h:a=v
  ·simp [h]
  ·have h': ¬ v=a:=fun e=>h e.symm
   simp [h,h',ih]
def Gb (l:List Int)(v:Int):Int:=match Jy v l with|some k=>(k:Int)|none=> -1
def Jz (l:List Int)(_v:Int):Bool:=decide (l.length<=100000)
abbrev Qap:Sh:=⟨[(0,.ty (.sl tI)),(1,.ty tI),(7,.ty tI),(8,.ty tI)],[]⟩
abbrev QnK:Sh:=⟨[(4,.ty tI)],[]⟩
def Qf5:Fg:=Qap.f
def QnL:TC:=aF Tryz.f165 [(26,pL 0 Qf5),(421,.fg Qam.f),(13517,.fg QnK.f)]
def QnM:TC:=lb 0 QnL
def QnN (x0:List Int)(x1 x7 x8:Int):VS:=Qap.st (x0,x1,x7,x8,()) ()
def Qf6 (x4:Int):VS:=QnK.st (x4,()) ()
def Qf7  : VS:=Qam.st () ()
def Qz4:VS->Option (Bool×List (Bool×Exit×VS)):=mkL Qap (fun x y=>(Qz x.1 x.2.2.1 x.2.2.2.1)) (fun x y=>[(((Jy x.2.1 (x.1.drop x.2.2.2.1.toNat)).isSome),.ret,Qf6 (x.2.2.2.1+((Jy x.2.1 (x.1.drop x.2.2.2.1.toNat)).getD 0:Nat))),(true,.exit 0,Qf7)])
def Qf8:G:=gG 19 [] (Ls [Qz4])
def Qaq (x0:List Int)(x1 x7 x8:Int):OX:=Qv (QB Qf8 Qf5 QnM) (QnN x0 x1 x7 x8)
def Ij (kk:List Int->Int->Int->Int->OX)(x0:List Int)(x1 x7 x8:Int):OX:=br (ilt x8 x7) (br (cIx x0 x8) (br (ieq x1 (lgt tI x0 (Int.toNat x8))) (some (.ret,Qf6 x8)) (kk x0 x1 x7 (Qf .i64 x8 1))) none) (some (.exit 0,Qf7))
def Qar (x0:List Int)(x1 x7 x8:Int):OX:=
 let a1:=Jy x1 (x0.drop x8.toNat)
 br (a1.isSome) (some (.ret,Qf6 (x8+(a1.getD 0:Nat))))<|some (.exit 0,Qf7)
theorem QnO (x0:List Int)(x1 x7 x8:Int):Qaq x0 x1 x7 x8=Ij Qaq x0 x1 x7 x8:=lnT (x:=Ij (fun x0 x1 x7 x8=>some (.normal,QnN x0 x1 x7 x8)) x0 x1 x7 x8) (by simp only [Ij,nxA];rfl)
def QnP (p0:List Int)(p1:Int):OV:=
 let a1:=(Jy p1 (p0.drop (0:Int).toNat))
 br (Qz p0 (Qa p0) (0:Int)) (br (a1.isSome) (some (.t tI ((0:Int)+(a1.getD 0:Nat)),[])) (some (.t tI (-1),[]))) none
theorem Qz5 (x0:List Int)(x1 x7 x8:Int)(h:(Qz x0 x7 x8)=true):Qaq x0 x1 x7 x8=Qar x0 x1 x7 x8:=by
 obtain ⟨rfl,h3,k,rfl,hk⟩:=JJ h
 clear h
 refine QU x0 (fun k=>Qaq x0 x1 (x0.length:Int) (k:Int)=Qar x0 x1 (x0.length:Int) (k:Int)) ?_ ?_ k hk
 ·rw [QnO]
  simp [Ij,Qar,QD,Qh,Jy]
 ·intro k hk ih
  rw [QnO]
  simp only [Ij,QD,QJ,hk,Bv,Qd,Bd,QT (show k<4611686018427387904 by omega),ih,QS (y:=tI) hk]
  simp only [Qar,Bd,Bj hk,Jy,ieq]
  have hc:(x1==x0[k])=(x0[k]==x1):=Bool.beq_comm
  cases h:x0[k]==x1 with
  |true=>simp [h,hc,Qd]
  |false=>
   simp only [h,hc,Qh,BK,Do]
   cases hq:Jy x1 (x0.drop (k+1)) with
   |none=>rfl
   |some j=>
    simp only [B1,B6,BI,Qd]
    congr 3
    omega
theorem Qz6:LO Qf8 Qf5 QnM 0:=QH (s:=Qap) fun x y h _ q=>by simp only [QE,QF] at q;exact (Qz5 x.1 x.2.1 x.2.2.1 x.2.2.2.1 h).trans q
theorem s_f165 (l:List Int)(v:Int)(h:Jz l v=true):QnP l v=some (.t tI (Gb l v),[]):=by
 simp only [Jz,Ba] at h
 simp only [QnP,JK h,Qd,Bw,BD,Gb]
 cases Jy v l<;>simp [Qd,Qh]
def Qf9:Ent:=Ql (.pr (.sl tI) (.pr tI .nil)) (fun x=>(Jz x.1 x.2.1)) (fun x=>(.t tI (Gb x.1 x.2.1)))
theorem QnQ:EM 165 Qf9:=mS (lk:=lkL (lkc Qz6 lkn)) Qf8 QnL [((.t 4),some tI)] false (gB gN) fun m=>Qn m fun x hok=>kT (s_f165 x.1 x.2.1 hok)
def Jo (l:List Int)(v:Int):Bool:=l.contains v
def Qz7:TC:=aF Tryz.f125 []
def g_f125:G:=gG 9 [(165,Qf9)] (fun _ _=>none)
def QnR (p0:List Int)(p1:Int):OV:=br (Jz p0 p1) (some (.t .bool (ige (Gb p0 p1) 0),[])) none
theorem s_f125 (l:List Int)(v:Int)(h:Jz l v=true):QnR l v=some (.t .bool (Jo l v),[]):=by
 simp only [QnR,h,Qd]
 congr 3
 unfold Gb Jo
 cases hq:Jy v l with
 |none=>
  have:=Qf4.1 hq
  simp [ige,this]
 |some k=>
  have:v∈l:=Classical.byContradiction fun hn=>by rw [Qf4.2 hn] at hq;cases hq
  simp only [ige,BF.2 this,Ba]
  omega
def Qas:Ent:=Ql (.pr (.sl tI) (.pr tI .nil)) (fun x=>(Jz x.1 x.2.1)) (fun x=>(.t .bool (Jo x.1 x.2.1)))
theorem Qga:EM 125 Qas:=mS g_f125 Qz7 [((.t 4),some .bool)] false (gB (gD QnQ gN)) fun m=>Qn m fun x hok=>kT (s_f125 x.1 x.2.1 hok)
end Go.Proofs.YtmjnnemhoeolgaaGreat.K
noncomputable section
namespace Go.Proofs.YtmjnnemhoeolgaaGreat.K
open Go.RowKit
def Zg (b:Int)(s t:List Int):Int:=match Jy b s with|some k=>t.getD k 0|none=>0
def XI (a:Int):Int:=if a=1 then 18 else if a=2 then 60 else if a=3∨a=8∨a=21 then 128 else if a=4 then 192 else if a=18∨a=22 then 256 else if a=19 then 64 else if a=20 then 80 else 0
def U5 (b:Int):Int:=if b<512∨16384<b then 0 else Fh b
def EY (b:Int):Int:=if Jo [160,224,256,384,521] b then Gn .i64 b 2 else 0
def Xh (u:Keep):Int:=
 if u.1=5∨u.1=6∨u.1=10∨u.1=11 then U5 u.2.1
 else if u.1=7∨u.1=12 then EY u.2.1
 else if u.1=9 then Zg u.2.1 [44,65,87] [128,192,256]
 else if u.1=13 then Zg u.2.1 [512,768,1024] [128,192,256]
 else if u.1=14 then Zg u.2.1 [40,128] [40,60]
 else if u.1=15 then Zg u.2.1 [112,168] [80,112]
 else if u.1=16∨u.1=17 then Zg u.2.1 [128,256] [128,256]
 else Zg u.2.1 [0] [XI u.1]
def JU (u:Keep):Bool:=decide (Xh u > 0)
def QKD:TC:=aF Tryz.f129 []
def g_f129:G:=gG 61 [(125,Qas),(165,Qf9),(166,QfZ),(168,QnI)] (fun _ _=>none)
def X8 (p0:Keep):OV:=
 let a1:=((((ofF p0.1).1).2).2)
 let a2:=Gb ((a1.2).1) p0.2.1
 let a3:=(((a1.2).2).1)
 br (!((ofF p0.1).2)) (some (.t tI 0,[])) (br (ieq (a1.1) 0) (br (ieq p0.2.1 0) (br (cIx a3 0) (some (.t tI (lgt tI a3 (Int.toNat 0)),[])) none) (some (.t tI 0,[]))) (br (ieq (a1.1) 1) (br (ige p0.2.1 512) (br (ile p0.2.1 16384) (some (.t tI (Fh p0.2.1),[])) (some (.t tI 0,[]))) (some (.t tI 0,[]))) (br (ieq (a1.1) 2) (br (Jz ([160,224,256,384,521]) p0.2.1) (br (Jo ([160,224,256,384,521]) p0.2.1) (br (cNz 2) (some (.t tI (Gn .i64 p0.2.1 2),[])) none) (some (.t tI 0,[]))) none) (br (ieq (a1.1) 3) (br (Jz ((a1.2).1) p0.2.1) (br (ige a2 0) (br (cIx a3 a2) (some (.t tI (lgt tI a3 (Int.toNat a2)),[])) none) (some (.t tI 0,[]))) none) (some (.t tI 0,[]))))))
theorem QKE (u:Keep)(h1:(ofF u.1).2=false):X8 u=some (.t tI 0,[]):=by
 simp only [X8,h1,Bool.not_false,Qd]
theorem QKF (u:Keep){v:Int}(h1:(ofF u.1).2=true)(h2:(ofF u.1).1.2.2.1=0)(h3:(ofF u.1).1.2.2.2.2.1=[v]):X8 u=some (.t tI (Zg u.2.1 [0] [v]),[]):=by
 simp only [X8,h1,h2,h3,BH,Qh,show ieq 0 0=true from rfl,Qd,show cIx [v] 0=true from rfl]
 simp only [Zg,Jy,ieq]
 have hc:((0:Int)==u.2.1)=(u.2.1==0):=Bool.beq_comm
 rw [hc]
 cases u.2.1==0<;>rfl
theorem QKG (u:Keep)(h1:(ofF u.1).2=true)(h2:(ofF u.1).1.2.2.1=1):X8 u=some (.t tI (U5 u.2.1),[]):=by
 simp only [X8,h1,h2,BH,Qh,show ieq 1 0=false from rfl,show ieq 1 1=true from rfl,Qd,U5]
 refine QZ (fun g1=>QZ (fun g2=> ?_) (fun g2=> ?_)) (fun g1=> ?_)
 ·rw [if_neg]
  simp [ige,ile] at g1 g2
  omega
 ·rw [if_pos]
  simp [ige,ile] at g1 g2
  omega
 ·rw [if_pos]
  simp [ige] at g1
  omega
theorem QKH (u:Keep)(h1:(ofF u.1).2=true)(h2:(ofF u.1).1.2.2.1=2):X8 u=some (.t tI (EY u.2.1),[]):=by
 simp only [X8,h1,h2,BH,Qh,show ieq 2 0=false from rfl,show ieq 2 1=false from rfl,show ieq 2 2=true from rfl,Qd,EY,show Jz [160,224,256,384,521] u.2.1=true from rfl,show cNz 2=true from rfl]
 cases Jo [160,224,256,384,521] u.2.1<;>rfl
theorem QKI (u:Keep){s t:List Int}(h1:(ofF u.1).2=true)(h2:(ofF u.1).1.2.2.1=3)(h3:(ofF u.1).1.2.2.2.1=s)(h4:(ofF u.1).1.2.2.2.2.1=t)(h5:s.length=t.length)(h6:s.length<=100000):X8 u=some (.t tI (Zg u.2.1 s t),[]):=by
 have e1:Jz s u.2.1=true:=by simp [Jz,h6]
 simp only [X8,h1,h2,h3,h4,e1,BH,Qh,show ieq 3 0=false from rfl,show ieq 3 1=false from rfl,show ieq 3 2=false from rfl,show ieq 3 3=true from rfl,Qd,Gb,Zg]
 cases hq:Jy u.2.1 s with
 |none=>rfl
 |some k=>
  have hk:=QnJ hq
  have e2:ige (k:Int) 0=true:=by simp only [ige,Ba];omega
  have e3:k<t.length:=by omega
  simp only [e2,Qd,QJ,e3,Bv]
  rfl
theorem s_f129 (u:Keep):X8 u=some (.t tI (Xh u),[]):=by
 obtain ⟨a,b,c⟩:=u
 by_cases hb:a<1∨22<a
 ·rw [QKE _ (by simp [ofF,hb])]
  have e1:XI a=0:=by
   unfold XI
   repeat rw [if_neg (by omega)]
  have e2:Xh (a,b,c)=0:=by
   unfold Xh
   simp only
   repeat rw [if_neg (by omega)]
   rw [e1]
   simp only [Zg,Jy]
   cases (0:Int)==b<;>rfl
  rw [e2]
 ·have hc:a=1∨a=2∨a=3∨a=4∨a=5∨a=6∨a=7∨a=8∨a=9∨a=10∨a=11∨a=12∨a=13∨a=14∨a=15∨a=16∨a=17∨a=18∨a=19∨a=20∨a=21∨a=22:=by omega
  rcases hc with rfl|rfl|rfl|rfl|rfl|rfl|rfl|rfl|rfl|rfl|rfl|rfl|rfl|rfl|rfl|rfl|rfl|rfl|rfl|rfl|rfl|rfl
  all_goals first
   |exact QKF (v:=XI _) (_,b,c) rfl rfl rfl
   |exact QKG (_,b,c) rfl rfl
   |exact QKH (_,b,c) rfl rfl
   |exact QKI (_,b,c) rfl rfl rfl rfl rfl (by decide)
def Qyg:Ent:=Ql (.pr Qe .nil) (fun x=>true) (fun x=>(.t tI (Xh x.1)))
theorem QKJ:EM 129 Qyg:=mS g_f129 QKD [((.t 2),some tI)] false (gB (gD Qga (gD QnQ (gD QnB (gD Qz3 gN))))) fun m=>Qn m fun x _=>kT (s_f129 x.1)
def tc_f87:TC:=aF Tryz.f87 []
def g_f87:G:=gG 6 [(129,Qyg)] (fun _ _=>none)
def r_f87 (p0:Keep):OV:=some (.t .bool (igt (Xh p0) 0),[])
theorem s_f87 (u:Keep):r_f87 u=some (.t .bool (JU u),[]):=rfl
def EZ:Ent:=Ql (.pr Qe .nil) (fun x=>true) (fun x=>(.t .bool (JU x.1)))
theorem VC:EM 87 EZ:=mS g_f87 tc_f87 [((.t 2),some .bool)] false (gB (gD QKJ gN)) fun m=>Qn m fun x _=>kT (s_f87 x.1)
def QKK:TC:=aF Tryz.f106 []
def g_f106:G:=gG 25 [] (fun _ _=>none)
def Qyh (p0:Int):OV:=br (ilt p0 512) (some (.t tI 0,[])) (br (igt p0 16384) (some (.t tI 0,[])) (br (ilt p0 1024) (some (.t tI 56,[])) (br (ilt p0 2048) (some (.t tI 80,[])) (br (ilt p0 3072) (some (.t tI 112,[])) (br (ilt p0 7680) (some (.t tI 128,[])) (br (ilt p0 15360) (some (.t tI 192,[])) (some (.t tI 256,[]))))))))
theorem s_f106 (b:Int):Qyh b=some (.t tI (U5 b),[]):=by
 simp only [Qyh]
 repeat' (refine QZ ?_ ?_<;>intro _)
 all_goals simp only [ilt,igt,Ba,Bn] at*
 all_goals simp only [U5,Fh,Ye,U9,Bw,BD,List.find?_cons,ilt]
 all_goals first
  |(rw [if_pos (by omega)];done)
  |(rw [if_neg (by omega)];repeat first|rw [Fi (by omega)]|rw [Qz8 (by omega)]
    rfl)
def Qyi:Ent:=Ql (.pr tI .nil) (fun x=>true) (fun x=>(.t tI (U5 x.1)))
theorem QKL:EM 106 Qyi:=mS g_f106 QKK [((.t 2),some tI)] false (gB gN) fun m=>Qn m fun x _=>kT (s_f106 x.1)
theorem Qyj (a:Int):((∀ k:Int,decide (1<=k/\k<=22)=true->ieq a k=false)/\(a<1∨22<a))∨(a=1∨a=2∨a=3∨a=4∨a=5∨a=6∨a=7∨a=8∨a=9∨a=10∨a=11∨a=12∨a=13∨a=14∨a=15∨a=16∨a=17∨a=18∨a=19∨a=20∨a=21∨a=22):=by
 by_cases hb:a<1∨22<a
 ·refine .inl ⟨fun k hk=> ?_,hb⟩
  simp only [Ba] at hk
  simp only [YE,Bn]
  omega
 ·right
  omega
def QKM:TC:=aF Tryz.f108 []
def g_f108:G:=gG 21 [] (fun _ _=>none)
def Ql6 (p0:Int):OV:=br (ieq p0 19) (some (.t tI 64,[])) (br (ieq p0 20) (some (.t tI 80,[])) (some (.t tI 0,[])))
def QeX (p0:Int):OV:=br (ieq p0 4) (some (.t tI 192,[])) (br (ieq p0 18) (br (ieq p0 18) (some (.t tI 256,[])) (Ql6 p0)) (br (ieq p0 22) (some (.t tI 256,[])) (Ql6 p0)))
def Qyk (p0:Int):OV:=br (ieq p0 1) (some (.t tI 18,[])) (br (ieq p0 2) (some (.t tI 60,[])) (br (ieq p0 3) (br (ieq p0 3) (some (.t tI 128,[])) (QeX p0)) (br (ieq p0 8) (br (ieq p0 8) (some (.t tI 128,[])) (QeX p0)) (br (ieq p0 21) (some (.t tI 128,[])) (QeX p0)))))
theorem s_f108 (a:Int):Qyk a=some (.t tI (XI a),[]):=by
 rcases Qyj a with ⟨e,hb⟩|hc
 ·have e1:XI a=0:=by
   unfold XI
   repeat rw [if_neg (by omega)]
  rw [e1]
  simp only [Qyk,QeX,Ql6,e 1 (by decide),e 2 (by decide),e 3 (by decide),e 4 (by decide),e 8 (by decide),e 18 (by decide),e 19 (by decide),e 20 (by decide),e 21 (by decide),e 22 (by decide),Qh]
 ·rcases hc with rfl|rfl|rfl|rfl|rfl|rfl|rfl|rfl|rfl|rfl|rfl|rfl|rfl|rfl|rfl|rfl|rfl|rfl|rfl|rfl|rfl|rfl<;>rfl
def Qyl:Ent:=Ql (.pr tI .nil) (fun x=>true) (fun x=>(.t tI (XI x.1)))
theorem QKN:EM 108 Qyl:=mS g_f108 QKM [((.t 2),some tI)] false (gB gN) fun m=>Qn m fun x _=>kT (s_f108 x.1)
def Uk (_b:Int)(s t:List Int):Bool:=decide (s.length=t.length/\s.length<=100000)
abbrev QeY:Sh:=⟨[(0,.ty tI),(1,.ty (.sl tI)),(2,.ty (.sl tI)),(7,.ty tI)],[]⟩
abbrev Qym:Sh:=⟨[(6,.ty tI)],[]⟩
abbrev Qyn:Sh:=⟨[],[]⟩
def Ql7:Fg:=QeY.f
def Qyo:TC:=aF Tryz.f107 [(26,pL 0 Ql7),(419,.fg Qyn.f),(3365,.fg Qym.f)]
def Qyp:TC:=lb 0 Qyo
def Qyq (x0:Int)(x1 x2:List Int)(x7:Int):VS:=QeY.st (x0,x1,x2,x7,()) ()
def Ql8 (x6:Int):VS:=Qym.st (x6,()) ()
def Ql9  : VS:=Qyn.st () ()
def QKO:VS->Option (Bool×List (Bool×Exit×VS)):=mkL QeY (fun x y=>(decide (x.2.1.length=x.2.2.1.length/\x.2.1.length<=100000/\0<=x.2.2.2.1/\x.2.2.2.1<=x.2.1.length))) (fun x y=>[(((Jy x.1 (x.2.1.drop x.2.2.2.1.toNat)).isSome),.ret,Ql8 (x.2.2.1.getD (x.2.2.2.1.toNat+(Jy x.1 (x.2.1.drop x.2.2.2.1.toNat)).getD 0) 0)),(true,.exit 0,Ql9)])
def Qma:G:=gG 24 [] (Ls [QKO])
def QeZ (x0:Int)(x1 x2:List Int)(x7:Int):OX:=Qv (QB Qma Ql7 Qyp) (Qyq x0 x1 x2 x7)
def VD (kk:Int->List Int->List Int->Int->OX)(x0:Int)(x1 x2:List Int)(x7:Int):OX:=br (ilt x7 (Qa x1)) (br (cIx x1 x7) (br (ieq (lgt tI x1 (Int.toNat x7)) x0) (br (cIx x2 x7) (some (.ret,Ql8 (lgt tI x2 (Int.toNat x7)))) none) (kk x0 x1 x2 (Qf .i64 x7 1))) none) (some (.exit 0,Ql9))
def Qe0 (x0:Int)(x1 x2:List Int)(x7:Int):OX:=
 let a1:=Jy x0 (x1.drop x7.toNat)
 br (a1.isSome) (some (.ret,Ql8 (x2.getD (x7.toNat+a1.getD 0) 0)))<|some (.exit 0,Ql9)
theorem Qyr (x0:Int)(x1 x2:List Int)(x7:Int):QeZ x0 x1 x2 x7=VD QeZ x0 x1 x2 x7:=lnT (x:=VD (fun x0 x1 x2 x7=>some (.normal,Qyq x0 x1 x2 x7)) x0 x1 x2 x7) (by simp only [VD,nxA];rfl)
def Qys (p0:Int)(p1 p2:List Int):OV:=
 let a1:=(Jy p0 (p1.drop (0:Int).toNat))
 br (decide (p1.length=p2.length/\p1.length<=100000/\0<=(0:Int)/\(0:Int)<=p1.length)) (br (a1.isSome) (some (.t tI (p2.getD ((0:Int).toNat+a1.getD 0) 0),[])) (some (.t tI 0,[]))) none
theorem QKP (x0:Int)(x1 x2:List Int)(x7:Int)(h:(decide (x1.length=x2.length/\x1.length<=100000/\0<=x7/\x7<=x1.length))=true):QeZ x0 x1 x2 x7=Qe0 x0 x1 x2 x7:=by
 simp only [Ba] at h
 obtain ⟨h1,h2,h3,h4⟩:=h
 obtain ⟨k,rfl⟩:=Bq h3
 refine QU x1 (fun k=>QeZ x0 x1 x2 (k:Int)=Qe0 x0 x1 x2 (k:Int)) ?_ ?_ k (by omega)
 ·rw [Qyr]
  simp [VD,Qe0,QD,Qa,Qh,Jy]
 ·intro k hk ih
  rw [Qyr]
  have hk2:k<x2.length:=by omega
  simp only [VD,QD,Qa,QJ,hk,hk2,Bv,Qd,Bd,QT (show k<4611686018427387904 by omega),ih,QS (y:=tI) hk,QS (y:=tI) hk2]
  simp only [Qe0,Bd,Bj hk,Jy,ieq]
  cases h:x1[k]==x0 with
  |true=>simp [h,Qd,Bk,Bh hk2]
  |false=>
   simp only [h,Qh,BK,Do]
   cases hq:Jy x0 (x1.drop (k+1)) with
   |none=>rfl
   |some j=>
    simp only [B1,B6,BI,Qd]
    rw [show k+1+j=k+(j+1) by omega]
theorem QKQ:LO Qma Ql7 Qyp 0:=QH (s:=QeY) fun x y h _ q=>by simp only [QE,QF] at q;exact (QKP x.1 x.2.1 x.2.2.1 x.2.2.2.1 h).trans q
theorem s_f107 (b:Int)(s t:List Int)(h:Uk b s t=true):Qys b s t=some (.t tI (Zg b s t),[]):=by
 simp only [Uk,Ba] at h
 simp only [Qys,Zg]
 rw [Fi ⟨h.1,h.2,BT 0,by omega⟩,Qd]
 simp only [Bw,BD,DN]
 cases Jy b s<;>simp [Qd,Qh]
def Qyt:Ent:=Ql (.pr tI (.pr (.sl tI) (.pr (.sl tI) .nil))) (fun x=>(Uk x.1 x.2.1 x.2.2.1)) (fun x=>(.t tI (Zg x.1 x.2.1 x.2.2.1)))
theorem QKR:EM 107 Qyt:=mS (lk:=lkL (lkc QKQ lkn)) Qma Qyo [((.t 6),some tI)] false (gB gN) fun m=>Qn m fun x hok=>kT (s_f107 x.1 x.2.1 x.2.2.1 hok)
def tc_f65:TC:=aF Tryz.f65 []
def g_f65:G:=gG 76 [(106,Qyi),(107,Qyt),(108,Qyl)] (fun _ _=>none)
def G5 (p0:Keep):OV:=br (cNz 2) (some (.t tI (Gn .i64 p0.2.1 2),[])) none
def VE (p0:Keep):OV:=br (ieq p0.2.1 160) (G5 p0) (br (ieq p0.2.1 224) (G5 p0) (br (ieq p0.2.1 256) (G5 p0) (br (ieq p0.2.1 384) (G5 p0) (br (ieq p0.2.1 521) (G5 p0) (some (.t tI 0,[]))))))
def Qmb (p0:Keep):OV:=br (Uk p0.2.1 ([128,256]) ([128,256])) (some (.t tI (Zg p0.2.1 ([128,256]) ([128,256])),[])) none
def Qmc (p0:Keep):OV:=br (Uk p0.2.1 ([0]) ([(XI p0.1)])) (some (.t tI (Zg p0.2.1 ([0]) ([(XI p0.1)])),[])) none
def Qmd (p0:Keep):OV:=br (ieq p0.1 9) (br (Uk p0.2.1 ([44,65,87]) ([128,192,256])) (some (.t tI (Zg p0.2.1 ([44,65,87]) ([128,192,256])),[])) none) (br (ieq p0.1 13) (br (Uk p0.2.1 ([512,768,1024]) ([128,192,256])) (some (.t tI (Zg p0.2.1 ([512,768,1024]) ([128,192,256])),[])) none) (br (ieq p0.1 14) (br (Uk p0.2.1 ([40,128]) ([40,60])) (some (.t tI (Zg p0.2.1 ([40,128]) ([40,60])),[])) none) (br (ieq p0.1 15) (br (Uk p0.2.1 ([112,168]) ([80,112])) (some (.t tI (Zg p0.2.1 ([112,168]) ([80,112])),[])) none) (br (ieq p0.1 16) (br (ieq p0.1 16) (Qmb p0) (Qmc p0)) (br (ieq p0.1 17) (Qmb p0) (Qmc p0))))))
def VF (p0:Keep):OV:=br (ieq p0.1 7) (br (ieq p0.1 7) (VE p0) (Qmd p0)) (br (ieq p0.1 12) (VE p0) (Qmd p0))
def r_f65 (p0:Keep):OV:=
 let a1:=U5 p0.2.1
 br (ieq p0.1 5) (br (ieq p0.1 5) (some (.t tI a1,[])) (VF p0)) (br (ieq p0.1 6) (br (ieq p0.1 6) (some (.t tI a1,[])) (VF p0)) (br (ieq p0.1 10) (br (ieq p0.1 10) (some (.t tI a1,[])) (VF p0)) (br (ieq p0.1 11) (some (.t tI a1,[])) (VF p0))))
theorem s_f65 (u:Keep):r_f65 u=some (.t tI (Xh u),[]):=by
 obtain ⟨a,b,c⟩:=u
 have hcv:VE (a,b,c)=some (.t tI (EY b),[]):=by
  have hh:Jo [160,224,256,384,521] b=(ieq b 160||(ieq b 224||(ieq b 256||(ieq b 384||ieq b 521)))):=by
   rw [DC]
   simp [Jo,ieq]
  simp only [VE,G5,show cNz 2=true from rfl,Qd,EY,hh]
  cases ieq b 160<;>cases ieq b 224<;>cases ieq b 256<;>cases ieq b 384<;>cases ieq b 521<;>rfl
 rcases Qyj a with ⟨e,hb⟩|hc
 ·have e2:Xh (a,b,c)=Zg b [0] [XI a]:=by
   unfold Xh
   simp only
   repeat rw [if_neg (by omega)]
  rw [e2]
  simp only [r_f65,VF,VE,G5,Qmd,Qmb,Qmc,e 5 (by decide),e 6 (by decide),e 7 (by decide),e 9 (by decide),e 10 (by decide),e 11 (by decide),e 12 (by decide),e 13 (by decide),e 14 (by decide),e 15 (by decide),e 16 (by decide),e 17 (by decide),Qh]
  rfl
 ·rcases hc with rfl|rfl|rfl|rfl|rfl|rfl|rfl|rfl|rfl|rfl|rfl|rfl|rfl|rfl|rfl|rfl|rfl|rfl|rfl|rfl|rfl|rfl
  all_goals first
   |rfl
   |exact hcv
def Qyu:Ent:=Ql (.pr Qe .nil) (fun x=>true) (fun x=>(.t tI (Xh x.1)))
theorem ms_f65:EM 65 Qyu:=mS g_f65 tc_f65 [((.t 2),some tI)] false (gB (gD QKL (gD QKR (gD QKN gN)))) fun m=>Qn m fun x _=>kT (s_f65 x.1)
def QKS:TC:=aF Tryz.f117 []
def g_f117:G:=gG 6 [(65,Qyu)] (fun _ _=>none)
def r_f117 (p0:Keep):OV:=some (.t .bool (igt (Xh p0) 0),[])
theorem s_f117 (u:Keep):r_f117 u=some (.t .bool (JU u),[]):=rfl
def Qe1:Ent:=Ql (.pr Qe .nil) (fun x=>true) (fun x=>(.t .bool (JU x.1)))
theorem Qme:EM 117 Qe1:=mS g_f117 QKS [((.t 2),some .bool)] false (gB (gD ms_f65 gN)) fun m=>Qn m fun x _=>kT (s_f117 x.1)
end Go.Proofs.YtmjnnemhoeolgaaGreat.K
noncomputable section
namespace Go.Proofs.YtmjnnemhoeolgaaGreat.K
open Go.RowKit
theorem Fl {d:Dice}{l:List Int}(h:dOk d=true):dOk (QM d l)=true:=QO h
theorem Il {d:Dice}{l:List Int}(h:l≠[]):dof d l∈l:=by
 have hl:0<(l.length:Int):=by
  cases l with
  |nil=>exact absurd rfl h
  |cons a l=>rw [Bt];omega
 have h2:=JR (d:=d) hl
 have h3:(Qj d l.length).toNat<l.length:=by omega
 unfold dof
 rw [Bk,Bh h3]
 exact Bu h3
def szL (a:Int):List Int:=
 if a=5∨a=6∨a=10∨a=11 then [2048,1024,512,3072,1023,4096,16384]
 else if a=7∨a=12 then [256,160,224,384,521]
 else if a=9 then [65,44,87]
 else if a=13 then [768,512,1024]
 else if a=14 then [128,40]
 else if a=15 then [168,112]
 else if a=16∨a=17 then [128,256]
 else []
def sizeV (d:Dice)(a:Int):Int:=if szL a=[] then 0 else dof d (szL a)
def sizeN (d:Dice)(a:Int):Dice:=if szL a=[] then d else QM d (szL a)
end Go.Proofs.YtmjnnemhoeolgaaGreat.K
noncomputable section
namespace Go.Proofs.YtmjnnemhoeolgaaGreat.K
open Go.RowKit
noncomputable section
def Wk {α:Type}(l:List α)(n i:Int):Bool:=decide (n=l.length/\0<=i/\i<=n/\l.length<=9223372036854775807)
theorem QrR {α:Type}{l:List α}{n i:Int}(h:Wk l n i=true):n=l.length/\l.length<=9223372036854775807∧ ∃ k:Nat,i=k/\k<=l.length:=by
 simp only [Wk,Ba] at h
 obtain ⟨h1,h2,h3,h4⟩:=h
 exact ⟨h1,h4,i.toNat,by omega,by omega⟩
theorem QrS {α:Type}{l:List α}(h:l.length<=9223372036854775807):Wk l (Qa l) 0=true:=by
 simp only [Wk,Ba,Qa]
 exact ⟨trivial,by omega,by omega,h⟩
theorem Qb6 {k:Nat}(h:k<9223372036854775807):Qf .i64 (k:Int) 1=((k+1:Nat):Int):=by rw [JD (by omega)];omega
def QC {α:Type}(m:α->Bool):List α->Option Nat
 | []=>none
 |a::l=>if m a then some 0 else (QC m l).map (· + 1)
theorem I9 {α:Type}{m:α->Bool}: ∀ {l:List α},QC m l=none↔l.any m=false
 | []=>by simp [QC]
 |a::l=>by
  have ih:=I9 (m:=m) (l:=l)
  unfold QC
  cases h:m a with
  |true=>simp [h]
  |false=>simpa [h] using ih
theorem Qb7 {α:Type}{m:α->Bool}: ∀ {l:List α} {k:Nat},QC m l=some k→ ∃ h:k<l.length,m l[k]=true
 | [],_,h=>by cases h
 |a::l,k,h=>by
  unfold QC at h
  split at h
  ·rename_i ha
   injection h with h
   subst h
   exact ⟨by simp,ha⟩
  ·obtain ⟨j,h1,h2⟩:=Bg.1 h
   subst h2
   obtain ⟨q,h3⟩:=Qb7 h1
   exact ⟨by simp only [Bt];omega,h3⟩
theorem Qb8 {α:Type}{m:α->Bool}{l:List α}:(QC m l).isSome=l.any m:=by
 cases h:QC m l with
 |none=>rw [I9.1 h];rfl
 |some k=>
  obtain ⟨q,h1⟩:=Qb7 h
  exact (List.any_eq_true.2 ⟨l[k],Bu q,h1⟩).symm
theorem GA (s:ByteArray):(QQ s).length=s.size:=by simp [QQ]
def hasS (l:List ByteArray)(v:ByteArray):Bool:=l.any (seq v)
def XU (c:Int):Bool:=decide (32<c/\c<=126)
def Jv (s:ByteArray):Bool:=(QQ s).all XU&&decide (1<=s.size/\s.size<=32)
def Jb (s:ByteArray):Bool:=decide (s.size<=9223372036854775807)
abbrev Qb9:Sh:=⟨[(0,.ty .str),(6,.ty (.sl (.int .u8))),(7,.ty tI),(8,.ty tI)],[]⟩
abbrev Qin:Sh:=⟨[(2,.ty .bool)],[]⟩
abbrev QrT:Sh:=⟨[(0,.ty .str)],[]⟩
def Qio:Fg:=Qb9.f
def QrU:TC:=aF Tryz.f86 [(26,pL 0 Qio),(421,.fg QrT.f),(13517,.fg Qin.f)]
def QrV:TC:=lb 0 QrU
def QrW (x0:ByteArray)(x6:List Int)(x7 x8:Int):VS:=Qb9.st (x0,x6,x7,x8,()) ()
def UG (x2:Bool):VS:=Qin.st (x2,()) ()
def Qip (x0:ByteArray):VS:=QrT.st (x0,()) ()
def QEh:VS->Option (Bool×List (Bool×Exit×VS)):=mkL Qb9 (fun x y=>(Wk x.2.1 x.2.2.1 x.2.2.2.1)) (fun x y=>[((!((x.2.1.drop x.2.2.2.1.toNat).all XU)),.ret,UG (false)),(true,.exit 0,Qip (x.1))])
def Qiq:G:=gG 27 [(31080144,O7)] (Ls [QEh])
def Qca (x0:ByteArray)(x6:List Int)(x7 x8:Int):OX:=Qv (QB Qiq Qio QrV) (QrW x0 x6 x7 x8)
def Oa (kk:ByteArray->List Int->Int->Int->OX)(x0:ByteArray)(x6:List Int)(x7 x8:Int):OX:=
 let a1:=lgt (.int .u8) x6 (Int.toNat x8)
 br (ilt x8 x7) (br (cIx x6 x8) (br (ile a1 32) (some (.ret,UG false)) (br (igt a1 126) (some (.ret,UG false)) (kk x0 x6 x7 (Qf .i64 x8 1)))) none) (some (.exit 0,Qip x0))
def Qcb (x0:ByteArray)(x6:List Int)(x7 x8:Int):OX:=br (!((x6.drop x8.toNat).all XU)) (some (.ret,UG (false)))<|some (.exit 0,Qip (x0))
theorem QrX (x0:ByteArray)(x6:List Int)(x7 x8:Int):Qca x0 x6 x7 x8=Oa Qca x0 x6 x7 x8:=lnT (x:=Oa (fun x0 x6 x7 x8=>some (.normal,QrW x0 x6 x7 x8)) x0 x6 x7 x8) (by simp only [Oa,nxA];rfl)
def r_f86 (p0:ByteArray):OV:=br (Y6 p0) (br (Wk (QQ p0) (Qa (QQ p0)) (0:Int)) (br (!(((QQ p0).drop (0:Int).toNat).all XU)) (some (.t .bool (false),[])) (br (ige (JT (p0)) 1) (some (.t .bool (ile (JT (p0)) 32),[])) (some (.t .bool false,[])))) none) none
theorem QEi (x0:ByteArray)(x6:List Int)(x7 x8:Int)(h:(Wk x6 x7 x8)=true):Qca x0 x6 x7 x8=Qcb x0 x6 x7 x8:=by
 obtain ⟨rfl,h3,k,rfl,hk⟩:=QrR h
 clear h
 refine QU x6 (fun k=>Qca x0 x6 (x6.length:Int) (k:Int)=Qcb x0 x6 (x6.length:Int) (k:Int)) ?_ ?_ k hk
 ·rw [QrX]
  simp [Oa,Qcb,QD,Qh]
 ·intro k hk ih
  rw [QrX]
  simp only [Oa,QD,QJ,hk,Bv,Qd,Bd,Qb6 (show k<9223372036854775807 by omega),QS (y:= .int .u8) hk,ih]
  simp only [Qcb,Bd,Bj hk,BV,XU]
  by_cases c1:x6[k]<=32
  ·rw [show ile x6[k] 32=true from Be c1,Qd,Bo (show ¬ (32<x6[k]/\x6[k]<=126) by omega)]
   rfl
  ·rw [show ile x6[k] 32=false from Bo c1,Qh]
   by_cases c2:126<x6[k]
   ·rw [show igt x6[k] 126=true from Be (by omega),Qd,Bo (show ¬ (32<x6[k]/\x6[k]<=126) by omega)]
    rfl
   ·rw [show igt x6[k] 126=false from Bo (by omega),Qh,Be (show 32<x6[k]/\x6[k]<=126 by omega),BC]
theorem QEj:LO Qiq Qio QrV 0:=QH (s:=Qb9) fun x y h _ q=>by simp only [QE,QF] at q;exact (QEi x.1 x.2.1 x.2.2.1 x.2.2.2.1 h).trans q
theorem s_f86 (s:ByteArray)(h:Jb s=true):r_f86 s=some (.t .bool (Jv s),[]):=by
 simp only [Jb,Ba] at h
 have hl:=GA s
 simp only [r_f86,show Y6 s=true from Be (by omega),QrS (show (QQ s).length<=9223372036854775807 by omega),Qd,Bw,BD,Jv]
 cases (QQ s).all XU with
 |false=>rfl
 |true=>
  simp only [BH,Qh,BC]
  refine QZ (fun g=> ?_) (fun g=> ?_)
  ·simp only [ige,JT,Ba] at g
   apply Fj
   rw [DC]
   simp only [ile,JT,Ba]
   omega
  ·simp only [ige,JT,Bn] at g
   apply Fj
   rw [eq_comm,Bn]
   omega
def Ob:Ent:=Ql (.pr .str .nil) (fun x=>(Jb x.1)) (fun x=>(.t .bool (Jv x.1)))
theorem Qcc:EM 86 Ob:=mS (lk:=lkL (lkc QEj lkn)) Qiq QrU [((.t 2),some .bool)] false (gB (gC Qd0 Qd1 gN)) fun m=>Qn m fun x hok=>kT (s_f86 x.1 hok)
theorem QrY {s:ByteArray}{k:Nat}(h:k<s.size):sgt s (k:Int)=(QQ s)[k]'(by rw [GA];exact h):=by
 have hl:k<s.data.toList.length:=by simpa using h
 simp only [sgt,QQ,Bd,List.getElem_map,Bk,Bh hl,BI]
abbrev Qcd:Sh:=⟨[(0,.ty .str),(3,.ty tI)],[]⟩
abbrev QrZ:Sh:=⟨[],[]⟩
def Qir:Fg:=Qcd.f
def Qr0:TC:=aF Tryz.f116 [(58,pL 0 Qir),(931,.fg QrZ.f),(7461,.fg Qin.f)]
def Qr1:TC:=lb 0 Qr0
def Qr2 (x0:ByteArray)(x3:Int):VS:=Qcd.st (x0,x3,()) ()
def Qis  : VS:=QrZ.st () ()
def QEk:VS->Option (Bool×List (Bool×Exit×VS)):=mkL Qcd (fun x y=>(Jb x.1&&decide (0<=x.2.1/\x.2.1<=x.1.size))) (fun x y=>[((!(((QQ x.1).drop x.2.1.toNat).all XU)),.ret,UG (false)),(true,.exit 0,Qis)])
def Qit:G:=gG 28 [] (Ls [QEk])
def Qce (x0:ByteArray)(x3:Int):OX:=Qv (QB Qit Qir Qr1) (Qr2 x0 x3)
def Oc (kk:ByteArray->Int->OX)(x0:ByteArray)(x3:Int):OX:=br (ilt x3 (JT x0)) (br (cSx x0 x3) (br (ilt (sgt x0 x3) 33) (some (.ret,UG false)) (br (cSx x0 x3) (br (igt (sgt x0 x3) 126) (some (.ret,UG false)) (kk x0 (Qf .i64 x3 1))) none)) none) (some (.exit 0,Qis))
def Qcf (x0:ByteArray)(x3:Int):OX:=br (!(((QQ x0).drop x3.toNat).all XU)) (some (.ret,UG (false)))<|some (.exit 0,Qis)
theorem Qr3 (x0:ByteArray)(x3:Int):Qce x0 x3=Oc Qce x0 x3:=lnT (x:=Oc (fun x0 x3=>some (.normal,Qr2 x0 x3)) x0 x3) (by simp only [Oc,nxA];rfl)
def Qr4 (p0:ByteArray):OV:=br (ilt (JT p0) 1) (some (.t .bool false,[])) (br (igt (JT p0) 32) (some (.t .bool false,[])) (br (Jb p0&&decide (0<=(0:Int)/\(0:Int)<=p0.size)) (br (!(((QQ p0).drop (0:Int).toNat).all XU)) (some (.t .bool (false),[])) (some (.t .bool true,[]))) none))
theorem QEl (x0:ByteArray)(x3:Int)(h:(Jb x0&&decide (0<=x3/\x3<=x0.size))=true):Qce x0 x3=Qcf x0 x3:=by
 simp only [Jb,Bc,Ba] at h
 obtain ⟨h0,h1,h2⟩:=h
 obtain ⟨k,rfl⟩:=Bq h1
 have hl:=GA x0
 refine QU (QQ x0) (fun k=>Qce x0 (k:Int)=Qcf x0 (k:Int)) ?_ ?_ k (by omega)
 ·rw [Qr3]
  simp [Oc,Qcf,ilt,JT,hl,Qh,DP (show (QQ x0).length<=x0.size by omega)]
 ·intro k hk ih
  have hk2:k<x0.size:=by omega
  rw [Qr3]
  simp only [Oc,show ilt (k:Int) (JT x0)=true from by simp only [ilt,JT,Ba];omega,show cSx x0 (k:Int)=true from by simp only [cSx,Ba];omega,Qd,QrY hk2,Qb6 (show k<9223372036854775807 by omega),ih]
  simp only [Qcf,Bd,Bj hk,BV,XU]
  by_cases c1:(QQ x0)[k]<33
  ·rw [show ilt (QQ x0)[k] 33=true from Be c1,Qd,Bo (show ¬ (32<(QQ x0)[k]/\(QQ x0)[k]<=126) by omega)]
   rfl
  ·rw [show ilt (QQ x0)[k] 33=false from Bo c1,Qh]
   by_cases c2:126<(QQ x0)[k]
   ·rw [show igt (QQ x0)[k] 126=true from Be c2,Qd,Bo (show ¬ (32<(QQ x0)[k]/\(QQ x0)[k]<=126) by omega)]
    rfl
   ·rw [show igt (QQ x0)[k] 126=false from Bo c2,Qh,Be (show 32<(QQ x0)[k]/\(QQ x0)[k]<=126 by omega),BC]
theorem QEm:LO Qit Qir Qr1 0:=QH (s:=Qcd) fun x y h _ q=>by simp only [QE,QF] at q;exact (QEl x.1 x.2.1 h).trans q
theorem s_f116 (s:ByteArray)(h:Jb s=true):Qr4 s=some (.t .bool (Jv s),[]):=by
 simp only [Qr4]
 unfold Jv
 refine QZ (fun g=> ?_) (fun g=>QZ (fun g2=> ?_) (fun g2=> ?_))
 ·simp only [ilt,JT,Ba] at g
  rw [Bo (show ¬ (1<=s.size/\s.size<=32) by omega),Bool.and_false]
 ·simp only [igt,JT,Ba] at g2
  rw [Bo (show ¬ (1<=s.size/\s.size<=32) by omega),Bool.and_false]
 ·simp only [ilt,igt,JT,Bn] at g g2
  rw [h,Be (show (0:Int)<=0/\(0:Int)<=s.size by omega),Be (show 1<=s.size/\s.size<=32 by omega),Db,Db,Qd,Bw,BD]
  cases (QQ s).all XU<;>rfl
def Qiu:Ent:=Ql (.pr .str .nil) (fun x=>(Jb x.1)) (fun x=>(.t .bool (Jv x.1)))
theorem Qr5:EM 116 Qiu:=mS (lk:=lkL (lkc QEm lkn)) Qit Qr0 [((.t 2),some .bool)] false (gB gN) fun m=>Qn m fun x hok=>kT (s_f116 x.1 hok)
def YQ (d:Dice)(l:List ByteArray):ByteArray:=l.getD (Qj d l.length).toNat ByteArray.empty
def WV (d:Dice)(l:List ByteArray):Dice:=Qc d l.length
def F9 (d:Dice)(l:List ByteArray):Bool:=dOk d&&decide (0<l.length/\l.length<4611686018427387904)
def tc_f41:TC:=aF Tryz.f41 []
def g_f41:G:=gG 12 [(22,Us)] (fun _ _=>none)
def r_f41 (d0:Dice)(p1:List ByteArray):OV:=br (QV d0 (Qa p1)) (br (cIx p1 (Qj d0 (Qa p1))) (some (.t .str (lgt .str p1 (Int.toNat (Qj d0 (Qa p1)))),[.box (.t QI (Qc d0 (Qa p1)))])) none) none
theorem s_f41 (d:Dice)(l:List ByteArray)(h:F9 d l=true):r_f41 d l=some (.t .str (YQ d l),[.box (.t QI (WV d l))]):=by
 simp only [F9,Bc,Ba] at h
 obtain ⟨h1,h2,h3⟩:=h
 simp only [r_f41]
 have e1:QV d (Qa l)=true:=by simp only [QV,h1,Qa,BC,Ba];omega
 rw [e1,Qd]
 have h4:=JR (d:=d) (n:=Qa l) (by unfold Qa;omega)
 have e2:cIx l (Qj d (Qa l))=true:=by simp only [cIx,Ba];exact h4
 rw [e2,Qd]
 rfl
def Qr6:Ent:=We QI (.pr (.sl .str) .nil) (fun d x=>(F9 d x.1)) (fun d x=>(.t .str (YQ d x.1))) (fun d x=>(WV d x.1))
theorem ms_f41:EM 41 Qr6:=mS g_f41 tc_f41 [((.t 4),some .str)] false (gB (gD Ge gN)) fun m=>Ux m rfl fun d x hok=>kT (s_f41 d x.1 hok)
end
end Go.Proofs.YtmjnnemhoeolgaaGreat.K
noncomputable section
namespace Go.Proofs.YtmjnnemhoeolgaaGreat.K
open Go.RowKit
def byt (n:Int)(k:Nat):Int:=(n / 256 ^ k) % 256
theorem Qge (a:Int):icv .u8 a=a % 256:=by
 show IntKind.u8.wrap a=_
 simp [IntKind.wrap,IntKind.bits,IntKind.signed]
theorem QAk {kd:IntKind}(hb:kd.bits=64)(a:Int)(k:Nat)(hk:k<=8):XO kd a ((8*k:Nat):Int)=a / 256 ^ k:=by
 unfold XO
 rw [Bd,hb,Nat.min_eq_left (by omega),Int.fdiv_eq_ediv_of_nonneg _ (by exact Int.pow_nonneg (by decide)),Int.pow_mul]
 rfl
def WA (n:Int):Nat->List Int
 |0=>[]
 |k+1=>byt n k::WA n k
theorem Qn0 (n:Int): ∀ k,(WA n k).length=k
 |0=>rfl
 |k+1=>by rw [WA,Bt,Qn0 n k]
def nbN (n:Int):Nat:=
 if-128<=n/\n<128 then 1 else if-32768<=n/\n<32768 then 2 else if-8388608<=n/\n<8388608 then 3
 else if-2147483648<=n/\n<2147483648 then 4 else if-549755813888<=n/\n<549755813888 then 5
 else if-140737488355328<=n/\n<140737488355328 then 6 else if-36028797018963968<=n/\n<36028797018963968 then 7 else 8
theorem Qau (n:Int):nbN n<=8:=by unfold nbN;(repeat' split)<;>omega
def YZ (x b:Int):Bool:=(x != 0&&x != -1)||(x==0&&decide (b≥128))||(x== -1&&decide (b<128))
def Zu:Nat->Int->List Int->List Int
 |0,_,b=>b
 |k+1,x,b=>bif YZ x (b.headD 0) then Zu k (x / 256) (x % 256::b) else b
theorem QAl (x y:Int):YZ x y=true↔((x≠0/\x≠ -1)∨(x=0/\y≥128)∨(x= -1/\y<128)):=by simp [YZ,or_assoc]
theorem Fm (n:Int){k:Nat}(h:1<=k):WA n k=byt n (k-1)::WA n (k-1):=by
 obtain ⟨j,rfl⟩: ∃ j,k=j+1:=⟨k-1,by omega⟩
 rfl
theorem Qgf {n:Int}(k:Nat)(h1:k<=8)(h0:1<=k)(h: -9223372036854775808<=n/\n<9223372036854775808):YZ (n / 256 ^ k) (byt n (k-1))=decide (k<nbN n):=by
 have key:((n / 256 ^ k≠0/\n / 256 ^ k≠ -1)∨(n / 256 ^ k=0/\byt n (k-1)≥128)∨(n / 256 ^ k= -1/\byt n (k-1)<128))↔k<nbN n:=by
  unfold nbN byt
  have:k=1∨k=2∨k=3∨k=4∨k=5∨k=6∨k=7∨k=8:=by omega
  rcases this with rfl|rfl|rfl|rfl|rfl|rfl|rfl|rfl<;>simp only [Int.reducePow,Nat.reduceSub]<;>(repeat' split)<;>omega
 rw [DC,QAl,decide_eq_true_iff,key]
theorem QAm (n:Int):1<=nbN n:=by unfold nbN;(repeat' split)<;>omega
theorem Qn1 {n:Int}(h: -9223372036854775808<=n/\n<9223372036854775808): ∀ f k,1<=k->k<=nbN n->nbN n-k<=f->Zu (f+1) (n / 256 ^ k) (WA n k)=WA n (nbN n)
 |0,k,h1,h2,h3=>by
  have e:k=nbN n:=by omega
  rw [Fm n h1,Zu,List.headD_cons,Qgf k (by have:=Qau n;omega) h1 h,Bo (by omega),Da, ← e, ← Fm n h1]
 |f+1,k,h1,h2,h3=>by
  have h8:=Qau n
  rcases B8 k (nbN n) with h4|h4
  ·rw [Fm n h1,Zu,List.headD_cons,Qgf k (by omega) h1 h,Be (by omega),Dh]
   have e:n / 256 ^ k / 256=n / 256 ^ (k+1):=by rw [Int.pow_succ,Int.ediv_ediv_of_nonneg (Int.pow_nonneg (by decide))]
   rw [e, ← Fm n h1]
   exact Qn1 h f (k+1) (by omega) (by omega) (by omega)
  ·have e:k=nbN n:=by omega
   rw [Fm n h1,Zu,List.headD_cons,Qgf k (by omega) h1 h,Bo (by omega),Da, ← e, ← Fm n h1]
def Gf (n:Int):List Int:=WA n (nbN n)
theorem QAn {n:Int}(h: -9223372036854775808<=n/\n<9223372036854775808):Zu 9 (n / 256) [byt n 0]=Gf n:=by
 have:=Qn1 h 8 1 (BL _) (QAm n) (by have:=Qau n;omega)
 simpa [WA,Gf] using this
def Z1:Nat->Nat->List Int
 |0,_=>[]
 |f+1,n=>if n=0 then [] else Z1 f (n / 256)++[((n % 256:Nat):Int)]
def Xl:Nat->Nat->Nat
 |0,_=>0
 |f+1,n=>if n=0 then 0 else Xl f (n / 256)+1
theorem Qgg: ∀ f n,(Z1 f n).length=Xl f n
 |0,_=>rfl
 |f+1,n=>by
  simp only [Z1,Xl]
  split
  ·rfl
  ·rw [Bl,Qgg f];rfl
theorem Qgh: ∀ f n,Xl f n<=f
 |0,_=>BL _
 |f+1,n=>by
  simp only [Xl]
  split
  ·omega
  ·have:=Qgh f (n / 256);omega
theorem QAo (n k:Nat):byt (n:Int) k=((n / 256 ^ k % 256:Nat):Int):=by
 unfold byt
 have:(256:Int) ^ k=((256 ^ k:Nat):Int):=by simp
 rw [this]
 omega
def Ut (n:Nat):List Int:=if n<128 then [(n:Int)] else (((128+Xl 8 n:Nat)):Int)::Z1 8 n
mutual
def Qav:Val->List Int
 |.mk t b _ es=>icv .u8 t::(Ut (b.length+(ZO es).length)++(b++ZO es))
def ZO:List Val->List Int
 | []=>[]
 |v::r=>Qav v++ZO r
end
mutual
def Uu:Val->Nat
 |.mk _ _ _ es=>Fn es+1
def Fn:List Val->Nat
 | []=>0
 |v::r=>max (Uu v) (Fn r)
end
def okV:Nat->Val->Bool
 |0,_=>false
 |n+1,.mk t b nst es=>(t==1||t==2||t==12||t==48)&&(nst==(t==48))&&(bif nst then b.isEmpty else es.isEmpty)&&decide (b.length<=100000/\es.length<=100000)&&es.all (okV n)
theorem Qn2 {n:Nat}{t:Int}{b:List Int}{q:Bool}{es:List Val}(h:okV (n+1) (.mk t b q es)=true):
  (t=1∨t=2∨t=12∨t=48)/\q=(t==48)/\(q=true->b=[])/\(q=false->es=[])/\b.length<=100000/\es.length<=100000∧ ∀ v∈es,okV n v=true:=by
 simp only [okV,Bc,Dd,Dj,Ba,Bf] at h
 obtain ⟨⟨⟨⟨h1,h2⟩,h3⟩,h4⟩,h5⟩:=h
 refine ⟨by omega,h2,fun hq=> ?_,fun hq=> ?_,h4.1,h4.2,h5⟩
 ·rw [hq,Dh] at h3
  exact DJ.1 h3
 ·rw [hq,Da] at h3
  exact DJ.1 h3
theorem okV_up: ∀ {n:Nat} {v:Val},okV n v=true->okV (n+1) v=true
 |0,_,h=>by cases h
 |n+1,.mk t b q es,h=>by
  simp only [okV,Bc,Bf] at h ⊢
  exact ⟨h.1,fun v hv=>by have:=okV_up (h.2 v hv);simpa only [okV] using this⟩
theorem Qn3: ∀ {n:Nat} {es:List Val},(∀ v∈es,Uu v<=n)->Fn es<=n
 |_,[],_=>B3 _
 |n,v::r,h=>by
  rw [Fn]
  have:=h v (by simp)
  have:=Qn3 (es:=r) fun u hu=>h u (by simp [hu])
  omega
theorem Qaw: ∀ {n:Nat} {v:Val},okV n v=true->Uu v<=n
 |0,_,h=>by cases h
 |n+1,.mk t b q es,h=>by
  rw [Uu]
  have:=Qn3 (n:=n) fun v hv=>Qaw ((Qn2 h).2.2.2.2.2.2 v hv)
  omega
theorem QAp (t:Int)(b:List Int)(q:Bool)(es:List Val):b.length+(ZO es).length<=(Qav (.mk t b q es)).length:=by
 rw [Qav,Bt,Bl,Bl]
 omega
end Go.Proofs.YtmjnnemhoeolgaaGreat.K
noncomputable section
namespace Go.Proofs.YtmjnnemhoeolgaaGreat.K
open Go.RowKit
mutual
def V.plain:V->Bool
 |.t (.int _) _=>true
 |.t .bool _=>true
 |.tu vs=>V.plains vs
 |_=>false
def V.plains:List V->Bool
 | []=>true
 |v::vs=>v.plain&&V.plains vs
end
section
variable {X X':Nat->Nat->Prop}{w w':World}{σ σ':Pl}
mutual
theorem QET: ∀ (v:V) (u:Value),v.plain=true->C X w σ v.d u->C X' w' σ' v.d u
 |.t (.int _) x,u,_,h=>by simpa only [V.d,Ty.d,C] using h
 |.t .bool x,u,_,h=>by simpa only [V.d,Ty.d,C] using h
 |.tu vs,u,hp,h=>by
  simp only [V.plain] at hp
  simp only [V.d,C] at h ⊢
  obtain ⟨us,h1,h2⟩:=h
  exact ⟨us,h1,Qs0 vs us hp h2⟩
theorem Qs0: ∀ (vs:List V) (us:List Value),V.plains vs=true->Cs X w σ (V.ds vs) us->Cs X' w' σ' (V.ds vs) us
 | [],us,_,h=>by simpa only [V.ds,Cs] using h
 |v::vs,us,hp,h=>by
  simp only [V.plains,Bc] at hp
  simp only [V.ds,Cs] at h ⊢
  obtain ⟨u,us',h1,h2,h3⟩:=h
  exact ⟨u,us',h1,QET v u hp.1 h2,Qs0 vs us' hp.2 h3⟩
end
end
section
variable {P:Program}
end
end Go.Proofs.YtmjnnemhoeolgaaGreat.K
noncomputable section
namespace Go.Proofs.YtmjnnemhoeolgaaGreat.K
open Go.RowKit
section
variable {P:Program}
theorem QCu {f:FuncId}{e:Nat}{y:Ty}{N:Nat}{ok:(Ty.pr (.sl y) .nil).T->Bool}(hlt:f<1000000)
  (hok: ∀ x,ok x=true->x.1.length<=N)
  (h: ∀ (A:Option Addr) (c n:Nat) (cells:List Value) (w:World),Sl w (.slice A n c) y.sz n cells->(∀ u∈cells,u.oneCell'=true)->n<=N→
   Calls P f #[.slice A n c] w fun r w'=> ∃ sv,r= .returned sv/\w'.ownsRow w.heap.size e y.sz sv n cells/\Below w.heap.size w w'):
  QA P f (Qx (WE (.pr (.sl y) .nil) ok (fun _=> .ms 50000) (fun x=>[.arr e y x.1]))):=by
 intro args objs r os hF X w σ vs hfin hl hc
 unfold Qx WE at hF
 cases objs with
 |cons o os'=>simp at hF
 |nil=>
  simp only at hF
  cases ha:(Ty.pr (.sl y) .nil).args args with
  |none=>rw [ha] at hF;cases hF
  |some x=>
   rw [ha] at hF
   simp only at hF
   split at hF
   ·rename_i r' os' hq
    simp only [Bb,Bm] at hF hq
    obtain ⟨rfl,rfl⟩:=hF
    obtain ⟨h1,rfl,rfl⟩:=hq
    have hcc:=WF ha hc
    obtain ⟨l,u0⟩:=x
    have hlen:=hok _ h1
    simp only [Ty.canon,V.ds,V.d,Ty.d,Cs,C] at hcc
    obtain ⟨u,us,rfl,⟨A,c,rfl,hnc,hmx,hz,hp⟩,rfl⟩:=hcc
    have hsl: ∃ cells,Sl w (.slice A l.length c) y.sz l.length cells/\(∀ u∈cells,u.oneCell'=true)/\Cs X w Q8 (List.flatMap y.cells l) cells:=by
     by_cases hq:l=[]
     ·subst hq
      exact ⟨[],⟨by simp,A,c,rfl,B3 _,hmx,fun hn=>absurd hn (by simp)⟩,fun u hu=>(by cases hu),by simp [Cs]⟩
     ·have hn:0<l.length:=List.length_pos_iff.2 hq
      obtain ⟨b,off,vs,rfl,g1,g2⟩:=hp hn
      have hvl:=Cs.len g1
      rw [WM] at hvl
      exact ⟨vs,⟨hvl,_,c,rfl,hnc,hmx,fun _=>⟨b,off,rfl,g2.lt,fun j u hu=>g2.at_ j u hu⟩⟩,g2.one,g1⟩
    obtain ⟨cells,s1,s2,s3⟩:=hsl
    refine (Qeq hlt (h A c l.length cells w s1 s2 hlen)).mono ?_
    rintro _ w' ⟨sv,rfl,ho,hb⟩
    let X':Nat->Nat->Prop:=fun b q=>X b q∨some b=sv.ownBlock
    let σ':Pl:=fun k=>if k=50000 then .arr sv else σ k
    have hsv:sv.oneCell'=true:=by
     rcases ho.2 with ⟨rfl,_⟩|⟨g,cap,cur,rfl,_⟩<;>rfl
    have hlo: ∀ b,sv.ownBlock=some b->w.heap.size<=b/\b<w'.heap.size:=fun b hbk=>ho.lt b hbk
    have ex:Ext0 X w X' w':=⟨hb.size,fun b q hbl hx=>⟨fun hx'=>by
     rcases hx' with hx'|hx'
     ·exact hx hx'
     ·have:=hlo b hx'.symm
      omega,World.cell?_of_block (w:=w) (a:=⟨b,q,none⟩) (hb.block b hbl)⟩⟩
    have e0:σ' 50000= .arr sv:=if_pos rfl
    refine ⟨sv,X',σ',rfl, ?_,⟨fun b q hq=> ?_,fun j o hj=> ?_,fun i j b hij hi hj=>by simp at hi hj;omega,by simp,fun j hj=>by simp at hj,fun j b _ hj hl=> ?_,QpK hb,fun b q hbl hq=> ?_,fun b q _ _ hq=> .inl hq⟩⟩
    ·simp only [V.d,C]
     exact ⟨e0,hsv⟩
    ·rcases hq with hq|hq
     ·exact BP (hfin b q hq) hb.size
     ·exact (hlo b hq.symm).2
    ·cases j with
     |zero=>
      simp only [BY,Bb] at hj
      subst hj
      have ho0:w'.ownsRow 0 e y.sz sv l.length cells:=by
       refine ⟨ho.1, ?_⟩
       rcases ho.2 with hq|⟨g,cap,cur,q1,q2,q3⟩
       ·exact .inl hq
       ·exact .inr ⟨g,cap,cur,q1,B3 _,q3⟩
      exact ⟨⟨sv,cells,e0,.of ho0,Cs.ext0 ex _ _ (fun _ _=>rfl) s3,s2,fun b hbk o=> .inr hbk.symm⟩,fun _ h=>by cases h⟩
     |succ j=>simp at hj
    ·simp only [Bt,BE] at hj
     have:j=0:=by omega
     subst this
     left
     rw [show 50000+0=50000 from rfl,e0] at hl
     exact (hlo b hl).1
    ·rcases hq with hq|hq
     ·exact hq
     ·have:=hlo b hq.symm
      omega
   ·cases hF
theorem QCv {f:FuncId}{e:Nat}{y:Ty}{a:Ty}{ok:a.T->Bool}{L:a.T->List y.T}(h:QA P f (Qx (WE a ok (fun _=> .ms 50000) (fun x=>[.arr e y (L x)])))):QA P f (Qx (Ql a ok (fun x=> .t (.sl y) (L x)))):=by
 intro args objs r os hF X w σ vs hfin hl hc
 unfold Qx Ql at hF
 cases objs with
 |cons o os'=>simp at hF
 |nil=>
  simp only at hF
  cases ha:a.args args with
  |none=>rw [ha] at hF;cases hF
  |some x=>
   rw [ha] at hF
   simp only at hF
   split at hF
   ·rename_i r' os' hq
    simp only [Bb,Bm] at hF hq
    obtain ⟨rfl,rfl⟩:=hF
    obtain ⟨h1,rfl,rfl⟩:=hq
    have h2:=h args [] (.ms 50000) [.arr e y (L x)] (by unfold Qx WE;simp only [ha,h1]) X w σ vs hfin hl hc
    refine h2.mono ?_
    rintro e0 w' ⟨u,X',σ',rfl,hu,hE⟩
    have hat:=(hE.at_ 0 _ rfl).1
    let X'':Nat->Nat->Prop:=fun b q=>X' b q/\(σ' 50000).blk≠some b
    have ex:Ext X' w' X'' w':=⟨BL _,fun b q _ hx=>⟨fun hx'=>hx hx'.1,rfl⟩,fun _ _ _=>rfl⟩
    have hX: ∀ u b,σ' 50000= .arr u->u.ownBlock=some b→ ∀ q, ¬ X'' b q:=fun u b h1 h2 q hx=>hx.2 (by rw [h1];exact h2)
    have hz:=XS (k:=50000) (y:=y) (l:=L x) (e:=e) hat ex hX (.ms 50000) u hu
    simp only [V.fz,if_true] at hz
    refine ⟨u,X'',σ',rfl,hz,⟨fun b q hq=>hE.fin b q hq.1,fun j o hj=>by simp at hj,fun i j b _ hi=>absurd hi (by simp),by simp,fun j hj=>absurd hj (by simp),fun j b _ hj=>absurd hj (by simp),hE.fr,fun b q hb hq=>hE.sub b q hb hq.1,fun b q hb hn hq=>⟨hE.old b q hb (fun i hi=>absurd hi (by simp)) hq,fun hb2=> ?_⟩⟩⟩
    rcases hE.new 0 b (B3 _) (by simp) hb2 with h3|⟨i,hi,_⟩
    ·omega
    ·exact absurd hi (by simp)
   ·cases hF
end
end Go.Proofs.YtmjnnemhoeolgaaGreat.K
noncomputable section
namespace Go.Proofs.YtmjnnemhoeolgaaGreat.K
open Go.RowKit
noncomputable section
theorem Jj {α:Type}{l l2:List α}{c:Nat}(hc:c<=1000)(h:l.length+l2.length<=100000000000):QK l l2 c=true:=by
 simp only [QK,Ba]
 have:(l.length+l2.length)*(c+1)<=100000000000*1001:=Nat.mul_le_mul h (by omega)
 omega
def QlY (l:List Int):List Int:=l
def QlZ (l:List Int):Bool:=decide (l.length<=4000000)
def Qx2:Ent:=Ql (.pr (.sl (.int .u8)) .nil) (fun x=>(QlZ x.1)) (fun x=>(.t (.sl (.int .u8)) (QlY x.1)))
theorem QKo:J3 Tryz.prog 247:= .inr ⟨by decide,_,Tryz.func247,by kernel_rfl,by kernel_rfl⟩
theorem elemU8:ElemOk Tryz.prog 188 5 1 1:=ElemOk.of (.int .u8 0) (by kernel_rfl) (by kernel_rfl) (by kernel_rfl) (by decide)
theorem QKp {P:Program}(w:World)(t e:TypeId)(a:Option Addr)(l c:Nat)(h:P.underlying t=some (.slice e)):(binOp .eql t (.slice a l c) (.slice none 0 0)).run P w= .ok (.bool a.isNone) w:=by
 simp [binOp,run_equal_slice_nil w t e a l c h]
set_option maxHeartbeats 400000 in
theorem QKq (A:Option Addr)(c n:Nat)(cells:List Value)(w:World)(h:Sl w (.slice A n c) 1 n cells)(h1: ∀ u∈cells,u.oneCell'=true)(hn:n<=4000000):
  Calls Tryz.prog 247 #[.slice A n c] w fun r w'=> ∃ sv,r= .returned sv/\w'.ownsRow w.heap.size 5 1 sv n cells/\Below w.heap.size w w':=by
 have he:=QKp (P:=Tryz.prog) w 188 5 A n c (by kernel_rfl)
 rcases A with _|ad
 ·have hnil:n=0:=Classical.byContradiction fun h0=>by
   obtain ⟨_,A',c',hv,_,_,h3⟩:=h
   obtain ⟨b,off,e,_⟩:=h3 (by omega)
   rw [e] at hv
   simp at hv
  subst hnil
  have hc:cells=[]:=By (by rw [h.1,Nat.zero_mul])
  subst hc
  clear h
  simp only [Option.isNone_none] at he
  go_enter Tryz.func247,Tryz.ntmps247
  go_wp2_with fail
  go_ret
  exact ⟨_,rfl,World.ownsRow_nil _ _ _ _,Below.refl _ _⟩
 ·simp only [Option.isNone_some] at he
  have hown:=World.ownsRow_made w #[] (size:=1) (e:=5) 0 (BL _) (B3 _) rfl
  have hsrc:=h.alloc (.cells #[] 5)
  have HSRC:=Lib.hid hsrc
  clear h hsrc
  go_enter Tryz.func247,Tryz.ntmps247
  go_wp2_with (at_builtin;refine QqH elemU8 rfl _ _ rfl w.heap.size (.slice (some ⟨w.heap.size,0,none⟩) 0 0) 0 [] rfl hown (some ad) n c cells rfl HSRC.out h1 (by omega) (by omega) (by simp) ?_;intro v' w4 hown4 hg4 hat4)
  go_ret
  refine ⟨v',rfl,by simpa using hown4, ?_⟩
  have hal:=(Below.refl w.heap.size w).alloc (BL _) (.cells #[] 5)
  exact QqG hal hg4 (BL _) hal.size
theorem QKr:QA Tryz.prog 247 (Qx Qx2):=
 QCv (a:= .pr (.sl (.int .u8)) .nil) (e:=5) (y:= .int .u8) (L:=fun x=>x.1) (QCu (e:=5) (y:= .int .u8) (by decide) (fun x hx=>Bx hx) fun A c n cells w h h1 hn=>QKq A c n cells w h h1 hn)
def Vy (n:Int):Bool:=decide (1<=n/\n<=255)&&(Gs .i64 n 31 != 31)
def QKs:TC:=aF Tryz.f242 []
def g_f242:G:=gG 14 [] (fun _ _=>none)
def Qx3 (p0:Int):OV:=br (ige p0 1) (br (ile p0 255) (some (.t .bool (ine (Gs .i64 p0 31) 31),[])) (some (.t .bool false,[]))) (some (.t .bool false,[]))
theorem s_f242 (n:Int):Qx3 n=some (.t .bool (Vy n),[]):=by
 simp only [Qx3]
 unfold Vy
 refine QZ (fun h1=>QZ (fun h2=> ?_) (fun h2=> ?_)) (fun h1=> ?_)
 ·simp only [ige,ile,Ba] at h1 h2
  rw [Be (show 1<=n/\n<=255 by omega),BC]
 ·simp only [ige,ile,Ba,Bn] at h1 h2
  rw [Bo (show ¬ (1<=n/\n<=255) by omega),Bool.false_and]
 ·simp only [ige,Bn] at h1
  rw [Bo (show ¬ (1<=n/\n<=255) by omega),Bool.false_and]
def Qx4:Ent:=Ql (.pr tI .nil) (fun x=>true) (fun x=>(.t .bool (Vy x.1)))
theorem QKt:EM 242 Qx4:=mS g_f242 QKs [((.t 2),some .bool)] false (gB gN) fun m=>Qn m fun x _=>kT (s_f242 x.1)
def Vz (n:Int):Bool:=decide (1<=n/\n<=255)&&(Xm n 32 != 31)
def QKu:TC:=aF Tryz.f210 []
def g_f210:G:=gG 14 [] (fun _ _=>none)
def Qx5 (p0:Int):OV:=br (ige p0 1) (br (ile p0 255) (br (cNz 32) (some (.t .bool (ine (Xm p0 32) 31),[])) none) (some (.t .bool false,[]))) (some (.t .bool false,[]))
theorem s_f210 (n:Int):Qx5 n=some (.t .bool (Vz n),[]):=by
 simp only [Qx5,show cNz 32=true from rfl,Qd]
 unfold Vz
 refine QZ (fun h1=>QZ (fun h2=> ?_) (fun h2=> ?_)) (fun h1=> ?_)
 ·simp only [ige,ile,Ba] at h1 h2
  rw [Be (show 1<=n/\n<=255 by omega),BC]
 ·simp only [ige,ile,Ba,Bn] at h1 h2
  rw [Bo (show ¬ (1<=n/\n<=255) by omega),Bool.false_and]
 ·simp only [ige,Bn] at h1
  rw [Bo (show ¬ (1<=n/\n<=255) by omega),Bool.false_and]
def Qx6:Ent:=Ql (.pr tI .nil) (fun x=>true) (fun x=>(.t .bool (Vz x.1)))
theorem QKv:EM 210 Qx6:=mS g_f210 QKu [((.t 2),some .bool)] false (gB gN) fun m=>Qn m fun x _=>kT (s_f210 x.1)
theorem byt_low (n:Nat)(h:n<256):byt (n:Int) 0=n:=by
 rw [QAo]
 simp
 omega
-- loop 0: (x1 : Int) (x5 : Int) (x6 : Int) (Qmz : (List Int)); out: ('exit', 0) (x1 : Int) (x5 : Int) (Qmz : (List Int))
-- loop 1: (x1 : Int) (x7 : Int) (Qmz : (List Int)); out: ('exit', 2) (Qmz : (List Int))
theorem QKw: ∀ (f g n:Nat),n<256 ^ f->n<256 ^ g->Xl f n=Xl g n
 |0,g,n,h1,h2=>by
  have:n=0:=by simpa using h1
  subst this
  cases g<;>rfl
 |f+1,0,n,h1,h2=>by
  have:n=0:=by simpa using h2
  subst this
  rfl
 |f+1,g+1,n,h1,h2=>by
  rw [Xl,Xl]
  split
  ·rfl
  ·rw [Nat.pow_succ] at h1 h2
   rw [QKw f g (n / 256) (by omega) (by omega)]
theorem Ql0 {n:Nat}(h:n<256):icv .u8 (n:Int)=n:=by
 rw [Qge]
 omega
def Uj (n:Int):List Int:=Ut n.toNat
def VA (n:Int):Bool:=decide (0<=n/\n<=1000000000)
abbrev QeT:Sh:=⟨[(0,.ty tI),(3,.ms 3)],[(3,.arr 5 (.int .u8)),(14,.no),(16,.no)]⟩
abbrev Qx7:Sh:=⟨[(3,.ms 3)],[(3,.arr 5 (.int .u8)),(14,.no),(16,.no)]⟩
def Ql1:Fg:=QeT.f
def Qx8:TC:=aF Tryz.f211 [(60,.nw 3 5),(60,pL 0 Ql1),(120,.mv [(14,3)]),(963,.fg Qx7.f)]
def Qx9:TC:=lb 0 Qx8
def Qya (x0:Int)(y3:List Int):VS:=QeT.st (x0,(),()) (y3,(),(),())
def Ql2 (y3:List Int):VS:=Qx7.st ((),()) (y3,(),(),())
def QKx:VS->Option (Bool×List (Bool×Exit×VS)):=mkL QeT (fun x y=>(decide (0<=x.1/\x.1<=1000000000/\y.1.length<=100))) (fun x y=>[(true,.exit 0,Ql2 (Z1 8 x.1.toNat++y.1))])
def Ql3:G:=⟨TYs,[14,23],26,EL [],Wr,(Ls [QKx]),IL [],RL []⟩
def QeU (x0:Int)(y3:List Int):OX:=Qv (QB Ql3 Ql1 Qx9) (Qya x0 y3)
def EX (kk:Int->List Int->OX)(x0:Int)(y3:List Int):OX:=
 let a1:=icv .u8 (Xm x0 256)
 br (igt x0 0) (br (cNz 256) (br (QK ([a1]) y3 1) (br (cNz 256) (kk (Gn .i64 x0 256) (([a1])++y3)) none) none) none) (some (.exit 0,Ql2 y3))
def VB (x0:Int)(y3:List Int):OX:=some (.exit 0,Ql2 (Z1 8 x0.toNat++y3))
theorem Qyb (x0:Int)(y3:List Int):QeU x0 y3=EX QeU x0 y3:=lnT (x:=EX (fun x0 y3=>some (.normal,Qya x0 y3)) x0 y3) (by simp only [EX,nxA];rfl)
def Qyc (p0:Int):OV:=
 let a1:=(Z1 8 p0.toNat++([]:List Int))
 let a2:=icv .u8 (Qf .i64 128 (Qa a1))
 br (ilt p0 128) (some (.t (.sl (.int .u8)) ([(icv .u8 p0)]),[])) (br (decide (0<=p0/\p0<=1000000000/\([]:List Int).length<=100)) (br (QK ([a2]) a1 1) (some (.t (.sl (.int .u8)) (([a2])++a1),[])) none) none)
theorem Qyd: ∀ (f g n:Nat),n<256 ^ f->n<256 ^ g->Z1 f n=Z1 g n
 |0,g,n,h1,h2=>by
  have:n=0:=by simpa using h1
  subst this
  cases g<;>rfl
 |f+1,0,n,h1,h2=>by
  have:n=0:=by simpa using h2
  subst this
  rfl
 |f+1,g+1,n,h1,h2=>by
  rw [Z1,Z1]
  split
  ·rfl
  ·rw [Nat.pow_succ] at h1 h2
   rw [Qyd f g (n / 256) (by omega) (by omega)]
theorem QKy (x0:Int)(y3:List Int)(h:(decide (0<=x0/\x0<=1000000000/\y3.length<=100))=true):QeU x0 y3=VB x0 y3:=by
 simp only [Ba] at h
 obtain ⟨h1,h2,h3⟩:=h
 obtain ⟨n,rfl⟩:=Bq h1
 have key: ∀ (m n:Nat),n<=m->n<=1000000000→ ∀ y3:List Int,y3.length+n<=2000000000->QeU (n:Int) y3=VB (n:Int) y3:=by
  intro m
  induction m with
  |zero=>
   intro n hn _ y3 _
   have:n=0:=by omega
   subst this
   rw [Qyb]
   simp only [EX,VB,show igt ((0:Nat):Int) 0=false from rfl,Qh,Bd,show Z1 8 0=[] from rfl,BR]
  |succ m ih=>
   intro n hn hb y3 h6
   rw [Qyb]
   by_cases h0:n=0
   ·subst h0
    simp only [EX,VB,show igt ((0:Nat):Int) 0=false from rfl,Qh,Bd,show Z1 8 0=[] from rfl,BR]
   ·have e1:Xm (n:Int) 256=((n % 256:Nat):Int):=by
     show (n:Int).tmod 256=_
     rw [Int.tmod_eq_emod_of_nonneg (by omega)]
     omega
    have e2:Gn .i64 (n:Int) 256=((n / 256:Nat):Int):=by
     show IntKind.i64.wrap ((n:Int).tdiv 256)=_
     rw [Int.tdiv_eq_ediv_of_nonneg (by omega),Go.IntWalk.i64_in _ (by omega)]
     omega
    simp only [EX,show igt (n:Int) 0=true from Be (by omega),Qd,show cNz 256=true from rfl,e1,e2,Ql0 (show n % 256<256 by omega)]
    rw [Jj (by omega) (by simp only [Bp];omega),Qd,ih (n / 256) (by omega) (by omega) _ (by simp only [Bl,Bp];omega)]
    simp only [VB,Bd]
    have:Z1 8 n=Z1 8 (n / 256)++[((n % 256:Nat):Int)]:=by
     rw [show Z1 8 n=(if n=0 then [] else Z1 7 (n / 256)++[((n % 256:Nat):Int)]) from rfl,if_neg h0,Qyd 7 8 (n / 256) (by omega) (by omega)]
    rw [this,BQ]
 exact key n n (BL _) (by omega) y3 (by omega)
theorem QKz:LO Ql3 Ql1 Qx9 0:=QH (s:=QeT) fun x y h _ q=>by simp only [QE,QF] at q;exact (QKy x.1 y.1 h).trans q
theorem s_f211 (n:Int)(h:VA n=true):Qyc n=some (.t (.sl (.int .u8)) (Uj n),[]):=by
 simp only [VA,Ba] at h
 obtain ⟨h2,h3⟩:=h
 obtain ⟨n,rfl⟩:=Bq h2
 have hc:=Qgh 8 n
 have hd:=Qgg 8 n
 simp only [Qyc]
 by_cases hn:n<128
 ·rw [show ilt (n:Int) 128=true from Be (by omega),Qd]
  simp only [Uj,Ut,Bd,if_pos hn,Ql0 (show n<256 by omega)]
 ·rw [show ilt (n:Int) 128=false from Bo (by omega),Qh,Be ⟨by omega,by omega,by simp⟩,Qd]
  simp only [Bd,BO,Qa,hd]
  rw [Jj (by omega) (by simp only [Bp];omega),Qd,JD (by omega)]
  have e2:(128+(Xl 8 n:Int))=((128+Xl 8 n:Nat):Int):=by omega
  simp only [Uj,Ut,Bd,if_neg hn]
  rw [e2,Ql0 (by omega),BN]
def Qye:Ent:=Ql (.pr tI .nil) (fun x=>(VA x.1)) (fun x=>(.t (.sl (.int .u8)) (Uj x.1)))
theorem QKA:EM 211 Qye:=mS (lk:=lkL (lkc QKz lkn)) Ql3 Qx8 [((.t 2),some (.sl (.int .u8)))] false (Z2 _ (fun p hp=>by cases hp)) fun m=>Qn m fun x hok=>kT (s_f211 x.1 hok)
end
end Go.Proofs.YtmjnnemhoeolgaaGreat.K
noncomputable section
namespace Go.Proofs.YtmjnnemhoeolgaaGreat.K
open Go.RowKit
noncomputable section
def Ja (n:Int):Qg:=(2,(Gf n,(false,(([]:List Val),()))))
def ZR (n:Int):Bool:=decide (-9223372036854775808<=n/\n<9223372036854775808)
-- loop 0: (x0 : Int) (x4 : Int) (y2 : Qg) (y3 : (List Int)); out: ('exit', 0) (y2 : Qg) (y3 : (List Int))
-- loop 1: (x3 : (List Int)) (y2 : Qg); out: ('exit', 2) (x3 : (List Int)) (y2 : Qg)
abbrev QbN:Sh:=⟨[(2,.ptr 2 0),(3,.ms 7),(4,.ty tI)],[(2,.box Qt),(3,.no),(7,.arr 5 (.int .u8)),(40,.no),(42,.no)]⟩
abbrev Qq2:Sh:=⟨[(2,.ptr 2 0),(3,.ms 7)],[(2,.box Qt),(3,.no),(7,.arr 5 (.int .u8)),(40,.no),(42,.no)]⟩
def QhX:Fg:=QbN.f
def Qq3:TC:=aF Tryz.f190 [(58,.nw 3 5),(58,pL 0 QhX),(116,.mv [(40,7)]),(931,.fg Qq2.f)]
def Qq4:TC:=lb 0 Qq3
def Qq5 (x4:Int)(y2:Qg)(y7:List Int):VS:=QbN.st ((),(),x4,()) (y2,(),y7,(),(),())
def F4 (y2:Qg)(y7:List Int):VS:=Qq2.st ((),(),()) (y2,(),y7,(),(),())
def QDp:VS->Option (Bool×List (Bool×Exit×VS)):=mkL QbN (fun x y=>(decide (-9223372036854775808<=x.2.2.1/\x.2.2.1<9223372036854775808/\1<=y.2.2.1.length/\y.2.2.1.length<=100))) (fun x y=>[(true,.exit 0,F4 (y.1) (Zu 10 x.2.2.1 y.2.2.1))])
def QhY:G:=⟨TYs,[7,40],45,EL [],Wr,(Ls [QDp]),IL [],RL []⟩
def F5 (x4:Int)(y2:Qg)(y7:List Int):OX:=Qv (QB QhY QhX Qq4) (Qq5 x4 y2 y7)
def IY (kk:Int->Qg->List Int->OX)(x4:Int)(y2:Qg)(y7:List Int):OX:=br (QK ([(icv .u8 x4)]) y7 1) (br (decide ((0:Int)<=8)) (kk (XO .i64 x4 8) y2 (([(icv .u8 x4)])++y7)) none) none
def QbO (kk:Int->Qg->List Int->OX)(x4:Int)(y2:Qg)(y7:List Int):OX:=br (ieq x4 (-1)) (br (cIx y7 0) (br (cLd y7 (Int.toNat 0)) (br (ilt (lgt (.int .u8) y7 (Int.toNat 0)) 128) (IY kk x4 y2 y7) (some (.exit 0,F4 y2 y7))) none) none) (some (.exit 0,F4 y2 y7))
def QbP (kk:Int->Qg->List Int->OX)(x4:Int)(y2:Qg)(y7:List Int):OX:=br (ieq x4 0) (br (cIx y7 0) (br (cLd y7 (Int.toNat 0)) (br (ige (lgt (.int .u8) y7 (Int.toNat 0)) 128) (IY kk x4 y2 y7) (QbO kk x4 y2 y7)) none) none) (QbO kk x4 y2 y7)
def QbQ (kk:Int->Qg->List Int->OX)(x4:Int)(y2:Qg)(y7:List Int):OX:=br (ine x4 0) (br (ine x4 (-1)) (IY kk x4 y2 y7) (QbP kk x4 y2 y7)) (QbP kk x4 y2 y7)
def QhZ (x4:Int)(y2:Qg)(y7:List Int):OX:=some (.exit 0,F4 (y2) (Zu 10 x4 y7))
theorem QDq (x4:Int)(y2:Qg)(y7:List Int):F5 x4 y2 y7=QbQ F5 x4 y2 y7:=lnT (x:=QbQ (fun x4 y2 y7=>some (.normal,Qq5 x4 y2 y7)) x4 y2 y7) (by simp only [QbQ,IY,QbP,QbO,nxA];rfl)
def Qq6 (p0:Int):OV:=
 let a1:=XO .i64 p0 8
 br (decide ((0:Int)<=8)) (br (decide (-9223372036854775808<=a1/\a1<9223372036854775808/\1<=([(icv .u8 p0)]).length/\([(icv .u8 p0)]).length<=100)) (some (.t Qt (2,((Zu 10 a1 ([(icv .u8 p0)])),(false,(([]:List Val),())))),[])) none) none
theorem Qq7 (n:Int):XO .i64 n 8=n / 256:=by
 have:=QAk (kd:= .i64) rfl n 1 (by omega)
 rw [show ((8*1:Nat):Int)=8 from rfl] at this
 rw [this]
 rfl
theorem Qh0: ∀ (k:Nat) (x:Int) (b:List Int), -(256 ^ k:Int)<=x->x<256 ^ k→ ∀ f,Zu (k+2+f) x b=Zu (k+2) x b
 |0,x,b,h1,h2,f=>by
  simp only [Int.pow_zero] at h1 h2
  have hx:x= -1∨x=0:=by omega
  have g: ∀ f,Zu (f+2) x b=bif YZ x (b.headD 0) then (x % 256::b) else b:=by
   intro f
   rw [show f+2=(f+1)+1 from rfl,Zu,Zu]
   rcases hx with rfl|rfl
   ·rw [show ((-1:Int) % 256::b).headD 0=255 from rfl,show YZ (-1 / 256) 255=false from rfl];rfl
   ·rw [show ((0:Int) % 256::b).headD 0=0 from rfl,show YZ (0 / 256) 0=false from rfl];rfl
  rw [show 0+2+f=f+2 by omega,g f]
  exact (g 0).symm
 |k+1,x,b,h1,h2,f=>by
  rw [show k+1+2+f=(k+2+f)+1 by omega,Zu,show k+1+2=(k+2)+1 from rfl,Zu]
  have e:(256:Int) ^ (k+1)=256 ^ k*256:=by rw [Int.pow_succ]
  rw [e] at h1 h2
  rw [Qh0 k (x / 256) (x % 256::b) (by omega) (by omega) f]
theorem Qh1 (x:Int)(b:List Int)(h: -9223372036854775808<=x/\x<9223372036854775808):Zu 10 x b=bif YZ x (b.headD 0) then Zu 10 (x / 256) (x % 256::b) else b:=by
 have:=Qh0 8 x b (by omega) (by omega) 1
 rw [←this]
 rfl
theorem QDr (x4:Int)(y2:Qg)(y7:List Int)(h:(decide (-9223372036854775808<=x4/\x4<9223372036854775808/\1<=y7.length/\y7.length<=100))=true):F5 x4 y2 y7=QhZ x4 y2 y7:=by
 simp only [Ba] at h
 obtain ⟨h1,h2,h3,h4⟩:=h
 have step: ∀ (x c:Int) (r:List Int),r.length<=300->F5 x y2 (c::r)=bif YZ x c then F5 (x / 256) y2 (x % 256::c::r) else some (.exit 0,F4 y2 (c::r)):=by
  intro x c r hr
  rw [QDq]
  have e1:cIx (c::r) 0=true:=by simp only [cIx,Bt,Ba];omega
  have e2:cLd (c::r) (Int.toNat 0)=true:=by simp only [cLd,Bt,Ba,Bw];omega
  have e3:lgt (.int .u8) (c::r) (Int.toNat 0)=c:=rfl
  have e4:QK [x % 256] (c::r) 1=true:=Jj (by omega) (by simp only [Bt,BE];omega)
  simp only [QbQ,IY,QbP,QbO,e1,e2,e3,e4,Qd,show decide ((0:Int)<=8)=true from rfl,Qq7,Qge,BN]
  simp only [YZ,ine,ieq,ilt,ige]
  have q1:(x != 0)= !(x==0):=rfl
  have q2:(x != -1)= !(x== -1):=rfl
  rw [q1,q2]
  by_cases hx:x=0
  ·subst hx
   cases decide (c≥128)<;>rfl
  ·by_cases hy:x= -1
   ·subst hy
    cases decide (c<128)<;>rfl
   ·rw [show (x==0)=false from beq_false_of_ne hx,show (x== -1)=false from beq_false_of_ne hy]
    rfl
 have lae: ∀ (x:Int) (y:List Int),QhZ x y2 y=some (.exit 0,F4 y2 (Zu 10 x y)):=fun _ _=>rfl
 have key: ∀ (k:Nat) (x:Int) (y:List Int), -(256 ^ k:Int)<=x->x<256 ^ k->k<=8->1<=y.length->y.length+k<=200→ -9223372036854775808<=x->x<9223372036854775808->F5 x y2 y=QhZ x y2 y:=by
  intro k
  induction k with
  |zero=>
   intro x y g1 g2 g3 g4 g5 g6 g7
   simp only [Int.pow_zero] at g1 g2
   have hx:x= -1∨x=0:=by omega
   obtain ⟨c,r,rfl⟩: ∃ c r,y=c::r:=by
    cases y with
    |nil=>simp at g4
    |cons c r=>exact ⟨c,r,rfl⟩
   simp only [Bt] at g5
   rw [step x c r (by omega),lae,Qh1 x (c::r) ⟨g6,g7⟩,List.headD_cons]
   cases YZ x c with
   |false=>rfl
   |true=>
    rw [Dh,Dh,step (x / 256) (x % 256) (c::r) (by simp only [Bt];omega),Qh1 (x / 256) (x % 256::c::r) (by omega),List.headD_cons]
    have:YZ (x / 256) (x % 256)=false:=by rcases hx with rfl|rfl<;>rfl
    rw [this]
    rfl
  |succ k ih=>
   intro x y g1 g2 g3 g4 g5 g6 g7
   obtain ⟨c,r,rfl⟩: ∃ c r,y=c::r:=by
    cases y with
    |nil=>simp at g4
    |cons c r=>exact ⟨c,r,rfl⟩
   have e:(256:Int) ^ (k+1)=256 ^ k*256:=by rw [Int.pow_succ]
   rw [e] at g1 g2
   simp only [Bt] at g5
   rw [step x c r (by omega),lae,Qh1 x (c::r) ⟨g6,g7⟩,List.headD_cons]
   cases YZ x c with
   |false=>rfl
   |true=>
    rw [Dh,Dh,ih (x / 256) (x % 256::c::r) (by omega) (by omega) (by omega) (by simp) (by simp only [Bt];omega) (by omega) (by omega),lae]
 exact key 8 x4 y7 (by omega) (by omega) (by omega) h3 (by omega) (by omega) (by omega)
theorem QDs:LO QhY QhX Qq4 0:=QH (s:=QbN) fun x y h _ q=>by simp only [QE,QF] at q;exact (QDr x.2.2.1 y.1 y.2.2.1 h).trans q
theorem s_f190 (n:Int)(h:ZR n=true):Qq6 n=some (.t Qt (Ja n),[]):=by
 have h1:=h
 simp only [ZR,Ba] at h1
 have e0:icv .u8 n=byt n 0:=by
  rw [Qge]
  simp [byt]
 simp only [Qq6,show decide ((0:Int)<=8)=true from rfl,Qd,Qq7,e0]
 rw [Be ⟨by omega,by omega,by simp,by simp⟩,Qd]
 have e1:=Qh0 7 (n / 256) [byt n 0] (by omega) (by omega) 1
 rw [show Zu 10 (n / 256) [byt n 0]=Zu 9 (n / 256) [byt n 0] from e1,QAn h1]
 rfl
def Qh2:Ent:=Ql (.pr tI .nil) (fun x=>(ZR x.1)) (fun x=>(.t Qt (Ja x.1)))
theorem Qq8:EM 190 Qh2:=mS (lk:=lkL (lkc QDs lkn)) QhY Qq3 [((.c 2 true 4),some Qt)] false (Z2 _ (fun p hp=>by cases hp)) fun m=>Qn m fun x hok=>kT (s_f190 x.1 hok)
def J7 (s:ByteArray):Qg:=(12,(QQ s,(false,(([]:List Val),()))))
def g_f230:G:=gG 6 [(31080144,O7)] (fun _ _=>none)
theorem gk_f230:GOk Tryz.prog g_f230:=Z2 _ (gA (gC Qd0 Qd1 gN))
def QDt:TC:=aF Tryz.f188 []
def g_f188:G:=gG 6 [(31080144,O7)] (fun _ _=>none)
def Qq9 (p0:ByteArray):OV:=br (Y6 p0) (some (.t Qt (12,((QQ p0),(false,(([]:List Val),())))),[])) none
theorem s_f188 (s:ByteArray)(h:Y6 s=true):Qq9 s=some (.t Qt (J7 s),[]):=by
 simp only [Qq9,h,Qd]
 rfl
def Qra:Ent:=Ql (.pr .str .nil) (fun x=>(Y6 x.1)) (fun x=>(.t Qt (J7 x.1)))
theorem QDu:EM 188 Qra:=mS g_f188 QDt [((.c 2 true 4),some Qt)] false (gB (gC Qd0 Qd1 gN)) fun m=>Qn m fun x hok=>kT (s_f188 x.1 hok)
def WQ (b:Bool):Qg:=(1,([bif b then 255 else 0],(false,(([]:List Val),()))))
def QDv:TC:=aF Tryz.f192 []
def g_f192:G:=gG 8 [] (fun _ _=>none)
def r_f192 (p0:Bool):OV:=br (p0) (some (.t Qt (1,([255],(false,(([]:List Val),())))),[])) (some (.t Qt (1,([0],(false,(([]:List Val),())))),[]))
theorem s_f192 (b:Bool):r_f192 b=some (.t Qt (WQ b),[]):=by cases b<;>rfl
def Qrb:Ent:=Ql (.pr .bool .nil) (fun x=>true) (fun x=>(.t Qt (WQ x.1)))
theorem QDw:EM 192 Qrb:=mS g_f192 QDv [((.c 2 true 4),some Qt)] false (gB gN) fun m=>Qn m fun x _=>kT (s_f192 x.1)
end
end Go.Proofs.YtmjnnemhoeolgaaGreat.K
noncomputable section
set_option linter.unusedSectionVars false
namespace Go.Proofs.YtmjnnemhoeolgaaGreat.K
open Go.RowKit
noncomputable section
def okT (n:Nat)(x:Qg):Bool:=okV n (Val.of x)
theorem Qc4 {n:Nat}{v:Val}:okT n v.un=okV n v:=by rw [okT,Val.of_un]
theorem W5 {n:Nat}{x:Qg}(h:okT (n+1) x=true):
  (x.1=1∨x.1=2∨x.1=12∨x.1=48)/\x.2.2.1=(x.1==48)/\(x.2.2.1=true->x.2.1=[])/\(x.2.2.1=false->x.2.2.2.1=[])/\x.2.1.length<=100000/\x.2.2.2.1.length<=100000∧ ∀ v∈x.2.2.2.1,okV n v=true:=by
 obtain ⟨t,b,q,es,_⟩:=x
 exact Qn2 h
def Zn:Nat->List Qg->Bool
 |0,_=>false
 |n+1,l=>decide (l.length<=100000)&&l.all (okT n)
theorem QF0 {n:Nat}{es:List Val}(hl:es.length<=100000)(h: ∀ v∈es,okV n v=true):Zn (n+1) (es.map Val.un)=true:=by
 simp only [Zn,Bc,Ba,BM,Bf,B9]
 refine ⟨hl, ?_⟩
 rintro x ⟨v,hv,rfl⟩
 rw [Qc4]
 exact h v hv
theorem Qt4 {n:Nat}{x:Qg}(h:okT n x=true):Zn n (x.2.2.2.1.map Val.un)=true:=by
 cases n with
 |zero=>obtain ⟨t,b,q,es,_⟩:=x;cases h
 |succ n=>
  obtain ⟨_,_,_,_,_,h6,h7⟩:=W5 h
  exact QF0 h6 h7
theorem GH (es:List Val):List.map Val.of (List.map Val.un es)=es:=by
 rw [DG]
 have:(Val.of ∘ Val.un)=id:=funext Val.of_un
 rw [this,List.map_id]
def Wn (l:List Qg):List Qg:=l
def XW (l:List Qg):Bool:=Zn 12 l
theorem Qt5 {n:Nat}{x:Qg}(h:okT n x=true):x.2.1.length<=100000:=by
 cases n with
 |zero=>obtain ⟨t,b,q,es,_⟩:=x;cases h
 |succ n=>exact (W5 h).2.2.2.2.1
theorem QF1:J3 Tryz.prog 240:= .inr ⟨by decide,_,Tryz.func240,by kernel_rfl,by kernel_rfl⟩
def El [Fuel]:Ent:=Ql (.pr (.sl Qt) .nil) (fun x=>(Zn Jd x.1)) (fun x=>(.t (.sl Qt) (Wn x.1)))
theorem QF2:J3 Tryz.prog 240:=QF1
section
variable [Fuel][Nonempty (PLift (QA Tryz.prog 240 (Qx El)))]
theorem QF3:QA Tryz.prog 240 (Qx El):=(Classical.choice (inferInstance:Nonempty (PLift (QA Tryz.prog 240 (Qx El))))).down
def OC [Fuel](l:List Qg):Bool:=Zn (Jd+1) l
abbrev Qc5:Sh:=⟨[(3,.ms 3),(6,.ty (.sl Qt)),(7,.ty tI),(8,.ty tI)],[(3,.arr 225 Qt),(23,.no)]⟩
abbrev Qt6:Sh:=⟨[(3,.ms 3)],[(3,.arr 225 Qt),(23,.no)]⟩
def QjE:Fg:=Qc5.f
def Qc6:TC:=aF Tryz.f240 [(58,.nw 3 225),(58,pL 0 QjE),(933,.fg Qt6.f),(7474,pD [(0,[5]),(1,[5]),(2,[]),(3,[5]),(4,[5]),(5,[]),(6,[5]),(7,[5]),(8,[5]),(9,[5])] (.of [0,1,2,3,4,5,6,7,8,9]))]
def Qt7:TC:=lb 0 Qc6
def Qt8:List (RV×Option Ty):=[((.t 2),some (.sl Qt))]
def Qt9 (x6:List Qg)(x7 x8:Int)(y3:List Qg):VS:=Qc5.st ((),x6,x7,x8,()) (y3,(),())
def QjF (y3:List Qg):VS:=Qt6.st ((),()) (y3,(),())
def QF4:VS->Option (Bool×List (Bool×Exit×VS)):=mkL Qc5 (fun x y=>(Qz x.2.1 x.2.2.1 x.2.2.2.1&&OC x.2.1&&decide (y.1.length+x.2.1.length<=200000+x.2.2.2.1.toNat))) (fun x y=>[(true,.exit 0,QjF (y.1++x.2.1.drop x.2.2.2.1.toNat))])
def Em:G:=gG 26 [(240,El),(247,Qx2)] (Ls [QF4])
def Qc7 (x6:List Qg)(x7 x8:Int)(y3:List Qg):OX:=Qv (QB Em QjE Qt7) (Qt9 x6 x7 x8 y3)
def OD (kk:List Qg->Int->Int->List Qg->OX)(x6:List Qg)(x7 x8:Int)(y3:List Qg):OX:=
 let a2:=((lgt Qt x6 (Int.toNat x8)).2)
 let a1:=((lgt Qt x6 (Int.toNat x8)).1,((QlY (a2.1)),((a2.2).1,((List.map Val.of (List.map Val.un (List.map Val.of (Wn (List.map Val.un (((a2.2).2).1)))))),()))))
 br (ilt x8 x7) (br (cIx x6 x8) (br (QlZ (a2.1)) (br (Zn Jd (List.map Val.un (((a2.2).2).1))) (br (QK y3 ([a1]) 64) (kk x6 x7 (Qf .i64 x8 1) (y3++([a1]))) none) none) none) none) (some (.exit 0,QjF y3))
def Qc8 (x6:List Qg)(x7 x8:Int)(y3:List Qg):OX:=some (.exit 0,QjF (y3++x6.drop x8.toNat))
theorem Qua (x6:List Qg)(x7 x8:Int)(y3:List Qg):Qc7 x6 x7 x8 y3=OD Qc7 x6 x7 x8 y3:=lnT (x:=OD (fun x6 x7 x8 y3=>some (.normal,Qt9 x6 x7 x8 y3)) x6 x7 x8 y3) (by simp only [OD,nxA];rfl)
def QjG (p0:List Qg):OV:=br (Qz p0 (Qa p0) (0:Int)&&OC p0&&decide (([]:List Qg).length+p0.length<=200000+(0:Int).toNat)) (some (.t (.sl Qt) (([]:List Qg)++p0.drop (0:Int).toNat),[])) none
theorem e_f240 (p0:List Qg):JS Em Qc6 Qt8 false [.t (.sl Qt) p0] []=QjG p0:=by kernel_rfl
theorem QF5:GOk Tryz.prog Em:=Z2 _ (gA (gC QF2 QF3 (gC QKo QKr gN)))
theorem QF6 (x6:List Qg)(x7 x8:Int)(y3:List Qg)(h:(Qz x6 x7 x8&&OC x6&&decide (y3.length+x6.length<=200000+x8.toNat))=true):Qc7 x6 x7 x8 y3=Qc8 x6 x7 x8 y3:=by
 simp only [Bc,Ba] at h
 obtain ⟨⟨h0,hc⟩,h2⟩:=h
 obtain ⟨rfl,h3,k,rfl,hk⟩:=JJ h0
 clear h0
 rw [Bd] at h2
 simp only [OC,Zn,Bc,Bf] at hc
 revert y3
 refine QU x6 (fun k=> ∀ y3:List Qg,y3.length+x6.length<=200000+k->Qc7 x6 (x6.length:Int) (k:Int) y3=Qc8 x6 (x6.length:Int) (k:Int) y3) ?_ ?_ k hk
 ·intro y3 _
  rw [Qua]
  simp [OD,Qc8,QD,Qh]
 ·intro k hk ih y3 hy
  rw [Qua]
  have hx:=hc.2 x6[k] (Bu hk)
  have e1:QlZ x6[k].2.1=true:=Be (by have:=Qt5 hx;omega)
  have e2:Zn Jd (List.map Val.un x6[k].2.2.2.1)=true:=Qt4 hx
  simp only [OD,QD,QJ,hk,Bv,Qd,Bd,QT (show k<4611686018427387904 by omega),QS (y:=Qt) hk,e1,e2,QlY,Wn,GH]
  rw [Jj (by omega) (by simp only [Bp];omega),Qd,ih _ (by simp only [Bl,Bp];omega)]
  simp only [Qc8,Bd,Bj hk,BQ,BN]
theorem QF7:LO Em QjE Qt7 0:=QH (s:=Qc5) fun x y h _ q=>by simp only [QE,QF] at q;exact (QF6 x.2.1 x.2.2.1 x.2.2.2.1 y.1 h).trans q
theorem QF8:Qc6.lok Em:=by
 repeat (first|exact trivial|exact QF7|refine ⟨?_, ?_⟩)
theorem s_f240 (l:List Qg)(h:Zn (Jd+1) l=true):QjG l=some (.t (.sl Qt) (Wn l),[]):=by
 have hl:l.length<=100000:=by simp only [Zn,Bc,Ba] at h;exact h.1
 simp only [QjG,JK hl,show OC l=true from h,BC,BE,Bw,BD,BR]
 rw [Be (by omega),Qd]
 rfl
theorem QF9:QA Tryz.prog 240 (JS Em Qc6 Qt8 false):=mG Tryz.func240 (by kernel_rfl) Tryz.ntmps240 (by kernel_rfl) QF5 QF8
end
theorem QGa: ∀ N:Nat,QA Tryz.prog 240 (Qx (@El ⟨N⟩))
 |0=>FB fun x=>by first|rfl|simp [Zn]
 |N+1=>by
  letI:Fuel:=⟨N⟩
  haveI:Nonempty (PLift (QA Tryz.prog 240 (Qx El))):=⟨⟨QGa N⟩⟩
  exact Qn QF9 fun x hok=>(e_f240 x.1).trans (s_f240 x.1 hok)
theorem QGb (l:List Qg)(h:XW l=true): ∃ N,Zn N l=true:=⟨12,h⟩
theorem Qub:J3 Tryz.prog 212:= .inr ⟨by decide,_,Tryz.func212,by kernel_rfl,by kernel_rfl⟩
def En [Fuel]:Ent:=Ql (.pr (.sl Qt) .nil) (fun x=>(Zn Jd x.1)) (fun x=>(.t (.sl Qt) (Wn x.1)))
theorem QGc:J3 Tryz.prog 212:=Qub
section
variable [Fuel][Nonempty (PLift (QA Tryz.prog 212 (Qx En)))]
theorem QGd:QA Tryz.prog 212 (Qx En):=(Classical.choice (inferInstance:Nonempty (PLift (QA Tryz.prog 212 (Qx En))))).down
def OE [Fuel](l:List Qg):Bool:=Zn (Jd+1) l
abbrev Qc9:Sh:=⟨[(0,.ty (.sl Qt)),(3,.ms 3),(4,.ty tI)],[(3,.arr 225 Qt),(28,.no)]⟩
abbrev Quc:Sh:=⟨[(3,.ms 3)],[(3,.arr 225 Qt),(28,.no)]⟩
def QjH:Fg:=Qc9.f
def Qda:TC:=aF Tryz.f212 [(58,.nf 5 1 5 20501),(58,.nw 3 225),(58,pL 0 QjH),(931,.fg Quc.f)]
def Qud:TC:=lb 0 Qda
def Que:List (RV×Option Ty):=[((.t 2),some (.sl Qt))]
def Quf (x0:List Qg)(x4:Int)(y3:List Qg):VS:=Qc9.st (x0,(),x4,()) (y3,(),())
def QjI (y3:List Qg):VS:=Quc.st ((),()) (y3,(),())
def QGe:VS->Option (Bool×List (Bool×Exit×VS)):=mkL Qc9 (fun x y=>(X9 x.1 x.2.2.1&&OE x.1&&decide (y.1.length+x.1.length<=200000+x.2.2.1.toNat))) (fun x y=>[(true,.exit 0,QjI (y.1++x.1.drop x.2.2.1.toNat))])
def Eo:G:=⟨TYs,[16],30,EL [(212,En)],Wr,(Ls [QGe]),IL [],RL []⟩
def Qdb (x0:List Qg)(x4:Int)(y3:List Qg):OX:=Qv (QB Eo QjH Qud) (Quf x0 x4 y3)
def OF (kk:List Qg->Int->List Qg->OX)(x0:List Qg)(x4:Int)(y3:List Qg):OX:=
 let a1:=lgt Qt x0 (Int.toNat x4)
 let a2:=(((a1.2).2).1,((List.map Val.of (Wn (List.map Val.un ((((a1.2).2).2).1)))),()))
 br (ilt x4 (Qa x0)) (br (cIx x0 x4) (br (QK ([]:List Int) ((a1.2).1) 1) (br (Zn Jd (List.map Val.un ((((a1.2).2).2).1))) (br (QK y3 ([(a1.1,((([]:List Int)++((a1.2).1)),a2))]) 64) (kk x0 (Qf .i64 x4 1) (y3++([(a1.1,((([]:List Int)++((a1.2).1)),a2))]))) none) none) none) none) (some (.exit 0,QjI y3))
def Qdc (x0:List Qg)(x4:Int)(y3:List Qg):OX:=some (.exit 0,QjI (y3++x0.drop x4.toNat))
theorem Qug (x0:List Qg)(x4:Int)(y3:List Qg):Qdb x0 x4 y3=OF Qdb x0 x4 y3:=lnT (x:=OF (fun x0 x4 y3=>some (.normal,Quf x0 x4 y3)) x0 x4 y3) (by simp only [OF,nxA];rfl)
def QjJ (p0:List Qg):OV:=br (X9 p0 (0:Int)&&OE p0&&decide (([]:List Qg).length+p0.length<=200000+(0:Int).toNat)) (some (.t (.sl Qt) (([]:List Qg)++p0.drop (0:Int).toNat),[])) none
theorem e_f212 (p0:List Qg):JS Eo Qda Que false [.t (.sl Qt) p0] []=QjJ p0:=by kernel_rfl
theorem QGf:GOk Tryz.prog Eo:=Z2 _ (gA (gC QGc QGd gN))
theorem QGg (x0:List Qg)(x4:Int)(y3:List Qg)(h:(X9 x0 x4&&OE x0&&decide (y3.length+x0.length<=200000+x4.toNat))=true):Qdb x0 x4 y3=Qdc x0 x4 y3:=by
 simp only [Bc,Ba,X9] at h
 obtain ⟨⟨⟨h0,h1,h3⟩,hc⟩,h2⟩:=h
 obtain ⟨k,rfl⟩:=Bq h0
 rw [Bd] at h2
 simp only [OE,Zn,Bc,Bf] at hc
 revert y3
 refine QU x0 (fun k=> ∀ y3:List Qg,y3.length+x0.length<=200000+k->Qdb x0 (k:Int) y3=Qdc x0 (k:Int) y3) ?_ ?_ k (by omega)
 ·intro y3 _
  rw [Qug]
  simp [OF,Qdc,ilt,Qa,Qh]
 ·intro k hk ih y3 hy
  rw [Qug]
  have hx:=hc.2 x0[k] (Bu hk)
  have e2:Zn Jd (List.map Val.un x0[k].2.2.2.1)=true:=Qt4 hx
  simp only [OF,show ilt (k:Int) (Qa x0)=true from Be (by simp only [Qa];omega),QJ,hk,Bv,Qd,Bd,QT (show k<4611686018427387904 by omega),QS (y:=Qt) hk,e2,Wn,GH]
  rw [Jj (by omega) (by have:=Qt5 hx;simp only [BE];omega),Qd,Jj (by omega) (by simp only [Bp];omega),Qd,ih _ (by simp only [Bl,Bp];omega)]
  simp only [Qdc,Bd,Bj hk,BQ,BN,BR]
theorem QGh:LO Eo QjH Qud 0:=QH (s:=Qc9) fun x y h _ q=>by simp only [QE,QF] at q;exact (QGg x.1 x.2.2.1 y.1 h).trans q
theorem QGi:Qda.lok Eo:=by
 repeat (first|exact trivial|exact QGh|refine ⟨?_, ?_⟩)
theorem s_f212 (l:List Qg)(h:Zn (Jd+1) l=true):QjJ l=some (.t (.sl Qt) (Wn l),[]):=by
 have hl:l.length<=100000:=by simp only [Zn,Bc,Ba] at h;exact h.1
 simp only [QjJ,show X9 l 0=true from Be (by omega),show OE l=true from h,BC,BE,Bw,BD,BR]
 rw [Be (by omega),Qd]
 rfl
theorem QGj:QA Tryz.prog 212 (JS Eo Qda Que false):=mG Tryz.func212 (by kernel_rfl) Tryz.ntmps212 (by kernel_rfl) QGf QGi
end
theorem Quh: ∀ N:Nat,QA Tryz.prog 212 (Qx (@En ⟨N⟩))
 |0=>FB fun x=>by first|rfl|simp [Zn]
 |N+1=>by
  letI:Fuel:=⟨N⟩
  haveI:Nonempty (PLift (QA Tryz.prog 212 (Qx En))):=⟨⟨Quh N⟩⟩
  exact Qn QGj fun x hok=>(e_f212 x.1).trans (s_f212 x.1 hok)
def Qui:Ent:=Ql (.pr (.sl Qt) .nil) (fun x=>(XW x.1)) (fun x=>(.t (.sl Qt) (Wn x.1)))
theorem QGk:QA Tryz.prog 212 (Qx Qui):=Qa6 Quh fun x hok=>QGb x.1 hok
end
end Go.Proofs.YtmjnnemhoeolgaaGreat.K
noncomputable section
set_option linter.unusedSectionVars false
namespace Go.Proofs.YtmjnnemhoeolgaaGreat.K
open Go.RowKit
noncomputable section
theorem QjZ {n:Nat}{x:Qg}(h:okT (n+1) x=true): ∀ k (hk:k<(List.map Val.un x.2.2.2.1).length),okT n (List.map Val.un x.2.2.2.1)[k]=true:=by
 intro k hk
 rw [List.getElem_map,Qc4]
 exact (W5 h).2.2.2.2.2.2 _ (Bu _)
def Wo (_x:Qg):Bool:=true
def Qdp (x:Qg):Bool:=okT 12 x
theorem QG7 (x:Qg)(h:Qdp x=true): ∃ N,okT N x=true:=⟨12,h⟩
theorem QG8:J3 Tryz.prog 237:= .inr ⟨by decide,_,Tryz.func237,by kernel_rfl,by kernel_rfl⟩
def Ex [Fuel]:Ent:=Ql (.pr Qt .nil) (fun x=>(okT Jd x.1)) (fun x=>(.t .bool (Wo x.1)))
theorem QG9:J3 Tryz.prog 237:=QG8
section
variable [Fuel][Nonempty (PLift (QA Tryz.prog 237 (Qx Ex)))]
theorem QHa:QA Tryz.prog 237 (Qx Ex):=(Classical.choice (inferInstance:Nonempty (PLift (QA Tryz.prog 237 (Qx Ex))))).down
def Qdq (_x:Qg):Bool:=false
def Qdr [Fuel](x:Qg):Bool:=okT Jd x
def Xd [Fuel](l:List Qg):Bool:=decide (l.length<=100000)&&l.all (okT Jd)
def QHb:TC:=aF Tryz.f244 []
def g_f244:G:=gG 6 [(237,Ex)] (fun _ _=>none)
def QuZ (p0:Qg):OV:=br (okT Jd p0) (some (.t .bool (!(Wo p0)),[])) none
theorem s_f244 (x:Qg)(h:Qdr x=true):QuZ x=some (.t .bool (Qdq x),[]):=by
 simp only [QuZ,show okT Jd x=true from h,Qd]
 rfl
def Qu0:Ent:=Ql (.pr Qt .nil) (fun x=>(Qdr x.1)) (fun x=>(.t .bool (Qdq x.1)))
theorem QHc:EM 244 Qu0:=mS g_f244 QHb [((.t 2),some .bool)] false (gB (gC QG9 QHa gN)) fun m=>Qn m fun x hok=>kT (s_f244 x.1 hok)
def Qj0 (_l:List Qg):Int:= -1
abbrev Qds:Sh:=⟨[(0,.ty (.sl Qt)),(1,.cf 244),(7,.ty tI),(8,.ty tI)],[]⟩
abbrev Qu1:Sh:=⟨[(4,.ty tI)],[]⟩
abbrev Qdt:Sh:=⟨[],[]⟩
def Qj1:Fg:=Qds.f
def Qu2:TC:=aF Tryz.f248 [(26,pL 0 Qj1),(421,.fg Qdt.f),(13517,.fg Qu1.f)]
def Qu3:TC:=lb 0 Qu2
def Qu4 (x0:List Qg)(x7 x8:Int):VS:=Qds.st (x0,(),x7,x8,()) ()
def Qj2 (x4:Int):VS:=Qu1.st (x4,()) ()
def Qj3  : VS:=Qdt.st () ()
def QHd:VS->Option (Bool×List (Bool×Exit×VS)):=mkL Qds (fun x y=>(Qz x.1 x.2.2.1 x.2.2.2.1&&Xd x.1)) (fun x y=>[((false),.ret,Qj2 (x.2.2.2.1)),(true,.exit 0,Qj3)])
def Qj4:G:=gG 19 [(244,Qu0)] (Ls [QHd])
def Qdu (x0:List Qg)(x7 x8:Int):OX:=Qv (QB Qj4 Qj1 Qu3) (Qu4 x0 x7 x8)
def ON (kk:List Qg->Int->Int->OX)(x0:List Qg)(x7 x8:Int):OX:=
 let a1:=lgt Qt x0 (Int.toNat x8)
 br (ilt x8 x7) (br (cIx x0 x8) (br (Qdr a1) (br (Qdq a1) (some (.ret,Qj2 x8)) (kk x0 x7 (Qf .i64 x8 1))) none) none) (some (.exit 0,Qj3))
def Qj5 (x0:List Qg)(x7 x8:Int):OX:=br (false) (some (.ret,Qj2 (x8)))<|some (.exit 0,Qj3)
theorem Qu5 (x0:List Qg)(x7 x8:Int):Qdu x0 x7 x8=ON Qdu x0 x7 x8:=lnT (x:=ON (fun x0 x7 x8=>some (.normal,Qu4 x0 x7 x8)) x0 x7 x8) (by simp only [ON,nxA];rfl)
def Qu6 (p0:List Qg):OV:=br (Qz p0 (Qa p0) (0:Int)&&Xd p0) (br (false) (some (.t tI (0:Int),[])) (some (.t tI (-1),[]))) none
theorem QHe (x0:List Qg)(x7 x8:Int)(h:(Qz x0 x7 x8&&Xd x0)=true):Qdu x0 x7 x8=Qj5 x0 x7 x8:=by
 simp only [Bc] at h
 obtain ⟨h0,hc⟩:=h
 obtain ⟨rfl,h3,k,rfl,hk⟩:=JJ h0
 clear h0
 simp only [Xd,Bc,Bf] at hc
 refine QU x0 (fun k=>Qdu x0 (x0.length:Int) (k:Int)=Qj5 x0 (x0.length:Int) (k:Int)) ?_ ?_ k hk
 ·rw [Qu5]
  simp [ON,Qj5,QD,Qh]
 ·intro k hk ih
  rw [Qu5]
  have hx:=hc.2 x0[k] (Bu hk)
  simp only [ON,QD,QJ,hk,Bv,Qd,Bd,QT (show k<4611686018427387904 by omega),QS (y:=Qt) hk,show Qdr x0[k]=true from hx,Qdq,Qh,ih]
  rfl
theorem QHf:LO Qj4 Qj1 Qu3 0:=QH (s:=Qds) fun x y h _ q=>by simp only [QE,QF] at q;exact (QHe x.1 x.2.2.1 x.2.2.2.1 h).trans q
theorem QHg (l:List Qg)(h:Xd l=true):Qu6 l=some (.t tI (Qj0 l),[]):=by
 have hl:l.length<=100000:=by simp only [Xd,Bc,Ba] at h;exact h.1
 simp only [Qu6,JK hl,h,BC,Qd,Qh]
 rfl
def Qu7:Ent:=ZP [.ty (.sl Qt),.cf 244] [] (fun x d=>(Xd x.1)) (fun x d=>(.t tI (Qj0 x.1)))
theorem QHh:EM 248 Qu7:=mS (lk:=lkL (lkc QHf lkn)) Qj4 Qu2 [((.t 4),some tI)] false (gB (gD QHc gN)) fun m=>ZG m fun x d hok=>kT (QHg x.1 hok)
def Qj6 (_l:List Qg):Bool:=false
def QHi:TC:=aF Tryz.f243 []
def QHj:G:=gG 9 [(248,Qu7)] (fun _ _=>none)
def Qu8 (p0:List Qg):OV:=br (Xd p0) (some (.t .bool (ige (Qj0 p0) 0),[])) none
theorem QHk (l:List Qg)(h:Xd l=true):Qu8 l=some (.t .bool (Qj6 l),[]):=by
 simp only [Qu8,h,Qd]
 rfl
def Qu9:Ent:=ZP [.ty (.sl Qt),.cf 244] [] (fun x d=>(Xd x.1)) (fun x d=>(.t .bool (Qj6 x.1)))
theorem QHl:EM 243 Qu9:=mS QHj QHi [((.t 4),some .bool)] false (gB (gD QHh gN)) fun m=>ZG m fun x d hok=>kT (QHk x.1 hok)
def Qj7:TC:=aF Tryz.f237 []
def Qva:List (RV×Option Ty):=[((.t 2),some .bool)]
def Qdv:G:=gG 41 [(242,Qx4),(243,Qu9)] (fun _ _=>none)
def Qj8 (p0:Qg):OV:=
 let a1:=List.map Val.un p0.2.2.2.1
 br (Xd a1) (some (.t .bool (!(Qj6 a1)),[])) none
def Qj9 (p0:Qg):OV:=br (!p0.2.2.1) (br (igt (Qa (List.map Val.un p0.2.2.2.1)) 0) (some (.t .bool false,[])) (Qj8 p0)) (Qj8 p0)
def Qka (p0:Qg):OV:=br (!(Vy p0.1)) (some (.t .bool false,[])) (br (FF p0.2.2.1 (ine (Gs .i64 p0.1 32) 0)) (some (.t .bool false,[])) (br (p0.2.2.1) (br (igt (Qa p0.2.1) 0) (some (.t .bool false,[])) (Qj9 p0)) (Qj9 p0)))
theorem e_f237 (p0:Qg):JS Qdv Qj7 Qva false [.t Qt p0] []=Qka p0:=by kernel_rfl
theorem QHm:GOk Tryz.prog Qdv:=Z2 _ (gA (gD QKt (gD QHl gN)))
theorem QHn:Qj7.lok Qdv:=by repeat (first|exact trivial|refine ⟨?_, ?_⟩)
theorem s_f237 (x:Qg)(h:okT (Jd+1) x=true):Qka x=some (.t .bool (Wo x),[]):=by
 obtain ⟨h1,h2,h3,h4,h5,h6,h7⟩:=W5 h
 have hu:Xd (List.map Val.un x.2.2.2.1)=true:=by
  simp only [Xd,Bc,Ba,BM,Bf,B9]
  refine ⟨h6, ?_⟩
  rintro y ⟨v,hv,rfl⟩
  rw [Qc4]
  exact h7 v hv
 have ht:Vy x.1=true:=by rcases h1 with e|e|e|e<;>rw [e]<;>rfl
 have hn:FF x.2.2.1 (ine (Gs .i64 x.1 32) 0)=false:=by rw [h2];rcases h1 with e|e|e|e<;>rw [e]<;>rfl
 simp only [Qka,Qj9,Qj8,ht,hn,hu,BH,Qd,Qh]
 cases hq:x.2.2.1 with
 |true=>
  rw [h3 hq]
  rfl
 |false=>
  rw [h4 hq]
  rfl
theorem QHo:QA Tryz.prog 237 (JS Qdv Qj7 Qva false):=mG Tryz.func237 (by kernel_rfl) Tryz.ntmps237 (by kernel_rfl) QHm QHn
end
theorem QHp: ∀ N:Nat,QA Tryz.prog 237 (Qx (@Ex ⟨N⟩))
 |0=>FB fun x=>by first|rfl|simp [okT]
 |N+1=>by
  letI:Fuel:=⟨N⟩
  haveI:Nonempty (PLift (QA Tryz.prog 237 (Qx Ex))):=⟨⟨QHp N⟩⟩
  exact Qn QHo fun x hok=>(e_f237 x.1).trans (s_f237 x.1 hok)
theorem Qvb:J3 Tryz.prog 185:= .inr ⟨by decide,_,Tryz.func185,by kernel_rfl,by kernel_rfl⟩
def Ey [Fuel]:Ent:=Ql (.pr Qt .nil) (fun x=>(okT Jd x.1)) (fun x=>(.t .bool (Wo x.1)))
theorem QHq:J3 Tryz.prog 185:=Qvb
section
variable [Fuel][Nonempty (PLift (QA Tryz.prog 185 (Qx Ey)))]
theorem QHr:QA Tryz.prog 185 (Qx Ey):=(Classical.choice (inferInstance:Nonempty (PLift (QA Tryz.prog 185 (Qx Ey))))).down
def Qdw [Fuel](x:Qg):Bool:=okT (Jd+1) x
abbrev Qdx:Sh:=⟨[(1,.ptr 1 0),(3,.ty tI)],[(1,.box Qt)]⟩
abbrev Qvc:Sh:=⟨[(2,.ty .bool)],[]⟩
def Qkb:Fg:=Qdx.f
def Qdy:TC:=aF Tryz.f185 [(58,pL 0 Qkb),(931,.fg Qdt.f),(7461,.fg Qvc.f)]
def Qvd:TC:=lb 0 Qdy
def Qve:List (RV×Option Ty):=[((.t 2),some .bool)]
def Qvf (x3:Int)(y1:Qg):VS:=Qdx.st ((),x3,()) (y1,())
def Qkc (x2:Bool):VS:=Qvc.st (x2,()) ()
def Qkd  : VS:=Qdt.st () ()
def QHs:VS->Option (Bool×List (Bool×Exit×VS)):=mkL Qdx (fun x y=>(decide (0<=x.2.1/\x.2.1<=y.1.2.2.2.1.length)&&Qdw y.1)) (fun x y=>[((false),.ret,Qkc (false)),(true,.exit 0,Qkd)])
def Ez:G:=gG 53 [(185,Ey),(210,Qx6)] (Ls [QHs])
def Qdz (x3:Int)(y1:Qg):OX:=Qv (QB Ez Qkb Qvd) (Qvf x3 y1)
def OO (kk:Int->Qg->OX)(x3:Int)(y1:Qg):OX:=
 let a1:=List.map Val.un y1.2.2.2.1
 let a2:=lgt Qt a1 (Int.toNat x3)
 br (ilt x3 (Qa a1)) (br (cIx a1 x3) (br (okT Jd a2) (br (!(Wo a2)) (some (.ret,Qkc false)) (kk (Qf .i64 x3 1) y1)) none) none) (some (.exit 0,Qkd))
def Qke (x3:Int)(y1:Qg):OX:=br (false) (some (.ret,Qkc (false)))<|some (.exit 0,Qkd)
theorem Qvg (x3:Int)(y1:Qg):Qdz x3 y1=OO Qdz x3 y1:=lnT (x:=OO (fun x3 y1=>some (.normal,Qvf x3 y1)) x3 y1) (by simp only [OO,nxA];rfl)
def Qkf (p0:Qg):OV:=br (decide (0<=(0:Int)/\(0:Int)<=p0.2.2.2.1.length)&&Qdw p0) (br (false) (some (.t .bool (false),[])) (some (.t .bool true,[]))) none
def Qkg (p0:Qg):OV:=br (!p0.2.2.1) (br (igt (Qa (List.map Val.un p0.2.2.2.1)) 0) (some (.t .bool false,[])) (Qkf p0)) (Qkf p0)
def Qkh (p0:Qg):OV:=br (!(Vz p0.1)) (some (.t .bool false,[])) (br (cNz 32) (br (cNz 2) (br (FF p0.2.2.1 (ieq (Xm (Gn .i64 p0.1 32) 2) 1)) (some (.t .bool false,[])) (br (p0.2.2.1) (br (igt (Qa p0.2.1) 0) (some (.t .bool false,[])) (Qkg p0)) (Qkg p0))) none) none)
theorem e_f185 (p0:Qg):JS Ez Qdy Qve false [.t Qt p0] []=Qkh p0:=by kernel_rfl
theorem QHt:GOk Tryz.prog Ez:=Z2 _ (gA (gC QHq QHr (gD QKv gN)))
theorem QHu (x3:Int)(y1:Qg)(h:(decide (0<=x3/\x3<=y1.2.2.2.1.length)&&Qdw y1)=true):Qdz x3 y1=Qke x3 y1:=by
 simp only [Bc,Ba] at h
 obtain ⟨⟨h0,h1⟩,hc⟩:=h
 obtain ⟨k,rfl⟩:=Bq h0
 have hm:=QjZ hc
 have hl:=(W5 hc).2.2.2.2.2.1
 refine QU (List.map Val.un y1.2.2.2.1) (fun k=>Qdz (k:Int) y1=Qke (k:Int) y1) ?_ ?_ k (by rw [BM];omega)
 ·rw [Qvg]
  simp [OO,Qke,ilt,Qa,Qh]
 ·intro k hk ih
  rw [Qvg]
  have hk2:k<y1.2.2.2.1.length:=by rw [BM] at hk;exact hk
  simp only [OO,show ilt (k:Int) (Qa (List.map Val.un y1.2.2.2.1))=true from Be (by simp only [Qa];omega),QJ,hk,Bv,Qd,Bd,QT (show k<4611686018427387904 by omega),QS (y:=Qt) hk,hm k hk,Wo,BH,Qh,ih]
  rfl
theorem QHv:LO Ez Qkb Qvd 0:=QH (s:=Qdx) fun x y h _ q=>by simp only [QE,QF] at q;exact (QHu x.2.1 y.1 h).trans q
theorem QHw:Qdy.lok Ez:=by
 repeat (first|exact trivial|exact QHv|refine ⟨?_, ?_⟩)
theorem s_f185 (x:Qg)(h:okT (Jd+1) x=true):Qkh x=some (.t .bool (Wo x),[]):=by
 obtain ⟨h1,h2,h3,h4,h5,h6,h7⟩:=W5 h
 have ht:Vz x.1=true:=by rcases h1 with e|e|e|e<;>rw [e]<;>rfl
 have hn:FF x.2.2.1 (ieq (Xm (Gn .i64 x.1 32) 2) 1)=false:=by rw [h2];rcases h1 with e|e|e|e<;>rw [e]<;>rfl
 have hd:decide ((0:Int)<=0/\(0:Int)<=x.2.2.2.1.length)=true:=Be (by omega)
 simp only [Qkh,Qkg,Qkf,ht,hn,hd,show Qdw x=true from h,B2,show cNz 32=true from rfl,show cNz 2=true from rfl,BH,Qd,Qh]
 cases hq:x.2.2.1 with
 |true=>
  rw [h3 hq]
  rfl
 |false=>
  rw [h4 hq]
  rfl
theorem QHx:QA Tryz.prog 185 (JS Ez Qdy Qve false):=mG Tryz.func185 (by kernel_rfl) Tryz.ntmps185 (by kernel_rfl) QHt QHw
end
theorem Qvh: ∀ N:Nat,QA Tryz.prog 185 (Qx (@Ey ⟨N⟩))
 |0=>FB fun x=>by first|rfl|simp [okT]
 |N+1=>by
  letI:Fuel:=⟨N⟩
  haveI:Nonempty (PLift (QA Tryz.prog 185 (Qx Ey))):=⟨⟨Qvh N⟩⟩
  exact Qn QHx fun x hok=>(e_f185 x.1).trans (s_f185 x.1 hok)
def Qvi:Ent:=Ql (.pr Qt .nil) (fun x=>(Qdp x.1)) (fun x=>(.t .bool (Wo x.1)))
theorem QHy:QA Tryz.prog 185 (Qx Qvi):=Qa6 Qvh fun x hok=>QG7 x.1 hok
def dpV (x:Qg):Int:=(Uu (Val.of x):Int)
def YS (n:Nat)(x:Qg):Bool:=okT n x&&decide (n<=100)
def QdA (x:Qg):Bool:=okT 12 x
theorem QHz (x:Qg)(h:QdA x=true): ∃ N,YS N x=true:=⟨12,by rw [YS,show okT 12 x=true from h];rfl⟩
def W7 (l:List Qg):Nat:=Fn (l.map Val.of)
theorem QHA:W7 []=0:=rfl
theorem QHB (x:Qg)(l:List Qg):W7 (x::l)=max (Uu (Val.of x)) (W7 l):=rfl
theorem QdB (x:Qg):Uu (Val.of x)=Fn x.2.2.2.1+1:=rfl
theorem QHC (a b:Nat):imx (a:Int) (b:Int)=((max a b:Nat):Int):=by
 unfold imx
 split<;>omega
def QHD [Fuel]:Ent:=Ql (.pr Qt .nil) (fun x=>(YS Jd x.1)) (fun x=>(.t tI (dpV x.1)))
section
variable [Fuel][Nonempty (PLift (QA Tryz.prog 238 (Qx QHD)))]
def Qki [Fuel](l:List Qg):Bool:=decide (l.length<=100000/\Jd+1<=100)&&l.all (okT Jd)
-- loop 0: (x3 : Int) (x7 : (List Qg)) (x8 : Int) (x9 : Int); out: ('exit', 0) (x3 : Int)
def Qvj (p0:Qg):OV:=
 let a1:=List.map Val.un p0.2.2.2.1
 br (Qz a1 (Qa a1) (0:Int)&&Qki a1&&decide (0<=(0:Int)/\(0:Int)<=100)) (some (.t tI (Qf .i64 ((max (0:Int).toNat (W7 (a1.drop (0:Int).toNat)):Nat):Int) 1),[])) none
theorem s_f238 (x:Qg)(h:YS (Jd+1) x=true):Qvj x=some (.t tI (dpV x),[]):=by
 simp only [YS,Bc,Ba] at h
 obtain ⟨h,hf⟩:=h
 obtain ⟨h1,h2,h3,h4,h5,h6,h7⟩:=W5 h
 have hu:Qki (List.map Val.un x.2.2.2.1)=true:=by
  simp only [Qki,Bc,Ba,BM,Bf,B9]
  refine ⟨⟨h6,hf⟩, ?_⟩
  rintro y ⟨v,hv,rfl⟩
  rw [Qc4]
  exact h7 v hv
 have hd:=Qaw (v:=Val.of x) h
 rw [QdB] at hd
 simp only [Qvj,JK (show (List.map Val.un x.2.2.2.1).length<=100000 by rw [BM];exact h6),hu,B2,show decide ((0:Int)<=0/\(0:Int)<=100)=true from rfl,Qd,Bw,BD,W7,GH,Nat.zero_max]
 rw [JD (by omega)]
 simp only [dpV,QdB]
 congr 2
end
theorem Qvk:J3 Tryz.prog 186:= .inr ⟨by decide,_,Tryz.func186,by kernel_rfl,by kernel_rfl⟩
def EA [Fuel]:Ent:=Ql (.pr Qt .nil) (fun x=>(YS Jd x.1)) (fun x=>(.t tI (dpV x.1)))
theorem QHE:J3 Tryz.prog 186:=Qvk
section
variable [Fuel][Nonempty (PLift (QA Tryz.prog 186 (Qx EA)))]
theorem QHF:QA Tryz.prog 186 (Qx EA):=(Classical.choice (inferInstance:Nonempty (PLift (QA Tryz.prog 186 (Qx EA))))).down
def OP [Fuel](x:Qg):Bool:=YS (Jd+1) x
abbrev QdC:Sh:=⟨[(1,.ptr 1 0),(3,.ty tI),(4,.ty tI)],[(1,.box Qt)]⟩
abbrev Qvl:Sh:=⟨[(3,.ty tI)],[]⟩
def Qkj:Fg:=QdC.f
def QdD:TC:=aF Tryz.f186 [(58,pL 0 Qkj),(931,.fg Qvl.f)]
def Qvm:TC:=lb 0 QdD
def Qvn:List (RV×Option Ty):=[((.t 2),some tI)]
def Qvo (x3 x4:Int)(y1:Qg):VS:=QdC.st ((),x3,x4,()) (y1,())
def Qkk (x3:Int):VS:=Qvl.st (x3,()) ()
def QHG:VS->Option (Bool×List (Bool×Exit×VS)):=mkL QdC (fun x y=>(decide (0<=x.2.2.1/\x.2.2.1<=y.1.2.2.2.1.length/\0<=x.2.1/\x.2.1<=100)&&OP y.1)) (fun x y=>[(true,.exit 0,Qkk ((max x.2.1.toNat (W7 ((List.map Val.un y.1.2.2.2.1).drop x.2.2.1.toNat)):Nat):Int))])
def EB:G:=gG 22 [(186,EA)] (Ls [QHG])
def QdE (x3 x4:Int)(y1:Qg):OX:=Qv (QB EB Qkj Qvm) (Qvo x3 x4 y1)
def OQ (kk:Int->Int->Qg->OX)(x3 x4:Int)(y1:Qg):OX:=
 let a1:=List.map Val.un y1.2.2.2.1
 let a2:=lgt Qt a1 (Int.toNat x4)
 br (ilt x4 (Qa a1)) (br (cIx a1 x4) (br (YS Jd a2) (kk (imx x3 (dpV a2)) (Qf .i64 x4 1) y1) none) none) (some (.exit 0,Qkk x3))
def QdF (x3 x4:Int)(y1:Qg):OX:=some (.exit 0,Qkk ((max x3.toNat (W7 ((List.map Val.un y1.2.2.2.1).drop x4.toNat)):Nat):Int))
theorem Qvp (x3 x4:Int)(y1:Qg):QdE x3 x4 y1=OQ QdE x3 x4 y1:=lnT (x:=OQ (fun x3 x4 y1=>some (.normal,Qvo x3 x4 y1)) x3 x4 y1) (by simp only [OQ,nxA];rfl)
def Qkl (p0:Qg):OV:=br (decide (0<=(0:Int)/\(0:Int)<=p0.2.2.2.1.length/\0<=(0:Int)/\(0:Int)<=100)&&OP p0) (some (.t tI (Qf .i64 ((max (0:Int).toNat (W7 ((List.map Val.un p0.2.2.2.1).drop (0:Int).toNat)):Nat):Int) 1),[])) none
theorem e_f186 (p0:Qg):JS EB QdD Qvn false [.t Qt p0] []=Qkl p0:=by kernel_rfl
theorem QHH:GOk Tryz.prog EB:=Z2 _ (gA (gC QHE QHF gN))
theorem QHI (x3 x4:Int)(y1:Qg)(h:(decide (0<=x4/\x4<=y1.2.2.2.1.length/\0<=x3/\x3<=100)&&OP y1)=true):QdE x3 x4 y1=QdF x3 x4 y1:=by
 simp only [Bc,Ba] at h
 obtain ⟨⟨h0,h1,h2,h3⟩,hc⟩:=h
 obtain ⟨k,rfl⟩:=Bq h0
 obtain ⟨m,rfl⟩:=Bq h2
 clear h2 h3
 simp only [OP,YS,Bc,Ba] at hc
 obtain ⟨hc,hf⟩:=hc
 have hm:=QjZ hc
 have hl:=(W5 hc).2.2.2.2.2.1
 revert m
 refine QU (List.map Val.un y1.2.2.2.1) (fun k=> ∀ m:Nat,QdE (m:Int) (k:Int) y1=QdF (m:Int) (k:Int) y1) ?_ ?_ k (by rw [BM];omega)
 ·intro m
  rw [Qvp]
  simp only [OQ,show ilt ((List.map Val.un y1.2.2.2.1).length:Int) (Qa (List.map Val.un y1.2.2.2.1))=false from Bo (by simp only [Qa];omega),Qh]
  simp only [QdF,Bd,BU,QHA,Nat.max_zero]
 ·intro k hk ih m
  rw [Qvp]
  have hk2:k<y1.2.2.2.1.length:=by rw [BM] at hk;exact hk
  have hd:YS Jd (List.map Val.un y1.2.2.2.1)[k]=true:=by rw [YS,hm k hk,Be (by omega)];rfl
  simp only [OQ,show ilt (k:Int) (Qa (List.map Val.un y1.2.2.2.1))=true from Be (by simp only [Qa];omega),QJ,hk,Bv,Qd,Bd,QT (show k<4611686018427387904 by omega),QS (y:=Qt) hk,hd,dpV,QHC,ih]
  simp only [QdF,Bd,Bj hk,QHB,Nat.max_assoc]
theorem QHJ:LO EB Qkj Qvm 0:=QH (s:=QdC) fun x y h _ q=>by simp only [QE,QF] at q;exact (QHI x.2.1 x.2.2.1 y.1 h).trans q
theorem QHK:QdD.lok EB:=by
 repeat (first|exact trivial|exact QHJ|refine ⟨?_, ?_⟩)
theorem s_f186 (x:Qg)(h:YS (Jd+1) x=true):Qkl x=some (.t tI (dpV x),[]):=by
 have hin:OP x=true:=h
 simp only [YS,Bc,Ba] at h
 obtain ⟨h,hf⟩:=h
 have hd:=Qaw (v:=Val.of x) h
 rw [QdB] at hd
 have hdd:decide ((0:Int)<=0/\(0:Int)<=x.2.2.2.1.length/\(0:Int)<=0/\(0:Int)<=100)=true:=Be (by omega)
 simp only [Qkl,hin,hdd,B2,Qd,Bw,BD,W7,GH,Nat.zero_max]
 rw [JD (by omega)]
 simp only [dpV,QdB]
 congr 2
theorem QHL:QA Tryz.prog 186 (JS EB QdD Qvn false):=mG Tryz.func186 (by kernel_rfl) Tryz.ntmps186 (by kernel_rfl) QHH QHK
end
theorem Qvq: ∀ N:Nat,QA Tryz.prog 186 (Qx (@EA ⟨N⟩))
 |0=>FB fun x=>by first|rfl|simp [YS]
 |N+1=>by
  letI:Fuel:=⟨N⟩
  haveI:Nonempty (PLift (QA Tryz.prog 186 (Qx EA))):=⟨⟨Qvq N⟩⟩
  exact Qn QHL fun x hok=>(e_f186 x.1).trans (s_f186 x.1 hok)
def Qvr:Ent:=Ql (.pr Qt .nil) (fun x=>(QdA x.1)) (fun x=>(.t tI (dpV x.1)))
theorem QHM:QA Tryz.prog 186 (Qx Qvr):=Qa6 Qvq fun x hok=>QHz x.1 hok
end
end Go.Proofs.YtmjnnemhoeolgaaGreat.K
noncomputable section
set_option linter.unusedSectionVars false
namespace Go.Proofs.YtmjnnemhoeolgaaGreat.K
open Go.RowKit
noncomputable section
def Zq (x:Qg):List Int:=Qav (Val.of x)
def Zv (l:List Qg):List Int:=ZO (l.map Val.of)
theorem I6:Zv []=[]:=rfl
theorem Gz (x:Qg)(l:List Qg):Zv (x::l)=Zq x++Zv l:=rfl
theorem Qb0 (x:Qg):Zq x=icv .u8 x.1::(Ut (x.2.1.length+(ZO x.2.2.2.1).length)++(x.2.1++ZO x.2.2.2.1)):=rfl
theorem QrD (x:Qg):x.2.1.length+(ZO x.2.2.2.1).length<=(Zq x).length:=QAp x.1 x.2.1 x.2.2.1 x.2.2.2.1
theorem QrE: ∀ (l:List Qg) (k:Nat) (hk:k<l.length),(Zv (l.take k)).length+(Zq l[k]).length<=(Zv l).length
 | [],k,hk=>by simp at hk
 |x::l,0,_=>by
  rw [List.take_zero,I6,Gz,Bl]
  simp
 |x::l,k+1,hk=>by
  simp only [Bt] at hk
  have:=QrE l k (by omega)
  simp only [List.take_succ_cons,Gz,Bl,DI]
  omega
theorem Qb1 (n:Nat):(Ut n).length<=9:=by
 unfold Ut
 split
 ·simp
 ·rw [Bt,Qgg]
  have:=Qgh 8 n
  omega
def XT (n:Nat)(x:Qg):Bool:=okT n x&&decide ((Zq x).length<=100000000)
def WT (x:Qg):Bool:=okT 12 x&&decide ((Zq x).length<=100000000)
theorem QD2 (x:Qg)(h:WT x=true): ∃ N,XT N x=true:=⟨12,h⟩
theorem QrF:J3 Tryz.prog 187:= .inr ⟨by decide,_,Tryz.func187,by kernel_rfl,by kernel_rfl⟩
def F7 [Fuel]:Ent:=Ql (.pr Qt .nil) (fun x=>(XT Jd x.1)) (fun x=>(.t (.sl (.int .u8)) (Zq x.1)))
theorem QD3:J3 Tryz.prog 187:=QrF
section
variable [Fuel][Nonempty (PLift (QA Tryz.prog 187 (Qx F7)))]
theorem QD4:QA Tryz.prog 187 (Qx F7):=(Classical.choice (inferInstance:Nonempty (PLift (QA Tryz.prog 187 (Qx F7))))).down
def I7 [Fuel](x:Qg):Bool:=XT (Jd+1) x
abbrev Qb2:Sh:=⟨[(1,.ptr 1 0),(3,.ms 5),(4,.ty tI)],[(1,.box Qt),(3,.no),(5,.arr 5 (.int .u8)),(8,.no),(23,.no)]⟩
abbrev QrG:Sh:=⟨[(1,.ptr 1 0),(3,.ms 5)],[(1,.box Qt),(3,.no),(5,.arr 5 (.int .u8)),(8,.no),(23,.no)]⟩
def Qij:Fg:=Qb2.f
def Qb3:TC:=aF Tryz.f187 [(58,.nw 3 5),(58,pL 0 Qij),(931,.fg QrG.f),(30,pD [(0,[1]),(1,[1]),(2,[]),(3,[27,5027,10027,15027]),(4,[3,5,8,23]),(5,[3,5,8,23]),(6,[]),(7,[27,31,5031,10031,15031]),(8,[3,5,8,23]),(9,[3,5,8,23,27,31,33,5033,10033,15033]),(10,[27,31,33])] (.of [0,1,2,4,5,6,8,3,7,9,10]))]
def QrH:TC:=lb 0 Qb3
def QrI:List (RV×Option Ty):=[((.t 2),some (.sl (.int .u8)))]
def QrJ (x4:Int)(y1:Qg)(y5:List Int):VS:=Qb2.st ((),(),x4,()) (y1,(),y5,(),(),())
def Qik (y1:Qg)(y5:List Int):VS:=QrG.st ((),(),()) (y1,(),y5,(),(),())
def QD5:VS->Option (Bool×List (Bool×Exit×VS)):=mkL Qb2 (fun x y=>(decide (0<=x.2.2.1/\x.2.2.1<=y.1.2.2.2.1.length/\y.2.2.1.length+(Zv ((List.map Val.un y.1.2.2.2.1).drop x.2.2.1.toNat)).length<=1000000000)&&I7 y.1)) (fun x y=>[(true,.exit 0,Qik (y.1) (y.2.2.1++Zv ((List.map Val.un y.1.2.2.2.1).drop x.2.2.1.toNat)))])
def F8:G:=⟨TYs,[5,27],34,EL [(187,F7),(211,Qye)],Wr,(Ls [QD5]),IL [],RL []⟩
def Qb4 (x4:Int)(y1:Qg)(y5:List Int):OX:=Qv (QB F8 Qij QrH) (QrJ x4 y1 y5)
def I8 (kk:Int->Qg->List Int->OX)(x4:Int)(y1:Qg)(y5:List Int):OX:=
 let a2:=List.map Val.un y1.2.2.2.1
 let a1:=lgt Qt a2 (Int.toNat x4)
 br (ilt x4 (Qa a2)) (br (cIx a2 x4) (br (XT Jd a1) (br (QK y5 (Zq a1) 1) (kk (Qf .i64 x4 1) y1 (y5++(Zq a1))) none) none) none) (some (.exit 0,Qik y1 y5))
def Qb5 (x4:Int)(y1:Qg)(y5:List Int):OX:=some (.exit 0,Qik (y1) (y5++Zv ((List.map Val.un y1.2.2.2.1).drop x4.toNat)))
theorem QrK (x4:Int)(y1:Qg)(y5:List Int):Qb4 x4 y1 y5=I8 Qb4 x4 y1 y5:=lnT (x:=I8 (fun x4 y1 y5=>some (.normal,QrJ x4 y1 y5)) x4 y1 y5) (by simp only [I8,nxA];rfl)
def Qil (p0:Qg):OV:=
 let a2:=List.map Val.un p0.2.2.2.1
 let a3:=(a2.drop (0:Int).toNat)
 let a1:=(Qa ((([]:List Int)++p0.2.1)++Zv a3))
 let a4:=icv .u8 ((p0).1)
 br (QK ([]:List Int) p0.2.1 1) (br (decide (0<=(0:Int)/\(0:Int)<=p0.2.2.2.1.length/\(([]:List Int)++p0.2.1).length+(Zv a3).length<=1000000000)&&I7 p0) (br (VA a1) (br (QK ([a4]) (Uj a1) 1) (br (QK (([a4])++(Uj a1)) ((([]:List Int)++p0.2.1)++Zv a3) 1) (some (.t (.sl (.int .u8)) ((([a4])++(Uj a1))++((([]:List Int)++p0.2.1)++Zv a3)),[])) none) none) none) none) none
theorem e_f187 (p0:Qg):JS F8 Qb3 QrI false [.t Qt p0] []=Qil p0:=by kernel_rfl
theorem QD6:GOk Tryz.prog F8:=Z2 _ (gA (gC QD3 QD4 (gD QKA gN)))
theorem QD7 (x4:Int)(y1:Qg)(y5:List Int)(h:(decide (0<=x4/\x4<=y1.2.2.2.1.length/\y5.length+(Zv ((List.map Val.un y1.2.2.2.1).drop x4.toNat)).length<=1000000000)&&I7 y1)=true):Qb4 x4 y1 y5=Qb5 x4 y1 y5:=by
 simp only [Bc,Ba] at h
 obtain ⟨⟨h0,h1,h2⟩,hc⟩:=h
 obtain ⟨k,rfl⟩:=Bq h0
 simp only [I7,XT,Bc,Ba] at hc
 obtain ⟨hc,hf⟩:=hc
 have hm:=QjZ hc
 have hl:=(W5 hc).2.2.2.2.2.1
 rw [Bd] at h2
 have hel:=QrD y1
 have hE:Zv (List.map Val.un y1.2.2.2.1)=ZO y1.2.2.2.1:=by rw [Zv,GH]
 revert y5
 refine QU (List.map Val.un y1.2.2.2.1) (fun k=> ∀ y5:List Int,y5.length+(Zv ((List.map Val.un y1.2.2.2.1).drop k)).length<=1000000000->Qb4 (k:Int) y1 y5=Qb5 (k:Int) y1 y5) ?_ ?_ k (by rw [BM];omega)
 ·intro y5 _
  rw [QrK]
  simp only [I8,show ilt ((List.map Val.un y1.2.2.2.1).length:Int) (Qa (List.map Val.un y1.2.2.2.1))=false from Bo (by simp only [Qa];omega),Qh]
  simp only [Qb5,Bd,BU,I6,BO]
 ·intro k hk ih y5 hy
  rw [QrK]
  have hk2:k<y1.2.2.2.1.length:=by rw [BM] at hk;exact hk
  have hs:=QrE (List.map Val.un y1.2.2.2.1) k hk
  rw [hE] at hs
  rw [Bj hk,Gz,Bl] at hy
  have hd:XT Jd (List.map Val.un y1.2.2.2.1)[k]=true:=by rw [XT,hm k hk,Be (by omega)];rfl
  simp only [I8,show ilt (k:Int) (Qa (List.map Val.un y1.2.2.2.1))=true from Be (by simp only [Qa];omega),QJ,hk,Bv,Qd,Bd,QT (show k<4611686018427387904 by omega),QS (y:=Qt) hk,hd]
  rw [Jj (by omega) (by omega),Qd,ih _ (by rw [Bl];omega)]
  simp only [Qb5,Bd,Bj hk,Gz,BQ]
theorem QD8:LO F8 Qij QrH 0:=QH (s:=Qb2) fun x y h _ q=>by simp only [QE,QF] at q;exact (QD7 x.2.2.1 y.1 y.2.2.1 h).trans q
theorem QD9:Qb3.lok F8:=by
 repeat (first|exact trivial|exact QD8|refine ⟨?_, ?_⟩)
theorem s_f187 (x:Qg)(h:XT (Jd+1) x=true):Qil x=some (.t (.sl (.int .u8)) (Zq x),[]):=by
 have hin:I7 x=true:=h
 simp only [XT,Bc,Ba] at h
 obtain ⟨h,hf⟩:=h
 have hel:=QrD x
 have hE:Zv (List.map Val.un x.2.2.2.1)=ZO x.2.2.2.1:=by rw [Zv,GH]
 have hll:=Qb1 (x.2.1.length+(ZO x.2.2.2.1).length)
 simp only [Qil,hin,Db,BR,Bw,BD,hE]
 rw [Jj (by omega) (by simp only [BE];omega),Qd,Be ⟨by omega,by omega,by omega⟩,Qd]
 have e1:VA (Qa (x.2.1++ZO x.2.2.2.1))=true:=Be (by simp only [Qa,Bl];omega)
 have e2:Uj (Qa (x.2.1++ZO x.2.2.2.1))=Ut (x.2.1.length+(ZO x.2.2.2.1).length):=by simp only [Uj,Qa,Bl,Bd]
 rw [e1,Qd,e2,Jj (by omega) (by simp only [Bp];omega),Qd,Jj (by omega) (by simp only [Bl,Bp];omega),Qd,Qb0]
 simp only [BN,Dv,BR]
theorem QEa:QA Tryz.prog 187 (JS F8 Qb3 QrI false):=mG Tryz.func187 (by kernel_rfl) Tryz.ntmps187 (by kernel_rfl) QD6 QD9
end
theorem QrL: ∀ N:Nat,QA Tryz.prog 187 (Qx (@F7 ⟨N⟩))
 |0=>FB fun x=>by first|rfl|simp [XT]
 |N+1=>by
  letI:Fuel:=⟨N⟩
  haveI:Nonempty (PLift (QA Tryz.prog 187 (Qx F7))):=⟨⟨QrL N⟩⟩
  exact Qn QEa fun x hok=>(e_f187 x.1).trans (s_f187 x.1 hok)
def QrM:Ent:=Ql (.pr Qt .nil) (fun x=>(WT x.1)) (fun x=>(.t (.sl (.int .u8)) (Zq x.1)))
theorem QEb:QA Tryz.prog 187 (Qx QrM):=Qa6 QrL fun x hok=>QD2 x.1 hok
def WU (x:Qg):List Int×Int:=if 4096<(Zq x).length then ([],3) else (Zq x,0)
theorem QEc {x:Qg}(h:okT 12 x=true):igt (dpV x) 16=false:=by
 have:=Qaw (v:=Val.of x) h
 exact Bo (by show ¬ ((Uu (Val.of x):Int) > 16);omega)
def QEd:TC:=aF Tryz.f151 []
def g_f151:G:=gG 17 [(185,Qvi),(186,Qvr),(187,QrM)] (fun _ _=>none)
def QrN (p0:Qg):OV:=br (Qdp p0) (br (!(Wo p0)) (some (.tu [(.t (.sl (.int .u8)) ([]:List Int)),(.t tI 1)],[])) (br (QdA p0) (br (igt (dpV p0) 16) (some (.tu [(.t (.sl (.int .u8)) ([]:List Int)),(.t tI 3)],[])) (br (WT p0) (br (igt (Qa (Zq p0)) 4096) (some (.tu [(.t (.sl (.int .u8)) ([]:List Int)),(.t tI 3)],[])) (some (.tu [(.t (.sl (.int .u8)) (Zq p0)),(.t tI 0)],[]))) none)) none)) none
theorem s_f151 (x:Qg)(h:WT x=true):QrN x=some (.tu [.t (.sl (.int .u8)) (WU x).1,.t tI (WU x).2],[]):=by
 have h':=h
 simp only [WT,Bc,Ba] at h'
 obtain ⟨h1,h2⟩:=h'
 simp only [QrN,show Qdp x=true from h1,show QdA x=true from h1,h,QEc h1,Wo,BH,Qd,Qh]
 unfold WU
 refine QZ (fun g=> ?_) (fun g=> ?_)
 ·simp only [igt,Qa,Ba] at g
  rw [if_pos (by omega)]
 ·simp only [igt,Qa,Bn] at g
  rw [if_neg (by omega)]
def QrO:Ent:=Ql (.pr Qt .nil) (fun x=>(WT x.1)) (fun x=>(.tu [(.t (.sl (.int .u8)) ((WU x.1).1)),(.t tI ((WU x.1).2))]))
theorem QEe:EM 151 QrO:=mS g_f151 QEd [((.t 2),some (.sl (.int .u8))),((.t 3),some tI)] false (gB (gC Qvb QHy (gC Qvk QHM (gC QrF QEb gN)))) fun m=>Qn m fun x hok=>kT (s_f151 x.1 hok)
def conV (x:Qg):List Int:=x.2.1++ZO x.2.2.2.1
def QEf [Fuel]:Ent:=Ql (.pr Qt .nil) (fun x=>(XT Jd x.1)) (fun x=>(.t (.sl (.int .u8)) (conV x.1)))
section
variable [Fuel][Nonempty (PLift (QA Tryz.prog 245 (Qx QEf)))]
end
def Xu (l:List Qg):Qg:=(48,(([]:List Int),(true,(List.map Val.of l,()))))
def QEg:TC:=aF Tryz.f189 []
def g_f189:G:=gG 6 [(212,Qui)] (fun _ _=>none)
def QrP (p0:List Qg):OV:=br (XW p0) (some (.t Qt (48,(([]:List Int),(true,((List.map Val.of (Wn p0)),())))),[])) none
theorem s_f189 (l:List Qg)(h:XW l=true):QrP l=some (.t Qt (Xu l),[]):=by
 simp only [QrP,h,Qd]
 rfl
def Qim:Ent:=Ql (.pr (.sl Qt) .nil) (fun x=>(XW x.1)) (fun x=>(.t Qt (Xu x.1)))
theorem QrQ:EM 189 Qim:=mS g_f189 QEg [((.c 2 true 4),some Qt)] false (gB (gC Qub QGk gN)) fun m=>Qn m fun x hok=>kT (s_f189 x.1 hok)
end
end Go.Proofs.YtmjnnemhoeolgaaGreat.K
