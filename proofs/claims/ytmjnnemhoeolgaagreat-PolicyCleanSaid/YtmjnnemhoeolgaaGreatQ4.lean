import Derived.Test.YtmjnnemhoeolgaaGreatQ3
set_option linter.unusedSimpArgs false
set_option linter.unusedVariables false
noncomputable section
namespace Go.Proofs.YtmjnnemhoeolgaaGreat.K
open Go.RowKit
def Qrx:TC:=aF Tryz.f197 []
def Qry:List (RV×Option Ty):=[((.c 0 true 115),some (.pr Qn (.pr Qn (.pr Qn (.pr Qn (.pr Qn (.pr Qn (.pr Qn (.pr Qn (.pr Qn (.pr Qn (.pr Qn (.pr Qn (.pr Qn (.pr Qn (.pr Qn (.pr Qn (.pr Qn (.pr Qn (.pr Qn (.pr Qn (.pr Qn (.pr Qn (.pr Qn .nil))))))))))))))))))))))))]
def Qrz:G:=gG 46 [] (fun _ _=>none)
def QrA  : OV:=some (.t (.pr Qn (.pr Qn (.pr Qn (.pr Qn (.pr Qn (.pr Qn (.pr Qn (.pr Qn (.pr Qn (.pr Qn (.pr Qn (.pr Qn (.pr Qn (.pr Qn (.pr Qn (.pr Qn (.pr Qn (.pr Qn (.pr Qn (.pr Qn (.pr Qn (.pr Qn (.pr Qn .nil))))))))))))))))))))))) (((ByteArray.mk #[]),(0,(0,(([]:List Int),(([]:List Int),()))))),(((ByteArray.mk #[109,100,53]),(1,(0,(([]:List Int),([18],()))))),(((ByteArray.mk #[115,104,97,49]),(1,(0,(([]:List Int),([60],()))))),(((ByteArray.mk #[115,104,97,50,53,54]),(1,(0,(([]:List Int),([128],()))))),(((ByteArray.mk #[115,104,97,51,56,52]),(1,(0,(([]:List Int),([192],()))))),(((ByteArray.mk #[114,115,97]),(2,(1,(([]:List Int),(([]:List Int),()))))),(((ByteArray.mk #[100,115,97]),(2,(1,(([]:List Int),(([]:List Int),()))))),(((ByteArray.mk #[101,99,100,115,97]),(2,(2,(([]:List Int),(([]:List Int),()))))),(((ByteArray.mk #[101,100,50,53,53,49,57]),(2,(0,(([]:List Int),([128],()))))),(((ByteArray.mk #[109,108,100,115,97]),(2,(3,([44,65,87],([128,192,256],()))))),(((ByteArray.mk #[114,115,97,107,120]),(3,(1,(([]:List Int),(([]:List Int),()))))),(((ByteArray.mk #[100,104,101]),(3,(1,(([]:List Int),(([]:List Int),()))))),(((ByteArray.mk #[101,99,100,104,101]),(3,(2,(([]:List Int),(([]:List Int),()))))),(((ByteArray.mk #[109,108,107,101,109]),(3,(3,([512,768,1024],([128,192,256],()))))),(((ByteArray.mk #[114,99,52]),(4,(3,([40,128],([40,60],()))))),(((ByteArray.mk #[100,101,115,51]),(4,(3,([112,168],([80,112],()))))),(((ByteArray.mk #[97,101,115,99,98,99]),(4,(3,([128,256],([128,256],()))))),(((ByteArray.mk #[97,101,115,103,99,109]),(4,(3,([128,256],([128,256],()))))),(((ByteArray.mk #[99,104,97,99,104,97]),(4,(0,(([]:List Int),([256],()))))),(((ByteArray.mk #[104,109,97,99,109,100,53]),(5,(0,(([]:List Int),([64],()))))),(((ByteArray.mk #[104,109,97,99,115,104,97,49]),(5,(0,(([]:List Int),([80],()))))),(((ByteArray.mk #[104,109,97,99,115,104,97,50,53,54]),(5,(0,(([]:List Int),([128],()))))),(((ByteArray.mk #[97,101,97,100]),(5,(0,(([]:List Int),([256],()))))),()))))))))))))))))))))))),[])
theorem e_f197  : J2 Qrz Qrx Qry false [] []=QrA  :=by kernel_rfl
def F3:Ty.T (.pr Qn (.pr Qn (.pr Qn (.pr Qn (.pr Qn (.pr Qn (.pr Qn (.pr Qn (.pr Qn (.pr Qn (.pr Qn (.pr Qn (.pr Qn (.pr Qn (.pr Qn (.pr Qn (.pr Qn (.pr Qn (.pr Qn (.pr Qn (.pr Qn (.pr Qn (.pr Qn .nil))))))))))))))))))))))):=(((ByteArray.mk #[]),(0,(0,(([]:List Int),(([]:List Int),()))))),(((ByteArray.mk #[109,100,53]),(1,(0,(([]:List Int),([18],()))))),(((ByteArray.mk #[115,104,97,49]),(1,(0,(([]:List Int),([60],()))))),(((ByteArray.mk #[115,104,97,50,53,54]),(1,(0,(([]:List Int),([128],()))))),(((ByteArray.mk #[115,104,97,51,56,52]),(1,(0,(([]:List Int),([192],()))))),(((ByteArray.mk #[114,115,97]),(2,(1,(([]:List Int),(([]:List Int),()))))),(((ByteArray.mk #[100,115,97]),(2,(1,(([]:List Int),(([]:List Int),()))))),(((ByteArray.mk #[101,99,100,115,97]),(2,(2,(([]:List Int),(([]:List Int),()))))),(((ByteArray.mk #[101,100,50,53,53,49,57]),(2,(0,(([]:List Int),([128],()))))),(((ByteArray.mk #[109,108,100,115,97]),(2,(3,([44,65,87],([128,192,256],()))))),(((ByteArray.mk #[114,115,97,107,120]),(3,(1,(([]:List Int),(([]:List Int),()))))),(((ByteArray.mk #[100,104,101]),(3,(1,(([]:List Int),(([]:List Int),()))))),(((ByteArray.mk #[101,99,100,104,101]),(3,(2,(([]:List Int),(([]:List Int),()))))),(((ByteArray.mk #[109,108,107,101,109]),(3,(3,([512,768,1024],([128,192,256],()))))),(((ByteArray.mk #[114,99,52]),(4,(3,([40,128],([40,60],()))))),(((ByteArray.mk #[100,101,115,51]),(4,(3,([112,168],([80,112],()))))),(((ByteArray.mk #[97,101,115,99,98,99]),(4,(3,([128,256],([128,256],()))))),(((ByteArray.mk #[97,101,115,103,99,109]),(4,(3,([128,256],([128,256],()))))),(((ByteArray.mk #[99,104,97,99,104,97]),(4,(0,(([]:List Int),([256],()))))),(((ByteArray.mk #[104,109,97,99,109,100,53]),(5,(0,(([]:List Int),([64],()))))),(((ByteArray.mk #[104,109,97,99,115,104,97,49]),(5,(0,(([]:List Int),([80],()))))),(((ByteArray.mk #[104,109,97,99,115,104,97,50,53,54]),(5,(0,(([]:List Int),([128],()))))),(((ByteArray.mk #[97,101,97,100]),(5,(0,(([]:List Int),([256],()))))),())))))))))))))))))))))))
theorem s_f197:QrA=some (.t (tyR Qn 23) F3,[]):=rfl
def QrB:Ent:=Qi .nil (fun x=>true) (fun x=>(.t (.pr Qn (.pr Qn (.pr Qn (.pr Qn (.pr Qn (.pr Qn (.pr Qn (.pr Qn (.pr Qn (.pr Qn (.pr Qn (.pr Qn (.pr Qn (.pr Qn (.pr Qn (.pr Qn (.pr Qn (.pr Qn (.pr Qn (.pr Qn (.pr Qn (.pr Qn (.pr Qn .nil))))))))))))))))))))))) F3))
theorem QGa:EM 197 QrB:=mS Qrz Qrx Qry false (gB gN) fun m=>Qm m fun x _=>(e_f197 ).trans (s_f197)
def Om:Row:=((ByteArray.mk #[]),(0,(0,(([]:List Int),(([]:List Int),())))))
def ofF (a:Int):Row×Bool:=if a<1∨22<a then (Om,false) else (Ey Qn 23 F3 a,true)
def QGb:TC:=aF Tryz.f166 []
def g_f166:G:=gG 14 [(197,QrB),(1004194,QBC)] (fun _ _=>none)
def QrC (p0:Int):OV:=br (ilt p0 1) (some (.tu [(.t Qn ((ByteArray.mk #[]),(0,(0,(([]:List Int),(([]:List Int),())))))),(.t .bool false)],[])) (br (igt p0 22) (some (.tu [(.t Qn ((ByteArray.mk #[]),(0,(0,(([]:List Int),(([]:List Int),())))))),(.t .bool false)],[])) (br (Uo Qn 23 F3 p0) (some (.tu [(.t Qn (Ey Qn 23 F3 p0)),(.t .bool true)],[])) none))
theorem s_f166 (a:Int):QrC a=some (.tu [.t Qn (ofF a).1,.t .bool (ofF a).2],[]):=by
 simp only [QrC]
 refine QX (fun h1=> ?_) (fun h1=>QX (fun h2=> ?_) (fun h2=> ?_))
 ·have h1:a<1:=by simpa [ilt] using h1
  simp [ofF,h1,Om]
 ·have h2:22<a:=by simpa [igt] using h2
  simp [ofF,h2,Om]
 ·have h1: ¬ a<1:=by simpa [ilt] using h1
  have h2: ¬ 22<a:=by simpa [igt] using h2
  have h3:Uo Qn 23 F3 a=true:=by simp [Uo];omega
  rw [h3,Qb]
  simp [ofF,h1,h2]
def Qix:Ent:=Qi (.pr tI .nil) (fun x=>true) (fun x=>(.tu [(.t Qn ((ofF x.1).1)),(.t .bool ((ofF x.1).2))]))
theorem QrD:EM 166 Qix:=mS g_f166 QGb [((.c 2 true 5),some Qn),((.t 3),some .bool)] false (gB (gD QGa (gC QPL QPM gN))) fun m=>Qm m fun x _=>kT (s_f166 x.1)
def GO:List (Int×Int):=[(1024,56),(2048,80),(3072,112),(7680,128),(15360,192)]
def F4:(Keep×(Keep×(Keep×(Keep×(Keep×Unit))))):=((1024,(56,())),((2048,(80,())),((3072,(112,())),((7680,(128,())),((15360,(192,())),())))))
def YA (b i:Int):Option Int:=((GO.drop i.toNat).find? fun x=>ilt b x.1).map (·.2)
def F5 (b:Int):Int:=(YA b 0).getD 256
abbrev QbQ:Sh:=⟨[(0,.ty tI),(10,.ty (.pr Qd (.pr Qd (.pr Qd (.pr Qd (.pr Qd .nil)))))),(11,.ty tI)],[]⟩
abbrev QrE:Sh:=⟨[(2,.ty tI)],[]⟩
abbrev QbR:Sh:=⟨[],[]⟩
def Qiy:Fg:=QbQ.f
def QrF:TC:=aF Tryz.f168 [(26,pL 0 Qiy),(421,.fg QbR.f),(13517,.fg QrE.f)]
def QrG:TC:=lb 0 QrF
def QrH (x0:Int)(x10:(Keep×(Keep×(Keep×(Keep×(Keep×Unit))))))(x11:Int):VS:=QbQ.st (x0,x10,x11,()) ()
def Qiz (x2:Int):VS:=QrE.st (x2,()) ()
def QiA  : VS:=QbR.st () ()
def QGc:VS->Option (Bool×List (Bool×Exit×VS)):=mkL QbQ (fun x y=>(x.2.1==F4&&decide (0<=x.2.2.1/\x.2.2.1<=5))) (fun x y=>[(((YA x.1 x.2.2.1).isSome),.ret,Qiz ((YA x.1 x.2.2.1).getD 0)),(true,.exit 0,QiA)])
def QiB:G:=gG 21 [(1004274,QBD)] (Ls [QGc])
def QbS (x0:Int)(x10:(Keep×(Keep×(Keep×(Keep×(Keep×Unit))))))(x11:Int):OX:=Qr (Qv QiB Qiy QrG) (QrH x0 x10 x11)
def QbT (kk:Int->(Keep×(Keep×(Keep×(Keep×(Keep×Unit)))))->Int->OX)(x0:Int)(x10:(Keep×(Keep×(Keep×(Keep×(Keep×Unit))))))(x11:Int):OX:=
 let a1:=Ey Qd 5 x10 x11
 br (ilt x11 5) (br (Uo Qd 5 x10 x11) (br (ilt x0 (a1.1)) (some (.ret,Qiz ((a1.2).1))) (kk x0 x10 (Qg .i64 x11 1))) none) (some (.exit 0,QiA))
def GP (x0:Int)(x10:(Keep×(Keep×(Keep×(Keep×(Keep×Unit))))))(x11:Int):OX:=br ((YA x0 x11).isSome) (some (.ret,Qiz ((YA x0 x11).getD 0)))<|some (.exit 0,QiA)
theorem QrI (x0:Int)(x10:(Keep×(Keep×(Keep×(Keep×(Keep×Unit))))))(x11:Int):QbS x0 x10 x11=QbT QbS x0 x10 x11:=lnT (x:=QbT (fun x0 x10 x11=>some (.normal,QrH x0 x10 x11)) x0 x10 x11) (by simp only [QbT,nxA];rfl)
def QrJ (p0:Int):OV:=br (((1024,(56,())),((2048,(80,())),((3072,(112,())),((7680,(128,())),((15360,(192,())),())))))==F4&&decide (0<=(0:Int)/\(0:Int)<=5)) (br ((YA p0 (0:Int)).isSome) (some (.t tI ((YA p0 (0:Int)).getD 0),[])) (some (.t tI 256,[]))) none
theorem QGd (x0:Int)(x10:(Keep×(Keep×(Keep×(Keep×(Keep×Unit))))))(x11:Int)(h:(x10==F4&&decide (0<=x11/\x11<=5))=true):QbS x0 x10 x11=GP x0 x10 x11:=by
 simp only [Bb,Ba,Dc] at h
 obtain ⟨rfl,h1,h2⟩:=h
 obtain ⟨k,rfl⟩:=Bo h1
 refine QrU 5 (fun k=>QbS x0 F4 (k:Int)=GP x0 F4 (k:Int)) ?_ ?_ k (by omega)
 ·rw [QrI]
  rfl
 ·intro k hk ih
  rw [QrI]
  simp only [QbT,QO (show k<4611686018427387904 by omega),ih]
  have e1:ilt (k:Int) 5=true:=by simp only [ilt,Ba];omega
  have e2:Uo Qd 5 F4 (k:Int)=true:=by simp only [Uo,Ba];omega
  simp only [e1,e2,Qb]
  have hk5:k=0∨k=1∨k=2∨k=3∨k=4:=by omega
  rcases hk5 with rfl|rfl|rfl|rfl|rfl
  ·show br (ilt x0 1024) _ _=_
   cases h:ilt x0 1024<;>simp [GP,YA,GO,h,Qb,Qf]<;>rfl
  ·show br (ilt x0 2048) _ _=_
   cases h:ilt x0 2048<;>simp [GP,YA,GO,h,Qb,Qf]<;>rfl
  ·show br (ilt x0 3072) _ _=_
   cases h:ilt x0 3072<;>simp [GP,YA,GO,h,Qb,Qf]<;>rfl
  ·show br (ilt x0 7680) _ _=_
   cases h:ilt x0 7680<;>simp [GP,YA,GO,h,Qb,Qf]<;>rfl
  ·show br (ilt x0 15360) _ _=_
   cases h:ilt x0 15360<;>simp [GP,YA,GO,h,Qb,Qf]<;>rfl
theorem QGe:LO QiB Qiy QrG 0:=QH (s:=QbQ) fun x y h _ q=>by simp only [QE,QF] at q;exact (QGd x.1 x.2.1 x.2.2.1 h).trans q
theorem s_f168 (b:Int):QrJ b=some (.t tI (F5 b),[]):=by
 simp only [QrJ]
 show br true (br (YA b 0).isSome (some (V.t tI ((YA b 0).getD 0),[])) _) _=_
 rw [Qb,F5]
 cases YA b 0<;>rfl
def QrK:Ent:=Qi (.pr tI .nil) (fun x=>true) (fun x=>(.t tI (F5 x.1)))
theorem QGf:EM 168 QrK:=mS (lk:=lkL (lkc QGe lkn)) QiB QrF [((.t 2),some tI)] false (gB (gC QPN QPO gN)) fun m=>Qm m fun x _=>kT (s_f168 x.1)
def JK (v:Int):List Int->Option Nat
 | []=>none
 |a::l=>if a==v then some 0 else (JK v l).map (· + 1)
theorem QrL {v:Int}: ∀ {l:List Int} {k:Nat},JK v l=some k->k<l.length
 | [],_,h=>by cases h
 |a::l,k,h=>by
  unfold JK at h
  split at h
  ·injection h with h;subst h;simp
  ·obtain ⟨j,h1,h2⟩:=Bj.1 h
   have:=QrL h1
   simp only [Bv];omega
theorem QiC {v:Int}: ∀ {l:List Int},JK v l=none↔v ∉ l
 | []=>by simp [JK]
 |a::l=>by
  have ih:=QiC (v:=v) (l:=l)
  unfold JK
  by_cases h:a=v
  ·simp [h]
  ·have h': ¬ v=a:=fun e=>h e.symm
   simp [h,h',ih]
def GQ (l:List Int)(v:Int):Int:=match JK v l with|some k=>(k:Int)|none=> -1
def Jc (l:List Int)(_v:Int):Bool:=decide (l.length<=100000)
abbrev QbU:Sh:=⟨[(0,.ty (.sl tI)),(1,.ty tI),(7,.ty tI),(8,.ty tI)],[]⟩
abbrev QrM:Sh:=⟨[(4,.ty tI)],[]⟩
def QiD:Fg:=QbU.f
def QrN:TC:=aF Tryz.f165 [(26,pL 0 QiD),(421,.fg QbR.f),(13517,.fg QrM.f)]
def QrO:TC:=lb 0 QrN
def QrP (x0:List Int)(x1 x7 x8:Int):VS:=QbU.st (x0,x1,x7,x8,()) ()
def QiE (x4:Int):VS:=QrM.st (x4,()) ()
def QiF  : VS:=QbR.st () ()
def QGg:VS->Option (Bool×List (Bool×Exit×VS)):=mkL QbU (fun x y=>(QA x.1 x.2.2.1 x.2.2.2.1)) (fun x y=>[(((JK x.2.1 (x.1.drop x.2.2.2.1.toNat)).isSome),.ret,QiE (x.2.2.2.1+((JK x.2.1 (x.1.drop x.2.2.2.1.toNat)).getD 0:Nat))),(true,.exit 0,QiF)])
def QiG:G:=gG 19 [] (Ls [QGg])
def QbV (x0:List Int)(x1 x7 x8:Int):OX:=Qr (Qv QiG QiD QrO) (QrP x0 x1 x7 x8)
def On (kk:List Int->Int->Int->Int->OX)(x0:List Int)(x1 x7 x8:Int):OX:=br (ilt x8 x7) (br (cIx x0 x8) (br (ieq x1 (lgt tI x0 (Int.toNat x8))) (some (.ret,QiE x8)) (kk x0 x1 x7 (Qg .i64 x8 1))) none) (some (.exit 0,QiF))
def QbW (x0:List Int)(x1 x7 x8:Int):OX:=
 let a1:=JK x1 (x0.drop x8.toNat)
 br (a1.isSome) (some (.ret,QiE (x8+(a1.getD 0:Nat))))<|some (.exit 0,QiF)
theorem QrQ (x0:List Int)(x1 x7 x8:Int):QbV x0 x1 x7 x8=On QbV x0 x1 x7 x8:=lnT (x:=On (fun x0 x1 x7 x8=>some (.normal,QrP x0 x1 x7 x8)) x0 x1 x7 x8) (by simp only [On,nxA];rfl)
def QrR (p0:List Int)(p1:Int):OV:=
 let a1:=(JK p1 (p0.drop (0:Int).toNat))
 br (QA p0 (Qa p0) (0:Int)) (br (a1.isSome) (some (.t tI ((0:Int)+(a1.getD 0:Nat)),[])) (some (.t tI (-1),[]))) none
theorem QGh (x0:List Int)(x1 x7 x8:Int)(h:(QA x0 x7 x8)=true):QbV x0 x1 x7 x8=QbW x0 x1 x7 x8:=by
 obtain ⟨rfl,h3,k,rfl,hk⟩:=JB h
 clear h
 refine QP x0 (fun k=>QbV x0 x1 (x0.length:Int) (k:Int)=QbW x0 x1 (x0.length:Int) (k:Int)) ?_ ?_ k hk
 ·rw [QrQ]
  simp [On,QbW,Qz,Qf,JK]
 ·intro k hk ih
  rw [QrQ]
  simp only [On,Qz,QJ,hk,Bt,Qb,Bc,QO (show k<4611686018427387904 by omega),ih,QL (y:=tI) hk]
  simp only [QbW,Bc,Bi hk,JK,ieq]
  have hc:(x1==x0[k])=(x0[k]==x1):=Bool.beq_comm
  cases h:x0[k]==x1 with
  |true=>simp [h,hc,Qb]
  |false=>
   simp only [h,hc,Qf,BF,Dd]
   cases hq:JK x1 (x0.drop (k+1)) with
   |none=>rfl
   |some j=>
    simp only [B3,B7,BH,Qb]
    congr 3
    omega
theorem QGi:LO QiG QiD QrO 0:=QH (s:=QbU) fun x y h _ q=>by simp only [QE,QF] at q;exact (QGh x.1 x.2.1 x.2.2.1 x.2.2.2.1 h).trans q
theorem s_f165 (l:List Int)(v:Int)(h:Jc l v=true):QrR l v=some (.t tI (GQ l v),[]):=by
 simp only [Jc,Ba] at h
 simp only [QrR,JC h,Qb,Br,By,GQ]
 cases JK v l<;>simp [Qb,Qf]
def QiH:Ent:=Qi (.pr (.sl tI) (.pr tI .nil)) (fun x=>(Jc x.1 x.2.1)) (fun x=>(.t tI (GQ x.1 x.2.1)))
theorem QrS:EM 165 QiH:=mS (lk:=lkL (lkc QGi lkn)) QiG QrN [((.t 4),some tI)] false (gB gN) fun m=>Qm m fun x hok=>kT (s_f165 x.1 x.2.1 hok)
def QR (l:List Int)(v:Int):Bool:=l.contains v
def QGj:TC:=aF Tryz.f125 []
def g_f125:G:=gG 9 [(165,QiH)] (fun _ _=>none)
def QrT (p0:List Int)(p1:Int):OV:=br (Jc p0 p1) (some (.t .bool (ige (GQ p0 p1) 0),[])) none
theorem s_f125 (l:List Int)(v:Int)(h:Jc l v=true):QrT l v=some (.t .bool (QR l v),[]):=by
 simp only [QrT,h,Qb]
 congr 3
 unfold GQ QR
 cases hq:JK v l with
 |none=>
  have:=QiC.1 hq
  simp [ige,this]
 |some k=>
  have:v∈l:=Classical.byContradiction fun hn=>by rw [QiC.2 hn] at hq;cases hq
  simp only [ige,BI.2 this,Ba]
  omega
def QbX:Ent:=Qi (.pr (.sl tI) (.pr tI .nil)) (fun x=>(Jc x.1 x.2.1)) (fun x=>(.t .bool (QR x.1 x.2.1)))
theorem QiI:EM 125 QbX:=mS g_f125 QGj [((.t 4),some .bool)] false (gB (gD QrS gN)) fun m=>Qm m fun x hok=>kT (s_f125 x.1 x.2.1 hok)
end Go.Proofs.YtmjnnemhoeolgaaGreat.K
noncomputable section
namespace Go.Proofs.YtmjnnemhoeolgaaGreat.K
open Go.RowKit
def Zq (b:Int)(s t:List Int):Int:=match JK b s with|some k=>t.getD k 0|none=>0
def Wi (a:Int):Int:=if a=1 then 18 else if a=2 then 60 else if a=3∨a=8∨a=21 then 128 else if a=4 then 192 else if a=18∨a=22 then 256 else if a=19 then 64 else if a=20 then 80 else 0
def GJ (b:Int):Int:=if b<512∨16384<b then 0 else F5 b
def I2 (b:Int):Int:=if QR [160,224,256,384,521] b then G7 .i64 b 2 else 0
def Yl (u:Keep):Int:=
 if u.1=5∨u.1=6∨u.1=10∨u.1=11 then GJ u.2.1
 else if u.1=7∨u.1=12 then I2 u.2.1
 else if u.1=9 then Zq u.2.1 [44,65,87] [128,192,256]
 else if u.1=13 then Zq u.2.1 [512,768,1024] [128,192,256]
 else if u.1=14 then Zq u.2.1 [40,128] [40,60]
 else if u.1=15 then Zq u.2.1 [112,168] [80,112]
 else if u.1=16∨u.1=17 then Zq u.2.1 [128,256] [128,256]
 else Zq u.2.1 [0] [Wi u.1]
def Jq (u:Keep):Bool:=decide (Yl u > 0)
def QSb:TC:=aF Tryz.f129 []
def g_f129:G:=gG 61 [(125,QbX),(165,QiH),(166,Qix),(168,QrK)] (fun _ _=>none)
def WF (p0:Keep):OV:=
 let a1:=((((ofF p0.1).1).2).2)
 let a2:=GQ ((a1.2).1) p0.2.1
 let a3:=(((a1.2).2).1)
 br (!((ofF p0.1).2)) (some (.t tI 0,[])) (br (ieq (a1.1) 0) (br (ieq p0.2.1 0) (br (cIx a3 0) (some (.t tI (lgt tI a3 (Int.toNat 0)),[])) none) (some (.t tI 0,[]))) (br (ieq (a1.1) 1) (br (ige p0.2.1 512) (br (ile p0.2.1 16384) (some (.t tI (F5 p0.2.1),[])) (some (.t tI 0,[]))) (some (.t tI 0,[]))) (br (ieq (a1.1) 2) (br (Jc ([160,224,256,384,521]) p0.2.1) (br (QR ([160,224,256,384,521]) p0.2.1) (br (cNz 2) (some (.t tI (G7 .i64 p0.2.1 2),[])) none) (some (.t tI 0,[]))) none) (br (ieq (a1.1) 3) (br (Jc ((a1.2).1) p0.2.1) (br (ige a2 0) (br (cIx a3 a2) (some (.t tI (lgt tI a3 (Int.toNat a2)),[])) none) (some (.t tI 0,[]))) none) (some (.t tI 0,[]))))))
theorem QSc (u:Keep)(h1:(ofF u.1).2=false):WF u=some (.t tI 0,[]):=by
 simp only [WF,h1,Dx,Qb]
theorem QSd (u:Keep){v:Int}(h1:(ofF u.1).2=true)(h2:(ofF u.1).1.2.2.1=0)(h3:(ofF u.1).1.2.2.2.2.1=[v]):WF u=some (.t tI (Zq u.2.1 [0] [v]),[]):=by
 simp only [WF,h1,h2,h3,BC,Qf,show ieq 0 0=true from rfl,Qb,show cIx [v] 0=true from rfl]
 simp only [Zq,JK,ieq]
 have hc:((0:Int)==u.2.1)=(u.2.1==0):=Bool.beq_comm
 rw [hc]
 cases u.2.1==0<;>rfl
theorem QSe (u:Keep)(h1:(ofF u.1).2=true)(h2:(ofF u.1).1.2.2.1=1):WF u=some (.t tI (GJ u.2.1),[]):=by
 simp only [WF,h1,h2,BC,Qf,show ieq 1 0=false from rfl,show ieq 1 1=true from rfl,Qb,GJ]
 refine QX (fun g1=>QX (fun g2=> ?_) (fun g2=> ?_)) (fun g1=> ?_)
 ·rw [if_neg]
  simp [ige,ile] at g1 g2
  omega
 ·rw [if_pos]
  simp [ige,ile] at g1 g2
  omega
 ·rw [if_pos]
  simp [ige] at g1
  omega
theorem QSf (u:Keep)(h1:(ofF u.1).2=true)(h2:(ofF u.1).1.2.2.1=2):WF u=some (.t tI (I2 u.2.1),[]):=by
 simp only [WF,h1,h2,BC,Qf,show ieq 2 0=false from rfl,show ieq 2 1=false from rfl,show ieq 2 2=true from rfl,Qb,I2,show Jc [160,224,256,384,521] u.2.1=true from rfl,show cNz 2=true from rfl]
 cases QR [160,224,256,384,521] u.2.1<;>rfl
theorem QSg (u:Keep){s t:List Int}(h1:(ofF u.1).2=true)(h2:(ofF u.1).1.2.2.1=3)(h3:(ofF u.1).1.2.2.2.1=s)(h4:(ofF u.1).1.2.2.2.2.1=t)(h5:s.length=t.length)(h6:s.length<=100000):WF u=some (.t tI (Zq u.2.1 s t),[]):=by
 have e1:Jc s u.2.1=true:=by simp [Jc,h6]
 simp only [WF,h1,h2,h3,h4,e1,BC,Qf,show ieq 3 0=false from rfl,show ieq 3 1=false from rfl,show ieq 3 2=false from rfl,show ieq 3 3=true from rfl,Qb,GQ,Zq]
 cases hq:JK u.2.1 s with
 |none=>rfl
 |some k=>
  have hk:=QrL hq
  have e2:ige (k:Int) 0=true:=by simp only [ige,Ba];omega
  have e3:k<t.length:=by omega
  simp only [e2,Qb,QJ,e3,Bt]
  rfl
theorem s_f129 (u:Keep):WF u=some (.t tI (Yl u),[]):=by
 obtain ⟨a,b,c⟩:=u
 by_cases hb:a<1∨22<a
 ·rw [QSc _ (by simp [ofF,hb])]
  have e1:Wi a=0:=by
   unfold Wi
   repeat rw [if_neg (by omega)]
  have e2:Yl (a,b,c)=0:=by
   unfold Yl
   simp only
   repeat rw [if_neg (by omega)]
   rw [e1]
   simp only [Zq,JK]
   cases (0:Int)==b<;>rfl
  rw [e2]
 ·have hc:a=1∨a=2∨a=3∨a=4∨a=5∨a=6∨a=7∨a=8∨a=9∨a=10∨a=11∨a=12∨a=13∨a=14∨a=15∨a=16∨a=17∨a=18∨a=19∨a=20∨a=21∨a=22:=by omega
  rcases hc with rfl|rfl|rfl|rfl|rfl|rfl|rfl|rfl|rfl|rfl|rfl|rfl|rfl|rfl|rfl|rfl|rfl|rfl|rfl|rfl|rfl|rfl
  all_goals first
   |exact QSd (v:=Wi _) (_,b,c) rfl rfl rfl
   |exact QSe (_,b,c) rfl rfl
   |exact QSf (_,b,c) rfl rfl
   |exact QSg (_,b,c) rfl rfl rfl rfl rfl (by decide)
def QD3:Ent:=Qi (.pr Qd .nil) (fun x=>true) (fun x=>(.t tI (Yl x.1)))
theorem QSh:EM 129 QD3:=mS g_f129 QSb [((.t 2),some tI)] false (gB (gD QiI (gD QrS (gD QrD (gD QGf gN))))) fun m=>Qm m fun x _=>kT (s_f129 x.1)
def tc_f87:TC:=aF Tryz.f87 []
def g_f87:G:=gG 6 [(129,QD3)] (fun _ _=>none)
def r_f87 (p0:Keep):OV:=some (.t .bool (igt (Yl p0) 0),[])
theorem s_f87 (u:Keep):r_f87 u=some (.t .bool (Jq u),[]):=rfl
def I3:Ent:=Qi (.pr Qd .nil) (fun x=>true) (fun x=>(.t .bool (Jq x.1)))
theorem QaV:EM 87 I3:=mS g_f87 tc_f87 [((.t 2),some .bool)] false (gB (gD QSh gN)) fun m=>Qm m fun x _=>kT (s_f87 x.1)
def QSi:TC:=aF Tryz.f106 []
def g_f106:G:=gG 25 [] (fun _ _=>none)
def QD4 (p0:Int):OV:=br (ilt p0 512) (some (.t tI 0,[])) (br (igt p0 16384) (some (.t tI 0,[])) (br (ilt p0 1024) (some (.t tI 56,[])) (br (ilt p0 2048) (some (.t tI 80,[])) (br (ilt p0 3072) (some (.t tI 112,[])) (br (ilt p0 7680) (some (.t tI 128,[])) (br (ilt p0 15360) (some (.t tI 192,[])) (some (.t tI 256,[]))))))))
theorem s_f106 (b:Int):QD4 b=some (.t tI (GJ b),[]):=by
 simp only [QD4]
 repeat' (refine QX ?_ ?_<;>intro _)
 all_goals simp only [ilt,igt,Ba,Bn] at*
 all_goals simp only [GJ,F5,YA,GO,Br,By,List.find?_cons,ilt]
 all_goals first
  |(rw [if_pos (by omega)];done)
  |(rw [if_neg (by omega)];repeat first|rw [GR (by omega)]|rw [QGk (by omega)]
    rfl)
def QD5:Ent:=Qi (.pr tI .nil) (fun x=>true) (fun x=>(.t tI (GJ x.1)))
theorem QSj:EM 106 QD5:=mS g_f106 QSi [((.t 2),some tI)] false (gB gN) fun m=>Qm m fun x _=>kT (s_f106 x.1)
theorem QD6 (a:Int):((∀ k:Int,decide (1<=k/\k<=22)=true->ieq a k=false)/\(a<1∨22<a))∨(a=1∨a=2∨a=3∨a=4∨a=5∨a=6∨a=7∨a=8∨a=9∨a=10∨a=11∨a=12∨a=13∨a=14∨a=15∨a=16∨a=17∨a=18∨a=19∨a=20∨a=21∨a=22):=by
 by_cases hb:a<1∨22<a
 ·refine .inl ⟨fun k hk=> ?_,hb⟩
  simp only [Ba] at hk
  simp only [ZV,Bn]
  omega
 ·right
  omega
def QSk:TC:=aF Tryz.f108 []
def g_f108:G:=gG 21 [] (fun _ _=>none)
def QpR (p0:Int):OV:=br (ieq p0 19) (some (.t tI 64,[])) (br (ieq p0 20) (some (.t tI 80,[])) (some (.t tI 0,[])))
def Qhi (p0:Int):OV:=br (ieq p0 4) (some (.t tI 192,[])) (br (ieq p0 18) (br (ieq p0 18) (some (.t tI 256,[])) (QpR p0)) (br (ieq p0 22) (some (.t tI 256,[])) (QpR p0)))
def QD7 (p0:Int):OV:=br (ieq p0 1) (some (.t tI 18,[])) (br (ieq p0 2) (some (.t tI 60,[])) (br (ieq p0 3) (br (ieq p0 3) (some (.t tI 128,[])) (Qhi p0)) (br (ieq p0 8) (br (ieq p0 8) (some (.t tI 128,[])) (Qhi p0)) (br (ieq p0 21) (some (.t tI 128,[])) (Qhi p0)))))
theorem s_f108 (a:Int):QD7 a=some (.t tI (Wi a),[]):=by
 rcases QD6 a with ⟨e,hb⟩|hc
 ·have e1:Wi a=0:=by
   unfold Wi
   repeat rw [if_neg (by omega)]
  rw [e1]
  simp only [QD7,Qhi,QpR,e 1 (by decide),e 2 (by decide),e 3 (by decide),e 4 (by decide),e 8 (by decide),e 18 (by decide),e 19 (by decide),e 20 (by decide),e 21 (by decide),e 22 (by decide),Qf]
 ·rcases hc with rfl|rfl|rfl|rfl|rfl|rfl|rfl|rfl|rfl|rfl|rfl|rfl|rfl|rfl|rfl|rfl|rfl|rfl|rfl|rfl|rfl|rfl<;>rfl
def QD8:Ent:=Qi (.pr tI .nil) (fun x=>true) (fun x=>(.t tI (Wi x.1)))
theorem QSl:EM 108 QD8:=mS g_f108 QSk [((.t 2),some tI)] false (gB gN) fun m=>Qm m fun x _=>kT (s_f108 x.1)
def UY (_b:Int)(s t:List Int):Bool:=decide (s.length=t.length/\s.length<=100000)
abbrev Qhj:Sh:=⟨[(0,.ty tI),(1,.ty (.sl tI)),(2,.ty (.sl tI)),(7,.ty tI)],[]⟩
abbrev QD9:Sh:=⟨[(6,.ty tI)],[]⟩
abbrev QEa:Sh:=⟨[],[]⟩
def QpS:Fg:=Qhj.f
def QEb:TC:=aF Tryz.f107 [(26,pL 0 QpS),(419,.fg QEa.f),(3365,.fg QD9.f)]
def QEc:TC:=lb 0 QEb
def QEd (x0:Int)(x1 x2:List Int)(x7:Int):VS:=Qhj.st (x0,x1,x2,x7,()) ()
def QpT (x6:Int):VS:=QD9.st (x6,()) ()
def QpU  : VS:=QEa.st () ()
def QSm:VS->Option (Bool×List (Bool×Exit×VS)):=mkL Qhj (fun x y=>(decide (x.2.1.length=x.2.2.1.length/\x.2.1.length<=100000/\0<=x.2.2.2.1/\x.2.2.2.1<=x.2.1.length))) (fun x y=>[(((JK x.1 (x.2.1.drop x.2.2.2.1.toNat)).isSome),.ret,QpT (x.2.2.1.getD (x.2.2.2.1.toNat+(JK x.1 (x.2.1.drop x.2.2.2.1.toNat)).getD 0) 0)),(true,.exit 0,QpU)])
def QpV:G:=gG 24 [] (Ls [QSm])
def Qhk (x0:Int)(x1 x2:List Int)(x7:Int):OX:=Qr (Qv QpV QpS QEc) (QEd x0 x1 x2 x7)
def QaW (kk:Int->List Int->List Int->Int->OX)(x0:Int)(x1 x2:List Int)(x7:Int):OX:=br (ilt x7 (Qa x1)) (br (cIx x1 x7) (br (ieq (lgt tI x1 (Int.toNat x7)) x0) (br (cIx x2 x7) (some (.ret,QpT (lgt tI x2 (Int.toNat x7)))) none) (kk x0 x1 x2 (Qg .i64 x7 1))) none) (some (.exit 0,QpU))
def Qhl (x0:Int)(x1 x2:List Int)(x7:Int):OX:=
 let a1:=JK x0 (x1.drop x7.toNat)
 br (a1.isSome) (some (.ret,QpT (x2.getD (x7.toNat+a1.getD 0) 0)))<|some (.exit 0,QpU)
theorem QEe (x0:Int)(x1 x2:List Int)(x7:Int):Qhk x0 x1 x2 x7=QaW Qhk x0 x1 x2 x7:=lnT (x:=QaW (fun x0 x1 x2 x7=>some (.normal,QEd x0 x1 x2 x7)) x0 x1 x2 x7) (by simp only [QaW,nxA];rfl)
def QEf (p0:Int)(p1 p2:List Int):OV:=
 let a1:=(JK p0 (p1.drop (0:Int).toNat))
 br (decide (p1.length=p2.length/\p1.length<=100000/\0<=(0:Int)/\(0:Int)<=p1.length)) (br (a1.isSome) (some (.t tI (p2.getD ((0:Int).toNat+a1.getD 0) 0),[])) (some (.t tI 0,[]))) none
theorem QSn (x0:Int)(x1 x2:List Int)(x7:Int)(h:(decide (x1.length=x2.length/\x1.length<=100000/\0<=x7/\x7<=x1.length))=true):Qhk x0 x1 x2 x7=Qhl x0 x1 x2 x7:=by
 simp only [Ba] at h
 obtain ⟨h1,h2,h3,h4⟩:=h
 obtain ⟨k,rfl⟩:=Bo h3
 refine QP x1 (fun k=>Qhk x0 x1 x2 (k:Int)=Qhl x0 x1 x2 (k:Int)) ?_ ?_ k (by omega)
 ·rw [QEe]
  simp [QaW,Qhl,Qz,Qa,Qf,JK]
 ·intro k hk ih
  rw [QEe]
  have hk2:k<x2.length:=by omega
  simp only [QaW,Qz,Qa,QJ,hk,hk2,Bt,Qb,Bc,QO (show k<4611686018427387904 by omega),ih,QL (y:=tI) hk,QL (y:=tI) hk2]
  simp only [Qhl,Bc,Bi hk,JK,ieq]
  cases h:x1[k]==x0 with
  |true=>simp [h,Qb,Bk,Bh hk2]
  |false=>
   simp only [h,Qf,BF,Dd]
   cases hq:JK x0 (x1.drop (k+1)) with
   |none=>rfl
   |some j=>
    simp only [B3,B7,BH,Qb]
    rw [show k+1+j=k+(j+1) by omega]
theorem QSo:LO QpV QpS QEc 0:=QH (s:=Qhj) fun x y h _ q=>by simp only [QE,QF] at q;exact (QSn x.1 x.2.1 x.2.2.1 x.2.2.2.1 h).trans q
theorem s_f107 (b:Int)(s t:List Int)(h:UY b s t=true):QEf b s t=some (.t tI (Zq b s t),[]):=by
 simp only [UY,Ba] at h
 simp only [QEf,Zq]
 rw [GR ⟨h.1,h.2,BV 0,by omega⟩,Qb]
 simp only [Br,By,DW]
 cases JK b s<;>simp [Qb,Qf]
def QEg:Ent:=Qi (.pr tI (.pr (.sl tI) (.pr (.sl tI) .nil))) (fun x=>(UY x.1 x.2.1 x.2.2.1)) (fun x=>(.t tI (Zq x.1 x.2.1 x.2.2.1)))
theorem QSp:EM 107 QEg:=mS (lk:=lkL (lkc QSo lkn)) QpV QEb [((.t 6),some tI)] false (gB gN) fun m=>Qm m fun x hok=>kT (s_f107 x.1 x.2.1 x.2.2.1 hok)
def tc_f65:TC:=aF Tryz.f65 []
def g_f65:G:=gG 76 [(106,QD5),(107,QEg),(108,QD8)] (fun _ _=>none)
def FO (p0:Keep):OV:=br (cNz 2) (some (.t tI (G7 .i64 p0.2.1 2),[])) none
def QaX (p0:Keep):OV:=br (ieq p0.2.1 160) (FO p0) (br (ieq p0.2.1 224) (FO p0) (br (ieq p0.2.1 256) (FO p0) (br (ieq p0.2.1 384) (FO p0) (br (ieq p0.2.1 521) (FO p0) (some (.t tI 0,[]))))))
def QpW (p0:Keep):OV:=br (UY p0.2.1 ([128,256]) ([128,256])) (some (.t tI (Zq p0.2.1 ([128,256]) ([128,256])),[])) none
def QpX (p0:Keep):OV:=br (UY p0.2.1 ([0]) ([(Wi p0.1)])) (some (.t tI (Zq p0.2.1 ([0]) ([(Wi p0.1)])),[])) none
def QpY (p0:Keep):OV:=br (ieq p0.1 9) (br (UY p0.2.1 ([44,65,87]) ([128,192,256])) (some (.t tI (Zq p0.2.1 ([44,65,87]) ([128,192,256])),[])) none) (br (ieq p0.1 13) (br (UY p0.2.1 ([512,768,1024]) ([128,192,256])) (some (.t tI (Zq p0.2.1 ([512,768,1024]) ([128,192,256])),[])) none) (br (ieq p0.1 14) (br (UY p0.2.1 ([40,128]) ([40,60])) (some (.t tI (Zq p0.2.1 ([40,128]) ([40,60])),[])) none) (br (ieq p0.1 15) (br (UY p0.2.1 ([112,168]) ([80,112])) (some (.t tI (Zq p0.2.1 ([112,168]) ([80,112])),[])) none) (br (ieq p0.1 16) (br (ieq p0.1 16) (QpW p0) (QpX p0)) (br (ieq p0.1 17) (QpW p0) (QpX p0))))))
def QaY (p0:Keep):OV:=br (ieq p0.1 7) (br (ieq p0.1 7) (QaX p0) (QpY p0)) (br (ieq p0.1 12) (QaX p0) (QpY p0))
def r_f65 (p0:Keep):OV:=
 let a1:=GJ p0.2.1
 br (ieq p0.1 5) (br (ieq p0.1 5) (some (.t tI a1,[])) (QaY p0)) (br (ieq p0.1 6) (br (ieq p0.1 6) (some (.t tI a1,[])) (QaY p0)) (br (ieq p0.1 10) (br (ieq p0.1 10) (some (.t tI a1,[])) (QaY p0)) (br (ieq p0.1 11) (some (.t tI a1,[])) (QaY p0))))
theorem s_f65 (u:Keep):r_f65 u=some (.t tI (Yl u),[]):=by
 obtain ⟨a,b,c⟩:=u
 have hcv:QaX (a,b,c)=some (.t tI (I2 b),[]):=by
  have hh:QR [160,224,256,384,521] b=(ieq b 160||(ieq b 224||(ieq b 256||(ieq b 384||ieq b 521)))):=by
   rw [Dq]
   simp [QR,ieq]
  simp only [QaX,FO,show cNz 2=true from rfl,Qb,I2,hh]
  cases ieq b 160<;>cases ieq b 224<;>cases ieq b 256<;>cases ieq b 384<;>cases ieq b 521<;>rfl
 rcases QD6 a with ⟨e,hb⟩|hc
 ·have e2:Yl (a,b,c)=Zq b [0] [Wi a]:=by
   unfold Yl
   simp only
   repeat rw [if_neg (by omega)]
  rw [e2]
  simp only [r_f65,QaY,QaX,FO,QpY,QpW,QpX,e 5 (by decide),e 6 (by decide),e 7 (by decide),e 9 (by decide),e 10 (by decide),e 11 (by decide),e 12 (by decide),e 13 (by decide),e 14 (by decide),e 15 (by decide),e 16 (by decide),e 17 (by decide),Qf]
  rfl
 ·rcases hc with rfl|rfl|rfl|rfl|rfl|rfl|rfl|rfl|rfl|rfl|rfl|rfl|rfl|rfl|rfl|rfl|rfl|rfl|rfl|rfl|rfl|rfl
  all_goals first
   |rfl
   |exact hcv
def QpZ:Ent:=Qi (.pr Qd .nil) (fun x=>true) (fun x=>(.t tI (Yl x.1)))
theorem QEh:EM 65 QpZ:=mS g_f65 tc_f65 [((.t 2),some tI)] false (gB (gD QSj (gD QSp (gD QSl gN)))) fun m=>Qm m fun x _=>kT (s_f65 x.1)
def QSq:TC:=aF Tryz.f117 []
def g_f117:G:=gG 6 [(65,QpZ)] (fun _ _=>none)
def r_f117 (p0:Keep):OV:=some (.t .bool (igt (Yl p0) 0),[])
theorem s_f117 (u:Keep):r_f117 u=some (.t .bool (Jq u),[]):=rfl
def I4:Ent:=Qi (.pr Qd .nil) (fun x=>true) (fun x=>(.t .bool (Jq x.1)))
theorem QaZ:EM 117 I4:=mS g_f117 QSq [((.t 2),some .bool)] false (gB (gD QEh gN)) fun m=>Qm m fun x _=>kT (s_f117 x.1)
end Go.Proofs.YtmjnnemhoeolgaaGreat.K
noncomputable section
namespace Go.Proofs.YtmjnnemhoeolgaaGreat.K
open Go.RowKit
theorem F8 {d:Dice}{l:List Int}(h:dOk d=true):dOk (QU d l)=true:=QW h
theorem Oo {d:Dice}{l:List Int}(h:l≠[]):dof d l∈l:=by
 have hl:0<(l.length:Int):=by
  cases l with
  |nil=>exact absurd rfl h
  |cons a l=>rw [Bv];omega
 have h2:=JO (d:=d) hl
 have h3:(Qj d l.length).toNat<l.length:=by omega
 unfold dof
 rw [Bk,Bh h3]
 exact Bw h3
def szL (a:Int):List Int:=
 if a=5∨a=6∨a=10∨a=11 then [2048,1024,512,3072,1023,4096,16384]
 else if a=7∨a=12 then [256,160,224,384,521]
 else if a=9 then [65,44,87]
 else if a=13 then [768,512,1024]
 else if a=14 then [128,40]
 else if a=15 then [168,112]
 else if a=16∨a=17 then [128,256]
 else []
def sizeV (d:Dice)(a:Int):Int:=if szL a=[] then 0 else dof d (szL a)
def sizeN (d:Dice)(a:Int):Dice:=if szL a=[] then d else QU d (szL a)
end Go.Proofs.YtmjnnemhoeolgaaGreat.K
noncomputable section
namespace Go.Proofs.YtmjnnemhoeolgaaGreat.K
open Go.RowKit
noncomputable section
def WP {α:Type}(l:List α)(n i:Int):Bool:=decide (n=l.length/\0<=i/\i<=n/\l.length<=9223372036854775807)
theorem Qxb {α:Type}{l:List α}{n i:Int}(h:WP l n i=true):n=l.length/\l.length<=9223372036854775807∧ ∃ k:Nat,i=k/\k<=l.length:=by
 simp only [WP,Ba] at h
 obtain ⟨h1,h2,h3,h4⟩:=h
 exact ⟨h1,h4,i.toNat,by omega,by omega⟩
theorem Qxc {α:Type}{l:List α}(h:l.length<=9223372036854775807):WP l (Qa l) 0=true:=by
 simp only [WP,Ba,Qa]
 exact ⟨trivial,by omega,by omega,h⟩
theorem Qd5 {k:Nat}(h:k<9223372036854775807):Qg .i64 (k:Int) 1=((k+1:Nat):Int):=by rw [J6 (by omega)];omega
def Qs {α:Type}(m:α->Bool):List α->Option Nat
 | []=>none
 |a::l=>if m a then some 0 else (Qs m l).map (· + 1)
theorem Vl {α:Type}{m:α->Bool}: ∀ {l:List α},Qs m l=none↔l.any m=false
 | []=>by simp [Qs]
 |a::l=>by
  have ih:=Vl (m:=m) (l:=l)
  unfold Qs
  cases h:m a with
  |true=>simp [h]
  |false=>simpa [h] using ih
theorem E4 {α:Type}{m:α->Bool}: ∀ {l:List α} {k:Nat},Qs m l=some k→ ∃ h:k<l.length,m l[k]=true
 | [],_,h=>by cases h
 |a::l,k,h=>by
  unfold Qs at h
  split at h
  ·rename_i ha
   injection h with h
   subst h
   exact ⟨by simp,ha⟩
  ·obtain ⟨j,h1,h2⟩:=Bj.1 h
   subst h2
   obtain ⟨q,h3⟩:=E4 h1
   exact ⟨by simp only [Bv];omega,h3⟩
theorem Qd6 {α:Type}{m:α->Bool}{l:List α}:(Qs m l).isSome=l.any m:=by
 cases h:Qs m l with
 |none=>rw [Vl.1 h];rfl
 |some k=>
  obtain ⟨q,h1⟩:=E4 h
  exact (DF.2 ⟨l[k],Bw q,h1⟩).symm
theorem Fk (s:ByteArray):(Q1 s).length=s.size:=by simp [Q1]
def WQ (l:List ByteArray)(v:ByteArray):Bool:=l.any (seq v)
def Wx (c:Int):Bool:=decide (32<c/\c<=126)
def JD (s:ByteArray):Bool:=(Q1 s).all Wx&&decide (1<=s.size/\s.size<=32)
def Jg (s:ByteArray):Bool:=decide (s.size<=9223372036854775807)
abbrev Qd7:Sh:=⟨[(0,.ty .str),(6,.ty (.sl (.int .u8))),(7,.ty tI),(8,.ty tI)],[]⟩
abbrev QlO:Sh:=⟨[(2,.ty .bool)],[]⟩
abbrev Qxd:Sh:=⟨[(0,.ty .str)],[]⟩
def QlP:Fg:=Qd7.f
def Qxe:TC:=aF Tryz.f86 [(26,pL 0 QlP),(421,.fg Qxd.f),(13517,.fg QlO.f)]
def Qxf:TC:=lb 0 Qxe
def Qxg (x0:ByteArray)(x6:List Int)(x7 x8:Int):VS:=Qd7.st (x0,x6,x7,x8,()) ()
def Gl (x2:Bool):VS:=QlO.st (x2,()) ()
def QlQ (x0:ByteArray):VS:=Qxd.st (x0,()) ()
def QLm:VS->Option (Bool×List (Bool×Exit×VS)):=mkL Qd7 (fun x y=>(WP x.2.1 x.2.2.1 x.2.2.2.1)) (fun x y=>[((!((x.2.1.drop x.2.2.2.1.toNat).all Wx)),.ret,Gl (false)),(true,.exit 0,QlQ (x.1))])
def QlR:G:=gG 27 [(31080144,Qam)] (Ls [QLm])
def Qd8 (x0:ByteArray)(x6:List Int)(x7 x8:Int):OX:=Qr (Qv QlR QlP Qxf) (Qxg x0 x6 x7 x8)
def Vm (kk:ByteArray->List Int->Int->Int->OX)(x0:ByteArray)(x6:List Int)(x7 x8:Int):OX:=
 let a1:=lgt (.int .u8) x6 (Int.toNat x8)
 br (ilt x8 x7) (br (cIx x6 x8) (br (ile a1 32) (some (.ret,Gl false)) (br (igt a1 126) (some (.ret,Gl false)) (kk x0 x6 x7 (Qg .i64 x8 1)))) none) (some (.exit 0,QlQ x0))
def Qd9 (x0:ByteArray)(x6:List Int)(x7 x8:Int):OX:=br (!((x6.drop x8.toNat).all Wx)) (some (.ret,Gl (false)))<|some (.exit 0,QlQ (x0))
theorem Qxh (x0:ByteArray)(x6:List Int)(x7 x8:Int):Qd8 x0 x6 x7 x8=Vm Qd8 x0 x6 x7 x8:=lnT (x:=Vm (fun x0 x6 x7 x8=>some (.normal,Qxg x0 x6 x7 x8)) x0 x6 x7 x8) (by simp only [Vm,nxA];rfl)
def r_f86 (p0:ByteArray):OV:=br (Y8 p0) (br (WP (Q1 p0) (Qa (Q1 p0)) (0:Int)) (br (!(((Q1 p0).drop (0:Int).toNat).all Wx)) (some (.t .bool (false),[])) (br (ige (J3 (p0)) 1) (some (.t .bool (ile (J3 (p0)) 32),[])) (some (.t .bool false,[])))) none) none
theorem QLn (x0:ByteArray)(x6:List Int)(x7 x8:Int)(h:(WP x6 x7 x8)=true):Qd8 x0 x6 x7 x8=Qd9 x0 x6 x7 x8:=by
 obtain ⟨rfl,h3,k,rfl,hk⟩:=Qxb h
 clear h
 refine QP x6 (fun k=>Qd8 x0 x6 (x6.length:Int) (k:Int)=Qd9 x0 x6 (x6.length:Int) (k:Int)) ?_ ?_ k hk
 ·rw [Qxh]
  simp [Vm,Qd9,Qz,Qf]
 ·intro k hk ih
  rw [Qxh]
  simp only [Vm,Qz,QJ,hk,Bt,Qb,Bc,Qd5 (show k<9223372036854775807 by omega),QL (y:= .int .u8) hk,ih]
  simp only [Qd9,Bc,Bi hk,BW,Wx]
  by_cases c1:x6[k]<=32
  ·rw [show ile x6[k] 32=true from Be c1,Qb,Bl (show ¬ (32<x6[k]/\x6[k]<=126) by omega)]
   rfl
  ·rw [show ile x6[k] 32=false from Bl c1,Qf]
   by_cases c2:126<x6[k]
   ·rw [show igt x6[k] 126=true from Be (by omega),Qb,Bl (show ¬ (32<x6[k]/\x6[k]<=126) by omega)]
    rfl
   ·rw [show igt x6[k] 126=false from Bl (by omega),Qf,Be (show 32<x6[k]/\x6[k]<=126 by omega),BA]
theorem QLo:LO QlR QlP Qxf 0:=QH (s:=Qd7) fun x y h _ q=>by simp only [QE,QF] at q;exact (QLn x.1 x.2.1 x.2.2.1 x.2.2.2.1 h).trans q
theorem s_f86 (s:ByteArray)(h:Jg s=true):r_f86 s=some (.t .bool (JD s),[]):=by
 simp only [Jg,Ba] at h
 have hl:=Fk s
 simp only [r_f86,show Y8 s=true from Be (by omega),Qxc (show (Q1 s).length<=9223372036854775807 by omega),Qb,Br,By,JD]
 cases (Q1 s).all Wx with
 |false=>rfl
 |true=>
  simp only [BC,Qf,BA]
  refine QX (fun g=> ?_) (fun g=> ?_)
  ·simp only [ige,J3,Ba] at g
   apply U6
   rw [Dq]
   simp only [ile,J3,Ba]
   omega
  ·simp only [ige,J3,Bn] at g
   apply U6
   rw [eq_comm,Bn]
   omega
def Vn:Ent:=Qi (.pr .str .nil) (fun x=>(Jg x.1)) (fun x=>(.t .bool (JD x.1)))
theorem Qea:EM 86 Vn:=mS (lk:=lkL (lkc QLo lkn)) QlR Qxe [((.t 2),some .bool)] false (gB (gC Qf6 Qf7 gN)) fun m=>Qm m fun x hok=>kT (s_f86 x.1 hok)
theorem Qxi {s:ByteArray}{k:Nat}(h:k<s.size):sgt s (k:Int)=(Q1 s)[k]'(by rw [Fk];exact h):=by
 have hl:k<s.data.toList.length:=by simpa using h
 simp only [sgt,Q1,Bc,List.getElem_map,Bk,Bh hl,BH]
abbrev Qeb:Sh:=⟨[(0,.ty .str),(3,.ty tI)],[]⟩
abbrev Qxj:Sh:=⟨[],[]⟩
def QlS:Fg:=Qeb.f
def Qxk:TC:=aF Tryz.f116 [(58,pL 0 QlS),(931,.fg Qxj.f),(7461,.fg QlO.f)]
def Qxl:TC:=lb 0 Qxk
def Qxm (x0:ByteArray)(x3:Int):VS:=Qeb.st (x0,x3,()) ()
def QlT  : VS:=Qxj.st () ()
def QLp:VS->Option (Bool×List (Bool×Exit×VS)):=mkL Qeb (fun x y=>(Jg x.1&&decide (0<=x.2.1/\x.2.1<=x.1.size))) (fun x y=>[((!(((Q1 x.1).drop x.2.1.toNat).all Wx)),.ret,Gl (false)),(true,.exit 0,QlT)])
def QlU:G:=gG 28 [] (Ls [QLp])
def Qec (x0:ByteArray)(x3:Int):OX:=Qr (Qv QlU QlS Qxl) (Qxm x0 x3)
def Vo (kk:ByteArray->Int->OX)(x0:ByteArray)(x3:Int):OX:=br (ilt x3 (J3 x0)) (br (cSx x0 x3) (br (ilt (sgt x0 x3) 33) (some (.ret,Gl false)) (br (cSx x0 x3) (br (igt (sgt x0 x3) 126) (some (.ret,Gl false)) (kk x0 (Qg .i64 x3 1))) none)) none) (some (.exit 0,QlT))
def Qed (x0:ByteArray)(x3:Int):OX:=br (!(((Q1 x0).drop x3.toNat).all Wx)) (some (.ret,Gl (false)))<|some (.exit 0,QlT)
theorem Qxn (x0:ByteArray)(x3:Int):Qec x0 x3=Vo Qec x0 x3:=lnT (x:=Vo (fun x0 x3=>some (.normal,Qxm x0 x3)) x0 x3) (by simp only [Vo,nxA];rfl)
def Qxo (p0:ByteArray):OV:=br (ilt (J3 p0) 1) (some (.t .bool false,[])) (br (igt (J3 p0) 32) (some (.t .bool false,[])) (br (Jg p0&&decide (0<=(0:Int)/\(0:Int)<=p0.size)) (br (!(((Q1 p0).drop (0:Int).toNat).all Wx)) (some (.t .bool (false),[])) (some (.t .bool true,[]))) none))
theorem QLq (x0:ByteArray)(x3:Int)(h:(Jg x0&&decide (0<=x3/\x3<=x0.size))=true):Qec x0 x3=Qed x0 x3:=by
 simp only [Jg,Bb,Ba] at h
 obtain ⟨h0,h1,h2⟩:=h
 obtain ⟨k,rfl⟩:=Bo h1
 have hl:=Fk x0
 refine QP (Q1 x0) (fun k=>Qec x0 (k:Int)=Qed x0 (k:Int)) ?_ ?_ k (by omega)
 ·rw [Qxn]
  simp [Vo,Qed,ilt,J3,hl,Qf,DY (show (Q1 x0).length<=x0.size by omega)]
 ·intro k hk ih
  have hk2:k<x0.size:=by omega
  rw [Qxn]
  simp only [Vo,show ilt (k:Int) (J3 x0)=true from by simp only [ilt,J3,Ba];omega,show cSx x0 (k:Int)=true from by simp only [cSx,Ba];omega,Qb,Qxi hk2,Qd5 (show k<9223372036854775807 by omega),ih]
  simp only [Qed,Bc,Bi hk,BW,Wx]
  by_cases c1:(Q1 x0)[k]<33
  ·rw [show ilt (Q1 x0)[k] 33=true from Be c1,Qb,Bl (show ¬ (32<(Q1 x0)[k]/\(Q1 x0)[k]<=126) by omega)]
   rfl
  ·rw [show ilt (Q1 x0)[k] 33=false from Bl c1,Qf]
   by_cases c2:126<(Q1 x0)[k]
   ·rw [show igt (Q1 x0)[k] 126=true from Be c2,Qb,Bl (show ¬ (32<(Q1 x0)[k]/\(Q1 x0)[k]<=126) by omega)]
    rfl
   ·rw [show igt (Q1 x0)[k] 126=false from Bl c2,Qf,Be (show 32<(Q1 x0)[k]/\(Q1 x0)[k]<=126 by omega),BA]
theorem QLr:LO QlU QlS Qxl 0:=QH (s:=Qeb) fun x y h _ q=>by simp only [QE,QF] at q;exact (QLq x.1 x.2.1 h).trans q
theorem s_f116 (s:ByteArray)(h:Jg s=true):Qxo s=some (.t .bool (JD s),[]):=by
 simp only [Qxo]
 unfold JD
 refine QX (fun g=> ?_) (fun g=>QX (fun g2=> ?_) (fun g2=> ?_))
 ·simp only [ilt,J3,Ba] at g
  rw [Bl (show ¬ (1<=s.size/\s.size<=32) by omega),Bool.and_false]
 ·simp only [igt,J3,Ba] at g2
  rw [Bl (show ¬ (1<=s.size/\s.size<=32) by omega),Bool.and_false]
 ·simp only [ilt,igt,J3,Bn] at g g2
  rw [h,Be (show (0:Int)<=0/\(0:Int)<=s.size by omega),Be (show 1<=s.size/\s.size<=32 by omega),Df,Df,Qb,Br,By]
  cases (Q1 s).all Wx<;>rfl
def Qee:Ent:=Qi (.pr .str .nil) (fun x=>(Jg x.1)) (fun x=>(.t .bool (JD x.1)))
theorem QlV:EM 116 Qee:=mS (lk:=lkL (lkc QLr lkn)) QlU Qxk [((.t 2),some .bool)] false (gB gN) fun m=>Qm m fun x hok=>kT (s_f116 x.1 hok)
def Xg (d:Dice)(l:List ByteArray):ByteArray:=l.getD (Qj d l.length).toNat ByteArray.empty
def UD (d:Dice)(l:List ByteArray):Dice:=Qe d l.length
def E5 (d:Dice)(l:List ByteArray):Bool:=dOk d&&decide (0<l.length/\l.length<4611686018427387904)
def tc_f41:TC:=aF Tryz.f41 []
def g_f41:G:=gG 12 [(22,U7)] (fun _ _=>none)
def r_f41 (d0:Dice)(p1:List ByteArray):OV:=br (Q2 d0 (Qa p1)) (br (cIx p1 (Qj d0 (Qa p1))) (some (.t .str (lgt .str p1 (Int.toNat (Qj d0 (Qa p1)))),[.box (.t QK (Qe d0 (Qa p1)))])) none) none
theorem s_f41 (d:Dice)(l:List ByteArray)(h:E5 d l=true):r_f41 d l=some (.t .str (Xg d l),[.box (.t QK (UD d l))]):=by
 simp only [E5,Bb,Ba] at h
 obtain ⟨h1,h2,h3⟩:=h
 simp only [r_f41]
 have e1:Q2 d (Qa l)=true:=by simp only [Q2,h1,Qa,BA,Ba];omega
 rw [e1,Qb]
 have h4:=JO (d:=d) (n:=Qa l) (by unfold Qa;omega)
 have e2:cIx l (Qj d (Qa l))=true:=by simp only [cIx,Ba];exact h4
 rw [e2,Qb]
 rfl
def Qxp:Ent:=Wn QK (.pr (.sl .str) .nil) (fun d x=>(E5 d x.1)) (fun d x=>(.t .str (Xg d x.1))) (fun d x=>(UD d x.1))
theorem ms_f41:EM 41 Qxp:=mS g_f41 tc_f41 [((.t 4),some .str)] false (gB (gD GT gN)) fun m=>Um m rfl fun d x hok=>kT (s_f41 d x.1 hok)
end
end Go.Proofs.YtmjnnemhoeolgaaGreat.K
noncomputable section
namespace Go.Proofs.YtmjnnemhoeolgaaGreat.K
open Go.RowKit
def byt (n:Int)(k:Nat):Int:=(n / 256 ^ k) % 256
theorem QiN (a:Int):icv .u8 a=a % 256:=by
 show IntKind.u8.wrap a=_
 simp [IntKind.wrap,IntKind.bits,IntKind.signed]
theorem QGv {kd:IntKind}(hb:kd.bits=64)(a:Int)(k:Nat)(hk:k<=8):Wq kd a ((8*k:Nat):Int)=a / 256 ^ k:=by
 unfold Wq
 rw [Bc,hb,Nat.min_eq_left (by omega),Int.fdiv_eq_ediv_of_nonneg _ (by exact Int.pow_nonneg (by decide)),Int.pow_mul]
 rfl
def Ug (n:Int):Nat->List Int
 |0=>[]
 |k+1=>byt n k::Ug n k
theorem Qr3 (n:Int): ∀ k,(Ug n k).length=k
 |0=>rfl
 |k+1=>by rw [Ug,Bv,Qr3 n k]
def nbN (n:Int):Nat:=
 if-128<=n/\n<128 then 1 else if-32768<=n/\n<32768 then 2 else if-8388608<=n/\n<8388608 then 3
 else if-2147483648<=n/\n<2147483648 then 4 else if-549755813888<=n/\n<549755813888 then 5
 else if-140737488355328<=n/\n<140737488355328 then 6 else if-36028797018963968<=n/\n<36028797018963968 then 7 else 8
theorem QbZ (n:Int):nbN n<=8:=by unfold nbN;(repeat' split)<;>omega
def Xp (x b:Int):Bool:=(x != 0&&x != -1)||(x==0&&decide (b≥128))||(x== -1&&decide (b<128))
def ZD:Nat->Int->List Int->List Int
 |0,_,b=>b
 |k+1,x,b=>bif Xp x (b.headD 0) then ZD k (x / 256) (x % 256::b) else b
theorem QGw (x y:Int):Xp x y=true↔((x≠0/\x≠ -1)∨(x=0/\y≥128)∨(x= -1/\y<128)):=by simp [Xp,or_assoc]
theorem F9 (n:Int){k:Nat}(h:1<=k):Ug n k=byt n (k-1)::Ug n (k-1):=by
 obtain ⟨j,rfl⟩: ∃ j,k=j+1:=⟨k-1,by omega⟩
 rfl
theorem QiO {n:Int}(k:Nat)(h1:k<=8)(h0:1<=k)(h: -9223372036854775808<=n/\n<9223372036854775808):Xp (n / 256 ^ k) (byt n (k-1))=decide (k<nbN n):=by
 have key:((n / 256 ^ k≠0/\n / 256 ^ k≠ -1)∨(n / 256 ^ k=0/\byt n (k-1)≥128)∨(n / 256 ^ k= -1/\byt n (k-1)<128))↔k<nbN n:=by
  unfold nbN byt
  have:k=1∨k=2∨k=3∨k=4∨k=5∨k=6∨k=7∨k=8:=by omega
  rcases this with rfl|rfl|rfl|rfl|rfl|rfl|rfl|rfl<;>simp only [Int.reducePow,Nat.reduceSub]<;>(repeat' split)<;>omega
 rw [Dq,QGw,decide_eq_true_iff,key]
theorem QGx (n:Int):1<=nbN n:=by unfold nbN;(repeat' split)<;>omega
theorem Qr4 {n:Int}(h: -9223372036854775808<=n/\n<9223372036854775808): ∀ f k,1<=k->k<=nbN n->nbN n-k<=f->ZD (f+1) (n / 256 ^ k) (Ug n k)=Ug n (nbN n)
 |0,k,h1,h2,h3=>by
  have e:k=nbN n:=by omega
  rw [F9 n h1,ZD,List.headD_cons,QiO k (by have:=QbZ n;omega) h1 h,Bl (by omega),BM, ← e, ← F9 n h1]
 |f+1,k,h1,h2,h3=>by
  have h8:=QbZ n
  rcases De k (nbN n) with h4|h4
  ·rw [F9 n h1,ZD,List.headD_cons,QiO k (by omega) h1 h,Be (by omega),B2]
   have e:n / 256 ^ k / 256=n / 256 ^ (k+1):=by rw [Int.pow_succ,Int.ediv_ediv_of_nonneg (Int.pow_nonneg (by decide))]
   rw [e, ← F9 n h1]
   exact Qr4 h f (k+1) (by omega) (by omega) (by omega)
  ·have e:k=nbN n:=by omega
   rw [F9 n h1,ZD,List.headD_cons,QiO k (by omega) h1 h,Bl (by omega),BM, ← e, ← F9 n h1]
def GU (n:Int):List Int:=Ug n (nbN n)
theorem QGy {n:Int}(h: -9223372036854775808<=n/\n<9223372036854775808):ZD 9 (n / 256) [byt n 0]=GU n:=by
 have:=Qr4 h 8 1 (BL _) (QGx n) (by have:=QbZ n;omega)
 simpa [Ug,GU] using this
def Yo:Nat->Nat->List Int
 |0,_=>[]
 |f+1,n=>if n=0 then [] else Yo f (n / 256)++[((n % 256:Nat):Int)]
def XL:Nat->Nat->Nat
 |0,_=>0
 |f+1,n=>if n=0 then 0 else XL f (n / 256)+1
theorem QiP: ∀ f n,(Yo f n).length=XL f n
 |0,_=>rfl
 |f+1,n=>by
  simp only [Yo,XL]
  split
  ·rfl
  ·rw [Bm,QiP f];rfl
theorem QiQ: ∀ f n,XL f n<=f
 |0,_=>BL _
 |f+1,n=>by
  simp only [XL]
  split
  ·omega
  ·have:=QiQ f (n / 256);omega
theorem QGz (n k:Nat):byt (n:Int) k=((n / 256 ^ k % 256:Nat):Int):=by
 unfold byt
 have:(256:Int) ^ k=((256 ^ k:Nat):Int):=by simp
 rw [this]
 omega
def U8 (n:Nat):List Int:=if n<128 then [(n:Int)] else (((128+XL 8 n:Nat)):Int)::Yo 8 n
mutual
def Qb0:Val->List Int
 |.mk t b _ es=>icv .u8 t::(U8 (b.length+(Yd es).length)++(b++Yd es))
def Yd:List Val->List Int
 | []=>[]
 |v::r=>Qb0 v++Yd r
end
mutual
def U9:Val->Nat
 |.mk _ _ _ es=>Ea es+1
def Ea:List Val->Nat
 | []=>0
 |v::r=>max (U9 v) (Ea r)
end
def okV:Nat->Val->Bool
 |0,_=>false
 |n+1,.mk t b nst es=>(t==1||t==2||t==12||t==48)&&(nst==(t==48))&&(bif nst then b.isEmpty else es.isEmpty)&&decide (b.length<=100000/\es.length<=100000)&&es.all (okV n)
theorem Qr5 {n:Nat}{t:Int}{b:List Int}{q:Bool}{es:List Val}(h:okV (n+1) (.mk t b q es)=true):
  (t=1∨t=2∨t=12∨t=48)/\q=(t==48)/\(q=true->b=[])/\(q=false->es=[])/\b.length<=100000/\es.length<=100000∧ ∀ v∈es,okV n v=true:=by
 simp only [okV,Bb,Dl,Dc,Ba,Bf] at h
 obtain ⟨⟨⟨⟨h1,h2⟩,h3⟩,h4⟩,h5⟩:=h
 refine ⟨by omega,h2,fun hq=> ?_,fun hq=> ?_,h4.1,h4.2,h5⟩
 ·rw [hq,B2] at h3
  exact DR.1 h3
 ·rw [hq,BM] at h3
  exact DR.1 h3
theorem okV_up: ∀ {n:Nat} {v:Val},okV n v=true->okV (n+1) v=true
 |0,_,h=>by cases h
 |n+1,.mk t b q es,h=>by
  simp only [okV,Bb,Bf] at h ⊢
  exact ⟨h.1,fun v hv=>by have:=okV_up (h.2 v hv);simpa only [okV] using this⟩
theorem Qr6: ∀ {n:Nat} {es:List Val},(∀ v∈es,U9 v<=n)->Ea es<=n
 |_,[],_=>BX _
 |n,v::r,h=>by
  rw [Ea]
  have:=h v (by simp)
  have:=Qr6 (es:=r) fun u hu=>h u (by simp [hu])
  omega
theorem Qb1: ∀ {n:Nat} {v:Val},okV n v=true->U9 v<=n
 |0,_,h=>by cases h
 |n+1,.mk t b q es,h=>by
  rw [U9]
  have:=Qr6 (n:=n) fun v hv=>Qb1 ((Qr5 h).2.2.2.2.2.2 v hv)
  omega
theorem QGA (t:Int)(b:List Int)(q:Bool)(es:List Val):b.length+(Yd es).length<=(Qb0 (.mk t b q es)).length:=by
 rw [Qb0,Bv,Bm,Bm]
 omega
end Go.Proofs.YtmjnnemhoeolgaaGreat.K
noncomputable section
namespace Go.Proofs.YtmjnnemhoeolgaaGreat.K
open Go.RowKit
mutual
def V.plain:V->Bool
 |.t (.int _) _=>true
 |.t .bool _=>true
 |.tu vs=>V.plains vs
 |_=>false
def V.plains:List V->Bool
 | []=>true
 |v::vs=>v.plain&&V.plains vs
end
section
variable {X X':Nat->Nat->Prop}{w w':World}{σ σ':Pl}
mutual
theorem QLT: ∀ (v:V) (u:Value),v.plain=true->C X w σ v.d u->C X' w' σ' v.d u
 |.t (.int _) x,u,_,h=>by simpa only [V.d,Ty.d,C] using h
 |.t .bool x,u,_,h=>by simpa only [V.d,Ty.d,C] using h
 |.tu vs,u,hp,h=>by
  simp only [V.plain] at hp
  simp only [V.d,C] at h ⊢
  obtain ⟨us,h1,h2⟩:=h
  exact ⟨us,h1,Qx0 vs us hp h2⟩
theorem Qx0: ∀ (vs:List V) (us:List Value),V.plains vs=true->Cs X w σ (V.ds vs) us->Cs X' w' σ' (V.ds vs) us
 | [],us,_,h=>by simpa only [V.ds,Cs] using h
 |v::vs,us,hp,h=>by
  simp only [V.plains,Bb] at hp
  simp only [V.ds,Cs] at h ⊢
  obtain ⟨u,us',h1,h2,h3⟩:=h
  exact ⟨u,us',h1,QLT v u hp.1 h2,Qx0 vs us' hp.2 h3⟩
end
end
section
variable {P:Program}
end
end Go.Proofs.YtmjnnemhoeolgaaGreat.K
noncomputable section
namespace Go.Proofs.YtmjnnemhoeolgaaGreat.K
open Go.RowKit
section
variable {P:Program}
theorem QJA {f:FuncId}{e:Nat}{y:Ty}{N:Nat}{ok:(Ty.pr (.sl y) .nil).T->Bool}(hlt:f<1000000)
  (hok: ∀ x,ok x=true->x.1.length<=N)
  (h: ∀ (A:Option Addr) (c n:Nat) (cells:List Value) (w:World),Sl w (.slice A n c) y.sz n cells->(∀ u∈cells,u.oneCell'=true)->n<=N→
   Calls P f #[.slice A n c] w fun r w'=> ∃ sv,r= .returned sv/\w'.ownsRow w.heap.size e y.sz sv n cells/\Below w.heap.size w w'):
  QI P f (QG (Uk (.pr (.sl y) .nil) ok (fun _=> .ms 50000) (fun x=>[.arr e y x.1]))):=by
 intro args objs r os hF X w σ vs hfin hl hc
 unfold QG Uk at hF
 cases objs with
 |cons o os'=>simp at hF
 |nil=>
  simp only at hF
  cases ha:(Ty.pr (.sl y) .nil).args args with
  |none=>rw [ha] at hF;cases hF
  |some x=>
   rw [ha] at hF
   simp only at hF
   split at hF
   ·rename_i r' os' hq
    simp only [Bd,Bp] at hF hq
    obtain ⟨rfl,rfl⟩:=hF
    obtain ⟨h1,rfl,rfl⟩:=hq
    have hcc:=Ul ha hc
    obtain ⟨l,u0⟩:=x
    have hlen:=hok _ h1
    simp only [Ty.canon,V.ds,V.d,Ty.d,Cs,C] at hcc
    obtain ⟨u,us,rfl,⟨A,c,rfl,hnc,hmx,hz,hp⟩,rfl⟩:=hcc
    have hsl: ∃ cells,Sl w (.slice A l.length c) y.sz l.length cells/\(∀ u∈cells,u.oneCell'=true)/\Cs X w Jd (List.flatMap y.cells l) cells:=by
     by_cases hq:l=[]
     ·subst hq
      exact ⟨[],⟨by simp,A,c,rfl,BX _,hmx,fun hn=>absurd hn (by simp)⟩,fun u hu=>(by cases hu),by simp [Cs]⟩
     ·have hn:0<l.length:=List.length_pos_iff.2 hq
      obtain ⟨b,off,vs,rfl,g1,g2⟩:=hp hn
      have hvl:=Cs.len g1
      rw [Uv] at hvl
      exact ⟨vs,⟨hvl,_,c,rfl,hnc,hmx,fun _=>⟨b,off,rfl,g2.lt,fun j u hu=>g2.at_ j u hu⟩⟩,g2.one,g1⟩
    obtain ⟨cells,s1,s2,s3⟩:=hsl
    refine (QgL hlt (h A c l.length cells w s1 s2 hlen)).mono ?_
    rintro _ w' ⟨sv,rfl,ho,hb⟩
    let X':Nat->Nat->Prop:=fun b q=>X b q∨some b=sv.ownBlock
    let σ':Pl:=fun k=>if k=50000 then .arr sv else σ k
    have hsv:sv.oneCell'=true:=by
     rcases ho.2 with ⟨rfl,_⟩|⟨g,cap,cur,rfl,_⟩<;>rfl
    have hlo: ∀ b,sv.ownBlock=some b->w.heap.size<=b/\b<w'.heap.size:=fun b hbk=>ho.lt b hbk
    have ex:Ext0 X w X' w':=⟨hb.size,fun b q hbl hx=>⟨fun hx'=>by
     rcases hx' with hx'|hx'
     ·exact hx hx'
     ·have:=hlo b hx'.symm
      omega,World.cell?_of_block (w:=w) (a:=⟨b,q,none⟩) (hb.block b hbl)⟩⟩
    have e0:σ' 50000= .arr sv:=if_pos rfl
    refine ⟨sv,X',σ',rfl, ?_,⟨fun b q hq=> ?_,fun j o hj=> ?_,fun i j b hij hi hj=>by simp at hi hj;omega,by simp,fun j hj=>by simp at hj,fun j b _ hj hl=> ?_,QuK hb,fun b q hbl hq=> ?_,fun b q _ _ hq=> .inl hq⟩⟩
    ·simp only [V.d,C]
     exact ⟨e0,hsv⟩
    ·rcases hq with hq|hq
     ·exact BS (hfin b q hq) hb.size
     ·exact (hlo b hq.symm).2
    ·cases j with
     |zero=>
      simp only [B6,Bd] at hj
      subst hj
      have ho0:w'.ownsRow 0 e y.sz sv l.length cells:=by
       refine ⟨ho.1, ?_⟩
       rcases ho.2 with hq|⟨g,cap,cur,q1,q2,q3⟩
       ·exact .inl hq
       ·exact .inr ⟨g,cap,cur,q1,BX _,q3⟩
      exact ⟨⟨sv,cells,e0,.of ho0,Cs.ext0 ex _ _ (fun _ _=>rfl) s3,s2,fun b hbk o=> .inr hbk.symm⟩,fun _ h=>by cases h⟩
     |succ j=>simp at hj
    ·simp only [Bv,BB] at hj
     have:j=0:=by omega
     subst this
     left
     rw [show 50000+0=50000 from rfl,e0] at hl
     exact (hlo b hl).1
    ·rcases hq with hq|hq
     ·exact hq
     ·have:=hlo b hq.symm
      omega
   ·cases hF
theorem QJB {f:FuncId}{e:Nat}{y:Ty}{a:Ty}{ok:a.T->Bool}{L:a.T->List y.T}(h:QI P f (QG (Uk a ok (fun _=> .ms 50000) (fun x=>[.arr e y (L x)])))):QI P f (QG (Qi a ok (fun x=> .t (.sl y) (L x)))):=by
 intro args objs r os hF X w σ vs hfin hl hc
 unfold QG Qi at hF
 cases objs with
 |cons o os'=>simp at hF
 |nil=>
  simp only at hF
  cases ha:a.args args with
  |none=>rw [ha] at hF;cases hF
  |some x=>
   rw [ha] at hF
   simp only at hF
   split at hF
   ·rename_i r' os' hq
    simp only [Bd,Bp] at hF hq
    obtain ⟨rfl,rfl⟩:=hF
    obtain ⟨h1,rfl,rfl⟩:=hq
    have h2:=h args [] (.ms 50000) [.arr e y (L x)] (by unfold QG Uk;simp only [ha,h1]) X w σ vs hfin hl hc
    refine h2.mono ?_
    rintro e0 w' ⟨u,X',σ',rfl,hu,hE⟩
    have hat:=(hE.at_ 0 _ rfl).1
    let X'':Nat->Nat->Prop:=fun b q=>X' b q/\(σ' 50000).blk≠some b
    have ex:Ext X' w' X'' w':=⟨BL _,fun b q _ hx=>⟨fun hx'=>hx hx'.1,rfl⟩,fun _ _ _=>rfl⟩
    have hX: ∀ u b,σ' 50000= .arr u->u.ownBlock=some b→ ∀ q, ¬ X'' b q:=fun u b h1 h2 q hx=>hx.2 (by rw [h1];exact h2)
    have hz:=Wu (k:=50000) (y:=y) (l:=L x) (e:=e) hat ex hX (.ms 50000) u hu
    simp only [V.fz,if_true] at hz
    refine ⟨u,X'',σ',rfl,hz,⟨fun b q hq=>hE.fin b q hq.1,fun j o hj=>by simp at hj,fun i j b _ hi=>absurd hi (by simp),by simp,fun j hj=>absurd hj (by simp),fun j b _ hj=>absurd hj (by simp),hE.fr,fun b q hb hq=>hE.sub b q hb hq.1,fun b q hb hn hq=>⟨hE.old b q hb (fun i hi=>absurd hi (by simp)) hq,fun hb2=> ?_⟩⟩⟩
    rcases hE.new 0 b (BX _) (by simp) hb2 with h3|⟨i,hi,_⟩
    ·omega
    ·exact absurd hi (by simp)
   ·cases hF
end
end Go.Proofs.YtmjnnemhoeolgaaGreat.K
noncomputable section
namespace Go.Proofs.YtmjnnemhoeolgaaGreat.K
open Go.RowKit
noncomputable section
theorem Jk {α:Type}{l l2:List α}{c:Nat}(hc:c<=1000)(h:l.length+l2.length<=100000000000):QM l l2 c=true:=by
 simp only [QM,Ba]
 have:(l.length+l2.length)*(c+1)<=100000000000*1001:=Nat.mul_le_mul h (by omega)
 omega
def QpJ (l:List Int):List Int:=l
def QpK (l:List Int):Bool:=decide (l.length<=4000000)
def QDP:Ent:=Qi (.pr (.sl (.int .u8)) .nil) (fun x=>(QpK x.1)) (fun x=>(.t (.sl (.int .u8)) (QpJ x.1)))
theorem QRW:Zg Tryz.prog 247:= .inr ⟨by decide,_,Tryz.func247,by kernel_rfl,by kernel_rfl⟩
theorem elemU8:ElemOk Tryz.prog 188 5 1 1:=ElemOk.of (.int .u8 0) (by kernel_rfl) (by kernel_rfl) (by kernel_rfl) (by decide)
theorem QRX {P:Program}(w:World)(t e:TypeId)(a:Option Addr)(l c:Nat)(h:P.underlying t=some (.slice e)):(binOp .eql t (.slice a l c) (.slice none 0 0)).run P w= .ok (.bool a.isNone) w:=by
 simp [binOp,run_equal_slice_nil w t e a l c h]
set_option maxHeartbeats 400000 in
theorem QRY (A:Option Addr)(c n:Nat)(cells:List Value)(w:World)(h:Sl w (.slice A n c) 1 n cells)(h1: ∀ u∈cells,u.oneCell'=true)(hn:n<=4000000):
  Calls Tryz.prog 247 #[.slice A n c] w fun r w'=> ∃ sv,r= .returned sv/\w'.ownsRow w.heap.size 5 1 sv n cells/\Below w.heap.size w w':=by
 have he:=QRX (P:=Tryz.prog) w 188 5 A n c (by kernel_rfl)
 rcases A with _|ad
 ·have hnil:n=0:=Classical.byContradiction fun h0=>by
   obtain ⟨_,A',c',hv,_,_,h3⟩:=h
   obtain ⟨b,off,e,_⟩:=h3 (by omega)
   rw [e] at hv
   simp at hv
  subst hnil
  have hc:cells=[]:=BD (by rw [h.1,Nat.zero_mul])
  subst hc
  clear h
  simp only [Option.isNone_none] at he
  go_enter Tryz.func247,Tryz.ntmps247
  go_wp2_with fail
  go_ret
  exact ⟨_,rfl,World.ownsRow_nil _ _ _ _,Below.refl _ _⟩
 ·simp only [Option.isNone_some] at he
  have hown:=World.ownsRow_made w #[] (size:=1) (e:=5) 0 (BL _) (BX _) rfl
  have hsrc:=h.alloc (.cells #[] 5)
  have HSRC:=Lib.hid hsrc
  clear h hsrc
  go_enter Tryz.func247,Tryz.ntmps247
  go_wp2_with (at_builtin;refine QvV elemU8 rfl _ _ rfl w.heap.size (.slice (some ⟨w.heap.size,0,none⟩) 0 0) 0 [] rfl hown (some ad) n c cells rfl HSRC.out h1 (by omega) (by omega) (by simp) ?_;intro v' w4 hown4 hg4 hat4)
  go_ret
  refine ⟨v',rfl,by simpa using hown4, ?_⟩
  have hal:=(Below.refl w.heap.size w).alloc (BL _) (.cells #[] 5)
  exact QvU hal hg4 (BL _) hal.size
theorem QRZ:QI Tryz.prog 247 (QG QDP):=
 QJB (a:= .pr (.sl (.int .u8)) .nil) (e:=5) (y:= .int .u8) (L:=fun x=>x.1) (QJA (e:=5) (y:= .int .u8) (by decide) (fun x hx=>Bx hx) fun A c n cells w h h1 hn=>QRY A c n cells w h h1 hn)
def QaR (n:Int):Bool:=decide (1<=n/\n<=255)&&(Fb .i64 n 31 != 31)
def QR0:TC:=aF Tryz.f242 []
def g_f242:G:=gG 14 [] (fun _ _=>none)
def QDQ (p0:Int):OV:=br (ige p0 1) (br (ile p0 255) (some (.t .bool (ine (Fb .i64 p0 31) 31),[])) (some (.t .bool false,[]))) (some (.t .bool false,[]))
theorem s_f242 (n:Int):QDQ n=some (.t .bool (QaR n),[]):=by
 simp only [QDQ]
 unfold QaR
 refine QX (fun h1=>QX (fun h2=> ?_) (fun h2=> ?_)) (fun h1=> ?_)
 ·simp only [ige,ile,Ba] at h1 h2
  rw [Be (show 1<=n/\n<=255 by omega),BA]
 ·simp only [ige,ile,Ba,Bn] at h1 h2
  rw [Bl (show ¬ (1<=n/\n<=255) by omega),DH]
 ·simp only [ige,Bn] at h1
  rw [Bl (show ¬ (1<=n/\n<=255) by omega),DH]
def QDR:Ent:=Qi (.pr tI .nil) (fun x=>true) (fun x=>(.t .bool (QaR x.1)))
theorem QR1:EM 242 QDR:=mS g_f242 QR0 [((.t 2),some .bool)] false (gB gN) fun m=>Qm m fun x _=>kT (s_f242 x.1)
def QaS (n:Int):Bool:=decide (1<=n/\n<=255)&&(XN n 32 != 31)
def QR2:TC:=aF Tryz.f210 []
def g_f210:G:=gG 14 [] (fun _ _=>none)
def QDS (p0:Int):OV:=br (ige p0 1) (br (ile p0 255) (br (cNz 32) (some (.t .bool (ine (XN p0 32) 31),[])) none) (some (.t .bool false,[]))) (some (.t .bool false,[]))
theorem s_f210 (n:Int):QDS n=some (.t .bool (QaS n),[]):=by
 simp only [QDS,show cNz 32=true from rfl,Qb]
 unfold QaS
 refine QX (fun h1=>QX (fun h2=> ?_) (fun h2=> ?_)) (fun h1=> ?_)
 ·simp only [ige,ile,Ba] at h1 h2
  rw [Be (show 1<=n/\n<=255 by omega),BA]
 ·simp only [ige,ile,Ba,Bn] at h1 h2
  rw [Bl (show ¬ (1<=n/\n<=255) by omega),DH]
 ·simp only [ige,Bn] at h1
  rw [Bl (show ¬ (1<=n/\n<=255) by omega),DH]
def QDT:Ent:=Qi (.pr tI .nil) (fun x=>true) (fun x=>(.t .bool (QaS x.1)))
theorem QR3:EM 210 QDT:=mS g_f210 QR2 [((.t 2),some .bool)] false (gB gN) fun m=>Qm m fun x _=>kT (s_f210 x.1)
theorem byt_low (n:Nat)(h:n<256):byt (n:Int) 0=n:=by
 rw [QGz]
 simp
 omega
-- loop 0: (x1 : Int) (x5 : Int) (x6 : Int) (Qqy : (List Int)); out: ('exit', 0) (x1 : Int) (x5 : Int) (Qqy : (List Int))
-- loop 1: (x1 : Int) (x7 : Int) (Qqy : (List Int)); out: ('exit', 2) (Qqy : (List Int))
theorem QR4: ∀ (f g n:Nat),n<256 ^ f->n<256 ^ g->XL f n=XL g n
 |0,g,n,h1,h2=>by
  have:n=0:=by simpa using h1
  subst this
  cases g<;>rfl
 |f+1,0,n,h1,h2=>by
  have:n=0:=by simpa using h2
  subst this
  rfl
 |f+1,g+1,n,h1,h2=>by
  rw [XL,XL]
  split
  ·rfl
  ·rw [Nat.pow_succ] at h1 h2
   rw [QR4 f g (n / 256) (by omega) (by omega)]
theorem QpL {n:Nat}(h:n<256):icv .u8 (n:Int)=n:=by
 rw [QiN]
 omega
def UX (n:Int):List Int:=U8 n.toNat
def QaT (n:Int):Bool:=decide (0<=n/\n<=1000000000)
abbrev Qhe:Sh:=⟨[(0,.ty tI),(3,.ms 3)],[(3,.arr 5 (.int .u8)),(14,.no),(16,.no)]⟩
abbrev QDU:Sh:=⟨[(3,.ms 3)],[(3,.arr 5 (.int .u8)),(14,.no),(16,.no)]⟩
def QpM:Fg:=Qhe.f
def QDV:TC:=aF Tryz.f211 [(60,.nw 3 5),(60,pL 0 QpM),(120,.mv [(14,3)]),(963,.fg QDU.f)]
def QDW:TC:=lb 0 QDV
def QDX (x0:Int)(y3:List Int):VS:=Qhe.st (x0,(),()) (y3,(),(),())
def QpN (y3:List Int):VS:=QDU.st ((),()) (y3,(),(),())
def QR5:VS->Option (Bool×List (Bool×Exit×VS)):=mkL Qhe (fun x y=>(decide (0<=x.1/\x.1<=1000000000/\y.1.length<=100))) (fun x y=>[(true,.exit 0,QpN (Yo 8 x.1.toNat++y.1))])
def QpO:G:=⟨TYs,[14,23],26,EL [],X9,(Ls [QR5]),IL [],RL []⟩
def Qhf (x0:Int)(y3:List Int):OX:=Qr (Qv QpO QpM QDW) (QDX x0 y3)
def I1 (kk:Int->List Int->OX)(x0:Int)(y3:List Int):OX:=
 let a1:=icv .u8 (XN x0 256)
 br (igt x0 0) (br (cNz 256) (br (QM ([a1]) y3 1) (br (cNz 256) (kk (G7 .i64 x0 256) (([a1])++y3)) none) none) none) (some (.exit 0,QpN y3))
def QaU (x0:Int)(y3:List Int):OX:=some (.exit 0,QpN (Yo 8 x0.toNat++y3))
theorem QDY (x0:Int)(y3:List Int):Qhf x0 y3=I1 Qhf x0 y3:=lnT (x:=I1 (fun x0 y3=>some (.normal,QDX x0 y3)) x0 y3) (by simp only [I1,nxA];rfl)
def QDZ (p0:Int):OV:=
 let a1:=(Yo 8 p0.toNat++([]:List Int))
 let a2:=icv .u8 (Qg .i64 128 (Qa a1))
 br (ilt p0 128) (some (.t (.sl (.int .u8)) ([(icv .u8 p0)]),[])) (br (decide (0<=p0/\p0<=1000000000/\([]:List Int).length<=100)) (br (QM ([a2]) a1 1) (some (.t (.sl (.int .u8)) (([a2])++a1),[])) none) none)
theorem QD0: ∀ (f g n:Nat),n<256 ^ f->n<256 ^ g->Yo f n=Yo g n
 |0,g,n,h1,h2=>by
  have:n=0:=by simpa using h1
  subst this
  cases g<;>rfl
 |f+1,0,n,h1,h2=>by
  have:n=0:=by simpa using h2
  subst this
  rfl
 |f+1,g+1,n,h1,h2=>by
  rw [Yo,Yo]
  split
  ·rfl
  ·rw [Nat.pow_succ] at h1 h2
   rw [QD0 f g (n / 256) (by omega) (by omega)]
theorem QR6 (x0:Int)(y3:List Int)(h:(decide (0<=x0/\x0<=1000000000/\y3.length<=100))=true):Qhf x0 y3=QaU x0 y3:=by
 simp only [Ba] at h
 obtain ⟨h1,h2,h3⟩:=h
 obtain ⟨n,rfl⟩:=Bo h1
 have key: ∀ (m n:Nat),n<=m->n<=1000000000→ ∀ y3:List Int,y3.length+n<=2000000000->Qhf (n:Int) y3=QaU (n:Int) y3:=by
  intro m
  induction m with
  |zero=>
   intro n hn _ y3 _
   have:n=0:=by omega
   subst this
   rw [QDY]
   simp only [I1,QaU,show igt ((0:Nat):Int) 0=false from rfl,Qf,Bc,show Yo 8 0=[] from rfl,BP]
  |succ m ih=>
   intro n hn hb y3 h6
   rw [QDY]
   by_cases h0:n=0
   ·subst h0
    simp only [I1,QaU,show igt ((0:Nat):Int) 0=false from rfl,Qf,Bc,show Yo 8 0=[] from rfl,BP]
   ·have e1:XN (n:Int) 256=((n % 256:Nat):Int):=by
     show (n:Int).tmod 256=_
     rw [Int.tmod_eq_emod_of_nonneg (by omega)]
     omega
    have e2:G7 .i64 (n:Int) 256=((n / 256:Nat):Int):=by
     show IntKind.i64.wrap ((n:Int).tdiv 256)=_
     rw [Int.tdiv_eq_ediv_of_nonneg (by omega),Go.IntWalk.i64_in _ (by omega)]
     omega
    simp only [I1,show igt (n:Int) 0=true from Be (by omega),Qb,show cNz 256=true from rfl,e1,e2,QpL (show n % 256<256 by omega)]
    rw [Jk (by omega) (by simp only [Bq];omega),Qb,ih (n / 256) (by omega) (by omega) _ (by simp only [Bm,Bq];omega)]
    simp only [QaU,Bc]
    have:Yo 8 n=Yo 8 (n / 256)++[((n % 256:Nat):Int)]:=by
     rw [show Yo 8 n=(if n=0 then [] else Yo 7 (n / 256)++[((n % 256:Nat):Int)]) from rfl,if_neg h0,QD0 7 8 (n / 256) (by omega) (by omega)]
    rw [this,BU]
 exact key n n (BL _) (by omega) y3 (by omega)
theorem QR7:LO QpO QpM QDW 0:=QH (s:=Qhe) fun x y h _ q=>by simp only [QE,QF] at q;exact (QR6 x.1 y.1 h).trans q
theorem s_f211 (n:Int)(h:QaT n=true):QDZ n=some (.t (.sl (.int .u8)) (UX n),[]):=by
 simp only [QaT,Ba] at h
 obtain ⟨h2,h3⟩:=h
 obtain ⟨n,rfl⟩:=Bo h2
 have hc:=QiQ 8 n
 have hd:=QiP 8 n
 simp only [QDZ]
 by_cases hn:n<128
 ·rw [show ilt (n:Int) 128=true from Be (by omega),Qb]
  simp only [UX,U8,Bc,if_pos hn,QpL (show n<256 by omega)]
 ·rw [show ilt (n:Int) 128=false from Bl (by omega),Qf,Be ⟨by omega,by omega,by simp⟩,Qb]
  simp only [Bc,BQ,Qa,hd]
  rw [Jk (by omega) (by simp only [Bq];omega),Qb,J6 (by omega)]
  have e2:(128+(XL 8 n:Int))=((128+XL 8 n:Nat):Int):=by omega
  simp only [UX,U8,Bc,if_neg hn]
  rw [e2,QpL (by omega),BN]
def QD1:Ent:=Qi (.pr tI .nil) (fun x=>(QaT x.1)) (fun x=>(.t (.sl (.int .u8)) (UX x.1)))
theorem QR8:EM 211 QD1:=mS (lk:=lkL (lkc QR7 lkn)) QpO QDV [((.t 2),some (.sl (.int .u8)))] false (ZX _ (fun p hp=>by cases hp)) fun m=>Qm m fun x hok=>kT (s_f211 x.1 hok)
end
end Go.Proofs.YtmjnnemhoeolgaaGreat.K
noncomputable section
namespace Go.Proofs.YtmjnnemhoeolgaaGreat.K
open Go.RowKit
noncomputable section
def Q4 (n:Int):Qh:=(2,(GU n,(false,(([]:List Val),()))))
def Zw (n:Int):Bool:=decide (-9223372036854775808<=n/\n<9223372036854775808)
-- loop 0: (x0 : Int) (x4 : Int) (y2 : Qh) (y3 : (List Int)); out: ('exit', 0) (y2 : Qh) (y3 : (List Int))
-- loop 1: (x3 : (List Int)) (y2 : Qh); out: ('exit', 2) (x3 : (List Int)) (y2 : Qh)
abbrev QdF:Sh:=⟨[(2,.ptr 2 0),(3,.ms 7),(4,.ty tI)],[(2,.box QC),(3,.no),(7,.arr 5 (.int .u8)),(40,.no),(42,.no)]⟩
abbrev Qwg:Sh:=⟨[(2,.ptr 2 0),(3,.ms 7)],[(2,.box QC),(3,.no),(7,.arr 5 (.int .u8)),(40,.no),(42,.no)]⟩
def Qlg:Fg:=QdF.f
def Qwh:TC:=aF Tryz.f190 [(58,.nw 3 5),(58,pL 0 Qlg),(116,.mv [(40,7)]),(931,.fg Qwg.f)]
def Qwi:TC:=lb 0 Qwh
def Qwj (x4:Int)(y2:Qh)(y7:List Int):VS:=QdF.st ((),(),x4,()) (y2,(),y7,(),(),())
def EX (y2:Qh)(y7:List Int):VS:=Qwg.st ((),(),()) (y2,(),y7,(),(),())
def QKv:VS->Option (Bool×List (Bool×Exit×VS)):=mkL QdF (fun x y=>(decide (-9223372036854775808<=x.2.2.1/\x.2.2.1<9223372036854775808/\1<=y.2.2.1.length/\y.2.2.1.length<=100))) (fun x y=>[(true,.exit 0,EX (y.1) (ZD 10 x.2.2.1 y.2.2.1))])
def Qlh:G:=⟨TYs,[7,40],45,EL [],X9,(Ls [QKv]),IL [],RL []⟩
def EY (x4:Int)(y2:Qh)(y7:List Int):OX:=Qr (Qv Qlh Qlg Qwi) (Qwj x4 y2 y7)
def O9 (kk:Int->Qh->List Int->OX)(x4:Int)(y2:Qh)(y7:List Int):OX:=br (QM ([(icv .u8 x4)]) y7 1) (br (decide ((0:Int)<=8)) (kk (Wq .i64 x4 8) y2 (([(icv .u8 x4)])++y7)) none) none
def QdG (kk:Int->Qh->List Int->OX)(x4:Int)(y2:Qh)(y7:List Int):OX:=br (ieq x4 (-1)) (br (cIx y7 0) (br (cLd y7 (Int.toNat 0)) (br (ilt (lgt (.int .u8) y7 (Int.toNat 0)) 128) (O9 kk x4 y2 y7) (some (.exit 0,EX y2 y7))) none) none) (some (.exit 0,EX y2 y7))
def QdH (kk:Int->Qh->List Int->OX)(x4:Int)(y2:Qh)(y7:List Int):OX:=br (ieq x4 0) (br (cIx y7 0) (br (cLd y7 (Int.toNat 0)) (br (ige (lgt (.int .u8) y7 (Int.toNat 0)) 128) (O9 kk x4 y2 y7) (QdG kk x4 y2 y7)) none) none) (QdG kk x4 y2 y7)
def QdI (kk:Int->Qh->List Int->OX)(x4:Int)(y2:Qh)(y7:List Int):OX:=br (ine x4 0) (br (ine x4 (-1)) (O9 kk x4 y2 y7) (QdH kk x4 y2 y7)) (QdH kk x4 y2 y7)
def Qli (x4:Int)(y2:Qh)(y7:List Int):OX:=some (.exit 0,EX (y2) (ZD 10 x4 y7))
theorem QKw (x4:Int)(y2:Qh)(y7:List Int):EY x4 y2 y7=QdI EY x4 y2 y7:=lnT (x:=QdI (fun x4 y2 y7=>some (.normal,Qwj x4 y2 y7)) x4 y2 y7) (by simp only [QdI,O9,QdH,QdG,nxA];rfl)
def Qwk (p0:Int):OV:=
 let a1:=Wq .i64 p0 8
 br (decide ((0:Int)<=8)) (br (decide (-9223372036854775808<=a1/\a1<9223372036854775808/\1<=([(icv .u8 p0)]).length/\([(icv .u8 p0)]).length<=100)) (some (.t QC (2,((ZD 10 a1 ([(icv .u8 p0)])),(false,(([]:List Val),())))),[])) none) none
theorem Qwl (n:Int):Wq .i64 n 8=n / 256:=by
 have:=QGv (kd:= .i64) rfl n 1 (by omega)
 rw [show ((8*1:Nat):Int)=8 from rfl] at this
 rw [this]
 rfl
theorem Qlj: ∀ (k:Nat) (x:Int) (b:List Int), -(256 ^ k:Int)<=x->x<256 ^ k→ ∀ f,ZD (k+2+f) x b=ZD (k+2) x b
 |0,x,b,h1,h2,f=>by
  simp only [Int.pow_zero] at h1 h2
  have hx:x= -1∨x=0:=by omega
  have g: ∀ f,ZD (f+2) x b=bif Xp x (b.headD 0) then (x % 256::b) else b:=by
   intro f
   rw [show f+2=(f+1)+1 from rfl,ZD,ZD]
   rcases hx with rfl|rfl
   ·rw [show ((-1:Int) % 256::b).headD 0=255 from rfl,show Xp (-1 / 256) 255=false from rfl];rfl
   ·rw [show ((0:Int) % 256::b).headD 0=0 from rfl,show Xp (0 / 256) 0=false from rfl];rfl
  rw [show 0+2+f=f+2 by omega,g f]
  exact (g 0).symm
 |k+1,x,b,h1,h2,f=>by
  rw [show k+1+2+f=(k+2+f)+1 by omega,ZD,show k+1+2=(k+2)+1 from rfl,ZD]
  have e:(256:Int) ^ (k+1)=256 ^ k*256:=by rw [Int.pow_succ]
  rw [e] at h1 h2
  rw [Qlj k (x / 256) (x % 256::b) (by omega) (by omega) f]
theorem Qlk (x:Int)(b:List Int)(h: -9223372036854775808<=x/\x<9223372036854775808):ZD 10 x b=bif Xp x (b.headD 0) then ZD 10 (x / 256) (x % 256::b) else b:=by
 have:=Qlj 8 x b (by omega) (by omega) 1
 rw [←this]
 rfl
theorem QKx (x4:Int)(y2:Qh)(y7:List Int)(h:(decide (-9223372036854775808<=x4/\x4<9223372036854775808/\1<=y7.length/\y7.length<=100))=true):EY x4 y2 y7=Qli x4 y2 y7:=by
 simp only [Ba] at h
 obtain ⟨h1,h2,h3,h4⟩:=h
 have step: ∀ (x c:Int) (r:List Int),r.length<=300->EY x y2 (c::r)=bif Xp x c then EY (x / 256) y2 (x % 256::c::r) else some (.exit 0,EX y2 (c::r)):=by
  intro x c r hr
  rw [QKw]
  have e1:cIx (c::r) 0=true:=by simp only [cIx,Bv,Ba];omega
  have e2:cLd (c::r) (Int.toNat 0)=true:=by simp only [cLd,Bv,Ba,Br];omega
  have e3:lgt (.int .u8) (c::r) (Int.toNat 0)=c:=rfl
  have e4:QM [x % 256] (c::r) 1=true:=Jk (by omega) (by simp only [Bv,BB];omega)
  simp only [QdI,O9,QdH,QdG,e1,e2,e3,e4,Qb,show decide ((0:Int)<=8)=true from rfl,Qwl,QiN,BN]
  simp only [Xp,ine,ieq,ilt,ige]
  have q1:(x != 0)= !(x==0):=rfl
  have q2:(x != -1)= !(x== -1):=rfl
  rw [q1,q2]
  by_cases hx:x=0
  ·subst hx
   cases decide (c≥128)<;>rfl
  ·by_cases hy:x= -1
   ·subst hy
    cases decide (c<128)<;>rfl
   ·rw [show (x==0)=false from beq_false_of_ne hx,show (x== -1)=false from beq_false_of_ne hy]
    rfl
 have lae: ∀ (x:Int) (y:List Int),Qli x y2 y=some (.exit 0,EX y2 (ZD 10 x y)):=fun _ _=>rfl
 have key: ∀ (k:Nat) (x:Int) (y:List Int), -(256 ^ k:Int)<=x->x<256 ^ k->k<=8->1<=y.length->y.length+k<=200→ -9223372036854775808<=x->x<9223372036854775808->EY x y2 y=Qli x y2 y:=by
  intro k
  induction k with
  |zero=>
   intro x y g1 g2 g3 g4 g5 g6 g7
   simp only [Int.pow_zero] at g1 g2
   have hx:x= -1∨x=0:=by omega
   obtain ⟨c,r,rfl⟩: ∃ c r,y=c::r:=by
    cases y with
    |nil=>simp at g4
    |cons c r=>exact ⟨c,r,rfl⟩
   simp only [Bv] at g5
   rw [step x c r (by omega),lae,Qlk x (c::r) ⟨g6,g7⟩,List.headD_cons]
   cases Xp x c with
   |false=>rfl
   |true=>
    rw [B2,B2,step (x / 256) (x % 256) (c::r) (by simp only [Bv];omega),Qlk (x / 256) (x % 256::c::r) (by omega),List.headD_cons]
    have:Xp (x / 256) (x % 256)=false:=by rcases hx with rfl|rfl<;>rfl
    rw [this]
    rfl
  |succ k ih=>
   intro x y g1 g2 g3 g4 g5 g6 g7
   obtain ⟨c,r,rfl⟩: ∃ c r,y=c::r:=by
    cases y with
    |nil=>simp at g4
    |cons c r=>exact ⟨c,r,rfl⟩
   have e:(256:Int) ^ (k+1)=256 ^ k*256:=by rw [Int.pow_succ]
   rw [e] at g1 g2
   simp only [Bv] at g5
   rw [step x c r (by omega),lae,Qlk x (c::r) ⟨g6,g7⟩,List.headD_cons]
   cases Xp x c with
   |false=>rfl
   |true=>
    rw [B2,B2,ih (x / 256) (x % 256::c::r) (by omega) (by omega) (by omega) (by simp) (by simp only [Bv];omega) (by omega) (by omega),lae]
 exact key 8 x4 y7 (by omega) (by omega) (by omega) h3 (by omega) (by omega) (by omega)
theorem QKy:LO Qlh Qlg Qwi 0:=QH (s:=QdF) fun x y h _ q=>by simp only [QE,QF] at q;exact (QKx x.2.2.1 y.1 y.2.2.1 h).trans q
theorem s_f190 (n:Int)(h:Zw n=true):Qwk n=some (.t QC (Q4 n),[]):=by
 have h1:=h
 simp only [Zw,Ba] at h1
 have e0:icv .u8 n=byt n 0:=by
  rw [QiN]
  simp [byt]
 simp only [Qwk,show decide ((0:Int)<=8)=true from rfl,Qb,Qwl,e0]
 rw [Be ⟨by omega,by omega,by simp,by simp⟩,Qb]
 have e1:=Qlj 7 (n / 256) [byt n 0] (by omega) (by omega) 1
 rw [show ZD 10 (n / 256) [byt n 0]=ZD 9 (n / 256) [byt n 0] from e1,QGy h1]
 rfl
def QdJ:Ent:=Qi (.pr tI .nil) (fun x=>(Zw x.1)) (fun x=>(.t QC (Q4 x.1)))
theorem Qll:EM 190 QdJ:=mS (lk:=lkL (lkc QKy lkn)) Qlh Qwh [((.c 2 true 4),some QC)] false (ZX _ (fun p hp=>by cases hp)) fun m=>Qm m fun x hok=>kT (s_f190 x.1 hok)
def J9 (s:ByteArray):Qh:=(12,(Q1 s,(false,(([]:List Val),()))))
def g_f230:G:=gG 6 [(31080144,Qam)] (fun _ _=>none)
theorem gk_f230:GOk Tryz.prog g_f230:=ZX _ (gA (gC Qf6 Qf7 gN))
def QKz:TC:=aF Tryz.f188 []
def g_f188:G:=gG 6 [(31080144,Qam)] (fun _ _=>none)
def Qwm (p0:ByteArray):OV:=br (Y8 p0) (some (.t QC (12,((Q1 p0),(false,(([]:List Val),())))),[])) none
theorem s_f188 (s:ByteArray)(h:Y8 s=true):Qwm s=some (.t QC (J9 s),[]):=by
 simp only [Qwm,h,Qb]
 rfl
def Qlm:Ent:=Qi (.pr .str .nil) (fun x=>(Y8 x.1)) (fun x=>(.t QC (J9 x.1)))
theorem Qwn:EM 188 Qlm:=mS g_f188 QKz [((.c 2 true 4),some QC)] false (gB (gC Qf6 Qf7 gN)) fun m=>Qm m fun x hok=>kT (s_f188 x.1 hok)
def Uz (b:Bool):Qh:=(1,([bif b then 255 else 0],(false,(([]:List Val),()))))
def QKA:TC:=aF Tryz.f192 []
def g_f192:G:=gG 8 [] (fun _ _=>none)
def r_f192 (p0:Bool):OV:=br (p0) (some (.t QC (1,([255],(false,(([]:List Val),())))),[])) (some (.t QC (1,([0],(false,(([]:List Val),())))),[]))
theorem s_f192 (b:Bool):r_f192 b=some (.t QC (Uz b),[]):=by cases b<;>rfl
def Qwo:Ent:=Qi (.pr .bool .nil) (fun x=>true) (fun x=>(.t QC (Uz x.1)))
theorem QKB:EM 192 Qwo:=mS g_f192 QKA [((.c 2 true 4),some QC)] false (gB gN) fun m=>Qm m fun x _=>kT (s_f192 x.1)
end
end Go.Proofs.YtmjnnemhoeolgaaGreat.K
noncomputable section
set_option linter.unusedSectionVars false
namespace Go.Proofs.YtmjnnemhoeolgaaGreat.K
open Go.RowKit
noncomputable section
def okT (n:Nat)(x:Qh):Bool:=okV n (Val.of x)
theorem QeY {n:Nat}{v:Val}:okT n v.un=okV n v:=by rw [okT,Val.of_un]
theorem UI {n:Nat}{x:Qh}(h:okT (n+1) x=true):
  (x.1=1∨x.1=2∨x.1=12∨x.1=48)/\x.2.2.1=(x.1==48)/\(x.2.2.1=true->x.2.1=[])/\(x.2.2.1=false->x.2.2.2.1=[])/\x.2.1.length<=100000/\x.2.2.2.1.length<=100000∧ ∀ v∈x.2.2.2.1,okV n v=true:=by
 obtain ⟨t,b,q,es,_⟩:=x
 exact Qr5 h
def Zx:Nat->List Qh->Bool
 |0,_=>false
 |n+1,l=>decide (l.length<=100000)&&l.all (okT n)
theorem QM0 {n:Nat}{es:List Val}(hl:es.length<=100000)(h: ∀ v∈es,okV n v=true):Zx (n+1) (es.map Val.un)=true:=by
 simp only [Zx,Bb,Ba,BR,Bf,B9]
 refine ⟨hl, ?_⟩
 rintro x ⟨v,hv,rfl⟩
 rw [QeY]
 exact h v hv
theorem Qze {n:Nat}{x:Qh}(h:okT n x=true):Zx n (x.2.2.2.1.map Val.un)=true:=by
 cases n with
 |zero=>obtain ⟨t,b,q,es,_⟩:=x;cases h
 |succ n=>
  obtain ⟨_,_,_,_,_,h6,h7⟩:=UI h
  exact QM0 h6 h7
theorem Fn (es:List Val):List.map Val.of (List.map Val.un es)=es:=by
 rw [DN]
 have:(Val.of ∘ Val.un)=id:=funext Val.of_un
 rw [this,List.map_id]
def WX (l:List Qh):List Qh:=l
def X5 (l:List Qh):Bool:=Zx 12 l
theorem Qzf {n:Nat}{x:Qh}(h:okT n x=true):x.2.1.length<=100000:=by
 cases n with
 |zero=>obtain ⟨t,b,q,es,_⟩:=x;cases h
 |succ n=>exact (UI h).2.2.2.2.1
theorem QM1:Zg Tryz.prog 240:= .inr ⟨by decide,_,Tryz.func240,by kernel_rfl,by kernel_rfl⟩
def Ih [Fuel]:Ent:=Qi (.pr (.sl QC) .nil) (fun x=>(Zx Ji x.1)) (fun x=>(.t (.sl QC) (WX x.1)))
theorem QM2:Zg Tryz.prog 240:=QM1
section
variable [Fuel][Nonempty (PLift (QI Tryz.prog 240 (QG Ih)))]
theorem QM3:QI Tryz.prog 240 (QG Ih):=(Classical.choice (inferInstance:Nonempty (PLift (QI Tryz.prog 240 (QG Ih))))).down
def VJ [Fuel](l:List Qh):Bool:=Zx (Ji+1) l
abbrev QeZ:Sh:=⟨[(3,.ms 3),(6,.ty (.sl QC)),(7,.ty tI),(8,.ty tI)],[(3,.arr 225 QC),(23,.no)]⟩
abbrev Qzg:Sh:=⟨[(3,.ms 3)],[(3,.arr 225 QC),(23,.no)]⟩
def QmY:Fg:=QeZ.f
def Qe0:TC:=aF Tryz.f240 [(58,.nw 3 225),(58,pL 0 QmY),(933,.fg Qzg.f),(7474,pD [(0,[5]),(1,[5]),(2,[]),(3,[5]),(4,[5]),(5,[]),(6,[5]),(7,[5]),(8,[5]),(9,[5])] (.of [0,1,2,3,4,5,6,7,8,9]))]
def Qzh:TC:=lb 0 Qe0
def Qzi:List (RV×Option Ty):=[((.t 2),some (.sl QC))]
def Qzj (x6:List Qh)(x7 x8:Int)(y3:List Qh):VS:=QeZ.st ((),x6,x7,x8,()) (y3,(),())
def QmZ (y3:List Qh):VS:=Qzg.st ((),()) (y3,(),())
def QM4:VS->Option (Bool×List (Bool×Exit×VS)):=mkL QeZ (fun x y=>(QA x.2.1 x.2.2.1 x.2.2.2.1&&VJ x.2.1&&decide (y.1.length+x.2.1.length<=200000+x.2.2.2.1.toNat))) (fun x y=>[(true,.exit 0,QmZ (y.1++x.2.1.drop x.2.2.2.1.toNat))])
def Ii:G:=gG 26 [(240,Ih),(247,QDP)] (Ls [QM4])
def Qe1 (x6:List Qh)(x7 x8:Int)(y3:List Qh):OX:=Qr (Qv Ii QmY Qzh) (Qzj x6 x7 x8 y3)
def VK (kk:List Qh->Int->Int->List Qh->OX)(x6:List Qh)(x7 x8:Int)(y3:List Qh):OX:=
 let a2:=((lgt QC x6 (Int.toNat x8)).2)
 let a1:=((lgt QC x6 (Int.toNat x8)).1,((QpJ (a2.1)),((a2.2).1,((List.map Val.of (List.map Val.un (List.map Val.of (WX (List.map Val.un (((a2.2).2).1)))))),()))))
 br (ilt x8 x7) (br (cIx x6 x8) (br (QpK (a2.1)) (br (Zx Ji (List.map Val.un (((a2.2).2).1))) (br (QM y3 ([a1]) 64) (kk x6 x7 (Qg .i64 x8 1) (y3++([a1]))) none) none) none) none) (some (.exit 0,QmZ y3))
def Qe2 (x6:List Qh)(x7 x8:Int)(y3:List Qh):OX:=some (.exit 0,QmZ (y3++x6.drop x8.toNat))
theorem Qzk (x6:List Qh)(x7 x8:Int)(y3:List Qh):Qe1 x6 x7 x8 y3=VK Qe1 x6 x7 x8 y3:=lnT (x:=VK (fun x6 x7 x8 y3=>some (.normal,Qzj x6 x7 x8 y3)) x6 x7 x8 y3) (by simp only [VK,nxA];rfl)
def Qm0 (p0:List Qh):OV:=br (QA p0 (Qa p0) (0:Int)&&VJ p0&&decide (([]:List Qh).length+p0.length<=200000+(0:Int).toNat)) (some (.t (.sl QC) (([]:List Qh)++p0.drop (0:Int).toNat),[])) none
theorem e_f240 (p0:List Qh):J2 Ii Qe0 Qzi false [.t (.sl QC) p0] []=Qm0 p0:=by kernel_rfl
theorem QM5:GOk Tryz.prog Ii:=ZX _ (gA (gC QM2 QM3 (gC QRW QRZ gN)))
theorem QM6 (x6:List Qh)(x7 x8:Int)(y3:List Qh)(h:(QA x6 x7 x8&&VJ x6&&decide (y3.length+x6.length<=200000+x8.toNat))=true):Qe1 x6 x7 x8 y3=Qe2 x6 x7 x8 y3:=by
 simp only [Bb,Ba] at h
 obtain ⟨⟨h0,hc⟩,h2⟩:=h
 obtain ⟨rfl,h3,k,rfl,hk⟩:=JB h0
 clear h0
 rw [Bc] at h2
 simp only [VJ,Zx,Bb,Bf] at hc
 revert y3
 refine QP x6 (fun k=> ∀ y3:List Qh,y3.length+x6.length<=200000+k->Qe1 x6 (x6.length:Int) (k:Int) y3=Qe2 x6 (x6.length:Int) (k:Int) y3) ?_ ?_ k hk
 ·intro y3 _
  rw [Qzk]
  simp [VK,Qe2,Qz,Qf]
 ·intro k hk ih y3 hy
  rw [Qzk]
  have hx:=hc.2 x6[k] (Bw hk)
  have e1:QpK x6[k].2.1=true:=Be (by have:=Qzf hx;omega)
  have e2:Zx Ji (List.map Val.un x6[k].2.2.2.1)=true:=Qze hx
  simp only [VK,Qz,QJ,hk,Bt,Qb,Bc,QO (show k<4611686018427387904 by omega),QL (y:=QC) hk,e1,e2,QpJ,WX,Fn]
  rw [Jk (by omega) (by simp only [Bq];omega),Qb,ih _ (by simp only [Bm,Bq];omega)]
  simp only [Qe2,Bc,Bi hk,BU,BN]
theorem QM7:LO Ii QmY Qzh 0:=QH (s:=QeZ) fun x y h _ q=>by simp only [QE,QF] at q;exact (QM6 x.2.1 x.2.2.1 x.2.2.2.1 y.1 h).trans q
theorem QM8:Qe0.lok Ii:=by
 repeat (first|exact trivial|exact QM7|refine ⟨?_, ?_⟩)
theorem s_f240 (l:List Qh)(h:Zx (Ji+1) l=true):Qm0 l=some (.t (.sl QC) (WX l),[]):=by
 have hl:l.length<=100000:=by simp only [Zx,Bb,Ba] at h;exact h.1
 simp only [Qm0,JC hl,show VJ l=true from h,BA,BB,Br,By,BP]
 rw [Be (by omega),Qb]
 rfl
theorem QM9:QI Tryz.prog 240 (J2 Ii Qe0 Qzi false):=mG Tryz.func240 (by kernel_rfl) Tryz.ntmps240 (by kernel_rfl) QM5 QM8
end
theorem QNa: ∀ N:Nat,QI Tryz.prog 240 (QG (@Ih ⟨N⟩))
 |0=>Et fun x=>by first|rfl|simp [Zx]
 |N+1=>by
  letI:Fuel:=⟨N⟩
  haveI:Nonempty (PLift (QI Tryz.prog 240 (QG Ih))):=⟨⟨QNa N⟩⟩
  exact Qm QM9 fun x hok=>(e_f240 x.1).trans (s_f240 x.1 hok)
theorem QNb (l:List Qh)(h:X5 l=true): ∃ N,Zx N l=true:=⟨12,h⟩
theorem Qzl:Zg Tryz.prog 212:= .inr ⟨by decide,_,Tryz.func212,by kernel_rfl,by kernel_rfl⟩
def Ij [Fuel]:Ent:=Qi (.pr (.sl QC) .nil) (fun x=>(Zx Ji x.1)) (fun x=>(.t (.sl QC) (WX x.1)))
theorem QNc:Zg Tryz.prog 212:=Qzl
section
variable [Fuel][Nonempty (PLift (QI Tryz.prog 212 (QG Ij)))]
theorem QNd:QI Tryz.prog 212 (QG Ij):=(Classical.choice (inferInstance:Nonempty (PLift (QI Tryz.prog 212 (QG Ij))))).down
def VL [Fuel](l:List Qh):Bool:=Zx (Ji+1) l
abbrev Qe3:Sh:=⟨[(0,.ty (.sl QC)),(3,.ms 3),(4,.ty tI)],[(3,.arr 225 QC),(28,.no)]⟩
abbrev Qzm:Sh:=⟨[(3,.ms 3)],[(3,.arr 225 QC),(28,.no)]⟩
def Qm1:Fg:=Qe3.f
def Qe4:TC:=aF Tryz.f212 [(58,.nf 5 1 5 20501),(58,.nw 3 225),(58,pL 0 Qm1),(931,.fg Qzm.f)]
def Qzn:TC:=lb 0 Qe4
def Qzo:List (RV×Option Ty):=[((.t 2),some (.sl QC))]
def Qzp (x0:List Qh)(x4:Int)(y3:List Qh):VS:=Qe3.st (x0,(),x4,()) (y3,(),())
def Qm2 (y3:List Qh):VS:=Qzm.st ((),()) (y3,(),())
def QNe:VS->Option (Bool×List (Bool×Exit×VS)):=mkL Qe3 (fun x y=>(YR x.1 x.2.2.1&&VL x.1&&decide (y.1.length+x.1.length<=200000+x.2.2.1.toNat))) (fun x y=>[(true,.exit 0,Qm2 (y.1++x.1.drop x.2.2.1.toNat))])
def Ik:G:=⟨TYs,[16],30,EL [(212,Ij)],X9,(Ls [QNe]),IL [],RL []⟩
def Qe5 (x0:List Qh)(x4:Int)(y3:List Qh):OX:=Qr (Qv Ik Qm1 Qzn) (Qzp x0 x4 y3)
def VM (kk:List Qh->Int->List Qh->OX)(x0:List Qh)(x4:Int)(y3:List Qh):OX:=
 let a1:=lgt QC x0 (Int.toNat x4)
 let a2:=(((a1.2).2).1,((List.map Val.of (WX (List.map Val.un ((((a1.2).2).2).1)))),()))
 br (ilt x4 (Qa x0)) (br (cIx x0 x4) (br (QM ([]:List Int) ((a1.2).1) 1) (br (Zx Ji (List.map Val.un ((((a1.2).2).2).1))) (br (QM y3 ([(a1.1,((([]:List Int)++((a1.2).1)),a2))]) 64) (kk x0 (Qg .i64 x4 1) (y3++([(a1.1,((([]:List Int)++((a1.2).1)),a2))]))) none) none) none) none) (some (.exit 0,Qm2 y3))
def Qe6 (x0:List Qh)(x4:Int)(y3:List Qh):OX:=some (.exit 0,Qm2 (y3++x0.drop x4.toNat))
theorem Qzq (x0:List Qh)(x4:Int)(y3:List Qh):Qe5 x0 x4 y3=VM Qe5 x0 x4 y3:=lnT (x:=VM (fun x0 x4 y3=>some (.normal,Qzp x0 x4 y3)) x0 x4 y3) (by simp only [VM,nxA];rfl)
def Qm3 (p0:List Qh):OV:=br (YR p0 (0:Int)&&VL p0&&decide (([]:List Qh).length+p0.length<=200000+(0:Int).toNat)) (some (.t (.sl QC) (([]:List Qh)++p0.drop (0:Int).toNat),[])) none
theorem e_f212 (p0:List Qh):J2 Ik Qe4 Qzo false [.t (.sl QC) p0] []=Qm3 p0:=by kernel_rfl
theorem QNf:GOk Tryz.prog Ik:=ZX _ (gA (gC QNc QNd gN))
theorem QNg (x0:List Qh)(x4:Int)(y3:List Qh)(h:(YR x0 x4&&VL x0&&decide (y3.length+x0.length<=200000+x4.toNat))=true):Qe5 x0 x4 y3=Qe6 x0 x4 y3:=by
 simp only [Bb,Ba,YR] at h
 obtain ⟨⟨⟨h0,h1,h3⟩,hc⟩,h2⟩:=h
 obtain ⟨k,rfl⟩:=Bo h0
 rw [Bc] at h2
 simp only [VL,Zx,Bb,Bf] at hc
 revert y3
 refine QP x0 (fun k=> ∀ y3:List Qh,y3.length+x0.length<=200000+k->Qe5 x0 (k:Int) y3=Qe6 x0 (k:Int) y3) ?_ ?_ k (by omega)
 ·intro y3 _
  rw [Qzq]
  simp [VM,Qe6,ilt,Qa,Qf]
 ·intro k hk ih y3 hy
  rw [Qzq]
  have hx:=hc.2 x0[k] (Bw hk)
  have e2:Zx Ji (List.map Val.un x0[k].2.2.2.1)=true:=Qze hx
  simp only [VM,show ilt (k:Int) (Qa x0)=true from Be (by simp only [Qa];omega),QJ,hk,Bt,Qb,Bc,QO (show k<4611686018427387904 by omega),QL (y:=QC) hk,e2,WX,Fn]
  rw [Jk (by omega) (by have:=Qzf hx;simp only [BB];omega),Qb,Jk (by omega) (by simp only [Bq];omega),Qb,ih _ (by simp only [Bm,Bq];omega)]
  simp only [Qe6,Bc,Bi hk,BU,BN,BP]
theorem QNh:LO Ik Qm1 Qzn 0:=QH (s:=Qe3) fun x y h _ q=>by simp only [QE,QF] at q;exact (QNg x.1 x.2.2.1 y.1 h).trans q
theorem QNi:Qe4.lok Ik:=by
 repeat (first|exact trivial|exact QNh|refine ⟨?_, ?_⟩)
theorem s_f212 (l:List Qh)(h:Zx (Ji+1) l=true):Qm3 l=some (.t (.sl QC) (WX l),[]):=by
 have hl:l.length<=100000:=by simp only [Zx,Bb,Ba] at h;exact h.1
 simp only [Qm3,show YR l 0=true from Be (by omega),show VL l=true from h,BA,BB,Br,By,BP]
 rw [Be (by omega),Qb]
 rfl
theorem QNj:QI Tryz.prog 212 (J2 Ik Qe4 Qzo false):=mG Tryz.func212 (by kernel_rfl) Tryz.ntmps212 (by kernel_rfl) QNf QNi
end
theorem Qzr: ∀ N:Nat,QI Tryz.prog 212 (QG (@Ij ⟨N⟩))
 |0=>Et fun x=>by first|rfl|simp [Zx]
 |N+1=>by
  letI:Fuel:=⟨N⟩
  haveI:Nonempty (PLift (QI Tryz.prog 212 (QG Ij))):=⟨⟨Qzr N⟩⟩
  exact Qm QNj fun x hok=>(e_f212 x.1).trans (s_f212 x.1 hok)
def Qzs:Ent:=Qi (.pr (.sl QC) .nil) (fun x=>(X5 x.1)) (fun x=>(.t (.sl QC) (WX x.1)))
theorem QNk:QI Tryz.prog 212 (QG Qzs):=QcR Qzr fun x hok=>QNb x.1 hok
end
end Go.Proofs.YtmjnnemhoeolgaaGreat.K
noncomputable section
set_option linter.unusedSectionVars false
namespace Go.Proofs.YtmjnnemhoeolgaaGreat.K
open Go.RowKit
noncomputable section
theorem Qnn {n:Nat}{x:Qh}(h:okT (n+1) x=true): ∀ k (hk:k<(List.map Val.un x.2.2.2.1).length),okT n (List.map Val.un x.2.2.2.1)[k]=true:=by
 intro k hk
 rw [List.getElem_map,QeY]
 exact (UI h).2.2.2.2.2.2 _ (Bw _)
def WY (_x:Qh):Bool:=true
def Qfm (x:Qh):Bool:=okT 12 x
theorem QN7 (x:Qh)(h:Qfm x=true): ∃ N,okT N x=true:=⟨12,h⟩
theorem QN8:Zg Tryz.prog 237:= .inr ⟨by decide,_,Tryz.func237,by kernel_rfl,by kernel_rfl⟩
def Is [Fuel]:Ent:=Qi (.pr QC .nil) (fun x=>(okT Ji x.1)) (fun x=>(.t .bool (WY x.1)))
theorem QN9:Zg Tryz.prog 237:=QN8
section
variable [Fuel][Nonempty (PLift (QI Tryz.prog 237 (QG Is)))]
theorem QOa:QI Tryz.prog 237 (QG Is):=(Classical.choice (inferInstance:Nonempty (PLift (QI Tryz.prog 237 (QG Is))))).down
def Qfn (_x:Qh):Bool:=false
def Qfo [Fuel](x:Qh):Bool:=okT Ji x
def XC [Fuel](l:List Qh):Bool:=decide (l.length<=100000)&&l.all (okT Ji)
def QOb:TC:=aF Tryz.f244 []
def g_f244:G:=gG 6 [(237,Is)] (fun _ _=>none)
def Qz6 (p0:Qh):OV:=br (okT Ji p0) (some (.t .bool (!(WY p0)),[])) none
theorem s_f244 (x:Qh)(h:Qfo x=true):Qz6 x=some (.t .bool (Qfn x),[]):=by
 simp only [Qz6,show okT Ji x=true from h,Qb]
 rfl
def Qz7:Ent:=Qi (.pr QC .nil) (fun x=>(Qfo x.1)) (fun x=>(.t .bool (Qfn x.1)))
theorem QOc:EM 244 Qz7:=mS g_f244 QOb [((.t 2),some .bool)] false (gB (gC QN9 QOa gN)) fun m=>Qm m fun x hok=>kT (s_f244 x.1 hok)
def Qno (_l:List Qh):Int:= -1
abbrev Qfp:Sh:=⟨[(0,.ty (.sl QC)),(1,.cf 244),(7,.ty tI),(8,.ty tI)],[]⟩
abbrev Qz8:Sh:=⟨[(4,.ty tI)],[]⟩
abbrev Qfq:Sh:=⟨[],[]⟩
def Qnp:Fg:=Qfp.f
def Qz9:TC:=aF Tryz.f248 [(26,pL 0 Qnp),(421,.fg Qfq.f),(13517,.fg Qz8.f)]
def QAa:TC:=lb 0 Qz9
def QAb (x0:List Qh)(x7 x8:Int):VS:=Qfp.st (x0,(),x7,x8,()) ()
def Qnq (x4:Int):VS:=Qz8.st (x4,()) ()
def Qnr  : VS:=Qfq.st () ()
def QOd:VS->Option (Bool×List (Bool×Exit×VS)):=mkL Qfp (fun x y=>(QA x.1 x.2.2.1 x.2.2.2.1&&XC x.1)) (fun x y=>[((false),.ret,Qnq (x.2.2.2.1)),(true,.exit 0,Qnr)])
def Qns:G:=gG 19 [(244,Qz7)] (Ls [QOd])
def Qfr (x0:List Qh)(x7 x8:Int):OX:=Qr (Qv Qns Qnp QAa) (QAb x0 x7 x8)
def VX (kk:List Qh->Int->Int->OX)(x0:List Qh)(x7 x8:Int):OX:=
 let a1:=lgt QC x0 (Int.toNat x8)
 br (ilt x8 x7) (br (cIx x0 x8) (br (Qfo a1) (br (Qfn a1) (some (.ret,Qnq x8)) (kk x0 x7 (Qg .i64 x8 1))) none) none) (some (.exit 0,Qnr))
def Qnt (x0:List Qh)(x7 x8:Int):OX:=br (false) (some (.ret,Qnq (x8)))<|some (.exit 0,Qnr)
theorem QAc (x0:List Qh)(x7 x8:Int):Qfr x0 x7 x8=VX Qfr x0 x7 x8:=lnT (x:=VX (fun x0 x7 x8=>some (.normal,QAb x0 x7 x8)) x0 x7 x8) (by simp only [VX,nxA];rfl)
def QAd (p0:List Qh):OV:=br (QA p0 (Qa p0) (0:Int)&&XC p0) (br (false) (some (.t tI (0:Int),[])) (some (.t tI (-1),[]))) none
theorem QOe (x0:List Qh)(x7 x8:Int)(h:(QA x0 x7 x8&&XC x0)=true):Qfr x0 x7 x8=Qnt x0 x7 x8:=by
 simp only [Bb] at h
 obtain ⟨h0,hc⟩:=h
 obtain ⟨rfl,h3,k,rfl,hk⟩:=JB h0
 clear h0
 simp only [XC,Bb,Bf] at hc
 refine QP x0 (fun k=>Qfr x0 (x0.length:Int) (k:Int)=Qnt x0 (x0.length:Int) (k:Int)) ?_ ?_ k hk
 ·rw [QAc]
  simp [VX,Qnt,Qz,Qf]
 ·intro k hk ih
  rw [QAc]
  have hx:=hc.2 x0[k] (Bw hk)
  simp only [VX,Qz,QJ,hk,Bt,Qb,Bc,QO (show k<4611686018427387904 by omega),QL (y:=QC) hk,show Qfo x0[k]=true from hx,Qfn,Qf,ih]
  rfl
theorem QOf:LO Qns Qnp QAa 0:=QH (s:=Qfp) fun x y h _ q=>by simp only [QE,QF] at q;exact (QOe x.1 x.2.2.1 x.2.2.2.1 h).trans q
theorem QOg (l:List Qh)(h:XC l=true):QAd l=some (.t tI (Qno l),[]):=by
 have hl:l.length<=100000:=by simp only [XC,Bb,Ba] at h;exact h.1
 simp only [QAd,JC hl,h,BA,Qb,Qf]
 rfl
def QAe:Ent:=Ye [.ty (.sl QC),.cf 244] [] (fun x d=>(XC x.1)) (fun x d=>(.t tI (Qno x.1)))
theorem QOh:EM 248 QAe:=mS (lk:=lkL (lkc QOf lkn)) Qns Qz9 [((.t 4),some tI)] false (gB (gD QOc gN)) fun m=>ZZ m fun x d hok=>kT (QOg x.1 hok)
def Qnu (_l:List Qh):Bool:=false
def QOi:TC:=aF Tryz.f243 []
def QOj:G:=gG 9 [(248,QAe)] (fun _ _=>none)
def QAf (p0:List Qh):OV:=br (XC p0) (some (.t .bool (ige (Qno p0) 0),[])) none
theorem QOk (l:List Qh)(h:XC l=true):QAf l=some (.t .bool (Qnu l),[]):=by
 simp only [QAf,h,Qb]
 rfl
def QAg:Ent:=Ye [.ty (.sl QC),.cf 244] [] (fun x d=>(XC x.1)) (fun x d=>(.t .bool (Qnu x.1)))
theorem QOl:EM 243 QAg:=mS QOj QOi [((.t 4),some .bool)] false (gB (gD QOh gN)) fun m=>ZZ m fun x d hok=>kT (QOk x.1 hok)
def Qnv:TC:=aF Tryz.f237 []
def QAh:List (RV×Option Ty):=[((.t 2),some .bool)]
def Qfs:G:=gG 41 [(242,QDR),(243,QAg)] (fun _ _=>none)
def Qnw (p0:Qh):OV:=
 let a1:=List.map Val.un p0.2.2.2.1
 br (XC a1) (some (.t .bool (!(Qnu a1)),[])) none
def Qnx (p0:Qh):OV:=br (!p0.2.2.1) (br (igt (Qa (List.map Val.un p0.2.2.2.1)) 0) (some (.t .bool false,[])) (Qnw p0)) (Qnw p0)
def Qny (p0:Qh):OV:=br (!(QaR p0.1)) (some (.t .bool false,[])) (br (Gg p0.2.2.1 (ine (Fb .i64 p0.1 32) 0)) (some (.t .bool false,[])) (br (p0.2.2.1) (br (igt (Qa p0.2.1) 0) (some (.t .bool false,[])) (Qnx p0)) (Qnx p0)))
theorem e_f237 (p0:Qh):J2 Qfs Qnv QAh false [.t QC p0] []=Qny p0:=by kernel_rfl
theorem QOm:GOk Tryz.prog Qfs:=ZX _ (gA (gD QR1 (gD QOl gN)))
theorem QOn:Qnv.lok Qfs:=by repeat (first|exact trivial|refine ⟨?_, ?_⟩)
theorem s_f237 (x:Qh)(h:okT (Ji+1) x=true):Qny x=some (.t .bool (WY x),[]):=by
 obtain ⟨h1,h2,h3,h4,h5,h6,h7⟩:=UI h
 have hu:XC (List.map Val.un x.2.2.2.1)=true:=by
  simp only [XC,Bb,Ba,BR,Bf,B9]
  refine ⟨h6, ?_⟩
  rintro y ⟨v,hv,rfl⟩
  rw [QeY]
  exact h7 v hv
 have ht:QaR x.1=true:=by rcases h1 with e|e|e|e<;>rw [e]<;>rfl
 have hn:Gg x.2.2.1 (ine (Fb .i64 x.1 32) 0)=false:=by rw [h2];rcases h1 with e|e|e|e<;>rw [e]<;>rfl
 simp only [Qny,Qnx,Qnw,ht,hn,hu,BC,Qb,Qf]
 cases hq:x.2.2.1 with
 |true=>
  rw [h3 hq]
  rfl
 |false=>
  rw [h4 hq]
  rfl
theorem QOo:QI Tryz.prog 237 (J2 Qfs Qnv QAh false):=mG Tryz.func237 (by kernel_rfl) Tryz.ntmps237 (by kernel_rfl) QOm QOn
end
theorem QOp: ∀ N:Nat,QI Tryz.prog 237 (QG (@Is ⟨N⟩))
 |0=>Et fun x=>by first|rfl|simp [okT]
 |N+1=>by
  letI:Fuel:=⟨N⟩
  haveI:Nonempty (PLift (QI Tryz.prog 237 (QG Is))):=⟨⟨QOp N⟩⟩
  exact Qm QOo fun x hok=>(e_f237 x.1).trans (s_f237 x.1 hok)
theorem QAi:Zg Tryz.prog 185:= .inr ⟨by decide,_,Tryz.func185,by kernel_rfl,by kernel_rfl⟩
def It [Fuel]:Ent:=Qi (.pr QC .nil) (fun x=>(okT Ji x.1)) (fun x=>(.t .bool (WY x.1)))
theorem QOq:Zg Tryz.prog 185:=QAi
section
variable [Fuel][Nonempty (PLift (QI Tryz.prog 185 (QG It)))]
theorem QOr:QI Tryz.prog 185 (QG It):=(Classical.choice (inferInstance:Nonempty (PLift (QI Tryz.prog 185 (QG It))))).down
def Qft [Fuel](x:Qh):Bool:=okT (Ji+1) x
abbrev Qfu:Sh:=⟨[(1,.ptr 1 0),(3,.ty tI)],[(1,.box QC)]⟩
abbrev QAj:Sh:=⟨[(2,.ty .bool)],[]⟩
def Qnz:Fg:=Qfu.f
def Qfv:TC:=aF Tryz.f185 [(58,pL 0 Qnz),(931,.fg Qfq.f),(7461,.fg QAj.f)]
def QAk:TC:=lb 0 Qfv
def QAl:List (RV×Option Ty):=[((.t 2),some .bool)]
def QAm (x3:Int)(y1:Qh):VS:=Qfu.st ((),x3,()) (y1,())
def QnA (x2:Bool):VS:=QAj.st (x2,()) ()
def QnB  : VS:=Qfq.st () ()
def QOs:VS->Option (Bool×List (Bool×Exit×VS)):=mkL Qfu (fun x y=>(decide (0<=x.2.1/\x.2.1<=y.1.2.2.2.1.length)&&Qft y.1)) (fun x y=>[((false),.ret,QnA (false)),(true,.exit 0,QnB)])
def Iu:G:=gG 53 [(185,It),(210,QDT)] (Ls [QOs])
def Qfw (x3:Int)(y1:Qh):OX:=Qr (Qv Iu Qnz QAk) (QAm x3 y1)
def VY (kk:Int->Qh->OX)(x3:Int)(y1:Qh):OX:=
 let a1:=List.map Val.un y1.2.2.2.1
 let a2:=lgt QC a1 (Int.toNat x3)
 br (ilt x3 (Qa a1)) (br (cIx a1 x3) (br (okT Ji a2) (br (!(WY a2)) (some (.ret,QnA false)) (kk (Qg .i64 x3 1) y1)) none) none) (some (.exit 0,QnB))
def QnC (x3:Int)(y1:Qh):OX:=br (false) (some (.ret,QnA (false)))<|some (.exit 0,QnB)
theorem QAn (x3:Int)(y1:Qh):Qfw x3 y1=VY Qfw x3 y1:=lnT (x:=VY (fun x3 y1=>some (.normal,QAm x3 y1)) x3 y1) (by simp only [VY,nxA];rfl)
def QnD (p0:Qh):OV:=br (decide (0<=(0:Int)/\(0:Int)<=p0.2.2.2.1.length)&&Qft p0) (br (false) (some (.t .bool (false),[])) (some (.t .bool true,[]))) none
def QnE (p0:Qh):OV:=br (!p0.2.2.1) (br (igt (Qa (List.map Val.un p0.2.2.2.1)) 0) (some (.t .bool false,[])) (QnD p0)) (QnD p0)
def QnF (p0:Qh):OV:=br (!(QaS p0.1)) (some (.t .bool false,[])) (br (cNz 32) (br (cNz 2) (br (Gg p0.2.2.1 (ieq (XN (G7 .i64 p0.1 32) 2) 1)) (some (.t .bool false,[])) (br (p0.2.2.1) (br (igt (Qa p0.2.1) 0) (some (.t .bool false,[])) (QnE p0)) (QnE p0))) none) none)
theorem e_f185 (p0:Qh):J2 Iu Qfv QAl false [.t QC p0] []=QnF p0:=by kernel_rfl
theorem QOt:GOk Tryz.prog Iu:=ZX _ (gA (gC QOq QOr (gD QR3 gN)))
theorem QOu (x3:Int)(y1:Qh)(h:(decide (0<=x3/\x3<=y1.2.2.2.1.length)&&Qft y1)=true):Qfw x3 y1=QnC x3 y1:=by
 simp only [Bb,Ba] at h
 obtain ⟨⟨h0,h1⟩,hc⟩:=h
 obtain ⟨k,rfl⟩:=Bo h0
 have hm:=Qnn hc
 have hl:=(UI hc).2.2.2.2.2.1
 refine QP (List.map Val.un y1.2.2.2.1) (fun k=>Qfw (k:Int) y1=QnC (k:Int) y1) ?_ ?_ k (by rw [BR];omega)
 ·rw [QAn]
  simp [VY,QnC,ilt,Qa,Qf]
 ·intro k hk ih
  rw [QAn]
  have hk2:k<y1.2.2.2.1.length:=by rw [BR] at hk;exact hk
  simp only [VY,show ilt (k:Int) (Qa (List.map Val.un y1.2.2.2.1))=true from Be (by simp only [Qa];omega),QJ,hk,Bt,Qb,Bc,QO (show k<4611686018427387904 by omega),QL (y:=QC) hk,hm k hk,WY,BC,Qf,ih]
  rfl
theorem QOv:LO Iu Qnz QAk 0:=QH (s:=Qfu) fun x y h _ q=>by simp only [QE,QF] at q;exact (QOu x.2.1 y.1 h).trans q
theorem QOw:Qfv.lok Iu:=by
 repeat (first|exact trivial|exact QOv|refine ⟨?_, ?_⟩)
theorem s_f185 (x:Qh)(h:okT (Ji+1) x=true):QnF x=some (.t .bool (WY x),[]):=by
 obtain ⟨h1,h2,h3,h4,h5,h6,h7⟩:=UI h
 have ht:QaS x.1=true:=by rcases h1 with e|e|e|e<;>rw [e]<;>rfl
 have hn:Gg x.2.2.1 (ieq (XN (G7 .i64 x.1 32) 2) 1)=false:=by rw [h2];rcases h1 with e|e|e|e<;>rw [e]<;>rfl
 have hd:decide ((0:Int)<=0/\(0:Int)<=x.2.2.2.1.length)=true:=Be (by omega)
 simp only [QnF,QnE,QnD,ht,hn,hd,show Qft x=true from h,BZ,show cNz 32=true from rfl,show cNz 2=true from rfl,BC,Qb,Qf]
 cases hq:x.2.2.1 with
 |true=>
  rw [h3 hq]
  rfl
 |false=>
  rw [h4 hq]
  rfl
theorem QOx:QI Tryz.prog 185 (J2 Iu Qfv QAl false):=mG Tryz.func185 (by kernel_rfl) Tryz.ntmps185 (by kernel_rfl) QOt QOw
end
theorem QAo: ∀ N:Nat,QI Tryz.prog 185 (QG (@It ⟨N⟩))
 |0=>Et fun x=>by first|rfl|simp [okT]
 |N+1=>by
  letI:Fuel:=⟨N⟩
  haveI:Nonempty (PLift (QI Tryz.prog 185 (QG It))):=⟨⟨QAo N⟩⟩
  exact Qm QOx fun x hok=>(e_f185 x.1).trans (s_f185 x.1 hok)
def QAp:Ent:=Qi (.pr QC .nil) (fun x=>(Qfm x.1)) (fun x=>(.t .bool (WY x.1)))
theorem QOy:QI Tryz.prog 185 (QG QAp):=QcR QAo fun x hok=>QN7 x.1 hok
def dpV (x:Qh):Int:=(U9 (Val.of x):Int)
def Xi (n:Nat)(x:Qh):Bool:=okT n x&&decide (n<=100)
def Qfx (x:Qh):Bool:=okT 12 x
theorem QOz (x:Qh)(h:Qfx x=true): ∃ N,Xi N x=true:=⟨12,by rw [Xi,show okT 12 x=true from h];rfl⟩
def UL (l:List Qh):Nat:=Ea (l.map Val.of)
theorem QOA:UL []=0:=rfl
theorem QOB (x:Qh)(l:List Qh):UL (x::l)=max (U9 (Val.of x)) (UL l):=rfl
theorem Qfy (x:Qh):U9 (Val.of x)=Ea x.2.2.2.1+1:=rfl
theorem QOC (a b:Nat):imx (a:Int) (b:Int)=((max a b:Nat):Int):=by
 unfold imx
 split<;>omega
def QOD [Fuel]:Ent:=Qi (.pr QC .nil) (fun x=>(Xi Ji x.1)) (fun x=>(.t tI (dpV x.1)))
section
variable [Fuel][Nonempty (PLift (QI Tryz.prog 238 (QG QOD)))]
def QnG [Fuel](l:List Qh):Bool:=decide (l.length<=100000/\Ji+1<=100)&&l.all (okT Ji)
-- loop 0: (x3 : Int) (x7 : (List Qh)) (x8 : Int) (x9 : Int); out: ('exit', 0) (x3 : Int)
def QAq (p0:Qh):OV:=
 let a1:=List.map Val.un p0.2.2.2.1
 br (QA a1 (Qa a1) (0:Int)&&QnG a1&&decide (0<=(0:Int)/\(0:Int)<=100)) (some (.t tI (Qg .i64 ((max (0:Int).toNat (UL (a1.drop (0:Int).toNat)):Nat):Int) 1),[])) none
theorem s_f238 (x:Qh)(h:Xi (Ji+1) x=true):QAq x=some (.t tI (dpV x),[]):=by
 simp only [Xi,Bb,Ba] at h
 obtain ⟨h,hf⟩:=h
 obtain ⟨h1,h2,h3,h4,h5,h6,h7⟩:=UI h
 have hu:QnG (List.map Val.un x.2.2.2.1)=true:=by
  simp only [QnG,Bb,Ba,BR,Bf,B9]
  refine ⟨⟨h6,hf⟩, ?_⟩
  rintro y ⟨v,hv,rfl⟩
  rw [QeY]
  exact h7 v hv
 have hd:=Qb1 (v:=Val.of x) h
 rw [Qfy] at hd
 simp only [QAq,JC (show (List.map Val.un x.2.2.2.1).length<=100000 by rw [BR];exact h6),hu,BZ,show decide ((0:Int)<=0/\(0:Int)<=100)=true from rfl,Qb,Br,By,UL,Fn,Nat.zero_max]
 rw [J6 (by omega)]
 simp only [dpV,Qfy]
 congr 2
end
theorem QAr:Zg Tryz.prog 186:= .inr ⟨by decide,_,Tryz.func186,by kernel_rfl,by kernel_rfl⟩
def Iv [Fuel]:Ent:=Qi (.pr QC .nil) (fun x=>(Xi Ji x.1)) (fun x=>(.t tI (dpV x.1)))
theorem QOE:Zg Tryz.prog 186:=QAr
section
variable [Fuel][Nonempty (PLift (QI Tryz.prog 186 (QG Iv)))]
theorem QOF:QI Tryz.prog 186 (QG Iv):=(Classical.choice (inferInstance:Nonempty (PLift (QI Tryz.prog 186 (QG Iv))))).down
def VZ [Fuel](x:Qh):Bool:=Xi (Ji+1) x
abbrev Qfz:Sh:=⟨[(1,.ptr 1 0),(3,.ty tI),(4,.ty tI)],[(1,.box QC)]⟩
abbrev QAs:Sh:=⟨[(3,.ty tI)],[]⟩
def QnH:Fg:=Qfz.f
def QfA:TC:=aF Tryz.f186 [(58,pL 0 QnH),(931,.fg QAs.f)]
def QAt:TC:=lb 0 QfA
def QAu:List (RV×Option Ty):=[((.t 2),some tI)]
def QAv (x3 x4:Int)(y1:Qh):VS:=Qfz.st ((),x3,x4,()) (y1,())
def QnI (x3:Int):VS:=QAs.st (x3,()) ()
def QOG:VS->Option (Bool×List (Bool×Exit×VS)):=mkL Qfz (fun x y=>(decide (0<=x.2.2.1/\x.2.2.1<=y.1.2.2.2.1.length/\0<=x.2.1/\x.2.1<=100)&&VZ y.1)) (fun x y=>[(true,.exit 0,QnI ((max x.2.1.toNat (UL ((List.map Val.un y.1.2.2.2.1).drop x.2.2.1.toNat)):Nat):Int))])
def Iw:G:=gG 22 [(186,Iv)] (Ls [QOG])
def QfB (x3 x4:Int)(y1:Qh):OX:=Qr (Qv Iw QnH QAt) (QAv x3 x4 y1)
def V0 (kk:Int->Int->Qh->OX)(x3 x4:Int)(y1:Qh):OX:=
 let a1:=List.map Val.un y1.2.2.2.1
 let a2:=lgt QC a1 (Int.toNat x4)
 br (ilt x4 (Qa a1)) (br (cIx a1 x4) (br (Xi Ji a2) (kk (imx x3 (dpV a2)) (Qg .i64 x4 1) y1) none) none) (some (.exit 0,QnI x3))
def QfC (x3 x4:Int)(y1:Qh):OX:=some (.exit 0,QnI ((max x3.toNat (UL ((List.map Val.un y1.2.2.2.1).drop x4.toNat)):Nat):Int))
theorem QAw (x3 x4:Int)(y1:Qh):QfB x3 x4 y1=V0 QfB x3 x4 y1:=lnT (x:=V0 (fun x3 x4 y1=>some (.normal,QAv x3 x4 y1)) x3 x4 y1) (by simp only [V0,nxA];rfl)
def QnJ (p0:Qh):OV:=br (decide (0<=(0:Int)/\(0:Int)<=p0.2.2.2.1.length/\0<=(0:Int)/\(0:Int)<=100)&&VZ p0) (some (.t tI (Qg .i64 ((max (0:Int).toNat (UL ((List.map Val.un p0.2.2.2.1).drop (0:Int).toNat)):Nat):Int) 1),[])) none
theorem e_f186 (p0:Qh):J2 Iw QfA QAu false [.t QC p0] []=QnJ p0:=by kernel_rfl
theorem QOH:GOk Tryz.prog Iw:=ZX _ (gA (gC QOE QOF gN))
theorem QOI (x3 x4:Int)(y1:Qh)(h:(decide (0<=x4/\x4<=y1.2.2.2.1.length/\0<=x3/\x3<=100)&&VZ y1)=true):QfB x3 x4 y1=QfC x3 x4 y1:=by
 simp only [Bb,Ba] at h
 obtain ⟨⟨h0,h1,h2,h3⟩,hc⟩:=h
 obtain ⟨k,rfl⟩:=Bo h0
 obtain ⟨m,rfl⟩:=Bo h2
 clear h2 h3
 simp only [VZ,Xi,Bb,Ba] at hc
 obtain ⟨hc,hf⟩:=hc
 have hm:=Qnn hc
 have hl:=(UI hc).2.2.2.2.2.1
 revert m
 refine QP (List.map Val.un y1.2.2.2.1) (fun k=> ∀ m:Nat,QfB (m:Int) (k:Int) y1=QfC (m:Int) (k:Int) y1) ?_ ?_ k (by rw [BR];omega)
 ·intro m
  rw [QAw]
  simp only [V0,show ilt ((List.map Val.un y1.2.2.2.1).length:Int) (Qa (List.map Val.un y1.2.2.2.1))=false from Bl (by simp only [Qa];omega),Qf]
  simp only [QfC,Bc,BK,QOA,Nat.max_zero]
 ·intro k hk ih m
  rw [QAw]
  have hk2:k<y1.2.2.2.1.length:=by rw [BR] at hk;exact hk
  have hd:Xi Ji (List.map Val.un y1.2.2.2.1)[k]=true:=by rw [Xi,hm k hk,Be (by omega)];rfl
  simp only [V0,show ilt (k:Int) (Qa (List.map Val.un y1.2.2.2.1))=true from Be (by simp only [Qa];omega),QJ,hk,Bt,Qb,Bc,QO (show k<4611686018427387904 by omega),QL (y:=QC) hk,hd,dpV,QOC,ih]
  simp only [QfC,Bc,Bi hk,QOB,Nat.max_assoc]
theorem QOJ:LO Iw QnH QAt 0:=QH (s:=Qfz) fun x y h _ q=>by simp only [QE,QF] at q;exact (QOI x.2.1 x.2.2.1 y.1 h).trans q
theorem QOK:QfA.lok Iw:=by
 repeat (first|exact trivial|exact QOJ|refine ⟨?_, ?_⟩)
theorem s_f186 (x:Qh)(h:Xi (Ji+1) x=true):QnJ x=some (.t tI (dpV x),[]):=by
 have hin:VZ x=true:=h
 simp only [Xi,Bb,Ba] at h
 obtain ⟨h,hf⟩:=h
 have hd:=Qb1 (v:=Val.of x) h
 rw [Qfy] at hd
 have hdd:decide ((0:Int)<=0/\(0:Int)<=x.2.2.2.1.length/\(0:Int)<=0/\(0:Int)<=100)=true:=Be (by omega)
 simp only [QnJ,hin,hdd,BZ,Qb,Br,By,UL,Fn,Nat.zero_max]
 rw [J6 (by omega)]
 simp only [dpV,Qfy]
 congr 2
theorem QOL:QI Tryz.prog 186 (J2 Iw QfA QAu false):=mG Tryz.func186 (by kernel_rfl) Tryz.ntmps186 (by kernel_rfl) QOH QOK
end
theorem QAx: ∀ N:Nat,QI Tryz.prog 186 (QG (@Iv ⟨N⟩))
 |0=>Et fun x=>by first|rfl|simp [Xi]
 |N+1=>by
  letI:Fuel:=⟨N⟩
  haveI:Nonempty (PLift (QI Tryz.prog 186 (QG Iv))):=⟨⟨QAx N⟩⟩
  exact Qm QOL fun x hok=>(e_f186 x.1).trans (s_f186 x.1 hok)
def QAy:Ent:=Qi (.pr QC .nil) (fun x=>(Qfx x.1)) (fun x=>(.t tI (dpV x.1)))
theorem QOM:QI Tryz.prog 186 (QG QAy):=QcR QAx fun x hok=>QOz x.1 hok
end
end Go.Proofs.YtmjnnemhoeolgaaGreat.K
noncomputable section
set_option linter.unusedSectionVars false
namespace Go.Proofs.YtmjnnemhoeolgaaGreat.K
open Go.RowKit
noncomputable section
def Zz (x:Qh):List Int:=Qb0 (Val.of x)
def ZE (l:List Qh):List Int:=Yd (l.map Val.of)
theorem Vi:ZE []=[]:=rfl
theorem Fj (x:Qh)(l:List Qh):ZE (x::l)=Zz x++ZE l:=rfl
theorem QdY (x:Qh):Zz x=icv .u8 x.1::(U8 (x.2.1.length+(Yd x.2.2.2.1).length)++(x.2.1++Yd x.2.2.2.1)):=rfl
theorem QwY (x:Qh):x.2.1.length+(Yd x.2.2.2.1).length<=(Zz x).length:=QGA x.1 x.2.1 x.2.2.1 x.2.2.2.1
theorem QwZ: ∀ (l:List Qh) (k:Nat) (hk:k<l.length),(ZE (l.take k)).length+(Zz l[k]).length<=(ZE l).length
 | [],k,hk=>by simp at hk
 |x::l,0,_=>by
  rw [List.take_zero,Vi,Fj,Bm]
  simp
 |x::l,k+1,hk=>by
  simp only [Bv] at hk
  have:=QwZ l k (by omega)
  simp only [List.take_succ_cons,Fj,Bm,DQ]
  omega
theorem QdZ (n:Nat):(U8 n).length<=9:=by
 unfold U8
 split
 ·simp
 ·rw [Bv,QiP]
  have:=QiQ 8 n
  omega
def Wv (n:Nat)(x:Qh):Bool:=okT n x&&decide ((Zz x).length<=100000000)
def WO (x:Qh):Bool:=okT 12 x&&decide ((Zz x).length<=100000000)
theorem QK8 (x:Qh)(h:WO x=true): ∃ N,Wv N x=true:=⟨12,h⟩
theorem Qw0:Zg Tryz.prog 187:= .inr ⟨by decide,_,Tryz.func187,by kernel_rfl,by kernel_rfl⟩
def E2 [Fuel]:Ent:=Qi (.pr QC .nil) (fun x=>(Wv Ji x.1)) (fun x=>(.t (.sl (.int .u8)) (Zz x.1)))
theorem QK9:Zg Tryz.prog 187:=Qw0
section
variable [Fuel][Nonempty (PLift (QI Tryz.prog 187 (QG E2)))]
theorem QLa:QI Tryz.prog 187 (QG E2):=(Classical.choice (inferInstance:Nonempty (PLift (QI Tryz.prog 187 (QG E2))))).down
def Vj [Fuel](x:Qh):Bool:=Wv (Ji+1) x
abbrev Qd0:Sh:=⟨[(1,.ptr 1 0),(3,.ms 5),(4,.ty tI)],[(1,.box QC),(3,.no),(5,.arr 5 (.int .u8)),(8,.no),(23,.no)]⟩
abbrev Qw1:Sh:=⟨[(1,.ptr 1 0),(3,.ms 5)],[(1,.box QC),(3,.no),(5,.arr 5 (.int .u8)),(8,.no),(23,.no)]⟩
def QlJ:Fg:=Qd0.f
def Qd1:TC:=aF Tryz.f187 [(58,.nw 3 5),(58,pL 0 QlJ),(931,.fg Qw1.f),(30,pD [(0,[1]),(1,[1]),(2,[]),(3,[27,5027,10027,15027]),(4,[3,5,8,23]),(5,[3,5,8,23]),(6,[]),(7,[27,31,5031,10031,15031]),(8,[3,5,8,23]),(9,[3,5,8,23,27,31,33,5033,10033,15033]),(10,[27,31,33])] (.of [0,1,2,4,5,6,8,3,7,9,10]))]
def Qw2:TC:=lb 0 Qd1
def Qw3:List (RV×Option Ty):=[((.t 2),some (.sl (.int .u8)))]
def Qw4 (x4:Int)(y1:Qh)(y5:List Int):VS:=Qd0.st ((),(),x4,()) (y1,(),y5,(),(),())
def QlK (y1:Qh)(y5:List Int):VS:=Qw1.st ((),(),()) (y1,(),y5,(),(),())
def QLb:VS->Option (Bool×List (Bool×Exit×VS)):=mkL Qd0 (fun x y=>(decide (0<=x.2.2.1/\x.2.2.1<=y.1.2.2.2.1.length/\y.2.2.1.length+(ZE ((List.map Val.un y.1.2.2.2.1).drop x.2.2.1.toNat)).length<=1000000000)&&Vj y.1)) (fun x y=>[(true,.exit 0,QlK (y.1) (y.2.2.1++ZE ((List.map Val.un y.1.2.2.2.1).drop x.2.2.1.toNat)))])
def E3:G:=⟨TYs,[5,27],34,EL [(187,E2),(211,QD1)],X9,(Ls [QLb]),IL [],RL []⟩
def Qd2 (x4:Int)(y1:Qh)(y5:List Int):OX:=Qr (Qv E3 QlJ Qw2) (Qw4 x4 y1 y5)
def Vk (kk:Int->Qh->List Int->OX)(x4:Int)(y1:Qh)(y5:List Int):OX:=
 let a2:=List.map Val.un y1.2.2.2.1
 let a1:=lgt QC a2 (Int.toNat x4)
 br (ilt x4 (Qa a2)) (br (cIx a2 x4) (br (Wv Ji a1) (br (QM y5 (Zz a1) 1) (kk (Qg .i64 x4 1) y1 (y5++(Zz a1))) none) none) none) (some (.exit 0,QlK y1 y5))
def Qd3 (x4:Int)(y1:Qh)(y5:List Int):OX:=some (.exit 0,QlK (y1) (y5++ZE ((List.map Val.un y1.2.2.2.1).drop x4.toNat)))
theorem Qw5 (x4:Int)(y1:Qh)(y5:List Int):Qd2 x4 y1 y5=Vk Qd2 x4 y1 y5:=lnT (x:=Vk (fun x4 y1 y5=>some (.normal,Qw4 x4 y1 y5)) x4 y1 y5) (by simp only [Vk,nxA];rfl)
def QlL (p0:Qh):OV:=
 let a2:=List.map Val.un p0.2.2.2.1
 let a3:=(a2.drop (0:Int).toNat)
 let a1:=(Qa ((([]:List Int)++p0.2.1)++ZE a3))
 let a4:=icv .u8 ((p0).1)
 br (QM ([]:List Int) p0.2.1 1) (br (decide (0<=(0:Int)/\(0:Int)<=p0.2.2.2.1.length/\(([]:List Int)++p0.2.1).length+(ZE a3).length<=1000000000)&&Vj p0) (br (QaT a1) (br (QM ([a4]) (UX a1) 1) (br (QM (([a4])++(UX a1)) ((([]:List Int)++p0.2.1)++ZE a3) 1) (some (.t (.sl (.int .u8)) ((([a4])++(UX a1))++((([]:List Int)++p0.2.1)++ZE a3)),[])) none) none) none) none) none
theorem e_f187 (p0:Qh):J2 E3 Qd1 Qw3 false [.t QC p0] []=QlL p0:=by kernel_rfl
theorem QLc:GOk Tryz.prog E3:=ZX _ (gA (gC QK9 QLa (gD QR8 gN)))
theorem QLd (x4:Int)(y1:Qh)(y5:List Int)(h:(decide (0<=x4/\x4<=y1.2.2.2.1.length/\y5.length+(ZE ((List.map Val.un y1.2.2.2.1).drop x4.toNat)).length<=1000000000)&&Vj y1)=true):Qd2 x4 y1 y5=Qd3 x4 y1 y5:=by
 simp only [Bb,Ba] at h
 obtain ⟨⟨h0,h1,h2⟩,hc⟩:=h
 obtain ⟨k,rfl⟩:=Bo h0
 simp only [Vj,Wv,Bb,Ba] at hc
 obtain ⟨hc,hf⟩:=hc
 have hm:=Qnn hc
 have hl:=(UI hc).2.2.2.2.2.1
 rw [Bc] at h2
 have hel:=QwY y1
 have hE:ZE (List.map Val.un y1.2.2.2.1)=Yd y1.2.2.2.1:=by rw [ZE,Fn]
 revert y5
 refine QP (List.map Val.un y1.2.2.2.1) (fun k=> ∀ y5:List Int,y5.length+(ZE ((List.map Val.un y1.2.2.2.1).drop k)).length<=1000000000->Qd2 (k:Int) y1 y5=Qd3 (k:Int) y1 y5) ?_ ?_ k (by rw [BR];omega)
 ·intro y5 _
  rw [Qw5]
  simp only [Vk,show ilt ((List.map Val.un y1.2.2.2.1).length:Int) (Qa (List.map Val.un y1.2.2.2.1))=false from Bl (by simp only [Qa];omega),Qf]
  simp only [Qd3,Bc,BK,Vi,BQ]
 ·intro k hk ih y5 hy
  rw [Qw5]
  have hk2:k<y1.2.2.2.1.length:=by rw [BR] at hk;exact hk
  have hs:=QwZ (List.map Val.un y1.2.2.2.1) k hk
  rw [hE] at hs
  rw [Bi hk,Fj,Bm] at hy
  have hd:Wv Ji (List.map Val.un y1.2.2.2.1)[k]=true:=by rw [Wv,hm k hk,Be (by omega)];rfl
  simp only [Vk,show ilt (k:Int) (Qa (List.map Val.un y1.2.2.2.1))=true from Be (by simp only [Qa];omega),QJ,hk,Bt,Qb,Bc,QO (show k<4611686018427387904 by omega),QL (y:=QC) hk,hd]
  rw [Jk (by omega) (by omega),Qb,ih _ (by rw [Bm];omega)]
  simp only [Qd3,Bc,Bi hk,Fj,BU]
theorem QLe:LO E3 QlJ Qw2 0:=QH (s:=Qd0) fun x y h _ q=>by simp only [QE,QF] at q;exact (QLd x.2.2.1 y.1 y.2.2.1 h).trans q
theorem QLf:Qd1.lok E3:=by
 repeat (first|exact trivial|exact QLe|refine ⟨?_, ?_⟩)
theorem s_f187 (x:Qh)(h:Wv (Ji+1) x=true):QlL x=some (.t (.sl (.int .u8)) (Zz x),[]):=by
 have hin:Vj x=true:=h
 simp only [Wv,Bb,Ba] at h
 obtain ⟨h,hf⟩:=h
 have hel:=QwY x
 have hE:ZE (List.map Val.un x.2.2.2.1)=Yd x.2.2.2.1:=by rw [ZE,Fn]
 have hll:=QdZ (x.2.1.length+(Yd x.2.2.2.1).length)
 simp only [QlL,hin,Df,BP,Br,By,hE]
 rw [Jk (by omega) (by simp only [BB];omega),Qb,Be ⟨by omega,by omega,by omega⟩,Qb]
 have e1:QaT (Qa (x.2.1++Yd x.2.2.2.1))=true:=Be (by simp only [Qa,Bm];omega)
 have e2:UX (Qa (x.2.1++Yd x.2.2.2.1))=U8 (x.2.1.length+(Yd x.2.2.2.1).length):=by simp only [UX,Qa,Bm,Bc]
 rw [e1,Qb,e2,Jk (by omega) (by simp only [Bq];omega),Qb,Jk (by omega) (by simp only [Bm,Bq];omega),Qb,QdY]
 simp only [BN,DB,BP]
theorem QLg:QI Tryz.prog 187 (J2 E3 Qd1 Qw3 false):=mG Tryz.func187 (by kernel_rfl) Tryz.ntmps187 (by kernel_rfl) QLc QLf
end
theorem Qw6: ∀ N:Nat,QI Tryz.prog 187 (QG (@E2 ⟨N⟩))
 |0=>Et fun x=>by first|rfl|simp [Wv]
 |N+1=>by
  letI:Fuel:=⟨N⟩
  haveI:Nonempty (PLift (QI Tryz.prog 187 (QG E2))):=⟨⟨Qw6 N⟩⟩
  exact Qm QLg fun x hok=>(e_f187 x.1).trans (s_f187 x.1 hok)
def Qw7:Ent:=Qi (.pr QC .nil) (fun x=>(WO x.1)) (fun x=>(.t (.sl (.int .u8)) (Zz x.1)))
theorem QLh:QI Tryz.prog 187 (QG Qw7):=QcR Qw6 fun x hok=>QK8 x.1 hok
def Ww (x:Qh):List Int×Int:=if 4096<(Zz x).length then ([],3) else (Zz x,0)
theorem QLi {x:Qh}(h:okT 12 x=true):igt (dpV x) 16=false:=by
 have:=Qb1 (v:=Val.of x) h
 exact Bl (by show ¬ ((U9 (Val.of x):Int) > 16);omega)
def QLj:TC:=aF Tryz.f151 []
def g_f151:G:=gG 17 [(185,QAp),(186,QAy),(187,Qw7)] (fun _ _=>none)
def Qw8 (p0:Qh):OV:=br (Qfm p0) (br (!(WY p0)) (some (.tu [(.t (.sl (.int .u8)) ([]:List Int)),(.t tI 1)],[])) (br (Qfx p0) (br (igt (dpV p0) 16) (some (.tu [(.t (.sl (.int .u8)) ([]:List Int)),(.t tI 3)],[])) (br (WO p0) (br (igt (Qa (Zz p0)) 4096) (some (.tu [(.t (.sl (.int .u8)) ([]:List Int)),(.t tI 3)],[])) (some (.tu [(.t (.sl (.int .u8)) (Zz p0)),(.t tI 0)],[]))) none)) none)) none
theorem s_f151 (x:Qh)(h:WO x=true):Qw8 x=some (.tu [.t (.sl (.int .u8)) (Ww x).1,.t tI (Ww x).2],[]):=by
 have h':=h
 simp only [WO,Bb,Ba] at h'
 obtain ⟨h1,h2⟩:=h'
 simp only [Qw8,show Qfm x=true from h1,show Qfx x=true from h1,h,QLi h1,WY,BC,Qb,Qf]
 unfold Ww
 refine QX (fun g=> ?_) (fun g=> ?_)
 ·simp only [igt,Qa,Ba] at g
  rw [if_pos (by omega)]
 ·simp only [igt,Qa,Bn] at g
  rw [if_neg (by omega)]
def QlM:Ent:=Qi (.pr QC .nil) (fun x=>(WO x.1)) (fun x=>(.tu [(.t (.sl (.int .u8)) ((Ww x.1).1)),(.t tI ((Ww x.1).2))]))
theorem Qw9:EM 151 QlM:=mS g_f151 QLj [((.t 2),some (.sl (.int .u8))),((.t 3),some tI)] false (gB (gC QAi QOy (gC QAr QOM (gC Qw0 QLh gN)))) fun m=>Qm m fun x hok=>kT (s_f151 x.1 hok)
def conV (x:Qh):List Int:=x.2.1++Yd x.2.2.2.1
def QLk [Fuel]:Ent:=Qi (.pr QC .nil) (fun x=>(Wv Ji x.1)) (fun x=>(.t (.sl (.int .u8)) (conV x.1)))
section
variable [Fuel][Nonempty (PLift (QI Tryz.prog 245 (QG QLk)))]
end
def XA (l:List Qh):Qh:=(48,(([]:List Int),(true,(List.map Val.of l,()))))
def QLl:TC:=aF Tryz.f189 []
def g_f189:G:=gG 6 [(212,Qzs)] (fun _ _=>none)
def Qxa (p0:List Qh):OV:=br (X5 p0) (some (.t QC (48,(([]:List Int),(true,((List.map Val.of (WX p0)),())))),[])) none
theorem s_f189 (l:List Qh)(h:X5 l=true):Qxa l=some (.t QC (XA l),[]):=by
 simp only [Qxa,h,Qb]
 rfl
def Qd4:Ent:=Qi (.pr (.sl QC) .nil) (fun x=>(X5 x.1)) (fun x=>(.t QC (XA x.1)))
theorem QlN:EM 189 Qd4:=mS g_f189 QLl [((.c 2 true 4),some QC)] false (gB (gC Qzl QNk gN)) fun m=>Qm m fun x hok=>kT (s_f189 x.1 hok)
end
end Go.Proofs.YtmjnnemhoeolgaaGreat.K
