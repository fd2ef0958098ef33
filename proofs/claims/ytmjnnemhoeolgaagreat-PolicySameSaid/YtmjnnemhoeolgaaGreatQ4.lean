import Derived.Test.YtmjnnemhoeolgaaGreatQ3
set_option linter.unusedSimpArgs false
set_option linter.unusedVariables false
noncomputable section
namespace Go.Proofs.YtmjnnemhoeolgaaGreat.K
open Go.RowKit
def Qks:TC:=aF Tryz.f197 []
def Qkt:List (RV×Option Ty):=[((.c 0 true 115),some (.pr Qi (.pr Qi (.pr Qi (.pr Qi (.pr Qi (.pr Qi (.pr Qi (.pr Qi (.pr Qi (.pr Qi (.pr Qi (.pr Qi (.pr Qi (.pr Qi (.pr Qi (.pr Qi (.pr Qi (.pr Qi (.pr Qi (.pr Qi (.pr Qi (.pr Qi (.pr Qi .nil))))))))))))))))))))))))]
def Qku:G:=gG 46 [] (fun _ _=>none)
def Qkv  : OV:=some (.t (.pr Qi (.pr Qi (.pr Qi (.pr Qi (.pr Qi (.pr Qi (.pr Qi (.pr Qi (.pr Qi (.pr Qi (.pr Qi (.pr Qi (.pr Qi (.pr Qi (.pr Qi (.pr Qi (.pr Qi (.pr Qi (.pr Qi (.pr Qi (.pr Qi (.pr Qi (.pr Qi .nil))))))))))))))))))))))) (((ByteArray.mk #[]),(0,(0,(([]:List Int),(([]:List Int),()))))),(((ByteArray.mk #[109,100,53]),(1,(0,(([]:List Int),([18],()))))),(((ByteArray.mk #[115,104,97,49]),(1,(0,(([]:List Int),([60],()))))),(((ByteArray.mk #[115,104,97,50,53,54]),(1,(0,(([]:List Int),([128],()))))),(((ByteArray.mk #[115,104,97,51,56,52]),(1,(0,(([]:List Int),([192],()))))),(((ByteArray.mk #[114,115,97]),(2,(1,(([]:List Int),(([]:List Int),()))))),(((ByteArray.mk #[100,115,97]),(2,(1,(([]:List Int),(([]:List Int),()))))),(((ByteArray.mk #[101,99,100,115,97]),(2,(2,(([]:List Int),(([]:List Int),()))))),(((ByteArray.mk #[101,100,50,53,53,49,57]),(2,(0,(([]:List Int),([128],()))))),(((ByteArray.mk #[109,108,100,115,97]),(2,(3,([44,65,87],([128,192,256],()))))),(((ByteArray.mk #[114,115,97,107,120]),(3,(1,(([]:List Int),(([]:List Int),()))))),(((ByteArray.mk #[100,104,101]),(3,(1,(([]:List Int),(([]:List Int),()))))),(((ByteArray.mk #[101,99,100,104,101]),(3,(2,(([]:List Int),(([]:List Int),()))))),(((ByteArray.mk #[109,108,107,101,109]),(3,(3,([512,768,1024],([128,192,256],()))))),(((ByteArray.mk #[114,99,52]),(4,(3,([40,128],([40,60],()))))),(((ByteArray.mk #[100,101,115,51]),(4,(3,([112,168],([80,112],()))))),(((ByteArray.mk #[97,101,115,99,98,99]),(4,(3,([128,256],([128,256],()))))),(((ByteArray.mk #[97,101,115,103,99,109]),(4,(3,([128,256],([128,256],()))))),(((ByteArray.mk #[99,104,97,99,104,97]),(4,(0,(([]:List Int),([256],()))))),(((ByteArray.mk #[104,109,97,99,109,100,53]),(5,(0,(([]:List Int),([64],()))))),(((ByteArray.mk #[104,109,97,99,115,104,97,49]),(5,(0,(([]:List Int),([80],()))))),(((ByteArray.mk #[104,109,97,99,115,104,97,50,53,54]),(5,(0,(([]:List Int),([128],()))))),(((ByteArray.mk #[97,101,97,100]),(5,(0,(([]:List Int),([256],()))))),()))))))))))))))))))))))),[])
theorem e_f197  : Jq Qku Qks Qkt false [] []=Qkv  :=by kernel_rfl
def GV:Ty.T (.pr Qi (.pr Qi (.pr Qi (.pr Qi (.pr Qi (.pr Qi (.pr Qi (.pr Qi (.pr Qi (.pr Qi (.pr Qi (.pr Qi (.pr Qi (.pr Qi (.pr Qi (.pr Qi (.pr Qi (.pr Qi (.pr Qi (.pr Qi (.pr Qi (.pr Qi (.pr Qi .nil))))))))))))))))))))))):=(((ByteArray.mk #[]),(0,(0,(([]:List Int),(([]:List Int),()))))),(((ByteArray.mk #[109,100,53]),(1,(0,(([]:List Int),([18],()))))),(((ByteArray.mk #[115,104,97,49]),(1,(0,(([]:List Int),([60],()))))),(((ByteArray.mk #[115,104,97,50,53,54]),(1,(0,(([]:List Int),([128],()))))),(((ByteArray.mk #[115,104,97,51,56,52]),(1,(0,(([]:List Int),([192],()))))),(((ByteArray.mk #[114,115,97]),(2,(1,(([]:List Int),(([]:List Int),()))))),(((ByteArray.mk #[100,115,97]),(2,(1,(([]:List Int),(([]:List Int),()))))),(((ByteArray.mk #[101,99,100,115,97]),(2,(2,(([]:List Int),(([]:List Int),()))))),(((ByteArray.mk #[101,100,50,53,53,49,57]),(2,(0,(([]:List Int),([128],()))))),(((ByteArray.mk #[109,108,100,115,97]),(2,(3,([44,65,87],([128,192,256],()))))),(((ByteArray.mk #[114,115,97,107,120]),(3,(1,(([]:List Int),(([]:List Int),()))))),(((ByteArray.mk #[100,104,101]),(3,(1,(([]:List Int),(([]:List Int),()))))),(((ByteArray.mk #[101,99,100,104,101]),(3,(2,(([]:List Int),(([]:List Int),()))))),(((ByteArray.mk #[109,108,107,101,109]),(3,(3,([512,768,1024],([128,192,256],()))))),(((ByteArray.mk #[114,99,52]),(4,(3,([40,128],([40,60],()))))),(((ByteArray.mk #[100,101,115,51]),(4,(3,([112,168],([80,112],()))))),(((ByteArray.mk #[97,101,115,99,98,99]),(4,(3,([128,256],([128,256],()))))),(((ByteArray.mk #[97,101,115,103,99,109]),(4,(3,([128,256],([128,256],()))))),(((ByteArray.mk #[99,104,97,99,104,97]),(4,(0,(([]:List Int),([256],()))))),(((ByteArray.mk #[104,109,97,99,109,100,53]),(5,(0,(([]:List Int),([64],()))))),(((ByteArray.mk #[104,109,97,99,115,104,97,49]),(5,(0,(([]:List Int),([80],()))))),(((ByteArray.mk #[104,109,97,99,115,104,97,50,53,54]),(5,(0,(([]:List Int),([128],()))))),(((ByteArray.mk #[97,101,97,100]),(5,(0,(([]:List Int),([256],()))))),())))))))))))))))))))))))
theorem s_f197:Qkv=some (.t (tyR Qi 23) GV,[]):=rfl
def Qkw:Ent:=Ql .nil (fun x=>true) (fun x=>(.t (.pr Qi (.pr Qi (.pr Qi (.pr Qi (.pr Qi (.pr Qi (.pr Qi (.pr Qi (.pr Qi (.pr Qi (.pr Qi (.pr Qi (.pr Qi (.pr Qi (.pr Qi (.pr Qi (.pr Qi (.pr Qi (.pr Qi (.pr Qi (.pr Qi (.pr Qi (.pr Qi .nil))))))))))))))))))))))) GV))
theorem Qvy:EM 197 Qkw:=mS Qku Qks Qkt false (gB gN) fun m=>Qr m fun x _=>(e_f197 ).trans (s_f197)
def EQ:Row:=((ByteArray.mk #[]),(0,(0,(([]:List Int),(([]:List Int),())))))
def ofF (a:Int):Row×Bool:=if a<1∨22<a then (EQ,false) else (Fj Qi 23 GV a,true)
def Qvz:TC:=aF Tryz.f166 []
def g_f166:G:=gG 14 [(197,Qkw),(1004194,Qsx)] (fun _ _=>none)
def Qkx (p0:Int):OV:=br (ilt p0 1) (some (.tu [(.t Qi ((ByteArray.mk #[]),(0,(0,(([]:List Int),(([]:List Int),())))))),(.t .bool false)],[])) (br (igt p0 22) (some (.tu [(.t Qi ((ByteArray.mk #[]),(0,(0,(([]:List Int),(([]:List Int),())))))),(.t .bool false)],[])) (br (Wx Qi 23 GV p0) (some (.tu [(.t Qi (Fj Qi 23 GV p0)),(.t .bool true)],[])) none))
theorem s_f166 (a:Int):Qkx a=some (.tu [.t Qi (ofF a).1,.t .bool (ofF a).2],[]):=by
 simp only [Qkx]
 refine Q4 (fun h1=> ?_) (fun h1=>Q4 (fun h2=> ?_) (fun h2=> ?_))
 ·have h1:a<1:=by simpa [ilt] using h1
  simp [ofF,h1,EQ]
 ·have h2:22<a:=by simpa [igt] using h2
  simp [ofF,h2,EQ]
 ·have h1: ¬ a<1:=by simpa [ilt] using h1
  have h2: ¬ 22<a:=by simpa [igt] using h2
  have h3:Wx Qi 23 GV a=true:=by simp [Wx];omega
  rw [h3,Qd]
  simp [ofF,h1,h2]
def QdW:Ent:=Ql (.pr tI .nil) (fun x=>true) (fun x=>(.tu [(.t Qi ((ofF x.1).1)),(.t .bool ((ofF x.1).2))]))
theorem Qky:EM 166 QdW:=mS g_f166 Qvz [((.c 2 true 5),some Qi),((.t 3),some .bool)] false (gB (gD Qvy (gC QD8 QD9 gN))) fun m=>Qr m fun x _=>kT (s_f166 x.1)
def UX:List (Int×Int):=[(1024,56),(2048,80),(3072,112),(7680,128),(15360,192)]
def GW:(Keep×(Keep×(Keep×(Keep×(Keep×Unit))))):=((1024,(56,())),((2048,(80,())),((3072,(112,())),((7680,(128,())),((15360,(192,())),())))))
def ZM (b i:Int):Option Int:=((UX.drop i.toNat).find? fun x=>ilt b x.1).map (·.2)
def GX (b:Int):Int:=(ZM b 0).getD 256
abbrev Vl:Sh:=⟨[(0,.ty tI),(10,.ty (.pr Qe (.pr Qe (.pr Qe (.pr Qe (.pr Qe .nil)))))),(11,.ty tI)],[]⟩
abbrev Qkz:Sh:=⟨[(2,.ty tI)],[]⟩
abbrev Vm:Sh:=⟨[],[]⟩
def QdX:Fg:=Vl.f
def QkA:TC:=aF Tryz.f168 [(26,pL 0 QdX),(421,.fg Vm.f),(13517,.fg Qkz.f)]
def QkB:TC:=lb 0 QkA
def QkC (x0:Int)(x10:(Keep×(Keep×(Keep×(Keep×(Keep×Unit))))))(x11:Int):VS:=Vl.st (x0,x10,x11,()) ()
def QdY (x2:Int):VS:=Qkz.st (x2,()) ()
def QdZ  : VS:=Vm.st () ()
def QvA:VS->Option (Bool×List (Bool×Exit×VS)):=mkL Vl (fun x y=>(x.2.1==GW&&decide (0<=x.2.2.1/\x.2.2.1<=5))) (fun x y=>[(((ZM x.1 x.2.2.1).isSome),.ret,QdY ((ZM x.1 x.2.2.1).getD 0)),(true,.exit 0,QdZ)])
def Qd0:G:=gG 21 [(1004274,Qsy)] (Ls [QvA])
def Vn (x0:Int)(x10:(Keep×(Keep×(Keep×(Keep×(Keep×Unit))))))(x11:Int):OX:=Qx (Qz Qd0 QdX QkB) (QkC x0 x10 x11)
def Vo (kk:Int->(Keep×(Keep×(Keep×(Keep×(Keep×Unit)))))->Int->OX)(x0:Int)(x10:(Keep×(Keep×(Keep×(Keep×(Keep×Unit))))))(x11:Int):OX:=
 let a1:=Fj Qe 5 x10 x11
 br (ilt x11 5) (br (Wx Qe 5 x10 x11) (br (ilt x0 (a1.1)) (some (.ret,QdY ((a1.2).1))) (kk x0 x10 (Qj .i64 x11 1))) none) (some (.exit 0,QdZ))
def UY (x0:Int)(x10:(Keep×(Keep×(Keep×(Keep×(Keep×Unit))))))(x11:Int):OX:=br ((ZM x0 x11).isSome) (some (.ret,QdY ((ZM x0 x11).getD 0)))<|some (.exit 0,QdZ)
theorem QkD (x0:Int)(x10:(Keep×(Keep×(Keep×(Keep×(Keep×Unit))))))(x11:Int):Vn x0 x10 x11=Vo Vn x0 x10 x11:=lnT (x:=Vo (fun x0 x10 x11=>some (.normal,QkC x0 x10 x11)) x0 x10 x11) (by simp only [Vo,nxA];rfl)
def QkE (p0:Int):OV:=br (((1024,(56,())),((2048,(80,())),((3072,(112,())),((7680,(128,())),((15360,(192,())),())))))==GW&&decide (0<=(0:Int)/\(0:Int)<=5)) (br ((ZM p0 (0:Int)).isSome) (some (.t tI ((ZM p0 (0:Int)).getD 0),[])) (some (.t tI 256,[]))) none
theorem QvB (x0:Int)(x10:(Keep×(Keep×(Keep×(Keep×(Keep×Unit))))))(x11:Int)(h:(x10==GW&&decide (0<=x11/\x11<=5))=true):Vn x0 x10 x11=UY x0 x10 x11:=by
 simp only [Bc,Ba,Db] at h
 obtain ⟨rfl,h1,h2⟩:=h
 obtain ⟨k,rfl⟩:=Bt h1
 refine QkP 5 (fun k=>Vn x0 GW (k:Int)=UY x0 GW (k:Int)) ?_ ?_ k (by omega)
 ·rw [QkD]
  rfl
 ·intro k hk ih
  rw [QkD]
  simp only [Vo,Q3 (show k<4611686018427387904 by omega),ih]
  have e1:ilt (k:Int) 5=true:=by simp only [ilt,Ba];omega
  have e2:Wx Qe 5 GW (k:Int)=true:=by simp only [Wx,Ba];omega
  simp only [e1,e2,Qd]
  have hk5:k=0∨k=1∨k=2∨k=3∨k=4:=by omega
  rcases hk5 with rfl|rfl|rfl|rfl|rfl
  ·show br (ilt x0 1024) _ _=_
   cases h:ilt x0 1024<;>simp [UY,ZM,UX,h,Qd,Qh]<;>rfl
  ·show br (ilt x0 2048) _ _=_
   cases h:ilt x0 2048<;>simp [UY,ZM,UX,h,Qd,Qh]<;>rfl
  ·show br (ilt x0 3072) _ _=_
   cases h:ilt x0 3072<;>simp [UY,ZM,UX,h,Qd,Qh]<;>rfl
  ·show br (ilt x0 7680) _ _=_
   cases h:ilt x0 7680<;>simp [UY,ZM,UX,h,Qd,Qh]<;>rfl
  ·show br (ilt x0 15360) _ _=_
   cases h:ilt x0 15360<;>simp [UY,ZM,UX,h,Qd,Qh]<;>rfl
theorem QvC:LO Qd0 QdX QkB 0:=QI (s:=Vl) fun x y h _ q=>by simp only [QF,QG] at q;exact (QvB x.1 x.2.1 x.2.2.1 h).trans q
theorem s_f168 (b:Int):QkE b=some (.t tI (GX b),[]):=by
 simp only [QkE]
 show br true (br (ZM b 0).isSome (some (V.t tI ((ZM b 0).getD 0),[])) _) _=_
 rw [Qd,GX]
 cases ZM b 0<;>rfl
def QkF:Ent:=Ql (.pr tI .nil) (fun x=>true) (fun x=>(.t tI (GX x.1)))
theorem QvD:EM 168 QkF:=mS (lk:=lkL (lkc QvC lkn)) Qd0 QkA [((.t 2),some tI)] false (gB (gC QEa QEb gN)) fun m=>Qr m fun x _=>kT (s_f168 x.1)
def Jm (v:Int):List Int->Option Nat
 | []=>none
 |a::l=>if a==v then some 0 else (Jm v l).map (· + 1)
theorem QkG {v:Int}: ∀ {l:List Int} {k:Nat},Jm v l=some k->k<l.length
 | [],_,h=>by cases h
 |a::l,k,h=>by
  unfold Jm at h
  split at h
  ·injection h with h;subst h;simp
  ·obtain ⟨j,h1,h2⟩:=Bf.1 h
   have:=QkG h1
   simp only [Bo];omega
theorem Qd1 {v:Int}: ∀ {l:List Int},Jm v l=none↔v ∉ l
 | []=>by simp [Jm]
 |a::l=>by
  have ih:=Qd1 (v:=v) (l:=l)
  unfold Jm
  by_cases h:a=v
  ·simp [h]
  ·have h': ¬ v=a:=fun e=>h e.symm
   simp [h,h',ih]
def UZ (l:List Int)(v:Int):Int:=match Jm v l with|some k=>(k:Int)|none=> -1
def J4 (l:List Int)(_v:Int):Bool:=decide (l.length<=100000)
abbrev Vp:Sh:=⟨[(0,.ty (.sl tI)),(1,.ty tI),(7,.ty tI),(8,.ty tI)],[]⟩
abbrev QkH:Sh:=⟨[(4,.ty tI)],[]⟩
def Qd2:Fg:=Vp.f
def QkI:TC:=aF Tryz.f165 [(26,pL 0 Qd2),(421,.fg Vm.f),(13517,.fg QkH.f)]
def QkJ:TC:=lb 0 QkI
def QkK (x0:List Int)(x1 x7 x8:Int):VS:=Vp.st (x0,x1,x7,x8,()) ()
def Qd3 (x4:Int):VS:=QkH.st (x4,()) ()
def Qd4  : VS:=Vm.st () ()
def QvE:VS->Option (Bool×List (Bool×Exit×VS)):=mkL Vp (fun x y=>(QB x.1 x.2.2.1 x.2.2.2.1)) (fun x y=>[(((Jm x.2.1 (x.1.drop x.2.2.2.1.toNat)).isSome),.ret,Qd3 (x.2.2.2.1+((Jm x.2.1 (x.1.drop x.2.2.2.1.toNat)).getD 0:Nat))),(true,.exit 0,Qd4)])
def Qd5:G:=gG 19 [] (Ls [QvE])
def Vq (x0:List Int)(x1 x7 x8:Int):OX:=Qx (Qz Qd5 Qd2 QkJ) (QkK x0 x1 x7 x8)
def ER (kk:List Int->Int->Int->Int->OX)(x0:List Int)(x1 x7 x8:Int):OX:=br (ilt x8 x7) (br (cIx x0 x8) (br (ieq x1 (lgt tI x0 (Int.toNat x8))) (some (.ret,Qd3 x8)) (kk x0 x1 x7 (Qj .i64 x8 1))) none) (some (.exit 0,Qd4))
def Vr (x0:List Int)(x1 x7 x8:Int):OX:=
 let a1:=Jm x1 (x0.drop x8.toNat)
 br (a1.isSome) (some (.ret,Qd3 (x8+(a1.getD 0:Nat))))<|some (.exit 0,Qd4)
theorem QkL (x0:List Int)(x1 x7 x8:Int):Vq x0 x1 x7 x8=ER Vq x0 x1 x7 x8:=lnT (x:=ER (fun x0 x1 x7 x8=>some (.normal,QkK x0 x1 x7 x8)) x0 x1 x7 x8) (by simp only [ER,nxA];rfl)
def QkM (p0:List Int)(p1:Int):OV:=
 let a1:=(Jm p1 (p0.drop (0:Int).toNat))
 br (QB p0 (Qc p0) (0:Int)) (br (a1.isSome) (some (.t tI ((0:Int)+(a1.getD 0:Nat)),[])) (some (.t tI (-1),[]))) none
theorem QvF (x0:List Int)(x1 x7 x8:Int)(h:(QB x0 x7 x8)=true):Vq x0 x1 x7 x8=Vr x0 x1 x7 x8:=by
 obtain ⟨rfl,h3,k,rfl,hk⟩:=J5 h
 clear h
 refine Q7 x0 (fun k=>Vq x0 x1 (x0.length:Int) (k:Int)=Vr x0 x1 (x0.length:Int) (k:Int)) ?_ ?_ k hk
 ·rw [QkL]
  simp [ER,Vr,QH,Qh,Jm]
 ·intro k hk ih
  rw [QkL]
  simp only [ER,QH,QS,hk,BK,Qd,Bd,Q3 (show k<4611686018427387904 by omega),ih,Q2 (y:=tI) hk]
  simp only [Vr,Bd,Bl hk,Jm,ieq]
  have hc:(x1==x0[k])=(x0[k]==x1):=Bool.beq_comm
  cases h:x0[k]==x1 with
  |true=>simp [h,hc,Qd]
  |false=>
   simp only [h,hc,Qh,BJ,Dr]
   cases hq:Jm x1 (x0.drop (k+1)) with
   |none=>rfl
   |some j=>
    simp only [B1,B4,BS,Qd]
    congr 3
    omega
theorem QvG:LO Qd5 Qd2 QkJ 0:=QI (s:=Vp) fun x y h _ q=>by simp only [QF,QG] at q;exact (QvF x.1 x.2.1 x.2.2.1 x.2.2.2.1 h).trans q
theorem s_f165 (l:List Int)(v:Int)(h:J4 l v=true):QkM l v=some (.t tI (UZ l v),[]):=by
 simp only [J4,Ba] at h
 simp only [QkM,J6 h,Qd,BA,BG,UZ]
 cases Jm v l<;>simp [Qd,Qh]
def Qd6:Ent:=Ql (.pr (.sl tI) (.pr tI .nil)) (fun x=>(J4 x.1 x.2.1)) (fun x=>(.t tI (UZ x.1 x.2.1)))
theorem QkN:EM 165 Qd6:=mS (lk:=lkL (lkc QvG lkn)) Qd5 QkI [((.t 4),some tI)] false (gB gN) fun m=>Qr m fun x hok=>kT (s_f165 x.1 x.2.1 hok)
def Jd (l:List Int)(v:Int):Bool:=l.contains v
def QvH:TC:=aF Tryz.f125 []
def g_f125:G:=gG 9 [(165,Qd6)] (fun _ _=>none)
def QkO (p0:List Int)(p1:Int):OV:=br (J4 p0 p1) (some (.t .bool (ige (UZ p0 p1) 0),[])) none
theorem s_f125 (l:List Int)(v:Int)(h:J4 l v=true):QkO l v=some (.t .bool (Jd l v),[]):=by
 simp only [QkO,h,Qd]
 congr 3
 unfold UZ Jd
 cases hq:Jm v l with
 |none=>
  have:=Qd1.1 hq
  simp [ige,this]
 |some k=>
  have:v∈l:=Classical.byContradiction fun hn=>by rw [Qd1.2 hn] at hq;cases hq
  simp only [ige,BC.2 this,Ba]
  omega
def Vs:Ent:=Ql (.pr (.sl tI) (.pr tI .nil)) (fun x=>(J4 x.1 x.2.1)) (fun x=>(.t .bool (Jd x.1 x.2.1)))
theorem Qd7:EM 125 Vs:=mS g_f125 QvH [((.t 4),some .bool)] false (gB (gD QkN gN)) fun m=>Qr m fun x hok=>kT (s_f125 x.1 x.2.1 hok)
end Go.Proofs.YtmjnnemhoeolgaaGreat.K
noncomputable section
namespace Go.Proofs.YtmjnnemhoeolgaaGreat.K
open Go.RowKit
def JU (b:Int)(s t:List Int):Int:=match Jm b s with|some k=>t.getD k 0|none=>0
def Xi (a:Int):Int:=if a=1 then 18 else if a=2 then 60 else if a=3∨a=8∨a=21 then 128 else if a=4 then 192 else if a=18∨a=22 then 256 else if a=19 then 64 else if a=20 then 80 else 0
def US (b:Int):Int:=if b<512∨16384<b then 0 else GX b
def ED (b:Int):Int:=if Jd [160,224,256,384,521] b then Gc .i64 b 2 else 0
def Yy (u:Keep):Int:=
 if u.1=5∨u.1=6∨u.1=10∨u.1=11 then US u.2.1
 else if u.1=7∨u.1=12 then ED u.2.1
 else if u.1=9 then JU u.2.1 [44,65,87] [128,192,256]
 else if u.1=13 then JU u.2.1 [512,768,1024] [128,192,256]
 else if u.1=14 then JU u.2.1 [40,128] [40,60]
 else if u.1=15 then JU u.2.1 [112,168] [80,112]
 else if u.1=16∨u.1=17 then JU u.2.1 [128,256] [128,256]
 else JU u.2.1 [0] [Xi u.1]
def JG (u:Keep):Bool:=decide (Yy u > 0)
def QF3:TC:=aF Tryz.f129 []
def g_f129:G:=gG 61 [(125,Vs),(165,Qd6),(166,QdW),(168,QkF)] (fun _ _=>none)
def XE (p0:Keep):OV:=
 let a1:=((((ofF p0.1).1).2).2)
 let a2:=UZ ((a1.2).1) p0.2.1
 let a3:=(((a1.2).2).1)
 br (!((ofF p0.1).2)) (some (.t tI 0,[])) (br (ieq (a1.1) 0) (br (ieq p0.2.1 0) (br (cIx a3 0) (some (.t tI (lgt tI a3 (Int.toNat 0)),[])) none) (some (.t tI 0,[]))) (br (ieq (a1.1) 1) (br (ige p0.2.1 512) (br (ile p0.2.1 16384) (some (.t tI (GX p0.2.1),[])) (some (.t tI 0,[]))) (some (.t tI 0,[]))) (br (ieq (a1.1) 2) (br (J4 ([160,224,256,384,521]) p0.2.1) (br (Jd ([160,224,256,384,521]) p0.2.1) (br (cNz 2) (some (.t tI (Gc .i64 p0.2.1 2),[])) none) (some (.t tI 0,[]))) none) (br (ieq (a1.1) 3) (br (J4 ((a1.2).1) p0.2.1) (br (ige a2 0) (br (cIx a3 a2) (some (.t tI (lgt tI a3 (Int.toNat a2)),[])) none) (some (.t tI 0,[]))) none) (some (.t tI 0,[]))))))
theorem QF4 (u:Keep)(h1:(ofF u.1).2=false):XE u=some (.t tI 0,[]):=by
 simp only [XE,h1,Bool.not_false,Qd]
theorem QF5 (u:Keep){v:Int}(h1:(ofF u.1).2=true)(h2:(ofF u.1).1.2.2.1=0)(h3:(ofF u.1).1.2.2.2.2.1=[v]):XE u=some (.t tI (JU u.2.1 [0] [v]),[]):=by
 simp only [XE,h1,h2,h3,BM,Qh,show ieq 0 0=true from rfl,Qd,show cIx [v] 0=true from rfl]
 simp only [JU,Jm,ieq]
 have hc:((0:Int)==u.2.1)=(u.2.1==0):=Bool.beq_comm
 rw [hc]
 cases u.2.1==0<;>rfl
theorem QF6 (u:Keep)(h1:(ofF u.1).2=true)(h2:(ofF u.1).1.2.2.1=1):XE u=some (.t tI (US u.2.1),[]):=by
 simp only [XE,h1,h2,BM,Qh,show ieq 1 0=false from rfl,show ieq 1 1=true from rfl,Qd,US]
 refine Q4 (fun g1=>Q4 (fun g2=> ?_) (fun g2=> ?_)) (fun g1=> ?_)
 ·rw [if_neg]
  simp [ige,ile] at g1 g2
  omega
 ·rw [if_pos]
  simp [ige,ile] at g1 g2
  omega
 ·rw [if_pos]
  simp [ige] at g1
  omega
theorem QF7 (u:Keep)(h1:(ofF u.1).2=true)(h2:(ofF u.1).1.2.2.1=2):XE u=some (.t tI (ED u.2.1),[]):=by
 simp only [XE,h1,h2,BM,Qh,show ieq 2 0=false from rfl,show ieq 2 1=false from rfl,show ieq 2 2=true from rfl,Qd,ED,show J4 [160,224,256,384,521] u.2.1=true from rfl,show cNz 2=true from rfl]
 cases Jd [160,224,256,384,521] u.2.1<;>rfl
theorem QF8 (u:Keep){s t:List Int}(h1:(ofF u.1).2=true)(h2:(ofF u.1).1.2.2.1=3)(h3:(ofF u.1).1.2.2.2.1=s)(h4:(ofF u.1).1.2.2.2.2.1=t)(h5:s.length=t.length)(h6:s.length<=100000):XE u=some (.t tI (JU u.2.1 s t),[]):=by
 have e1:J4 s u.2.1=true:=by simp [J4,h6]
 simp only [XE,h1,h2,h3,h4,e1,BM,Qh,show ieq 3 0=false from rfl,show ieq 3 1=false from rfl,show ieq 3 2=false from rfl,show ieq 3 3=true from rfl,Qd,UZ,JU]
 cases hq:Jm u.2.1 s with
 |none=>rfl
 |some k=>
  have hk:=QkG hq
  have e2:ige (k:Int) 0=true:=by simp only [ige,Ba];omega
  have e3:k<t.length:=by omega
  simp only [e2,Qd,QS,e3,BK]
  rfl
theorem s_f129 (u:Keep):XE u=some (.t tI (Yy u),[]):=by
 obtain ⟨a,b,c⟩:=u
 by_cases hb:a<1∨22<a
 ·rw [QF4 _ (by simp [ofF,hb])]
  have e1:Xi a=0:=by
   unfold Xi
   repeat rw [if_neg (by omega)]
  have e2:Yy (a,b,c)=0:=by
   unfold Yy
   simp only
   repeat rw [if_neg (by omega)]
   rw [e1]
   simp only [JU,Jm]
   cases (0:Int)==b<;>rfl
  rw [e2]
 ·have hc:a=1∨a=2∨a=3∨a=4∨a=5∨a=6∨a=7∨a=8∨a=9∨a=10∨a=11∨a=12∨a=13∨a=14∨a=15∨a=16∨a=17∨a=18∨a=19∨a=20∨a=21∨a=22:=by omega
  rcases hc with rfl|rfl|rfl|rfl|rfl|rfl|rfl|rfl|rfl|rfl|rfl|rfl|rfl|rfl|rfl|rfl|rfl|rfl|rfl|rfl|rfl|rfl
  all_goals first
   |exact QF5 (v:=Xi _) (_,b,c) rfl rfl rfl
   |exact QF6 (_,b,c) rfl rfl
   |exact QF7 (_,b,c) rfl rfl
   |exact QF8 (_,b,c) rfl rfl rfl rfl rfl (by decide)
def Qus:Ent:=Ql (.pr Qe .nil) (fun x=>true) (fun x=>(.t tI (Yy x.1)))
theorem QF9:EM 129 Qus:=mS g_f129 QF3 [((.t 2),some tI)] false (gB (gD Qd7 (gD QkN (gD Qky (gD QvD gN))))) fun m=>Qr m fun x _=>kT (s_f129 x.1)
def tc_f87:TC:=aF Tryz.f87 []
def g_f87:G:=gG 6 [(129,Qus)] (fun _ _=>none)
def r_f87 (p0:Keep):OV:=some (.t .bool (igt (Yy p0) 0),[])
theorem s_f87 (u:Keep):r_f87 u=some (.t .bool (JG u),[]):=rfl
def EE:Ent:=Ql (.pr Qe .nil) (fun x=>true) (fun x=>(.t .bool (JG x.1)))
theorem O1:EM 87 EE:=mS g_f87 tc_f87 [((.t 2),some .bool)] false (gB (gD QF9 gN)) fun m=>Qr m fun x _=>kT (s_f87 x.1)
def QGa:TC:=aF Tryz.f106 []
def g_f106:G:=gG 25 [] (fun _ _=>none)
def Qut (p0:Int):OV:=br (ilt p0 512) (some (.t tI 0,[])) (br (igt p0 16384) (some (.t tI 0,[])) (br (ilt p0 1024) (some (.t tI 56,[])) (br (ilt p0 2048) (some (.t tI 80,[])) (br (ilt p0 3072) (some (.t tI 112,[])) (br (ilt p0 7680) (some (.t tI 128,[])) (br (ilt p0 15360) (some (.t tI 192,[])) (some (.t tI 256,[]))))))))
theorem s_f106 (b:Int):Qut b=some (.t tI (US b),[]):=by
 simp only [Qut]
 repeat' (refine Q4 ?_ ?_<;>intro _)
 all_goals simp only [ilt,igt,Ba,Bq] at*
 all_goals simp only [US,GX,ZM,UX,BA,BG,List.find?_cons,ilt]
 all_goals first
  |(rw [if_pos (by omega)];done)
  |(rw [if_neg (by omega)];repeat first|rw [ES (by omega)]|rw [QvI (by omega)]
    rfl)
def Quu:Ent:=Ql (.pr tI .nil) (fun x=>true) (fun x=>(.t tI (US x.1)))
theorem QGb:EM 106 Quu:=mS g_f106 QGa [((.t 2),some tI)] false (gB gN) fun m=>Qr m fun x _=>kT (s_f106 x.1)
theorem Qjv (a:Int):((∀ k:Int,decide (1<=k/\k<=22)=true->ieq a k=false)/\(a<1∨22<a))∨(a=1∨a=2∨a=3∨a=4∨a=5∨a=6∨a=7∨a=8∨a=9∨a=10∨a=11∨a=12∨a=13∨a=14∨a=15∨a=16∨a=17∨a=18∨a=19∨a=20∨a=21∨a=22):=by
 by_cases hb:a<1∨22<a
 ·refine .inl ⟨fun k hk=> ?_,hb⟩
  simp only [Ba] at hk
  simp only [Ui,Bq]
  omega
 ·right
  omega
def QGc:TC:=aF Tryz.f108 []
def g_f108:G:=gG 21 [] (fun _ _=>none)
def Qjw (p0:Int):OV:=br (ieq p0 19) (some (.t tI 64,[])) (br (ieq p0 20) (some (.t tI 80,[])) (some (.t tI 0,[])))
def Qds (p0:Int):OV:=br (ieq p0 4) (some (.t tI 192,[])) (br (ieq p0 18) (br (ieq p0 18) (some (.t tI 256,[])) (Qjw p0)) (br (ieq p0 22) (some (.t tI 256,[])) (Qjw p0)))
def Quv (p0:Int):OV:=br (ieq p0 1) (some (.t tI 18,[])) (br (ieq p0 2) (some (.t tI 60,[])) (br (ieq p0 3) (br (ieq p0 3) (some (.t tI 128,[])) (Qds p0)) (br (ieq p0 8) (br (ieq p0 8) (some (.t tI 128,[])) (Qds p0)) (br (ieq p0 21) (some (.t tI 128,[])) (Qds p0)))))
theorem s_f108 (a:Int):Quv a=some (.t tI (Xi a),[]):=by
 rcases Qjv a with ⟨e,hb⟩|hc
 ·have e1:Xi a=0:=by
   unfold Xi
   repeat rw [if_neg (by omega)]
  rw [e1]
  simp only [Quv,Qds,Qjw,e 1 (by decide),e 2 (by decide),e 3 (by decide),e 4 (by decide),e 8 (by decide),e 18 (by decide),e 19 (by decide),e 20 (by decide),e 21 (by decide),e 22 (by decide),Qh]
 ·rcases hc with rfl|rfl|rfl|rfl|rfl|rfl|rfl|rfl|rfl|rfl|rfl|rfl|rfl|rfl|rfl|rfl|rfl|rfl|rfl|rfl|rfl|rfl<;>rfl
def Quw:Ent:=Ql (.pr tI .nil) (fun x=>true) (fun x=>(.t tI (Xi x.1)))
theorem QGd:EM 108 Quw:=mS g_f108 QGc [((.t 2),some tI)] false (gB gN) fun m=>Qr m fun x _=>kT (s_f108 x.1)
def Uc (_b:Int)(s t:List Int):Bool:=decide (s.length=t.length/\s.length<=100000)
abbrev Qdt:Sh:=⟨[(0,.ty tI),(1,.ty (.sl tI)),(2,.ty (.sl tI)),(7,.ty tI)],[]⟩
abbrev Qux:Sh:=⟨[(6,.ty tI)],[]⟩
abbrev Quy:Sh:=⟨[],[]⟩
def Qjx:Fg:=Qdt.f
def Quz:TC:=aF Tryz.f107 [(26,pL 0 Qjx),(419,.fg Quy.f),(3365,.fg Qux.f)]
def QuA:TC:=lb 0 Quz
def QuB (x0:Int)(x1 x2:List Int)(x7:Int):VS:=Qdt.st (x0,x1,x2,x7,()) ()
def Qjy (x6:Int):VS:=Qux.st (x6,()) ()
def Qjz  : VS:=Quy.st () ()
def QGe:VS->Option (Bool×List (Bool×Exit×VS)):=mkL Qdt (fun x y=>(decide (x.2.1.length=x.2.2.1.length/\x.2.1.length<=100000/\0<=x.2.2.2.1/\x.2.2.2.1<=x.2.1.length))) (fun x y=>[(((Jm x.1 (x.2.1.drop x.2.2.2.1.toNat)).isSome),.ret,Qjy (x.2.2.1.getD (x.2.2.2.1.toNat+(Jm x.1 (x.2.1.drop x.2.2.2.1.toNat)).getD 0) 0)),(true,.exit 0,Qjz)])
def QjA:G:=gG 24 [] (Ls [QGe])
def Qdu (x0:Int)(x1 x2:List Int)(x7:Int):OX:=Qx (Qz QjA Qjx QuA) (QuB x0 x1 x2 x7)
def O2 (kk:Int->List Int->List Int->Int->OX)(x0:Int)(x1 x2:List Int)(x7:Int):OX:=br (ilt x7 (Qc x1)) (br (cIx x1 x7) (br (ieq (lgt tI x1 (Int.toNat x7)) x0) (br (cIx x2 x7) (some (.ret,Qjy (lgt tI x2 (Int.toNat x7)))) none) (kk x0 x1 x2 (Qj .i64 x7 1))) none) (some (.exit 0,Qjz))
def Qdv (x0:Int)(x1 x2:List Int)(x7:Int):OX:=
 let a1:=Jm x0 (x1.drop x7.toNat)
 br (a1.isSome) (some (.ret,Qjy (x2.getD (x7.toNat+a1.getD 0) 0)))<|some (.exit 0,Qjz)
theorem QuC (x0:Int)(x1 x2:List Int)(x7:Int):Qdu x0 x1 x2 x7=O2 Qdu x0 x1 x2 x7:=lnT (x:=O2 (fun x0 x1 x2 x7=>some (.normal,QuB x0 x1 x2 x7)) x0 x1 x2 x7) (by simp only [O2,nxA];rfl)
def QuD (p0:Int)(p1 p2:List Int):OV:=
 let a1:=(Jm p0 (p1.drop (0:Int).toNat))
 br (decide (p1.length=p2.length/\p1.length<=100000/\0<=(0:Int)/\(0:Int)<=p1.length)) (br (a1.isSome) (some (.t tI (p2.getD ((0:Int).toNat+a1.getD 0) 0),[])) (some (.t tI 0,[]))) none
theorem QGf (x0:Int)(x1 x2:List Int)(x7:Int)(h:(decide (x1.length=x2.length/\x1.length<=100000/\0<=x7/\x7<=x1.length))=true):Qdu x0 x1 x2 x7=Qdv x0 x1 x2 x7:=by
 simp only [Ba] at h
 obtain ⟨h1,h2,h3,h4⟩:=h
 obtain ⟨k,rfl⟩:=Bt h3
 refine Q7 x1 (fun k=>Qdu x0 x1 x2 (k:Int)=Qdv x0 x1 x2 (k:Int)) ?_ ?_ k (by omega)
 ·rw [QuC]
  simp [O2,Qdv,QH,Qc,Qh,Jm]
 ·intro k hk ih
  rw [QuC]
  have hk2:k<x2.length:=by omega
  simp only [O2,QH,Qc,QS,hk,hk2,BK,Qd,Bd,Q3 (show k<4611686018427387904 by omega),ih,Q2 (y:=tI) hk,Q2 (y:=tI) hk2]
  simp only [Qdv,Bd,Bl hk,Jm,ieq]
  cases h:x1[k]==x0 with
  |true=>simp [h,Qd,Bk,Bh hk2]
  |false=>
   simp only [h,Qh,BJ,Dr]
   cases hq:Jm x0 (x1.drop (k+1)) with
   |none=>rfl
   |some j=>
    simp only [B1,B4,BS,Qd]
    rw [show k+1+j=k+(j+1) by omega]
theorem QGg:LO QjA Qjx QuA 0:=QI (s:=Qdt) fun x y h _ q=>by simp only [QF,QG] at q;exact (QGf x.1 x.2.1 x.2.2.1 x.2.2.2.1 h).trans q
theorem s_f107 (b:Int)(s t:List Int)(h:Uc b s t=true):QuD b s t=some (.t tI (JU b s t),[]):=by
 simp only [Uc,Ba] at h
 simp only [QuD,JU]
 rw [ES ⟨h.1,h.2,Dq 0,by omega⟩,Qd]
 simp only [BA,BG,DN]
 cases Jm b s<;>simp [Qd,Qh]
def QuE:Ent:=Ql (.pr tI (.pr (.sl tI) (.pr (.sl tI) .nil))) (fun x=>(Uc x.1 x.2.1 x.2.2.1)) (fun x=>(.t tI (JU x.1 x.2.1 x.2.2.1)))
theorem QGh:EM 107 QuE:=mS (lk:=lkL (lkc QGg lkn)) QjA Quz [((.t 6),some tI)] false (gB gN) fun m=>Qr m fun x hok=>kT (s_f107 x.1 x.2.1 x.2.2.1 hok)
def tc_f65:TC:=aF Tryz.f65 []
def g_f65:G:=gG 76 [(106,Quu),(107,QuE),(108,Quw)] (fun _ _=>none)
def GP (p0:Keep):OV:=br (cNz 2) (some (.t tI (Gc .i64 p0.2.1 2),[])) none
def O3 (p0:Keep):OV:=br (ieq p0.2.1 160) (GP p0) (br (ieq p0.2.1 224) (GP p0) (br (ieq p0.2.1 256) (GP p0) (br (ieq p0.2.1 384) (GP p0) (br (ieq p0.2.1 521) (GP p0) (some (.t tI 0,[]))))))
def QjB (p0:Keep):OV:=br (Uc p0.2.1 ([128,256]) ([128,256])) (some (.t tI (JU p0.2.1 ([128,256]) ([128,256])),[])) none
def QjC (p0:Keep):OV:=br (Uc p0.2.1 ([0]) ([(Xi p0.1)])) (some (.t tI (JU p0.2.1 ([0]) ([(Xi p0.1)])),[])) none
def QjD (p0:Keep):OV:=br (ieq p0.1 9) (br (Uc p0.2.1 ([44,65,87]) ([128,192,256])) (some (.t tI (JU p0.2.1 ([44,65,87]) ([128,192,256])),[])) none) (br (ieq p0.1 13) (br (Uc p0.2.1 ([512,768,1024]) ([128,192,256])) (some (.t tI (JU p0.2.1 ([512,768,1024]) ([128,192,256])),[])) none) (br (ieq p0.1 14) (br (Uc p0.2.1 ([40,128]) ([40,60])) (some (.t tI (JU p0.2.1 ([40,128]) ([40,60])),[])) none) (br (ieq p0.1 15) (br (Uc p0.2.1 ([112,168]) ([80,112])) (some (.t tI (JU p0.2.1 ([112,168]) ([80,112])),[])) none) (br (ieq p0.1 16) (br (ieq p0.1 16) (QjB p0) (QjC p0)) (br (ieq p0.1 17) (QjB p0) (QjC p0))))))
def O4 (p0:Keep):OV:=br (ieq p0.1 7) (br (ieq p0.1 7) (O3 p0) (QjD p0)) (br (ieq p0.1 12) (O3 p0) (QjD p0))
def r_f65 (p0:Keep):OV:=
 let a1:=US p0.2.1
 br (ieq p0.1 5) (br (ieq p0.1 5) (some (.t tI a1,[])) (O4 p0)) (br (ieq p0.1 6) (br (ieq p0.1 6) (some (.t tI a1,[])) (O4 p0)) (br (ieq p0.1 10) (br (ieq p0.1 10) (some (.t tI a1,[])) (O4 p0)) (br (ieq p0.1 11) (some (.t tI a1,[])) (O4 p0))))
theorem s_f65 (u:Keep):r_f65 u=some (.t tI (Yy u),[]):=by
 obtain ⟨a,b,c⟩:=u
 have hcv:O3 (a,b,c)=some (.t tI (ED b),[]):=by
  have hh:Jd [160,224,256,384,521] b=(ieq b 160||(ieq b 224||(ieq b 256||(ieq b 384||ieq b 521)))):=by
   rw [DA]
   simp [Jd,ieq]
  simp only [O3,GP,show cNz 2=true from rfl,Qd,ED,hh]
  cases ieq b 160<;>cases ieq b 224<;>cases ieq b 256<;>cases ieq b 384<;>cases ieq b 521<;>rfl
 rcases Qjv a with ⟨e,hb⟩|hc
 ·have e2:Yy (a,b,c)=JU b [0] [Xi a]:=by
   unfold Yy
   simp only
   repeat rw [if_neg (by omega)]
  rw [e2]
  simp only [r_f65,O4,O3,GP,QjD,QjB,QjC,e 5 (by decide),e 6 (by decide),e 7 (by decide),e 9 (by decide),e 10 (by decide),e 11 (by decide),e 12 (by decide),e 13 (by decide),e 14 (by decide),e 15 (by decide),e 16 (by decide),e 17 (by decide),Qh]
  rfl
 ·rcases hc with rfl|rfl|rfl|rfl|rfl|rfl|rfl|rfl|rfl|rfl|rfl|rfl|rfl|rfl|rfl|rfl|rfl|rfl|rfl|rfl|rfl|rfl
  all_goals first
   |rfl
   |exact hcv
def QjE:Ent:=Ql (.pr Qe .nil) (fun x=>true) (fun x=>(.t tI (Yy x.1)))
theorem QuF:EM 65 QjE:=mS g_f65 tc_f65 [((.t 2),some tI)] false (gB (gD QGb (gD QGh (gD QGd gN)))) fun m=>Qr m fun x _=>kT (s_f65 x.1)
def QGi:TC:=aF Tryz.f117 []
def g_f117:G:=gG 6 [(65,QjE)] (fun _ _=>none)
def r_f117 (p0:Keep):OV:=some (.t .bool (igt (Yy p0) 0),[])
theorem s_f117 (u:Keep):r_f117 u=some (.t .bool (JG u),[]):=rfl
def QjF:Ent:=Ql (.pr Qe .nil) (fun x=>true) (fun x=>(.t .bool (JG x.1)))
theorem QuG:EM 117 QjF:=mS g_f117 QGi [((.t 2),some .bool)] false (gB (gD QuF gN)) fun m=>Qr m fun x _=>kT (s_f117 x.1)
end Go.Proofs.YtmjnnemhoeolgaaGreat.K
noncomputable section
namespace Go.Proofs.YtmjnnemhoeolgaaGreat.K
open Go.RowKit
theorem Q8 {d:Dice}{l:List Int}(h:dOk d=true):dOk (Qk d l)=true:=Qv h
theorem J7 {d:Dice}{l:List Int}(h:l≠[]):dof d l∈l:=by
 have hl:0<(l.length:Int):=by
  cases l with
  |nil=>exact absurd rfl h
  |cons a l=>rw [Bo];omega
 have h2:=Je (d:=d) hl
 have h3:(Qg d l.length).toNat<l.length:=by omega
 unfold dof
 rw [Bk,Bh h3]
 exact BE h3
def szL (a:Int):List Int:=
 if a=5∨a=6∨a=10∨a=11 then [2048,1024,512,3072,1023,4096,16384]
 else if a=7∨a=12 then [256,160,224,384,521]
 else if a=9 then [65,44,87]
 else if a=13 then [768,512,1024]
 else if a=14 then [128,40]
 else if a=15 then [168,112]
 else if a=16∨a=17 then [128,256]
 else []
def ZO (d:Dice)(a:Int):Int:=if szL a=[] then 0 else dof d (szL a)
def Zd (d:Dice)(a:Int):Dice:=if szL a=[] then d else Qk d (szL a)
def Wm (d:Dice)(_a:Int):Bool:=dOk d
def tc_f74:TC:=aF Tryz.f74 []
def g_f74:G:=gG 46 [(26,Wl)] (fun _ _=>none)
def EV (d0:Dice)(p1:Int):OV:=br (QM d0 ([2048,1024,512,3072,1023,4096,16384])) (some (.t tI (dof d0 ([2048,1024,512,3072,1023,4096,16384])),[.box (.t Qs (Qk d0 ([2048,1024,512,3072,1023,4096,16384])))])) none
def Qd9 (d0:Dice)(p1:Int):OV:=br (QM d0 ([256,160,224,384,521])) (some (.t tI (dof d0 ([256,160,224,384,521])),[.box (.t Qs (Qk d0 ([256,160,224,384,521])))])) none
def Qea (d0:Dice)(p1:Int):OV:=br (QM d0 ([128,256])) (some (.t tI (dof d0 ([128,256])),[.box (.t Qs (Qk d0 ([128,256])))])) none
def Qeb (d0:Dice)(p1:Int):OV:=br (ieq p1 9) (br (QM d0 ([65,44,87])) (some (.t tI (dof d0 ([65,44,87])),[.box (.t Qs (Qk d0 ([65,44,87])))])) none) (br (ieq p1 13) (br (QM d0 ([768,512,1024])) (some (.t tI (dof d0 ([768,512,1024])),[.box (.t Qs (Qk d0 ([768,512,1024])))])) none) (br (ieq p1 14) (br (QM d0 ([128,40])) (some (.t tI (dof d0 ([128,40])),[.box (.t Qs (Qk d0 ([128,40])))])) none) (br (ieq p1 15) (br (QM d0 ([168,112])) (some (.t tI (dof d0 ([168,112])),[.box (.t Qs (Qk d0 ([168,112])))])) none) (br (ieq p1 16) (br (ieq p1 16) (Qea d0 p1) (some (.t tI 0,[.box (.t Qs d0)]))) (br (ieq p1 17) (Qea d0 p1) (some (.t tI 0,[.box (.t Qs d0)])))))))
def EW (d0:Dice)(p1:Int):OV:=br (ieq p1 7) (br (ieq p1 7) (Qd9 d0 p1) (Qeb d0 p1)) (br (ieq p1 12) (Qd9 d0 p1) (Qeb d0 p1))
def r_f74 (d0:Dice)(p1:Int):OV:=br (ieq p1 5) (br (ieq p1 5) (EV d0 p1) (EW d0 p1)) (br (ieq p1 6) (br (ieq p1 6) (EV d0 p1) (EW d0 p1)) (br (ieq p1 10) (br (ieq p1 10) (EV d0 p1) (EW d0 p1)) (br (ieq p1 11) (EV d0 p1) (EW d0 p1))))
theorem s_f74 (d:Dice)(a:Int)(h:Wm d a=true):r_f74 d a=some (.t tI (ZO d a),[.box (.t Qs (Zd d a))]):=by
 have h:dOk d=true:=h
 have ho: ∀ l:List Int,l≠[]->l.length<=100->QM d l=true:=fun l h1 h2=>by
  have:0<l.length:=List.length_pos_iff.2 h1
  simp only [QM,h,BH,Ba]
  omega
 simp only [r_f74,EV,EW,Qd9,Qeb,Qea,ho _ (show ([2048,1024,512,3072,1023,4096,16384]:List Int)≠[] by decide) (by decide),ho _ (show ([256,160,224,384,521]:List Int)≠[] by decide) (by decide),ho _ (show ([65,44,87]:List Int)≠[] by decide) (by decide),ho _ (show ([768,512,1024]:List Int)≠[] by decide) (by decide),ho _ (show ([128,40]:List Int)≠[] by decide) (by decide),ho _ (show ([168,112]:List Int)≠[] by decide) (by decide),ho _ (show ([128,256]:List Int)≠[] by decide) (by decide),Qd]
 rcases Qjv a with ⟨e,hb⟩|hc
 ·have e1:szL a=[]:=by
   unfold szL
   repeat rw [if_neg (by omega)]
  simp only [e 5 (by decide),e 6 (by decide),e 7 (by decide),e 9 (by decide),e 10 (by decide),e 11 (by decide),e 12 (by decide),e 13 (by decide),e 14 (by decide),e 15 (by decide),e 16 (by decide),e 17 (by decide),Qh,ZO,Zd,e1,if_true]
 ·rcases hc with rfl|rfl|rfl|rfl|rfl|rfl|rfl|rfl|rfl|rfl|rfl|rfl|rfl|rfl|rfl|rfl|rfl|rfl|rfl|rfl|rfl|rfl<;>rfl
def Vu:Ent:=Yg Qs (.pr tI .nil) (fun d x=>(Wm d x.1)) (fun d x=>(.t tI (ZO d x.1))) (fun d x=>(Zd d x.1))
theorem Qec:EM 74 Vu:=mS g_f74 tc_f74 [((.t 4),some tI)] false (gB (gD Uj gN)) fun m=>YZ m rfl fun d x hok=>kT (s_f74 d x.1 hok)
theorem Vv {d:Dice}{a:Int}(h:dOk d=true):dOk (Zd d a)=true:=by
 unfold Zd
 split
 ·exact h
 ·exact Q8 h
theorem QvU {d:Dice}{a:Int}(h1:1<=a)(h2:a<=22):JG (a,(ZO d a,()))=true:=by
 have hm:ZO d a∈(if szL a=[] then [0] else szL a):=by
  unfold ZO
  split
  ·simp
  ·rename_i h
   exact J7 h
 have ha: ∀ l:List Int,(∀ x,x∈l->JG (a,(x,()))=true)->ZO d a∈l->JG (a,(ZO d a,()))=true:=fun l h hm=>h _ hm
 have hc:a=1∨a=2∨a=3∨a=4∨a=5∨a=6∨a=7∨a=8∨a=9∨a=10∨a=11∨a=12∨a=13∨a=14∨a=15∨a=16∨a=17∨a=18∨a=19∨a=20∨a=21∨a=22:=by omega
 rcases hc with rfl|rfl|rfl|rfl|rfl|rfl|rfl|rfl|rfl|rfl|rfl|rfl|rfl|rfl|rfl|rfl|rfl|rfl|rfl|rfl|rfl|rfl<;>exact ha _ (by decide) hm
end Go.Proofs.YtmjnnemhoeolgaaGreat.K
noncomputable section
namespace Go.Proofs.YtmjnnemhoeolgaaGreat.K
open Go.RowKit
noncomputable section
def XV {α:Type}(l:List α)(n i:Int):Bool:=decide (n=l.length/\0<=i/\i<=n/\l.length<=9223372036854775807)
theorem Qoq {α:Type}{l:List α}{n i:Int}(h:XV l n i=true):n=l.length/\l.length<=9223372036854775807∧ ∃ k:Nat,i=k/\k<=l.length:=by
 simp only [XV,Ba] at h
 obtain ⟨h1,h2,h3,h4⟩:=h
 exact ⟨h1,h4,i.toNat,by omega,by omega⟩
theorem Qor {α:Type}{l:List α}(h:l.length<=9223372036854775807):XV l (Qc l) 0=true:=by
 simp only [XV,Ba,Qc]
 exact ⟨trivial,by omega,by omega,h⟩
theorem Qf4 {k:Nat}(h:k<9223372036854775807):Qj .i64 (k:Int) 1=((k+1:Nat):Int):=by rw [Jn (by omega)];omega
def QA {α:Type}(m:α->Bool):List α->Option Nat
 | []=>none
 |a::l=>if m a then some 0 else (QA m l).map (· + 1)
theorem IG {α:Type}{m:α->Bool}: ∀ {l:List α},QA m l=none↔l.any m=false
 | []=>by simp [QA]
 |a::l=>by
  have ih:=IG (m:=m) (l:=l)
  unfold QA
  cases h:m a with
  |true=>simp [h]
  |false=>simpa [h] using ih
theorem Qf5 {α:Type}{m:α->Bool}: ∀ {l:List α} {k:Nat},QA m l=some k→ ∃ h:k<l.length,m l[k]=true
 | [],_,h=>by cases h
 |a::l,k,h=>by
  unfold QA at h
  split at h
  ·rename_i ha
   injection h with h
   subst h
   exact ⟨by simp,ha⟩
  ·obtain ⟨j,h1,h2⟩:=Bf.1 h
   subst h2
   obtain ⟨q,h3⟩:=Qf5 h1
   exact ⟨by simp only [Bo];omega,h3⟩
theorem Qa4 {α:Type}{m:α->Bool}{l:List α}:(QA m l).isSome=l.any m:=by
 cases h:QA m l with
 |none=>rw [IG.1 h];rfl
 |some k=>
  obtain ⟨q,h1⟩:=Qf5 h
  exact (List.any_eq_true.2 ⟨l[k],BE q,h1⟩).symm
theorem FX (s:ByteArray):(QO s).length=s.size:=by simp [QO]
def Xv (c:Int):Bool:=decide (32<c/\c<=126)
def Q6 (s:ByteArray):Bool:=(QO s).all Xv&&decide (1<=s.size/\s.size<=32)
def Jk (s:ByteArray):Bool:=decide (s.size<=9223372036854775807)
abbrev Qa5:Sh:=⟨[(0,.ty .str),(6,.ty (.sl (.int .u8))),(7,.ty tI),(8,.ty tI)],[]⟩
abbrev Qf6:Sh:=⟨[(2,.ty .bool)],[]⟩
abbrev Qos:Sh:=⟨[(0,.ty .str)],[]⟩
def Qf7:Fg:=Qa5.f
def Qot:TC:=aF Tryz.f86 [(26,pL 0 Qf7),(421,.fg Qos.f),(13517,.fg Qf6.f)]
def Qou:TC:=lb 0 Qot
def Qov (x0:ByteArray)(x6:List Int)(x7 x8:Int):VS:=Qa5.st (x0,x6,x7,x8,()) ()
def Uz (x2:Bool):VS:=Qf6.st (x2,()) ()
def Qf8 (x0:ByteArray):VS:=Qos.st (x0,()) ()
def QzQ:VS->Option (Bool×List (Bool×Exit×VS)):=mkL Qa5 (fun x y=>(XV x.2.1 x.2.2.1 x.2.2.2.1)) (fun x y=>[((!((x.2.1.drop x.2.2.2.1.toNat).all Xv)),.ret,Uz (false)),(true,.exit 0,Qf8 (x.1))])
def Qf9:G:=gG 27 [(31080144,OA)] (Ls [QzQ])
def Qa6 (x0:ByteArray)(x6:List Int)(x7 x8:Int):OX:=Qx (Qz Qf9 Qf7 Qou) (Qov x0 x6 x7 x8)
def IH (kk:ByteArray->List Int->Int->Int->OX)(x0:ByteArray)(x6:List Int)(x7 x8:Int):OX:=
 let a1:=lgt (.int .u8) x6 (Int.toNat x8)
 br (ilt x8 x7) (br (cIx x6 x8) (br (ile a1 32) (some (.ret,Uz false)) (br (igt a1 126) (some (.ret,Uz false)) (kk x0 x6 x7 (Qj .i64 x8 1)))) none) (some (.exit 0,Qf8 x0))
def Qa7 (x0:ByteArray)(x6:List Int)(x7 x8:Int):OX:=br (!((x6.drop x8.toNat).all Xv)) (some (.ret,Uz (false)))<|some (.exit 0,Qf8 (x0))
theorem Qow (x0:ByteArray)(x6:List Int)(x7 x8:Int):Qa6 x0 x6 x7 x8=IH Qa6 x0 x6 x7 x8:=lnT (x:=IH (fun x0 x6 x7 x8=>some (.normal,Qov x0 x6 x7 x8)) x0 x6 x7 x8) (by simp only [IH,nxA];rfl)
def r_f86 (p0:ByteArray):OV:=br (YH p0) (br (XV (QO p0) (Qc (QO p0)) (0:Int)) (br (!(((QO p0).drop (0:Int).toNat).all Xv)) (some (.t .bool (false),[])) (br (ige (Zm (p0)) 1) (some (.t .bool (ile (Zm (p0)) 32),[])) (some (.t .bool false,[])))) none) none
theorem QzR (x0:ByteArray)(x6:List Int)(x7 x8:Int)(h:(XV x6 x7 x8)=true):Qa6 x0 x6 x7 x8=Qa7 x0 x6 x7 x8:=by
 obtain ⟨rfl,h3,k,rfl,hk⟩:=Qoq h
 clear h
 refine Q7 x6 (fun k=>Qa6 x0 x6 (x6.length:Int) (k:Int)=Qa7 x0 x6 (x6.length:Int) (k:Int)) ?_ ?_ k hk
 ·rw [Qow]
  simp [IH,Qa7,QH,Qh]
 ·intro k hk ih
  rw [Qow]
  simp only [IH,QH,QS,hk,BK,Qd,Bd,Qf4 (show k<9223372036854775807 by omega),Q2 (y:= .int .u8) hk,ih]
  simp only [Qa7,Bd,Bl hk,BZ,Xv]
  by_cases c1:x6[k]<=32
  ·rw [show ile x6[k] 32=true from Be c1,Qd,Bn (show ¬ (32<x6[k]/\x6[k]<=126) by omega)]
   rfl
  ·rw [show ile x6[k] 32=false from Bn c1,Qh]
   by_cases c2:126<x6[k]
   ·rw [show igt x6[k] 126=true from Be (by omega),Qd,Bn (show ¬ (32<x6[k]/\x6[k]<=126) by omega)]
    rfl
   ·rw [show igt x6[k] 126=false from Bn (by omega),Qh,Be (show 32<x6[k]/\x6[k]<=126 by omega),BH]
theorem QzS:LO Qf9 Qf7 Qou 0:=QI (s:=Qa5) fun x y h _ q=>by simp only [QF,QG] at q;exact (QzR x.1 x.2.1 x.2.2.1 x.2.2.2.1 h).trans q
theorem s_f86 (s:ByteArray)(h:Jk s=true):r_f86 s=some (.t .bool (Q6 s),[]):=by
 simp only [Jk,Ba] at h
 have hl:=FX s
 simp only [r_f86,show YH s=true from Be (by omega),Qor (show (QO s).length<=9223372036854775807 by omega),Qd,BA,BG,Q6]
 cases (QO s).all Xv with
 |false=>rfl
 |true=>
  simp only [BM,Qh,BH]
  refine Q4 (fun g=> ?_) (fun g=> ?_)
  ·simp only [ige,Zm,Ba] at g
   apply GY
   rw [DA]
   simp only [ile,Zm,Ba]
   omega
  ·simp only [ige,Zm,Bq] at g
   apply GY
   rw [eq_comm,Bq]
   omega
def II:Ent:=Ql (.pr .str .nil) (fun x=>(Jk x.1)) (fun x=>(.t .bool (Q6 x.1)))
theorem Qa8:EM 86 II:=mS (lk:=lkL (lkc QzS lkn)) Qf9 Qot [((.t 2),some .bool)] false (gB (gC QcF QcG gN)) fun m=>Qr m fun x hok=>kT (s_f86 x.1 hok)
theorem QzT {s:ByteArray}{k:Nat}(h:k<s.size):sgt s (k:Int)=(QO s)[k]'(by rw [FX];exact h):=by
 have hl:k<s.data.toList.length:=by simpa using h
 simp only [sgt,QO,Bd,List.getElem_map,Bk,Bh hl,BS]
abbrev Qa9:Sh:=⟨[(0,.ty .str),(3,.ty tI)],[]⟩
abbrev Qox:Sh:=⟨[],[]⟩
def Qga:Fg:=Qa9.f
def Qoy:TC:=aF Tryz.f116 [(58,pL 0 Qga),(931,.fg Qox.f),(7461,.fg Qf6.f)]
def Qoz:TC:=lb 0 Qoy
def QoA (x0:ByteArray)(x3:Int):VS:=Qa9.st (x0,x3,()) ()
def Qgb  : VS:=Qox.st () ()
def QzU:VS->Option (Bool×List (Bool×Exit×VS)):=mkL Qa9 (fun x y=>(Jk x.1&&decide (0<=x.2.1/\x.2.1<=x.1.size))) (fun x y=>[((!(((QO x.1).drop x.2.1.toNat).all Xv)),.ret,Uz (false)),(true,.exit 0,Qgb)])
def Qgc:G:=gG 28 [] (Ls [QzU])
def Qba (x0:ByteArray)(x3:Int):OX:=Qx (Qz Qgc Qga Qoz) (QoA x0 x3)
def IJ (kk:ByteArray->Int->OX)(x0:ByteArray)(x3:Int):OX:=br (ilt x3 (Zm x0)) (br (cSx x0 x3) (br (ilt (sgt x0 x3) 33) (some (.ret,Uz false)) (br (cSx x0 x3) (br (igt (sgt x0 x3) 126) (some (.ret,Uz false)) (kk x0 (Qj .i64 x3 1))) none)) none) (some (.exit 0,Qgb))
def Qbb (x0:ByteArray)(x3:Int):OX:=br (!(((QO x0).drop x3.toNat).all Xv)) (some (.ret,Uz (false)))<|some (.exit 0,Qgb)
theorem QoB (x0:ByteArray)(x3:Int):Qba x0 x3=IJ Qba x0 x3:=lnT (x:=IJ (fun x0 x3=>some (.normal,QoA x0 x3)) x0 x3) (by simp only [IJ,nxA];rfl)
def QoC (p0:ByteArray):OV:=br (ilt (Zm p0) 1) (some (.t .bool false,[])) (br (igt (Zm p0) 32) (some (.t .bool false,[])) (br (Jk p0&&decide (0<=(0:Int)/\(0:Int)<=p0.size)) (br (!(((QO p0).drop (0:Int).toNat).all Xv)) (some (.t .bool (false),[])) (some (.t .bool true,[]))) none))
theorem QzV (x0:ByteArray)(x3:Int)(h:(Jk x0&&decide (0<=x3/\x3<=x0.size))=true):Qba x0 x3=Qbb x0 x3:=by
 simp only [Jk,Bc,Ba] at h
 obtain ⟨h0,h1,h2⟩:=h
 obtain ⟨k,rfl⟩:=Bt h1
 have hl:=FX x0
 refine Q7 (QO x0) (fun k=>Qba x0 (k:Int)=Qbb x0 (k:Int)) ?_ ?_ k (by omega)
 ·rw [QoB]
  simp [IJ,Qbb,ilt,Zm,hl,Qh,List.drop_eq_nil_of_le (show (QO x0).length<=x0.size by omega)]
 ·intro k hk ih
  have hk2:k<x0.size:=by omega
  rw [QoB]
  simp only [IJ,show ilt (k:Int) (Zm x0)=true from by simp only [ilt,Zm,Ba];omega,show cSx x0 (k:Int)=true from by simp only [cSx,Ba];omega,Qd,QzT hk2,Qf4 (show k<9223372036854775807 by omega),ih]
  simp only [Qbb,Bd,Bl hk,BZ,Xv]
  by_cases c1:(QO x0)[k]<33
  ·rw [show ilt (QO x0)[k] 33=true from Be c1,Qd,Bn (show ¬ (32<(QO x0)[k]/\(QO x0)[k]<=126) by omega)]
   rfl
  ·rw [show ilt (QO x0)[k] 33=false from Bn c1,Qh]
   by_cases c2:126<(QO x0)[k]
   ·rw [show igt (QO x0)[k] 126=true from Be c2,Qd,Bn (show ¬ (32<(QO x0)[k]/\(QO x0)[k]<=126) by omega)]
    rfl
   ·rw [show igt (QO x0)[k] 126=false from Bn c2,Qh,Be (show 32<(QO x0)[k]/\(QO x0)[k]<=126 by omega),BH]
theorem QzW:LO Qgc Qga Qoz 0:=QI (s:=Qa9) fun x y h _ q=>by simp only [QF,QG] at q;exact (QzV x.1 x.2.1 h).trans q
theorem s_f116 (s:ByteArray)(h:Jk s=true):QoC s=some (.t .bool (Q6 s),[]):=by
 simp only [QoC]
 unfold Q6
 refine Q4 (fun g=> ?_) (fun g=>Q4 (fun g2=> ?_) (fun g2=> ?_))
 ·simp only [ilt,Zm,Ba] at g
  rw [Bn (show ¬ (1<=s.size/\s.size<=32) by omega),Bool.and_false]
 ·simp only [igt,Zm,Ba] at g2
  rw [Bn (show ¬ (1<=s.size/\s.size<=32) by omega),Bool.and_false]
 ·simp only [ilt,igt,Zm,Bq] at g g2
  rw [h,Be (show (0:Int)<=0/\(0:Int)<=s.size by omega),Be (show 1<=s.size/\s.size<=32 by omega),Di,Di,Qd,BA,BG]
  cases (QO s).all Xv<;>rfl
def QoD:Ent:=Ql (.pr .str .nil) (fun x=>(Jk x.1)) (fun x=>(.t .bool (Q6 x.1)))
theorem QzX:EM 116 QoD:=mS (lk:=lkL (lkc QzW lkn)) Qgc Qoy [((.t 2),some .bool)] false (gB gN) fun m=>Qr m fun x hok=>kT (s_f116 x.1 hok)
def Yn (d:Dice)(l:List ByteArray):ByteArray:=l.getD (Qg d l.length).toNat ByteArray.empty
def WN (d:Dice)(l:List ByteArray):Dice:=Qb d l.length
def FY (d:Dice)(l:List ByteArray):Bool:=dOk d&&decide (0<l.length/\l.length<4611686018427387904)
def tc_f41:TC:=aF Tryz.f41 []
def g_f41:G:=gG 12 [(22,Xl)] (fun _ _=>none)
def r_f41 (d0:Dice)(p1:List ByteArray):OV:=br (Qy d0 (Qc p1)) (br (cIx p1 (Qg d0 (Qc p1))) (some (.t .str (lgt .str p1 (Int.toNat (Qg d0 (Qc p1)))),[.box (.t Qs (Qb d0 (Qc p1)))])) none) none
theorem s_f41 (d:Dice)(l:List ByteArray)(h:FY d l=true):r_f41 d l=some (.t .str (Yn d l),[.box (.t Qs (WN d l))]):=by
 simp only [FY,Bc,Ba] at h
 obtain ⟨h1,h2,h3⟩:=h
 simp only [r_f41]
 have e1:Qy d (Qc l)=true:=by simp only [Qy,h1,Qc,BH,Ba];omega
 rw [e1,Qd]
 have h4:=Je (d:=d) (n:=Qc l) (by unfold Qc;omega)
 have e2:cIx l (Qg d (Qc l))=true:=by simp only [cIx,Ba];exact h4
 rw [e2,Qd]
 rfl
def QoE:Ent:=Yg Qs (.pr (.sl .str) .nil) (fun d x=>(FY d x.1)) (fun d x=>(.t .str (Yn d x.1))) (fun d x=>(WN d x.1))
theorem ms_f41:EM 41 QoE:=mS g_f41 tc_f41 [((.t 4),some .str)] false (gB (gD XI gN)) fun m=>YZ m rfl fun d x hok=>kT (s_f41 d x.1 hok)
end
end Go.Proofs.YtmjnnemhoeolgaaGreat.K
noncomputable section
namespace Go.Proofs.YtmjnnemhoeolgaaGreat.K
open Go.RowKit
def byt (n:Int)(k:Nat):Int:=(n / 256 ^ k) % 256
theorem Qed (a:Int):icv .u8 a=a % 256:=by
 show IntKind.u8.wrap a=_
 simp [IntKind.wrap,IntKind.bits,IntKind.signed]
theorem QvV {kd:IntKind}(hb:kd.bits=64)(a:Int)(k:Nat)(hk:k<=8):Xo kd a ((8*k:Nat):Int)=a / 256 ^ k:=by
 unfold Xo
 rw [Bd,hb,Nat.min_eq_left (by omega),Int.fdiv_eq_ediv_of_nonneg _ (by exact Int.pow_nonneg (by decide)),Int.pow_mul]
 rfl
def Wn (n:Int):Nat->List Int
 |0=>[]
 |k+1=>byt n k::Wn n k
theorem QkW (n:Int): ∀ k,(Wn n k).length=k
 |0=>rfl
 |k+1=>by rw [Wn,Bo,QkW n k]
def nbN (n:Int):Nat:=
 if-128<=n/\n<128 then 1 else if-32768<=n/\n<32768 then 2 else if-8388608<=n/\n<8388608 then 3
 else if-2147483648<=n/\n<2147483648 then 4 else if-549755813888<=n/\n<549755813888 then 5
 else if-140737488355328<=n/\n<140737488355328 then 6 else if-36028797018963968<=n/\n<36028797018963968 then 7 else 8
theorem Vw (n:Int):nbN n<=8:=by unfold nbN;(repeat' split)<;>omega
def YA (x b:Int):Bool:=(x != 0&&x != -1)||(x==0&&decide (b≥128))||(x== -1&&decide (b<128))
def Ze:Nat->Int->List Int->List Int
 |0,_,b=>b
 |k+1,x,b=>bif YA x (b.headD 0) then Ze k (x / 256) (x % 256::b) else b
theorem QvW (x y:Int):YA x y=true↔((x≠0/\x≠ -1)∨(x=0/\y≥128)∨(x= -1/\y<128)):=by simp [YA,or_assoc]
theorem GZ (n:Int){k:Nat}(h:1<=k):Wn n k=byt n (k-1)::Wn n (k-1):=by
 obtain ⟨j,rfl⟩: ∃ j,k=j+1:=⟨k-1,by omega⟩
 rfl
theorem Qee {n:Int}(k:Nat)(h1:k<=8)(h0:1<=k)(h: -9223372036854775808<=n/\n<9223372036854775808):YA (n / 256 ^ k) (byt n (k-1))=decide (k<nbN n):=by
 have key:((n / 256 ^ k≠0/\n / 256 ^ k≠ -1)∨(n / 256 ^ k=0/\byt n (k-1)≥128)∨(n / 256 ^ k= -1/\byt n (k-1)<128))↔k<nbN n:=by
  unfold nbN byt
  have:k=1∨k=2∨k=3∨k=4∨k=5∨k=6∨k=7∨k=8:=by omega
  rcases this with rfl|rfl|rfl|rfl|rfl|rfl|rfl|rfl<;>simp only [Int.reducePow,Nat.reduceSub]<;>(repeat' split)<;>omega
 rw [DA,QvW,decide_eq_true_iff,key]
theorem QvX (n:Int):1<=nbN n:=by unfold nbN;(repeat' split)<;>omega
theorem QkX {n:Int}(h: -9223372036854775808<=n/\n<9223372036854775808): ∀ f k,1<=k->k<=nbN n->nbN n-k<=f->Ze (f+1) (n / 256 ^ k) (Wn n k)=Wn n (nbN n)
 |0,k,h1,h2,h3=>by
  have e:k=nbN n:=by omega
  rw [GZ n h1,Ze,List.headD_cons,Qee k (by have:=Vw n;omega) h1 h,Bn (by omega),Dj, ← e, ← GZ n h1]
 |f+1,k,h1,h2,h3=>by
  have h8:=Vw n
  rcases B5 k (nbN n) with h4|h4
  ·rw [GZ n h1,Ze,List.headD_cons,Qee k (by omega) h1 h,Be (by omega),Dn]
   have e:n / 256 ^ k / 256=n / 256 ^ (k+1):=by rw [Int.pow_succ,Int.ediv_ediv_of_nonneg (Int.pow_nonneg (by decide))]
   rw [e, ← GZ n h1]
   exact QkX h f (k+1) (by omega) (by omega) (by omega)
  ·have e:k=nbN n:=by omega
   rw [GZ n h1,Ze,List.headD_cons,Qee k (by omega) h1 h,Bn (by omega),Dj, ← e, ← GZ n h1]
def U2 (n:Int):List Int:=Wn n (nbN n)
theorem QvY {n:Int}(h: -9223372036854775808<=n/\n<9223372036854775808):Ze 9 (n / 256) [byt n 0]=U2 n:=by
 have:=QkX h 8 1 (BB _) (QvX n) (by have:=Vw n;omega)
 simpa [Wn,U2] using this
def ZE:Nat->Nat->List Int
 |0,_=>[]
 |f+1,n=>if n=0 then [] else ZE f (n / 256)++[((n % 256:Nat):Int)]
def YX:Nat->Nat->Nat
 |0,_=>0
 |f+1,n=>if n=0 then 0 else YX f (n / 256)+1
theorem Qef: ∀ f n,(ZE f n).length=YX f n
 |0,_=>rfl
 |f+1,n=>by
  simp only [ZE,YX]
  split
  ·rfl
  ·rw [Bm,Qef f];rfl
theorem Qeg: ∀ f n,YX f n<=f
 |0,_=>BB _
 |f+1,n=>by
  simp only [YX]
  split
  ·omega
  ·have:=Qeg f (n / 256);omega
theorem QvZ (n k:Nat):byt (n:Int) k=((n / 256 ^ k % 256:Nat):Int):=by
 unfold byt
 have:(256:Int) ^ k=((256 ^ k:Nat):Int):=by simp
 rw [this]
 omega
def Ul (n:Nat):List Int:=if n<128 then [(n:Int)] else (((128+YX 8 n:Nat)):Int)::ZE 8 n
mutual
def Vx:Val->List Int
 |.mk t b _ es=>icv .u8 t::(Ul (b.length+(Zv es).length)++(b++Zv es))
def Zv:List Val->List Int
 | []=>[]
 |v::r=>Vx v++Zv r
end
mutual
def Um:Val->Nat
 |.mk _ _ _ es=>G0 es+1
def G0:List Val->Nat
 | []=>0
 |v::r=>max (Um v) (G0 r)
end
def okV:Nat->Val->Bool
 |0,_=>false
 |n+1,.mk t b nst es=>(t==1||t==2||t==12||t==48)&&(nst==(t==48))&&(bif nst then b.isEmpty else es.isEmpty)&&decide (b.length<=100000/\es.length<=100000)&&es.all (okV n)
theorem QkY {n:Nat}{t:Int}{b:List Int}{q:Bool}{es:List Val}(h:okV (n+1) (.mk t b q es)=true):
  (t=1∨t=2∨t=12∨t=48)/\q=(t==48)/\(q=true->b=[])/\(q=false->es=[])/\b.length<=100000/\es.length<=100000∧ ∀ v∈es,okV n v=true:=by
 simp only [okV,Bc,Dc,Db,Ba,Bi] at h
 obtain ⟨⟨⟨⟨h1,h2⟩,h3⟩,h4⟩,h5⟩:=h
 refine ⟨by omega,h2,fun hq=> ?_,fun hq=> ?_,h4.1,h4.2,h5⟩
 ·rw [hq,Dn] at h3
  exact DH.1 h3
 ·rw [hq,Dj] at h3
  exact DH.1 h3
theorem okV_up: ∀ {n:Nat} {v:Val},okV n v=true->okV (n+1) v=true
 |0,_,h=>by cases h
 |n+1,.mk t b q es,h=>by
  simp only [okV,Bc,Bi] at h ⊢
  exact ⟨h.1,fun v hv=>by have:=okV_up (h.2 v hv);simpa only [okV] using this⟩
theorem QkZ: ∀ {n:Nat} {es:List Val},(∀ v∈es,Um v<=n)->G0 es<=n
 |_,[],_=>B7 _
 |n,v::r,h=>by
  rw [G0]
  have:=h v (by simp)
  have:=QkZ (es:=r) fun u hu=>h u (by simp [hu])
  omega
theorem Vy: ∀ {n:Nat} {v:Val},okV n v=true->Um v<=n
 |0,_,h=>by cases h
 |n+1,.mk t b q es,h=>by
  rw [Um]
  have:=QkZ (n:=n) fun v hv=>Vy ((QkY h).2.2.2.2.2.2 v hv)
  omega
theorem Qv0 (t:Int)(b:List Int)(q:Bool)(es:List Val):b.length+(Zv es).length<=(Vx (.mk t b q es)).length:=by
 rw [Vx,Bo,Bm,Bm]
 omega
end Go.Proofs.YtmjnnemhoeolgaaGreat.K
noncomputable section
namespace Go.Proofs.YtmjnnemhoeolgaaGreat.K
open Go.RowKit
mutual
def V.plain:V->Bool
 |.t (.int _) _=>true
 |.t .bool _=>true
 |.tu vs=>V.plains vs
 |_=>false
def V.plains:List V->Bool
 | []=>true
 |v::vs=>v.plain&&V.plains vs
end
section
variable {X X':Nat->Nat->Prop}{w w':World}{σ σ':Pl}
mutual
theorem QpG: ∀ (v:V) (u:Value),v.plain=true->C X w σ v.d u->C X' w' σ' v.d u
 |.t (.int _) x,u,_,h=>by simpa only [V.d,Ty.d,C] using h
 |.t .bool x,u,_,h=>by simpa only [V.d,Ty.d,C] using h
 |.tu vs,u,hp,h=>by
  simp only [V.plain] at hp
  simp only [V.d,C] at h ⊢
  obtain ⟨us,h1,h2⟩:=h
  exact ⟨us,h1,QpH vs us hp h2⟩
theorem QpH: ∀ (vs:List V) (us:List Value),V.plains vs=true->Cs X w σ (V.ds vs) us->Cs X' w' σ' (V.ds vs) us
 | [],us,_,h=>by simpa only [V.ds,Cs] using h
 |v::vs,us,hp,h=>by
  simp only [V.plains,Bc] at hp
  simp only [V.ds,Cs] at h ⊢
  obtain ⟨u,us',h1,h2,h3⟩:=h
  exact ⟨u,us',h1,QpG v u hp.1 h2,QpH vs us' hp.2 h3⟩
end
end
def QgI (E:Ent):Ent:=fun args objs=>match objs with
 | [.arr e y l]=>match E (V.fzs 50000 y l args) [] with
  |some (ok,r,[])=>if r.plain then some (ok,r,[.arr e y l]) else none
  |_=>none
 |objs=>E args objs
section
variable {P:Program}
theorem QAM {f:FuncId}{E:Ent}(h:Qu P f (Qq E)):Qu P f (Qq (QgI E)):=by
 intro args objs r os hF X w σ vs hfin hl hc
 unfold Qq QgI at hF
 split at hF
 ·rename_i r' os' hq
  simp only [Bb,Bj] at hF
  obtain ⟨rfl,rfl⟩:=hF
  split at hq
  ·rename_i e y l
   split at hq
   ·rename_i ok r2 hE
    split at hq
    ·rename_i hp
     simp only [Bb,Bj] at hq
     obtain ⟨rfl,rfl,rfl⟩:=hq
     have hat:=(hl.at_ 0 _ rfl).1
     let X2:Nat->Nat->Prop:=fun b q=>X b q/\(σ 50000).blk≠some b
     have ex:Ext X w X2 w:=⟨BB _,fun b q _ hx=>⟨fun hx'=>hx hx'.1,rfl⟩,fun _ _ _=>rfl⟩
     have hX: ∀ u b,σ 50000= .arr u->u.ownBlock=some b→ ∀ q, ¬ X2 b q:=fun u b h1 h2 q hx=>hx.2 (by rw [h1];exact h2)
     have hc2:=FB hat ex hX args vs hc
     have hs:Qq E (V.fzs 50000 y l args) []=some (r2,[]):=by simp [Qq,hE]
     refine (h _ _ _ _ hs X2 w σ vs (fun b q hx=>hfin b q hx.1) ⟨fun j o hj=>by simp at hj,fun i j b _ hi=>by simp at hi⟩ hc2).mono ?_
     rintro e' w' ⟨u,X',σ',rfl,hcr,hE'⟩
     have hk: ∀ b,b<w.heap.size->w'.heap[b]? = w.heap[b]? :=fun b hb=>hE'.fr.keep b hb (by simp [Yv])
     let X3:Nat->Nat->Prop:=fun b q=>(b<w.heap.size/\X b q)∨(w.heap.size<=b/\X' b q)
     have ex3:Ext X w X3 w':=⟨hE'.fr.size,fun b q hb hx=>⟨fun hx'=>by
      rcases hx' with hx'|hx'
      ·exact hx hx'.2
      ·omega,World.cell?_of_block (w:=w) (a:=⟨b,q,none⟩) (hk b hb)⟩,fun b hb _=>hk b hb⟩
     refine ⟨u,X3,σ,rfl,QpG _ _ hp hcr,⟨fun b q hq=> ?_,fun j o hj=> ?_,fun i j b hij hi hj=>by simp at hi hj;omega,by simp,fun _ _=>rfl,fun j b hj hl=>by simp at hj hl;omega,⟨hE'.fr.os,hE'.fr.tape,hE'.fr.output,hE'.fr.size,fun b hb _=>hk b hb⟩,fun b q hb hq=> ?_,fun b q hb _ hq=> .inl ⟨hb,hq⟩⟩⟩
     ·rcases hq with hq|hq
      ·exact BP hq.1 hE'.fr.size
      ·exact hE'.fin b q hq.2
     ·cases j with
      |zero=>
       simp only [BW,Bb] at hj
       subst hj
       refine ⟨hat.ext ex3 rfl (fun _ _=>rfl) fun b hb=> ?_,fun h=>absurd h (by simp)⟩
       obtain ⟨u2,xs,h1,h2,h3,h4,h5⟩:=hat
       have hb2:u2.ownBlock=some b:=by rw [h1] at hb;exact hb
       have hlt:b<w.heap.size:=hfin b 0 (h5 b hb2 0)
       exact ⟨hk b hlt,fun q hq=> .inl ⟨hlt,hq⟩⟩
      |succ j=>simp at hj
     ·rcases hq with hq|hq
      ·exact hq.2
      ·omega
    ·cases hq
   ·cases hq
  ·exact h _ _ _ _ (by rw [Qq,hq]) X w σ vs hfin hl hc
 ·cases hF
end
end Go.Proofs.YtmjnnemhoeolgaaGreat.K
noncomputable section
namespace Go.Proofs.YtmjnnemhoeolgaaGreat.K
open Go.RowKit
section
variable {P:Program}
theorem QxQ {f:FuncId}{e:Nat}{y:Ty}{N:Nat}{ok:(Ty.pr (.sl y) .nil).T->Bool}(hlt:f<1000000)
  (hok: ∀ x,ok x=true->x.1.length<=N)
  (h: ∀ (A:Option Addr) (c n:Nat) (cells:List Value) (w:World),Sl w (.slice A n c) y.sz n cells->(∀ u∈cells,u.oneCell'=true)->n<=N→
   Calls P f #[.slice A n c] w fun r w'=> ∃ sv,r= .returned sv/\w'.ownsRow w.heap.size e y.sz sv n cells/\Below w.heap.size w w'):
  Qu P f (Qq (Wu (.pr (.sl y) .nil) ok (fun _=> .ms 50000) (fun x=>[.arr e y x.1]))):=by
 intro args objs r os hF X w σ vs hfin hl hc
 unfold Qq Wu at hF
 cases objs with
 |cons o os'=>simp at hF
 |nil=>
  simp only at hF
  cases ha:(Ty.pr (.sl y) .nil).args args with
  |none=>rw [ha] at hF;cases hF
  |some x=>
   rw [ha] at hF
   simp only at hF
   split at hF
   ·rename_i r' os' hq
    simp only [Bb,Bj] at hF hq
    obtain ⟨rfl,rfl⟩:=hF
    obtain ⟨h1,rfl,rfl⟩:=hq
    have hcc:=Wv ha hc
    obtain ⟨l,u0⟩:=x
    have hlen:=hok _ h1
    simp only [Ty.canon,V.ds,V.d,Ty.d,Cs,C] at hcc
    obtain ⟨u,us,rfl,⟨A,c,rfl,hnc,hmx,hz,hp⟩,rfl⟩:=hcc
    have hsl: ∃ cells,Sl w (.slice A l.length c) y.sz l.length cells/\(∀ u∈cells,u.oneCell'=true)/\Cs X w QU (List.flatMap y.cells l) cells:=by
     by_cases hq:l=[]
     ·subst hq
      exact ⟨[],⟨by simp,A,c,rfl,B7 _,hmx,fun hn=>absurd hn (by simp)⟩,fun u hu=>(by cases hu),by simp [Cs]⟩
     ·have hn:0<l.length:=List.length_pos_iff.2 hq
      obtain ⟨b,off,vs,rfl,g1,g2⟩:=hp hn
      have hvl:=Cs.len g1
      rw [WF] at hvl
      exact ⟨vs,⟨hvl,_,c,rfl,hnc,hmx,fun _=>⟨b,off,rfl,g2.lt,fun j u hu=>g2.at_ j u hu⟩⟩,g2.one,g1⟩
    obtain ⟨cells,s1,s2,s3⟩:=hsl
    refine (Qc4 hlt (h A c l.length cells w s1 s2 hlen)).mono ?_
    rintro _ w' ⟨sv,rfl,ho,hb⟩
    let X':Nat->Nat->Prop:=fun b q=>X b q∨some b=sv.ownBlock
    let σ':Pl:=fun k=>if k=50000 then .arr sv else σ k
    have hsv:sv.oneCell'=true:=by
     rcases ho.2 with ⟨rfl,_⟩|⟨g,cap,cur,rfl,_⟩<;>rfl
    have hlo: ∀ b,sv.ownBlock=some b->w.heap.size<=b/\b<w'.heap.size:=fun b hbk=>ho.lt b hbk
    have ex:Ext0 X w X' w':=⟨hb.size,fun b q hbl hx=>⟨fun hx'=>by
     rcases hx' with hx'|hx'
     ·exact hx hx'
     ·have:=hlo b hx'.symm
      omega,World.cell?_of_block (w:=w) (a:=⟨b,q,none⟩) (hb.block b hbl)⟩⟩
    have e0:σ' 50000= .arr sv:=if_pos rfl
    refine ⟨sv,X',σ',rfl, ?_,⟨fun b q hq=> ?_,fun j o hj=> ?_,fun i j b hij hi hj=>by simp at hi hj;omega,by simp,fun j hj=>by simp at hj,fun j b _ hj hl=> ?_,Qmg hb,fun b q hbl hq=> ?_,fun b q _ _ hq=> .inl hq⟩⟩
    ·simp only [V.d,C]
     exact ⟨e0,hsv⟩
    ·rcases hq with hq|hq
     ·exact BP (hfin b q hq) hb.size
     ·exact (hlo b hq.symm).2
    ·cases j with
     |zero=>
      simp only [BW,Bb] at hj
      subst hj
      have ho0:w'.ownsRow 0 e y.sz sv l.length cells:=by
       refine ⟨ho.1, ?_⟩
       rcases ho.2 with hq|⟨g,cap,cur,q1,q2,q3⟩
       ·exact .inl hq
       ·exact .inr ⟨g,cap,cur,q1,B7 _,q3⟩
      exact ⟨⟨sv,cells,e0,.of ho0,Cs.ext0 ex _ _ (fun _ _=>rfl) s3,s2,fun b hbk o=> .inr hbk.symm⟩,fun _ h=>by cases h⟩
     |succ j=>simp at hj
    ·simp only [Bo,Bw] at hj
     have:j=0:=by omega
     subst this
     left
     rw [show 50000+0=50000 from rfl,e0] at hl
     exact (hlo b hl).1
    ·rcases hq with hq|hq
     ·exact hq
     ·have:=hlo b hq.symm
      omega
   ·cases hF
theorem QxR {f:FuncId}{e:Nat}{y:Ty}{a:Ty}{ok:a.T->Bool}{L:a.T->List y.T}(h:Qu P f (Qq (Wu a ok (fun _=> .ms 50000) (fun x=>[.arr e y (L x)])))):Qu P f (Qq (Ql a ok (fun x=> .t (.sl y) (L x)))):=by
 intro args objs r os hF X w σ vs hfin hl hc
 unfold Qq Ql at hF
 cases objs with
 |cons o os'=>simp at hF
 |nil=>
  simp only at hF
  cases ha:a.args args with
  |none=>rw [ha] at hF;cases hF
  |some x=>
   rw [ha] at hF
   simp only at hF
   split at hF
   ·rename_i r' os' hq
    simp only [Bb,Bj] at hF hq
    obtain ⟨rfl,rfl⟩:=hF
    obtain ⟨h1,rfl,rfl⟩:=hq
    have h2:=h args [] (.ms 50000) [.arr e y (L x)] (by unfold Qq Wu;simp only [ha,h1]) X w σ vs hfin hl hc
    refine h2.mono ?_
    rintro e0 w' ⟨u,X',σ',rfl,hu,hE⟩
    have hat:=(hE.at_ 0 _ rfl).1
    let X'':Nat->Nat->Prop:=fun b q=>X' b q/\(σ' 50000).blk≠some b
    have ex:Ext X' w' X'' w':=⟨BB _,fun b q _ hx=>⟨fun hx'=>hx hx'.1,rfl⟩,fun _ _ _=>rfl⟩
    have hX: ∀ u b,σ' 50000= .arr u->u.ownBlock=some b→ ∀ q, ¬ X'' b q:=fun u b h1 h2 q hx=>hx.2 (by rw [h1];exact h2)
    have hz:=Xt (k:=50000) (y:=y) (l:=L x) (e:=e) hat ex hX (.ms 50000) u hu
    simp only [V.fz,if_true] at hz
    refine ⟨u,X'',σ',rfl,hz,⟨fun b q hq=>hE.fin b q hq.1,fun j o hj=>by simp at hj,fun i j b _ hi=>absurd hi (by simp),by simp,fun j hj=>absurd hj (by simp),fun j b _ hj=>absurd hj (by simp),hE.fr,fun b q hb hq=>hE.sub b q hb hq.1,fun b q hb hn hq=>⟨hE.old b q hb (fun i hi=>absurd hi (by simp)) hq,fun hb2=> ?_⟩⟩⟩
    rcases hE.new 0 b (B7 _) (by simp) hb2 with h3|⟨i,hi,_⟩
    ·omega
    ·exact absurd hi (by simp)
   ·cases hF
end
end Go.Proofs.YtmjnnemhoeolgaaGreat.K
noncomputable section
namespace Go.Proofs.YtmjnnemhoeolgaaGreat.K
open Go.RowKit
noncomputable section
theorem JF {α:Type}{l l2:List α}{c:Nat}(hc:c<=1000)(h:l.length+l2.length<=100000000000):QC l l2 c=true:=by
 simp only [QC,Ba]
 have:(l.length+l2.length)*(c+1)<=100000000000*1001:=Nat.mul_le_mul h (by omega)
 omega
def Qjn (l:List Int):List Int:=l
def Qjo (l:List Int):Bool:=decide (l.length<=4000000)
def Que:Ent:=Ql (.pr (.sl (.int .u8)) .nil) (fun x=>(Qjo x.1)) (fun x=>(.t (.sl (.int .u8)) (Qjn x.1)))
theorem QFO:JE Tryz.prog 247:= .inr ⟨by decide,_,Tryz.func247,by kernel_rfl,by kernel_rfl⟩
theorem elemU8:ElemOk Tryz.prog 188 5 1 1:=ElemOk.of (.int .u8 0) (by kernel_rfl) (by kernel_rfl) (by kernel_rfl) (by decide)
theorem QFP {P:Program}(w:World)(t e:TypeId)(a:Option Addr)(l c:Nat)(h:P.underlying t=some (.slice e)):(binOp .eql t (.slice a l c) (.slice none 0 0)).run P w= .ok (.bool a.isNone) w:=by
 simp [binOp,run_equal_slice_nil w t e a l c h]
set_option maxHeartbeats 400000 in
theorem QFQ (A:Option Addr)(c n:Nat)(cells:List Value)(w:World)(h:Sl w (.slice A n c) 1 n cells)(h1: ∀ u∈cells,u.oneCell'=true)(hn:n<=4000000):
  Calls Tryz.prog 247 #[.slice A n c] w fun r w'=> ∃ sv,r= .returned sv/\w'.ownsRow w.heap.size 5 1 sv n cells/\Below w.heap.size w w':=by
 have he:=QFP (P:=Tryz.prog) w 188 5 A n c (by kernel_rfl)
 rcases A with _|ad
 ·have hnil:n=0:=Classical.byContradiction fun h0=>by
   obtain ⟨_,A',c',hv,_,_,h3⟩:=h
   obtain ⟨b,off,e,_⟩:=h3 (by omega)
   rw [e] at hv
   simp at hv
  subst hnil
  have hc:cells=[]:=Bv (by rw [h.1,Nat.zero_mul])
  subst hc
  clear h
  simp only [Option.isNone_none] at he
  go_enter Tryz.func247,Tryz.ntmps247
  go_wp2_with fail
  go_ret
  exact ⟨_,rfl,World.ownsRow_nil _ _ _ _,Below.refl _ _⟩
 ·simp only [Option.isNone_some] at he
  have hown:=World.ownsRow_made w #[] (size:=1) (e:=5) 0 (BB _) (B7 _) rfl
  have hsrc:=h.alloc (.cells #[] 5)
  have HSRC:=Lib.hid hsrc
  clear h hsrc
  go_enter Tryz.func247,Tryz.ntmps247
  go_wp2_with (at_builtin;refine Qm5 elemU8 rfl _ _ rfl w.heap.size (.slice (some ⟨w.heap.size,0,none⟩) 0 0) 0 [] rfl hown (some ad) n c cells rfl HSRC.out h1 (by omega) (by omega) (by simp) ?_;intro v' w4 hown4 hg4 hat4)
  go_ret
  refine ⟨v',rfl,by simpa using hown4, ?_⟩
  have hal:=(Below.refl w.heap.size w).alloc (BB _) (.cells #[] 5)
  exact Qm4 hal hg4 (BB _) hal.size
theorem QFR:Qu Tryz.prog 247 (Qq Que):=
 QxR (a:= .pr (.sl (.int .u8)) .nil) (e:=5) (y:= .int .u8) (L:=fun x=>x.1) (QxQ (e:=5) (y:= .int .u8) (by decide) (fun x hx=>BI hx) fun A c n cells w h h1 hn=>QFQ A c n cells w h h1 hn)
def OW (n:Int):Bool:=decide (1<=n/\n<=255)&&(Gf .i64 n 31 != 31)
def QFS:TC:=aF Tryz.f242 []
def g_f242:G:=gG 14 [] (fun _ _=>none)
def Quf (p0:Int):OV:=br (ige p0 1) (br (ile p0 255) (some (.t .bool (ine (Gf .i64 p0 31) 31),[])) (some (.t .bool false,[]))) (some (.t .bool false,[]))
theorem s_f242 (n:Int):Quf n=some (.t .bool (OW n),[]):=by
 simp only [Quf]
 unfold OW
 refine Q4 (fun h1=>Q4 (fun h2=> ?_) (fun h2=> ?_)) (fun h1=> ?_)
 ·simp only [ige,ile,Ba] at h1 h2
  rw [Be (show 1<=n/\n<=255 by omega),BH]
 ·simp only [ige,ile,Ba,Bq] at h1 h2
  rw [Bn (show ¬ (1<=n/\n<=255) by omega),Bool.false_and]
 ·simp only [ige,Bq] at h1
  rw [Bn (show ¬ (1<=n/\n<=255) by omega),Bool.false_and]
def Qug:Ent:=Ql (.pr tI .nil) (fun x=>true) (fun x=>(.t .bool (OW x.1)))
theorem QFT:EM 242 Qug:=mS g_f242 QFS [((.t 2),some .bool)] false (gB gN) fun m=>Qr m fun x _=>kT (s_f242 x.1)
def OY (n:Int):Bool:=decide (1<=n/\n<=255)&&(ZP n 32 != 31)
def QFU:TC:=aF Tryz.f210 []
def g_f210:G:=gG 14 [] (fun _ _=>none)
def Quh (p0:Int):OV:=br (ige p0 1) (br (ile p0 255) (br (cNz 32) (some (.t .bool (ine (ZP p0 32) 31),[])) none) (some (.t .bool false,[]))) (some (.t .bool false,[]))
theorem s_f210 (n:Int):Quh n=some (.t .bool (OY n),[]):=by
 simp only [Quh,show cNz 32=true from rfl,Qd]
 unfold OY
 refine Q4 (fun h1=>Q4 (fun h2=> ?_) (fun h2=> ?_)) (fun h1=> ?_)
 ·simp only [ige,ile,Ba] at h1 h2
  rw [Be (show 1<=n/\n<=255 by omega),BH]
 ·simp only [ige,ile,Ba,Bq] at h1 h2
  rw [Bn (show ¬ (1<=n/\n<=255) by omega),Bool.false_and]
 ·simp only [ige,Bq] at h1
  rw [Bn (show ¬ (1<=n/\n<=255) by omega),Bool.false_and]
def Qui:Ent:=Ql (.pr tI .nil) (fun x=>true) (fun x=>(.t .bool (OY x.1)))
theorem QFV:EM 210 Qui:=mS g_f210 QFU [((.t 2),some .bool)] false (gB gN) fun m=>Qr m fun x _=>kT (s_f210 x.1)
theorem byt_low (n:Nat)(h:n<256):byt (n:Int) 0=n:=by
 rw [QvZ]
 simp
 omega
-- loop 0: (x1 : Int) (x5 : Int) (x6 : Int) (QjV : (List Int)); out: ('exit', 0) (x1 : Int) (x5 : Int) (QjV : (List Int))
-- loop 1: (x1 : Int) (x7 : Int) (QjV : (List Int)); out: ('exit', 2) (QjV : (List Int))
theorem QFW: ∀ (f g n:Nat),n<256 ^ f->n<256 ^ g->YX f n=YX g n
 |0,g,n,h1,h2=>by
  have:n=0:=by simpa using h1
  subst this
  cases g<;>rfl
 |f+1,0,n,h1,h2=>by
  have:n=0:=by simpa using h2
  subst this
  rfl
 |f+1,g+1,n,h1,h2=>by
  rw [YX,YX]
  split
  ·rfl
  ·rw [Nat.pow_succ] at h1 h2
   rw [QFW f g (n / 256) (by omega) (by omega)]
theorem Qjp {n:Nat}(h:n<256):icv .u8 (n:Int)=n:=by
 rw [Qed]
 omega
def Ub (n:Int):List Int:=Ul n.toNat
def OZ (n:Int):Bool:=decide (0<=n/\n<=1000000000)
abbrev Qdo:Sh:=⟨[(0,.ty tI),(3,.ms 3)],[(3,.arr 5 (.int .u8)),(14,.no),(16,.no)]⟩
abbrev Quj:Sh:=⟨[(3,.ms 3)],[(3,.arr 5 (.int .u8)),(14,.no),(16,.no)]⟩
def Qjq:Fg:=Qdo.f
def Quk:TC:=aF Tryz.f211 [(60,.nw 3 5),(60,pL 0 Qjq),(120,.mv [(14,3)]),(963,.fg Quj.f)]
def Qul:TC:=lb 0 Quk
def Qum (x0:Int)(y3:List Int):VS:=Qdo.st (x0,(),()) (y3,(),(),())
def Qjr (y3:List Int):VS:=Quj.st ((),()) (y3,(),(),())
def QFX:VS->Option (Bool×List (Bool×Exit×VS)):=mkL Qdo (fun x y=>(decide (0<=x.1/\x.1<=1000000000/\y.1.length<=100))) (fun x y=>[(true,.exit 0,Qjr (ZE 8 x.1.toNat++y.1))])
def Qjs:G:=⟨TYs,[14,23],26,EL [],YU,(Ls [QFX]),IL [],RL []⟩
def Qdp (x0:Int)(y3:List Int):OX:=Qx (Qz Qjs Qjq Qul) (Qum x0 y3)
def EC (kk:Int->List Int->OX)(x0:Int)(y3:List Int):OX:=
 let a1:=icv .u8 (ZP x0 256)
 br (igt x0 0) (br (cNz 256) (br (QC ([a1]) y3 1) (br (cNz 256) (kk (Gc .i64 x0 256) (([a1])++y3)) none) none) none) (some (.exit 0,Qjr y3))
def O0 (x0:Int)(y3:List Int):OX:=some (.exit 0,Qjr (ZE 8 x0.toNat++y3))
theorem Qun (x0:Int)(y3:List Int):Qdp x0 y3=EC Qdp x0 y3:=lnT (x:=EC (fun x0 y3=>some (.normal,Qum x0 y3)) x0 y3) (by simp only [EC,nxA];rfl)
def Quo (p0:Int):OV:=
 let a1:=(ZE 8 p0.toNat++([]:List Int))
 let a2:=icv .u8 (Qj .i64 128 (Qc a1))
 br (ilt p0 128) (some (.t (.sl (.int .u8)) ([(icv .u8 p0)]),[])) (br (decide (0<=p0/\p0<=1000000000/\([]:List Int).length<=100)) (br (QC ([a2]) a1 1) (some (.t (.sl (.int .u8)) (([a2])++a1),[])) none) none)
theorem Qup: ∀ (f g n:Nat),n<256 ^ f->n<256 ^ g->ZE f n=ZE g n
 |0,g,n,h1,h2=>by
  have:n=0:=by simpa using h1
  subst this
  cases g<;>rfl
 |f+1,0,n,h1,h2=>by
  have:n=0:=by simpa using h2
  subst this
  rfl
 |f+1,g+1,n,h1,h2=>by
  rw [ZE,ZE]
  split
  ·rfl
  ·rw [Nat.pow_succ] at h1 h2
   rw [Qup f g (n / 256) (by omega) (by omega)]
theorem QFY (x0:Int)(y3:List Int)(h:(decide (0<=x0/\x0<=1000000000/\y3.length<=100))=true):Qdp x0 y3=O0 x0 y3:=by
 simp only [Ba] at h
 obtain ⟨h1,h2,h3⟩:=h
 obtain ⟨n,rfl⟩:=Bt h1
 have key: ∀ (m n:Nat),n<=m->n<=1000000000→ ∀ y3:List Int,y3.length+n<=2000000000->Qdp (n:Int) y3=O0 (n:Int) y3:=by
  intro m
  induction m with
  |zero=>
   intro n hn _ y3 _
   have:n=0:=by omega
   subst this
   rw [Qun]
   simp only [EC,O0,show igt ((0:Nat):Int) 0=false from rfl,Qh,Bd,show ZE 8 0=[] from rfl,BY]
  |succ m ih=>
   intro n hn hb y3 h6
   rw [Qun]
   by_cases h0:n=0
   ·subst h0
    simp only [EC,O0,show igt ((0:Nat):Int) 0=false from rfl,Qh,Bd,show ZE 8 0=[] from rfl,BY]
   ·have e1:ZP (n:Int) 256=((n % 256:Nat):Int):=by
     show (n:Int).tmod 256=_
     rw [Int.tmod_eq_emod_of_nonneg (by omega)]
     omega
    have e2:Gc .i64 (n:Int) 256=((n / 256:Nat):Int):=by
     show IntKind.i64.wrap ((n:Int).tdiv 256)=_
     rw [Int.tdiv_eq_ediv_of_nonneg (by omega),Go.IntWalk.i64_in _ (by omega)]
     omega
    simp only [EC,show igt (n:Int) 0=true from Be (by omega),Qd,show cNz 256=true from rfl,e1,e2,Qjp (show n % 256<256 by omega)]
    rw [JF (by omega) (by simp only [Bp];omega),Qd,ih (n / 256) (by omega) (by omega) _ (by simp only [Bm,Bp];omega)]
    simp only [O0,Bd]
    have:ZE 8 n=ZE 8 (n / 256)++[((n % 256:Nat):Int)]:=by
     rw [show ZE 8 n=(if n=0 then [] else ZE 7 (n / 256)++[((n % 256:Nat):Int)]) from rfl,if_neg h0,Qup 7 8 (n / 256) (by omega) (by omega)]
    rw [this,BV]
 exact key n n (BB _) (by omega) y3 (by omega)
theorem QFZ:LO Qjs Qjq Qul 0:=QI (s:=Qdo) fun x y h _ q=>by simp only [QF,QG] at q;exact (QFY x.1 y.1 h).trans q
theorem s_f211 (n:Int)(h:OZ n=true):Quo n=some (.t (.sl (.int .u8)) (Ub n),[]):=by
 simp only [OZ,Ba] at h
 obtain ⟨h2,h3⟩:=h
 obtain ⟨n,rfl⟩:=Bt h2
 have hc:=Qeg 8 n
 have hd:=Qef 8 n
 simp only [Quo]
 by_cases hn:n<128
 ·rw [show ilt (n:Int) 128=true from Be (by omega),Qd]
  simp only [Ub,Ul,Bd,if_pos hn,Qjp (show n<256 by omega)]
 ·rw [show ilt (n:Int) 128=false from Bn (by omega),Qh,Be ⟨by omega,by omega,by simp⟩,Qd]
  simp only [Bd,BR,Qc,hd]
  rw [JF (by omega) (by simp only [Bp];omega),Qd,Jn (by omega)]
  have e2:(128+(YX 8 n:Int))=((128+YX 8 n:Nat):Int):=by omega
  simp only [Ub,Ul,Bd,if_neg hn]
  rw [e2,Qjp (by omega),BO]
def Quq:Ent:=Ql (.pr tI .nil) (fun x=>(OZ x.1)) (fun x=>(.t (.sl (.int .u8)) (Ub x.1)))
theorem QF0:EM 211 Quq:=mS (lk:=lkL (lkc QFZ lkn)) Qjs Quk [((.t 2),some (.sl (.int .u8)))] false (J8 _ (fun p hp=>by cases hp)) fun m=>Qr m fun x hok=>kT (s_f211 x.1 hok)
end
end Go.Proofs.YtmjnnemhoeolgaaGreat.K
noncomputable section
namespace Go.Proofs.YtmjnnemhoeolgaaGreat.K
open Go.RowKit
noncomputable section
def QY (n:Int):Qf:=(2,(U2 n,(false,(([]:List Val),()))))
def Zz (n:Int):Bool:=decide (-9223372036854775808<=n/\n<9223372036854775808)
-- loop 0: (x0 : Int) (x4 : Int) (y2 : Qf) (y3 : (List Int)); out: ('exit', 0) (y2 : Qf) (y3 : (List Int))
-- loop 1: (x3 : (List Int)) (y2 : Qf); out: ('exit', 2) (x3 : (List Int)) (y2 : Qf)
abbrev Qaw:Sh:=⟨[(2,.ptr 2 0),(3,.ms 7),(4,.ty tI)],[(2,.box Qt),(3,.no),(7,.arr 5 (.int .u8)),(40,.no),(42,.no)]⟩
abbrev Qnq:Sh:=⟨[(2,.ptr 2 0),(3,.ms 7)],[(2,.box Qt),(3,.no),(7,.arr 5 (.int .u8)),(40,.no),(42,.no)]⟩
def Qfw:Fg:=Qaw.f
def Qnr:TC:=aF Tryz.f190 [(58,.nw 3 5),(58,pL 0 Qfw),(116,.mv [(40,7)]),(931,.fg Qnq.f)]
def Qns:TC:=lb 0 Qnr
def Qnt (x4:Int)(y2:Qf)(y7:List Int):VS:=Qaw.st ((),(),x4,()) (y2,(),y7,(),(),())
def FC (y2:Qf)(y7:List Int):VS:=Qnq.st ((),(),()) (y2,(),y7,(),(),())
def QyL:VS->Option (Bool×List (Bool×Exit×VS)):=mkL Qaw (fun x y=>(decide (-9223372036854775808<=x.2.2.1/\x.2.2.1<9223372036854775808/\1<=y.2.2.1.length/\y.2.2.1.length<=100))) (fun x y=>[(true,.exit 0,FC (y.1) (Ze 10 x.2.2.1 y.2.2.1))])
def Qfx:G:=⟨TYs,[7,40],45,EL [],YU,(Ls [QyL]),IL [],RL []⟩
def FD (x4:Int)(y2:Qf)(y7:List Int):OX:=Qx (Qz Qfx Qfw Qns) (Qnt x4 y2 y7)
def Ip (kk:Int->Qf->List Int->OX)(x4:Int)(y2:Qf)(y7:List Int):OX:=br (QC ([(icv .u8 x4)]) y7 1) (br (decide ((0:Int)<=8)) (kk (Xo .i64 x4 8) y2 (([(icv .u8 x4)])++y7)) none) none
def Qax (kk:Int->Qf->List Int->OX)(x4:Int)(y2:Qf)(y7:List Int):OX:=br (ieq x4 (-1)) (br (cIx y7 0) (br (cLd y7 (Int.toNat 0)) (br (ilt (lgt (.int .u8) y7 (Int.toNat 0)) 128) (Ip kk x4 y2 y7) (some (.exit 0,FC y2 y7))) none) none) (some (.exit 0,FC y2 y7))
def Qay (kk:Int->Qf->List Int->OX)(x4:Int)(y2:Qf)(y7:List Int):OX:=br (ieq x4 0) (br (cIx y7 0) (br (cLd y7 (Int.toNat 0)) (br (ige (lgt (.int .u8) y7 (Int.toNat 0)) 128) (Ip kk x4 y2 y7) (Qax kk x4 y2 y7)) none) none) (Qax kk x4 y2 y7)
def Qaz (kk:Int->Qf->List Int->OX)(x4:Int)(y2:Qf)(y7:List Int):OX:=br (ine x4 0) (br (ine x4 (-1)) (Ip kk x4 y2 y7) (Qay kk x4 y2 y7)) (Qay kk x4 y2 y7)
def Qfy (x4:Int)(y2:Qf)(y7:List Int):OX:=some (.exit 0,FC (y2) (Ze 10 x4 y7))
theorem QyM (x4:Int)(y2:Qf)(y7:List Int):FD x4 y2 y7=Qaz FD x4 y2 y7:=lnT (x:=Qaz (fun x4 y2 y7=>some (.normal,Qnt x4 y2 y7)) x4 y2 y7) (by simp only [Qaz,Ip,Qay,Qax,nxA];rfl)
def Qnu (p0:Int):OV:=
 let a1:=Xo .i64 p0 8
 br (decide ((0:Int)<=8)) (br (decide (-9223372036854775808<=a1/\a1<9223372036854775808/\1<=([(icv .u8 p0)]).length/\([(icv .u8 p0)]).length<=100)) (some (.t Qt (2,((Ze 10 a1 ([(icv .u8 p0)])),(false,(([]:List Val),())))),[])) none) none
theorem Qnv (n:Int):Xo .i64 n 8=n / 256:=by
 have:=QvV (kd:= .i64) rfl n 1 (by omega)
 rw [show ((8*1:Nat):Int)=8 from rfl] at this
 rw [this]
 rfl
theorem Qfz: ∀ (k:Nat) (x:Int) (b:List Int), -(256 ^ k:Int)<=x->x<256 ^ k→ ∀ f,Ze (k+2+f) x b=Ze (k+2) x b
 |0,x,b,h1,h2,f=>by
  simp only [Int.pow_zero] at h1 h2
  have hx:x= -1∨x=0:=by omega
  have g: ∀ f,Ze (f+2) x b=bif YA x (b.headD 0) then (x % 256::b) else b:=by
   intro f
   rw [show f+2=(f+1)+1 from rfl,Ze,Ze]
   rcases hx with rfl|rfl
   ·rw [show ((-1:Int) % 256::b).headD 0=255 from rfl,show YA (-1 / 256) 255=false from rfl];rfl
   ·rw [show ((0:Int) % 256::b).headD 0=0 from rfl,show YA (0 / 256) 0=false from rfl];rfl
  rw [show 0+2+f=f+2 by omega,g f]
  exact (g 0).symm
 |k+1,x,b,h1,h2,f=>by
  rw [show k+1+2+f=(k+2+f)+1 by omega,Ze,show k+1+2=(k+2)+1 from rfl,Ze]
  have e:(256:Int) ^ (k+1)=256 ^ k*256:=by rw [Int.pow_succ]
  rw [e] at h1 h2
  rw [Qfz k (x / 256) (x % 256::b) (by omega) (by omega) f]
theorem QfA (x:Int)(b:List Int)(h: -9223372036854775808<=x/\x<9223372036854775808):Ze 10 x b=bif YA x (b.headD 0) then Ze 10 (x / 256) (x % 256::b) else b:=by
 have:=Qfz 8 x b (by omega) (by omega) 1
 rw [←this]
 rfl
theorem QyN (x4:Int)(y2:Qf)(y7:List Int)(h:(decide (-9223372036854775808<=x4/\x4<9223372036854775808/\1<=y7.length/\y7.length<=100))=true):FD x4 y2 y7=Qfy x4 y2 y7:=by
 simp only [Ba] at h
 obtain ⟨h1,h2,h3,h4⟩:=h
 have step: ∀ (x c:Int) (r:List Int),r.length<=300->FD x y2 (c::r)=bif YA x c then FD (x / 256) y2 (x % 256::c::r) else some (.exit 0,FC y2 (c::r)):=by
  intro x c r hr
  rw [QyM]
  have e1:cIx (c::r) 0=true:=by simp only [cIx,Bo,Ba];omega
  have e2:cLd (c::r) (Int.toNat 0)=true:=by simp only [cLd,Bo,Ba,BA];omega
  have e3:lgt (.int .u8) (c::r) (Int.toNat 0)=c:=rfl
  have e4:QC [x % 256] (c::r) 1=true:=JF (by omega) (by simp only [Bo,Bw];omega)
  simp only [Qaz,Ip,Qay,Qax,e1,e2,e3,e4,Qd,show decide ((0:Int)<=8)=true from rfl,Qnv,Qed,BO]
  simp only [YA,ine,ieq,ilt,ige]
  have q1:(x != 0)= !(x==0):=rfl
  have q2:(x != -1)= !(x== -1):=rfl
  rw [q1,q2]
  by_cases hx:x=0
  ·subst hx
   cases decide (c≥128)<;>rfl
  ·by_cases hy:x= -1
   ·subst hy
    cases decide (c<128)<;>rfl
   ·rw [show (x==0)=false from beq_false_of_ne hx,show (x== -1)=false from beq_false_of_ne hy]
    rfl
 have lae: ∀ (x:Int) (y:List Int),Qfy x y2 y=some (.exit 0,FC y2 (Ze 10 x y)):=fun _ _=>rfl
 have key: ∀ (k:Nat) (x:Int) (y:List Int), -(256 ^ k:Int)<=x->x<256 ^ k->k<=8->1<=y.length->y.length+k<=200→ -9223372036854775808<=x->x<9223372036854775808->FD x y2 y=Qfy x y2 y:=by
  intro k
  induction k with
  |zero=>
   intro x y g1 g2 g3 g4 g5 g6 g7
   simp only [Int.pow_zero] at g1 g2
   have hx:x= -1∨x=0:=by omega
   obtain ⟨c,r,rfl⟩: ∃ c r,y=c::r:=by
    cases y with
    |nil=>simp at g4
    |cons c r=>exact ⟨c,r,rfl⟩
   simp only [Bo] at g5
   rw [step x c r (by omega),lae,QfA x (c::r) ⟨g6,g7⟩,List.headD_cons]
   cases YA x c with
   |false=>rfl
   |true=>
    rw [Dn,Dn,step (x / 256) (x % 256) (c::r) (by simp only [Bo];omega),QfA (x / 256) (x % 256::c::r) (by omega),List.headD_cons]
    have:YA (x / 256) (x % 256)=false:=by rcases hx with rfl|rfl<;>rfl
    rw [this]
    rfl
  |succ k ih=>
   intro x y g1 g2 g3 g4 g5 g6 g7
   obtain ⟨c,r,rfl⟩: ∃ c r,y=c::r:=by
    cases y with
    |nil=>simp at g4
    |cons c r=>exact ⟨c,r,rfl⟩
   have e:(256:Int) ^ (k+1)=256 ^ k*256:=by rw [Int.pow_succ]
   rw [e] at g1 g2
   simp only [Bo] at g5
   rw [step x c r (by omega),lae,QfA x (c::r) ⟨g6,g7⟩,List.headD_cons]
   cases YA x c with
   |false=>rfl
   |true=>
    rw [Dn,Dn,ih (x / 256) (x % 256::c::r) (by omega) (by omega) (by omega) (by simp) (by simp only [Bo];omega) (by omega) (by omega),lae]
 exact key 8 x4 y7 (by omega) (by omega) (by omega) h3 (by omega) (by omega) (by omega)
theorem QyO:LO Qfx Qfw Qns 0:=QI (s:=Qaw) fun x y h _ q=>by simp only [QF,QG] at q;exact (QyN x.2.2.1 y.1 y.2.2.1 h).trans q
theorem s_f190 (n:Int)(h:Zz n=true):Qnu n=some (.t Qt (QY n),[]):=by
 have h1:=h
 simp only [Zz,Ba] at h1
 have e0:icv .u8 n=byt n 0:=by
  rw [Qed]
  simp [byt]
 simp only [Qnu,show decide ((0:Int)<=8)=true from rfl,Qd,Qnv,e0]
 rw [Be ⟨by omega,by omega,by simp,by simp⟩,Qd]
 have e1:=Qfz 7 (n / 256) [byt n 0] (by omega) (by omega) 1
 rw [show Ze 10 (n / 256) [byt n 0]=Ze 9 (n / 256) [byt n 0] from e1,QvY h1]
 rfl
def QfB:Ent:=Ql (.pr tI .nil) (fun x=>(Zz x.1)) (fun x=>(.t Qt (QY x.1)))
theorem Qnw:EM 190 QfB:=mS (lk:=lkL (lkc QyO lkn)) Qfx Qnr [((.c 2 true 4),some Qt)] false (J8 _ (fun p hp=>by cases hp)) fun m=>Qr m fun x hok=>kT (s_f190 x.1 hok)
def JN (s:ByteArray):Qf:=(12,(QO s,(false,(([]:List Val),()))))
def g_f230:G:=gG 6 [(31080144,OA)] (fun _ _=>none)
theorem gk_f230:GOk Tryz.prog g_f230:=J8 _ (gA (gC QcF QcG gN))
def QyP:TC:=aF Tryz.f188 []
def g_f188:G:=gG 6 [(31080144,OA)] (fun _ _=>none)
def Qnx (p0:ByteArray):OV:=br (YH p0) (some (.t Qt (12,((QO p0),(false,(([]:List Val),())))),[])) none
theorem s_f188 (s:ByteArray)(h:YH s=true):Qnx s=some (.t Qt (JN s),[]):=by
 simp only [Qnx,h,Qd]
 rfl
def Qny:Ent:=Ql (.pr .str .nil) (fun x=>(YH x.1)) (fun x=>(.t Qt (JN x.1)))
theorem QyQ:EM 188 Qny:=mS g_f188 QyP [((.c 2 true 4),some Qt)] false (gB (gC QcF QcG gN)) fun m=>Qr m fun x hok=>kT (s_f188 x.1 hok)
def WJ (b:Bool):Qf:=(1,([bif b then 255 else 0],(false,(([]:List Val),()))))
def QyR:TC:=aF Tryz.f192 []
def g_f192:G:=gG 8 [] (fun _ _=>none)
def r_f192 (p0:Bool):OV:=br (p0) (some (.t Qt (1,([255],(false,(([]:List Val),())))),[])) (some (.t Qt (1,([0],(false,(([]:List Val),())))),[]))
theorem s_f192 (b:Bool):r_f192 b=some (.t Qt (WJ b),[]):=by cases b<;>rfl
def Qnz:Ent:=Ql (.pr .bool .nil) (fun x=>true) (fun x=>(.t Qt (WJ x.1)))
theorem QyS:EM 192 Qnz:=mS g_f192 QyR [((.c 2 true 4),some Qt)] false (gB gN) fun m=>Qr m fun x _=>kT (s_f192 x.1)
end
end Go.Proofs.YtmjnnemhoeolgaaGreat.K
noncomputable section
set_option linter.unusedSectionVars false
namespace Go.Proofs.YtmjnnemhoeolgaaGreat.K
open Go.RowKit
noncomputable section
def okT (n:Nat)(x:Qf):Bool:=okV n (Val.of x)
theorem QbI {n:Nat}{v:Val}:okT n v.un=okV n v:=by rw [okT,Val.of_un]
theorem WW {n:Nat}{x:Qf}(h:okT (n+1) x=true):
  (x.1=1∨x.1=2∨x.1=12∨x.1=48)/\x.2.2.1=(x.1==48)/\(x.2.2.1=true->x.2.1=[])/\(x.2.2.1=false->x.2.2.2.1=[])/\x.2.1.length<=100000/\x.2.2.2.1.length<=100000∧ ∀ v∈x.2.2.2.1,okV n v=true:=by
 obtain ⟨t,b,q,es,_⟩:=x
 exact QkY h
def J1:Nat->List Qf->Bool
 |0,_=>false
 |n+1,l=>decide (l.length<=100000)&&l.all (okT n)
theorem QBI {n:Nat}{es:List Val}(hl:es.length<=100000)(h: ∀ v∈es,okV n v=true):J1 (n+1) (es.map Val.un)=true:=by
 simp only [J1,Bc,Ba,BN,Bi,B6]
 refine ⟨hl, ?_⟩
 rintro x ⟨v,hv,rfl⟩
 rw [QbI]
 exact h v hv
theorem Qqy {n:Nat}{x:Qf}(h:okT n x=true):J1 n (x.2.2.2.1.map Val.un)=true:=by
 cases n with
 |zero=>obtain ⟨t,b,q,es,_⟩:=x;cases h
 |succ n=>
  obtain ⟨_,_,_,_,_,h6,h7⟩:=WW h
  exact QBI h6 h7
theorem Gu (es:List Val):List.map Val.of (List.map Val.un es)=es:=by
 rw [DE]
 have:(Val.of ∘ Val.un)=id:=funext Val.of_un
 rw [this,List.map_id]
def X7 (l:List Qf):List Qf:=l
def Xx (l:List Qf):Bool:=J1 12 l
theorem Qqz {n:Nat}{x:Qf}(h:okT n x=true):x.2.1.length<=100000:=by
 cases n with
 |zero=>obtain ⟨t,b,q,es,_⟩:=x;cases h
 |succ n=>exact (WW h).2.2.2.2.1
theorem QBJ:JE Tryz.prog 240:= .inr ⟨by decide,_,Tryz.func240,by kernel_rfl,by kernel_rfl⟩
def F9 [Fuel]:Ent:=Ql (.pr (.sl Qt) .nil) (fun x=>(J1 QZ x.1)) (fun x=>(.t (.sl Qt) (X7 x.1)))
theorem QBK:JE Tryz.prog 240:=QBJ
section
variable [Fuel][Nonempty (PLift (Qu Tryz.prog 240 (Qq F9)))]
theorem QBL:Qu Tryz.prog 240 (Qq F9):=(Classical.choice (inferInstance:Nonempty (PLift (Qu Tryz.prog 240 (Qq F9))))).down
def I1 [Fuel](l:List Qf):Bool:=J1 (QZ+1) l
abbrev QbJ:Sh:=⟨[(3,.ms 3),(6,.ty (.sl Qt)),(7,.ty tI),(8,.ty tI)],[(3,.arr 225 Qt),(23,.no)]⟩
abbrev QqA:Sh:=⟨[(3,.ms 3)],[(3,.arr 225 Qt),(23,.no)]⟩
def Qhe:Fg:=QbJ.f
def QbK:TC:=aF Tryz.f240 [(58,.nw 3 225),(58,pL 0 Qhe),(933,.fg QqA.f),(7474,pD [(0,[5]),(1,[5]),(2,[]),(3,[5]),(4,[5]),(5,[]),(6,[5]),(7,[5]),(8,[5]),(9,[5])] (.of [0,1,2,3,4,5,6,7,8,9]))]
def QqB:TC:=lb 0 QbK
def QqC:List (RV×Option Ty):=[((.t 2),some (.sl Qt))]
def QqD (x6:List Qf)(x7 x8:Int)(y3:List Qf):VS:=QbJ.st ((),x6,x7,x8,()) (y3,(),())
def Qhf (y3:List Qf):VS:=QqA.st ((),()) (y3,(),())
def QBM:VS->Option (Bool×List (Bool×Exit×VS)):=mkL QbJ (fun x y=>(QB x.2.1 x.2.2.1 x.2.2.2.1&&I1 x.2.1&&decide (y.1.length+x.2.1.length<=200000+x.2.2.2.1.toNat))) (fun x y=>[(true,.exit 0,Qhf (y.1++x.2.1.drop x.2.2.2.1.toNat))])
def Ea:G:=gG 26 [(240,F9),(247,Que)] (Ls [QBM])
def QbL (x6:List Qf)(x7 x8:Int)(y3:List Qf):OX:=Qx (Qz Ea Qhe QqB) (QqD x6 x7 x8 y3)
def I2 (kk:List Qf->Int->Int->List Qf->OX)(x6:List Qf)(x7 x8:Int)(y3:List Qf):OX:=
 let a2:=((lgt Qt x6 (Int.toNat x8)).2)
 let a1:=((lgt Qt x6 (Int.toNat x8)).1,((Qjn (a2.1)),((a2.2).1,((List.map Val.of (List.map Val.un (List.map Val.of (X7 (List.map Val.un (((a2.2).2).1)))))),()))))
 br (ilt x8 x7) (br (cIx x6 x8) (br (Qjo (a2.1)) (br (J1 QZ (List.map Val.un (((a2.2).2).1))) (br (QC y3 ([a1]) 64) (kk x6 x7 (Qj .i64 x8 1) (y3++([a1]))) none) none) none) none) (some (.exit 0,Qhf y3))
def QbM (x6:List Qf)(x7 x8:Int)(y3:List Qf):OX:=some (.exit 0,Qhf (y3++x6.drop x8.toNat))
theorem QqE (x6:List Qf)(x7 x8:Int)(y3:List Qf):QbL x6 x7 x8 y3=I2 QbL x6 x7 x8 y3:=lnT (x:=I2 (fun x6 x7 x8 y3=>some (.normal,QqD x6 x7 x8 y3)) x6 x7 x8 y3) (by simp only [I2,nxA];rfl)
def Qhg (p0:List Qf):OV:=br (QB p0 (Qc p0) (0:Int)&&I1 p0&&decide (([]:List Qf).length+p0.length<=200000+(0:Int).toNat)) (some (.t (.sl Qt) (([]:List Qf)++p0.drop (0:Int).toNat),[])) none
theorem e_f240 (p0:List Qf):Jq Ea QbK QqC false [.t (.sl Qt) p0] []=Qhg p0:=by kernel_rfl
theorem QBN:GOk Tryz.prog Ea:=J8 _ (gA (gC QBK QBL (gC QFO QFR gN)))
theorem QBO (x6:List Qf)(x7 x8:Int)(y3:List Qf)(h:(QB x6 x7 x8&&I1 x6&&decide (y3.length+x6.length<=200000+x8.toNat))=true):QbL x6 x7 x8 y3=QbM x6 x7 x8 y3:=by
 simp only [Bc,Ba] at h
 obtain ⟨⟨h0,hc⟩,h2⟩:=h
 obtain ⟨rfl,h3,k,rfl,hk⟩:=J5 h0
 clear h0
 rw [Bd] at h2
 simp only [I1,J1,Bc,Bi] at hc
 revert y3
 refine Q7 x6 (fun k=> ∀ y3:List Qf,y3.length+x6.length<=200000+k->QbL x6 (x6.length:Int) (k:Int) y3=QbM x6 (x6.length:Int) (k:Int) y3) ?_ ?_ k hk
 ·intro y3 _
  rw [QqE]
  simp [I2,QbM,QH,Qh]
 ·intro k hk ih y3 hy
  rw [QqE]
  have hx:=hc.2 x6[k] (BE hk)
  have e1:Qjo x6[k].2.1=true:=Be (by have:=Qqz hx;omega)
  have e2:J1 QZ (List.map Val.un x6[k].2.2.2.1)=true:=Qqy hx
  simp only [I2,QH,QS,hk,BK,Qd,Bd,Q3 (show k<4611686018427387904 by omega),Q2 (y:=Qt) hk,e1,e2,Qjn,X7,Gu]
  rw [JF (by omega) (by simp only [Bp];omega),Qd,ih _ (by simp only [Bm,Bp];omega)]
  simp only [QbM,Bd,Bl hk,BV,BO]
theorem QBP:LO Ea Qhe QqB 0:=QI (s:=QbJ) fun x y h _ q=>by simp only [QF,QG] at q;exact (QBO x.2.1 x.2.2.1 x.2.2.2.1 y.1 h).trans q
theorem QBQ:QbK.lok Ea:=by
 repeat (first|exact trivial|exact QBP|refine ⟨?_, ?_⟩)
theorem s_f240 (l:List Qf)(h:J1 (QZ+1) l=true):Qhg l=some (.t (.sl Qt) (X7 l),[]):=by
 have hl:l.length<=100000:=by simp only [J1,Bc,Ba] at h;exact h.1
 simp only [Qhg,J6 hl,show I1 l=true from h,BH,Bw,BA,BG,BY]
 rw [Be (by omega),Qd]
 rfl
theorem QBR:Qu Tryz.prog 240 (Jq Ea QbK QqC false):=mG Tryz.func240 (by kernel_rfl) Tryz.ntmps240 (by kernel_rfl) QBN QBQ
end
theorem QBS: ∀ N:Nat,Qu Tryz.prog 240 (Qq (@F9 ⟨N⟩))
 |0=>G9 fun x=>by first|rfl|simp [J1]
 |N+1=>by
  letI:Fuel:=⟨N⟩
  haveI:Nonempty (PLift (Qu Tryz.prog 240 (Qq F9))):=⟨⟨QBS N⟩⟩
  exact Qr QBR fun x hok=>(e_f240 x.1).trans (s_f240 x.1 hok)
theorem QBT (l:List Qf)(h:Xx l=true): ∃ N,J1 N l=true:=⟨12,h⟩
theorem QqF:JE Tryz.prog 212:= .inr ⟨by decide,_,Tryz.func212,by kernel_rfl,by kernel_rfl⟩
def Eb [Fuel]:Ent:=Ql (.pr (.sl Qt) .nil) (fun x=>(J1 QZ x.1)) (fun x=>(.t (.sl Qt) (X7 x.1)))
theorem QBU:JE Tryz.prog 212:=QqF
section
variable [Fuel][Nonempty (PLift (Qu Tryz.prog 212 (Qq Eb)))]
theorem QBV:Qu Tryz.prog 212 (Qq Eb):=(Classical.choice (inferInstance:Nonempty (PLift (Qu Tryz.prog 212 (Qq Eb))))).down
def I3 [Fuel](l:List Qf):Bool:=J1 (QZ+1) l
abbrev QbN:Sh:=⟨[(0,.ty (.sl Qt)),(3,.ms 3),(4,.ty tI)],[(3,.arr 225 Qt),(28,.no)]⟩
abbrev QqG:Sh:=⟨[(3,.ms 3)],[(3,.arr 225 Qt),(28,.no)]⟩
def Qhh:Fg:=QbN.f
def QbO:TC:=aF Tryz.f212 [(58,.nf 5 1 5 20501),(58,.nw 3 225),(58,pL 0 Qhh),(931,.fg QqG.f)]
def QqH:TC:=lb 0 QbO
def QqI:List (RV×Option Ty):=[((.t 2),some (.sl Qt))]
def QqJ (x0:List Qf)(x4:Int)(y3:List Qf):VS:=QbN.st (x0,(),x4,()) (y3,(),())
def Qhi (y3:List Qf):VS:=QqG.st ((),()) (y3,(),())
def QBW:VS->Option (Bool×List (Bool×Exit×VS)):=mkL QbN (fun x y=>(XH x.1 x.2.2.1&&I3 x.1&&decide (y.1.length+x.1.length<=200000+x.2.2.1.toNat))) (fun x y=>[(true,.exit 0,Qhi (y.1++x.1.drop x.2.2.1.toNat))])
def Ec:G:=⟨TYs,[16],30,EL [(212,Eb)],YU,(Ls [QBW]),IL [],RL []⟩
def QbP (x0:List Qf)(x4:Int)(y3:List Qf):OX:=Qx (Qz Ec Qhh QqH) (QqJ x0 x4 y3)
def I4 (kk:List Qf->Int->List Qf->OX)(x0:List Qf)(x4:Int)(y3:List Qf):OX:=
 let a1:=lgt Qt x0 (Int.toNat x4)
 let a2:=(((a1.2).2).1,((List.map Val.of (X7 (List.map Val.un ((((a1.2).2).2).1)))),()))
 br (ilt x4 (Qc x0)) (br (cIx x0 x4) (br (QC ([]:List Int) ((a1.2).1) 1) (br (J1 QZ (List.map Val.un ((((a1.2).2).2).1))) (br (QC y3 ([(a1.1,((([]:List Int)++((a1.2).1)),a2))]) 64) (kk x0 (Qj .i64 x4 1) (y3++([(a1.1,((([]:List Int)++((a1.2).1)),a2))]))) none) none) none) none) (some (.exit 0,Qhi y3))
def QbQ (x0:List Qf)(x4:Int)(y3:List Qf):OX:=some (.exit 0,Qhi (y3++x0.drop x4.toNat))
theorem QqK (x0:List Qf)(x4:Int)(y3:List Qf):QbP x0 x4 y3=I4 QbP x0 x4 y3:=lnT (x:=I4 (fun x0 x4 y3=>some (.normal,QqJ x0 x4 y3)) x0 x4 y3) (by simp only [I4,nxA];rfl)
def Qhj (p0:List Qf):OV:=br (XH p0 (0:Int)&&I3 p0&&decide (([]:List Qf).length+p0.length<=200000+(0:Int).toNat)) (some (.t (.sl Qt) (([]:List Qf)++p0.drop (0:Int).toNat),[])) none
theorem e_f212 (p0:List Qf):Jq Ec QbO QqI false [.t (.sl Qt) p0] []=Qhj p0:=by kernel_rfl
theorem QBX:GOk Tryz.prog Ec:=J8 _ (gA (gC QBU QBV gN))
theorem QBY (x0:List Qf)(x4:Int)(y3:List Qf)(h:(XH x0 x4&&I3 x0&&decide (y3.length+x0.length<=200000+x4.toNat))=true):QbP x0 x4 y3=QbQ x0 x4 y3:=by
 simp only [Bc,Ba,XH] at h
 obtain ⟨⟨⟨h0,h1,h3⟩,hc⟩,h2⟩:=h
 obtain ⟨k,rfl⟩:=Bt h0
 rw [Bd] at h2
 simp only [I3,J1,Bc,Bi] at hc
 revert y3
 refine Q7 x0 (fun k=> ∀ y3:List Qf,y3.length+x0.length<=200000+k->QbP x0 (k:Int) y3=QbQ x0 (k:Int) y3) ?_ ?_ k (by omega)
 ·intro y3 _
  rw [QqK]
  simp [I4,QbQ,ilt,Qc,Qh]
 ·intro k hk ih y3 hy
  rw [QqK]
  have hx:=hc.2 x0[k] (BE hk)
  have e2:J1 QZ (List.map Val.un x0[k].2.2.2.1)=true:=Qqy hx
  simp only [I4,show ilt (k:Int) (Qc x0)=true from Be (by simp only [Qc];omega),QS,hk,BK,Qd,Bd,Q3 (show k<4611686018427387904 by omega),Q2 (y:=Qt) hk,e2,X7,Gu]
  rw [JF (by omega) (by have:=Qqz hx;simp only [Bw];omega),Qd,JF (by omega) (by simp only [Bp];omega),Qd,ih _ (by simp only [Bm,Bp];omega)]
  simp only [QbQ,Bd,Bl hk,BV,BO,BY]
theorem QBZ:LO Ec Qhh QqH 0:=QI (s:=QbN) fun x y h _ q=>by simp only [QF,QG] at q;exact (QBY x.1 x.2.2.1 y.1 h).trans q
theorem QB0:QbO.lok Ec:=by
 repeat (first|exact trivial|exact QBZ|refine ⟨?_, ?_⟩)
theorem s_f212 (l:List Qf)(h:J1 (QZ+1) l=true):Qhj l=some (.t (.sl Qt) (X7 l),[]):=by
 have hl:l.length<=100000:=by simp only [J1,Bc,Ba] at h;exact h.1
 simp only [Qhj,show XH l 0=true from Be (by omega),show I3 l=true from h,BH,Bw,BA,BG,BY]
 rw [Be (by omega),Qd]
 rfl
theorem QB1:Qu Tryz.prog 212 (Jq Ec QbO QqI false):=mG Tryz.func212 (by kernel_rfl) Tryz.ntmps212 (by kernel_rfl) QBX QB0
end
theorem QqL: ∀ N:Nat,Qu Tryz.prog 212 (Qq (@Eb ⟨N⟩))
 |0=>G9 fun x=>by first|rfl|simp [J1]
 |N+1=>by
  letI:Fuel:=⟨N⟩
  haveI:Nonempty (PLift (Qu Tryz.prog 212 (Qq Eb))):=⟨⟨QqL N⟩⟩
  exact Qr QB1 fun x hok=>(e_f212 x.1).trans (s_f212 x.1 hok)
def QqM:Ent:=Ql (.pr (.sl Qt) .nil) (fun x=>(Xx x.1)) (fun x=>(.t (.sl Qt) (X7 x.1)))
theorem QB2:Qu Tryz.prog 212 (Qq QqM):=V0 QqL fun x hok=>QBT x.1 hok
end
end Go.Proofs.YtmjnnemhoeolgaaGreat.K
noncomputable section
set_option linter.unusedSectionVars false
namespace Go.Proofs.YtmjnnemhoeolgaaGreat.K
open Go.RowKit
noncomputable section
theorem Qhz {n:Nat}{x:Qf}(h:okT (n+1) x=true): ∀ k (hk:k<(List.map Val.un x.2.2.2.1).length),okT n (List.map Val.un x.2.2.2.1)[k]=true:=by
 intro k hk
 rw [List.getElem_map,QbI]
 exact (WW h).2.2.2.2.2.2 _ (BE _)
def X9 (_x:Qf):Bool:=true
def Qb4 (x:Qf):Bool:=okT 12 x
theorem QCK (x:Qf)(h:Qb4 x=true): ∃ N,okT N x=true:=⟨12,h⟩
theorem QCL:JE Tryz.prog 237:= .inr ⟨by decide,_,Tryz.func237,by kernel_rfl,by kernel_rfl⟩
def Ej [Fuel]:Ent:=Ql (.pr Qt .nil) (fun x=>(okT QZ x.1)) (fun x=>(.t .bool (X9 x.1)))
theorem QCM:JE Tryz.prog 237:=QCL
section
variable [Fuel][Nonempty (PLift (Qu Tryz.prog 237 (Qq Ej)))]
theorem QCN:Qu Tryz.prog 237 (Qq Ej):=(Classical.choice (inferInstance:Nonempty (PLift (Qu Tryz.prog 237 (Qq Ej))))).down
def Qb5 (_x:Qf):Bool:=false
def Qb6 [Fuel](x:Qf):Bool:=okT QZ x
def YT [Fuel](l:List Qf):Bool:=decide (l.length<=100000)&&l.all (okT QZ)
def QCO:TC:=aF Tryz.f244 []
def g_f244:G:=gG 6 [(237,Ej)] (fun _ _=>none)
def Qrk (p0:Qf):OV:=br (okT QZ p0) (some (.t .bool (!(X9 p0)),[])) none
theorem s_f244 (x:Qf)(h:Qb6 x=true):Qrk x=some (.t .bool (Qb5 x),[]):=by
 simp only [Qrk,show okT QZ x=true from h,Qd]
 rfl
def Qrl:Ent:=Ql (.pr Qt .nil) (fun x=>(Qb6 x.1)) (fun x=>(.t .bool (Qb5 x.1)))
theorem QCP:EM 244 Qrl:=mS g_f244 QCO [((.t 2),some .bool)] false (gB (gC QCM QCN gN)) fun m=>Qr m fun x hok=>kT (s_f244 x.1 hok)
def QhA (_l:List Qf):Int:= -1
abbrev Qb7:Sh:=⟨[(0,.ty (.sl Qt)),(1,.cf 244),(7,.ty tI),(8,.ty tI)],[]⟩
abbrev Qrm:Sh:=⟨[(4,.ty tI)],[]⟩
abbrev Qb8:Sh:=⟨[],[]⟩
def QhB:Fg:=Qb7.f
def Qrn:TC:=aF Tryz.f248 [(26,pL 0 QhB),(421,.fg Qb8.f),(13517,.fg Qrm.f)]
def Qro:TC:=lb 0 Qrn
def Qrp (x0:List Qf)(x7 x8:Int):VS:=Qb7.st (x0,(),x7,x8,()) ()
def QhC (x4:Int):VS:=Qrm.st (x4,()) ()
def QhD  : VS:=Qb8.st () ()
def QCQ:VS->Option (Bool×List (Bool×Exit×VS)):=mkL Qb7 (fun x y=>(QB x.1 x.2.2.1 x.2.2.2.1&&YT x.1)) (fun x y=>[((false),.ret,QhC (x.2.2.2.1)),(true,.exit 0,QhD)])
def QhE:G:=gG 19 [(244,Qrl)] (Ls [QCQ])
def Qb9 (x0:List Qf)(x7 x8:Int):OX:=Qx (Qz QhE QhB Qro) (Qrp x0 x7 x8)
def Oe (kk:List Qf->Int->Int->OX)(x0:List Qf)(x7 x8:Int):OX:=
 let a1:=lgt Qt x0 (Int.toNat x8)
 br (ilt x8 x7) (br (cIx x0 x8) (br (Qb6 a1) (br (Qb5 a1) (some (.ret,QhC x8)) (kk x0 x7 (Qj .i64 x8 1))) none) none) (some (.exit 0,QhD))
def QhF (x0:List Qf)(x7 x8:Int):OX:=br (false) (some (.ret,QhC (x8)))<|some (.exit 0,QhD)
theorem Qrq (x0:List Qf)(x7 x8:Int):Qb9 x0 x7 x8=Oe Qb9 x0 x7 x8:=lnT (x:=Oe (fun x0 x7 x8=>some (.normal,Qrp x0 x7 x8)) x0 x7 x8) (by simp only [Oe,nxA];rfl)
def Qrr (p0:List Qf):OV:=br (QB p0 (Qc p0) (0:Int)&&YT p0) (br (false) (some (.t tI (0:Int),[])) (some (.t tI (-1),[]))) none
theorem QCR (x0:List Qf)(x7 x8:Int)(h:(QB x0 x7 x8&&YT x0)=true):Qb9 x0 x7 x8=QhF x0 x7 x8:=by
 simp only [Bc] at h
 obtain ⟨h0,hc⟩:=h
 obtain ⟨rfl,h3,k,rfl,hk⟩:=J5 h0
 clear h0
 simp only [YT,Bc,Bi] at hc
 refine Q7 x0 (fun k=>Qb9 x0 (x0.length:Int) (k:Int)=QhF x0 (x0.length:Int) (k:Int)) ?_ ?_ k hk
 ·rw [Qrq]
  simp [Oe,QhF,QH,Qh]
 ·intro k hk ih
  rw [Qrq]
  have hx:=hc.2 x0[k] (BE hk)
  simp only [Oe,QH,QS,hk,BK,Qd,Bd,Q3 (show k<4611686018427387904 by omega),Q2 (y:=Qt) hk,show Qb6 x0[k]=true from hx,Qb5,Qh,ih]
  rfl
theorem QCS:LO QhE QhB Qro 0:=QI (s:=Qb7) fun x y h _ q=>by simp only [QF,QG] at q;exact (QCR x.1 x.2.2.1 x.2.2.2.1 h).trans q
theorem QCT (l:List Qf)(h:YT l=true):Qrr l=some (.t tI (QhA l),[]):=by
 have hl:l.length<=100000:=by simp only [YT,Bc,Ba] at h;exact h.1
 simp only [Qrr,J6 hl,h,BH,Qd,Qh]
 rfl
def Qrs:Ent:=Zw [.ty (.sl Qt),.cf 244] [] (fun x d=>(YT x.1)) (fun x d=>(.t tI (QhA x.1)))
theorem QCU:EM 248 Qrs:=mS (lk:=lkL (lkc QCS lkn)) QhE Qrn [((.t 4),some tI)] false (gB (gD QCP gN)) fun m=>Zo m fun x d hok=>kT (QCT x.1 hok)
def QhG (_l:List Qf):Bool:=false
def QCV:TC:=aF Tryz.f243 []
def QCW:G:=gG 9 [(248,Qrs)] (fun _ _=>none)
def Qrt (p0:List Qf):OV:=br (YT p0) (some (.t .bool (ige (QhA p0) 0),[])) none
theorem QCX (l:List Qf)(h:YT l=true):Qrt l=some (.t .bool (QhG l),[]):=by
 simp only [Qrt,h,Qd]
 rfl
def Qru:Ent:=Zw [.ty (.sl Qt),.cf 244] [] (fun x d=>(YT x.1)) (fun x d=>(.t .bool (QhG x.1)))
theorem QCY:EM 243 Qru:=mS QCW QCV [((.t 4),some .bool)] false (gB (gD QCU gN)) fun m=>Zo m fun x d hok=>kT (QCX x.1 hok)
def QhH:TC:=aF Tryz.f237 []
def Qrv:List (RV×Option Ty):=[((.t 2),some .bool)]
def Qca:G:=gG 41 [(242,Qug),(243,Qru)] (fun _ _=>none)
def QhI (p0:Qf):OV:=
 let a1:=List.map Val.un p0.2.2.2.1
 br (YT a1) (some (.t .bool (!(QhG a1)),[])) none
def QhJ (p0:Qf):OV:=br (!p0.2.2.1) (br (igt (Qc (List.map Val.un p0.2.2.2.1)) 0) (some (.t .bool false,[])) (QhI p0)) (QhI p0)
def QhK (p0:Qf):OV:=br (!(OW p0.1)) (some (.t .bool false,[])) (br (V5 p0.2.2.1 (ine (Gf .i64 p0.1 32) 0)) (some (.t .bool false,[])) (br (p0.2.2.1) (br (igt (Qc p0.2.1) 0) (some (.t .bool false,[])) (QhJ p0)) (QhJ p0)))
theorem e_f237 (p0:Qf):Jq Qca QhH Qrv false [.t Qt p0] []=QhK p0:=by kernel_rfl
theorem QCZ:GOk Tryz.prog Qca:=J8 _ (gA (gD QFT (gD QCY gN)))
theorem QC0:QhH.lok Qca:=by repeat (first|exact trivial|refine ⟨?_, ?_⟩)
theorem s_f237 (x:Qf)(h:okT (QZ+1) x=true):QhK x=some (.t .bool (X9 x),[]):=by
 obtain ⟨h1,h2,h3,h4,h5,h6,h7⟩:=WW h
 have hu:YT (List.map Val.un x.2.2.2.1)=true:=by
  simp only [YT,Bc,Ba,BN,Bi,B6]
  refine ⟨h6, ?_⟩
  rintro y ⟨v,hv,rfl⟩
  rw [QbI]
  exact h7 v hv
 have ht:OW x.1=true:=by rcases h1 with e|e|e|e<;>rw [e]<;>rfl
 have hn:V5 x.2.2.1 (ine (Gf .i64 x.1 32) 0)=false:=by rw [h2];rcases h1 with e|e|e|e<;>rw [e]<;>rfl
 simp only [QhK,QhJ,QhI,ht,hn,hu,BM,Qd,Qh]
 cases hq:x.2.2.1 with
 |true=>
  rw [h3 hq]
  rfl
 |false=>
  rw [h4 hq]
  rfl
theorem QC1:Qu Tryz.prog 237 (Jq Qca QhH Qrv false):=mG Tryz.func237 (by kernel_rfl) Tryz.ntmps237 (by kernel_rfl) QCZ QC0
end
theorem QC2: ∀ N:Nat,Qu Tryz.prog 237 (Qq (@Ej ⟨N⟩))
 |0=>G9 fun x=>by first|rfl|simp [okT]
 |N+1=>by
  letI:Fuel:=⟨N⟩
  haveI:Nonempty (PLift (Qu Tryz.prog 237 (Qq Ej))):=⟨⟨QC2 N⟩⟩
  exact Qr QC1 fun x hok=>(e_f237 x.1).trans (s_f237 x.1 hok)
theorem Qrw:JE Tryz.prog 185:= .inr ⟨by decide,_,Tryz.func185,by kernel_rfl,by kernel_rfl⟩
def Ek [Fuel]:Ent:=Ql (.pr Qt .nil) (fun x=>(okT QZ x.1)) (fun x=>(.t .bool (X9 x.1)))
theorem QC3:JE Tryz.prog 185:=Qrw
section
variable [Fuel][Nonempty (PLift (Qu Tryz.prog 185 (Qq Ek)))]
theorem QC4:Qu Tryz.prog 185 (Qq Ek):=(Classical.choice (inferInstance:Nonempty (PLift (Qu Tryz.prog 185 (Qq Ek))))).down
def Qcb [Fuel](x:Qf):Bool:=okT (QZ+1) x
abbrev Qcc:Sh:=⟨[(1,.ptr 1 0),(3,.ty tI)],[(1,.box Qt)]⟩
abbrev Qrx:Sh:=⟨[(2,.ty .bool)],[]⟩
def QhL:Fg:=Qcc.f
def Qcd:TC:=aF Tryz.f185 [(58,pL 0 QhL),(931,.fg Qb8.f),(7461,.fg Qrx.f)]
def Qry:TC:=lb 0 Qcd
def Qrz:List (RV×Option Ty):=[((.t 2),some .bool)]
def QrA (x3:Int)(y1:Qf):VS:=Qcc.st ((),x3,()) (y1,())
def QhM (x2:Bool):VS:=Qrx.st (x2,()) ()
def QhN  : VS:=Qb8.st () ()
def QC5:VS->Option (Bool×List (Bool×Exit×VS)):=mkL Qcc (fun x y=>(decide (0<=x.2.1/\x.2.1<=y.1.2.2.2.1.length)&&Qcb y.1)) (fun x y=>[((false),.ret,QhM (false)),(true,.exit 0,QhN)])
def El:G:=gG 53 [(185,Ek),(210,Qui)] (Ls [QC5])
def Qce (x3:Int)(y1:Qf):OX:=Qx (Qz El QhL Qry) (QrA x3 y1)
def Of (kk:Int->Qf->OX)(x3:Int)(y1:Qf):OX:=
 let a1:=List.map Val.un y1.2.2.2.1
 let a2:=lgt Qt a1 (Int.toNat x3)
 br (ilt x3 (Qc a1)) (br (cIx a1 x3) (br (okT QZ a2) (br (!(X9 a2)) (some (.ret,QhM false)) (kk (Qj .i64 x3 1) y1)) none) none) (some (.exit 0,QhN))
def QhO (x3:Int)(y1:Qf):OX:=br (false) (some (.ret,QhM (false)))<|some (.exit 0,QhN)
theorem QrB (x3:Int)(y1:Qf):Qce x3 y1=Of Qce x3 y1:=lnT (x:=Of (fun x3 y1=>some (.normal,QrA x3 y1)) x3 y1) (by simp only [Of,nxA];rfl)
def QhP (p0:Qf):OV:=br (decide (0<=(0:Int)/\(0:Int)<=p0.2.2.2.1.length)&&Qcb p0) (br (false) (some (.t .bool (false),[])) (some (.t .bool true,[]))) none
def QhQ (p0:Qf):OV:=br (!p0.2.2.1) (br (igt (Qc (List.map Val.un p0.2.2.2.1)) 0) (some (.t .bool false,[])) (QhP p0)) (QhP p0)
def QhR (p0:Qf):OV:=br (!(OY p0.1)) (some (.t .bool false,[])) (br (cNz 32) (br (cNz 2) (br (V5 p0.2.2.1 (ieq (ZP (Gc .i64 p0.1 32) 2) 1)) (some (.t .bool false,[])) (br (p0.2.2.1) (br (igt (Qc p0.2.1) 0) (some (.t .bool false,[])) (QhQ p0)) (QhQ p0))) none) none)
theorem e_f185 (p0:Qf):Jq El Qcd Qrz false [.t Qt p0] []=QhR p0:=by kernel_rfl
theorem QC6:GOk Tryz.prog El:=J8 _ (gA (gC QC3 QC4 (gD QFV gN)))
theorem QC7 (x3:Int)(y1:Qf)(h:(decide (0<=x3/\x3<=y1.2.2.2.1.length)&&Qcb y1)=true):Qce x3 y1=QhO x3 y1:=by
 simp only [Bc,Ba] at h
 obtain ⟨⟨h0,h1⟩,hc⟩:=h
 obtain ⟨k,rfl⟩:=Bt h0
 have hm:=Qhz hc
 have hl:=(WW hc).2.2.2.2.2.1
 refine Q7 (List.map Val.un y1.2.2.2.1) (fun k=>Qce (k:Int) y1=QhO (k:Int) y1) ?_ ?_ k (by rw [BN];omega)
 ·rw [QrB]
  simp [Of,QhO,ilt,Qc,Qh]
 ·intro k hk ih
  rw [QrB]
  have hk2:k<y1.2.2.2.1.length:=by rw [BN] at hk;exact hk
  simp only [Of,show ilt (k:Int) (Qc (List.map Val.un y1.2.2.2.1))=true from Be (by simp only [Qc];omega),QS,hk,BK,Qd,Bd,Q3 (show k<4611686018427387904 by omega),Q2 (y:=Qt) hk,hm k hk,X9,BM,Qh,ih]
  rfl
theorem QC8:LO El QhL Qry 0:=QI (s:=Qcc) fun x y h _ q=>by simp only [QF,QG] at q;exact (QC7 x.2.1 y.1 h).trans q
theorem QC9:Qcd.lok El:=by
 repeat (first|exact trivial|exact QC8|refine ⟨?_, ?_⟩)
theorem s_f185 (x:Qf)(h:okT (QZ+1) x=true):QhR x=some (.t .bool (X9 x),[]):=by
 obtain ⟨h1,h2,h3,h4,h5,h6,h7⟩:=WW h
 have ht:OY x.1=true:=by rcases h1 with e|e|e|e<;>rw [e]<;>rfl
 have hn:V5 x.2.2.1 (ieq (ZP (Gc .i64 x.1 32) 2) 1)=false:=by rw [h2];rcases h1 with e|e|e|e<;>rw [e]<;>rfl
 have hd:decide ((0:Int)<=0/\(0:Int)<=x.2.2.2.1.length)=true:=Be (by omega)
 simp only [QhR,QhQ,QhP,ht,hn,hd,show Qcb x=true from h,Dh,show cNz 32=true from rfl,show cNz 2=true from rfl,BM,Qd,Qh]
 cases hq:x.2.2.1 with
 |true=>
  rw [h3 hq]
  rfl
 |false=>
  rw [h4 hq]
  rfl
theorem QDa:Qu Tryz.prog 185 (Jq El Qcd Qrz false):=mG Tryz.func185 (by kernel_rfl) Tryz.ntmps185 (by kernel_rfl) QC6 QC9
end
theorem QrC: ∀ N:Nat,Qu Tryz.prog 185 (Qq (@Ek ⟨N⟩))
 |0=>G9 fun x=>by first|rfl|simp [okT]
 |N+1=>by
  letI:Fuel:=⟨N⟩
  haveI:Nonempty (PLift (Qu Tryz.prog 185 (Qq Ek))):=⟨⟨QrC N⟩⟩
  exact Qr QDa fun x hok=>(e_f185 x.1).trans (s_f185 x.1 hok)
def QrD:Ent:=Ql (.pr Qt .nil) (fun x=>(Qb4 x.1)) (fun x=>(.t .bool (X9 x.1)))
theorem QDb:Qu Tryz.prog 185 (Qq QrD):=V0 QrC fun x hok=>QCK x.1 hok
def dpV (x:Qf):Int:=(Um (Val.of x):Int)
def Yr (n:Nat)(x:Qf):Bool:=okT n x&&decide (n<=100)
def Qcf (x:Qf):Bool:=okT 12 x
theorem QDc (x:Qf)(h:Qcf x=true): ∃ N,Yr N x=true:=⟨12,by rw [Yr,show okT 12 x=true from h];rfl⟩
def WY (l:List Qf):Nat:=G0 (l.map Val.of)
theorem QDd:WY []=0:=rfl
theorem QDe (x:Qf)(l:List Qf):WY (x::l)=max (Um (Val.of x)) (WY l):=rfl
theorem Qcg (x:Qf):Um (Val.of x)=G0 x.2.2.2.1+1:=rfl
theorem QDf (a b:Nat):imx (a:Int) (b:Int)=((max a b:Nat):Int):=by
 unfold imx
 split<;>omega
def QDg [Fuel]:Ent:=Ql (.pr Qt .nil) (fun x=>(Yr QZ x.1)) (fun x=>(.t tI (dpV x.1)))
section
variable [Fuel][Nonempty (PLift (Qu Tryz.prog 238 (Qq QDg)))]
def QhS [Fuel](l:List Qf):Bool:=decide (l.length<=100000/\QZ+1<=100)&&l.all (okT QZ)
-- loop 0: (x3 : Int) (x7 : (List Qf)) (x8 : Int) (x9 : Int); out: ('exit', 0) (x3 : Int)
def QrE (p0:Qf):OV:=
 let a1:=List.map Val.un p0.2.2.2.1
 br (QB a1 (Qc a1) (0:Int)&&QhS a1&&decide (0<=(0:Int)/\(0:Int)<=100)) (some (.t tI (Qj .i64 ((max (0:Int).toNat (WY (a1.drop (0:Int).toNat)):Nat):Int) 1),[])) none
theorem s_f238 (x:Qf)(h:Yr (QZ+1) x=true):QrE x=some (.t tI (dpV x),[]):=by
 simp only [Yr,Bc,Ba] at h
 obtain ⟨h,hf⟩:=h
 obtain ⟨h1,h2,h3,h4,h5,h6,h7⟩:=WW h
 have hu:QhS (List.map Val.un x.2.2.2.1)=true:=by
  simp only [QhS,Bc,Ba,BN,Bi,B6]
  refine ⟨⟨h6,hf⟩, ?_⟩
  rintro y ⟨v,hv,rfl⟩
  rw [QbI]
  exact h7 v hv
 have hd:=Vy (v:=Val.of x) h
 rw [Qcg] at hd
 simp only [QrE,J6 (show (List.map Val.un x.2.2.2.1).length<=100000 by rw [BN];exact h6),hu,Dh,show decide ((0:Int)<=0/\(0:Int)<=100)=true from rfl,Qd,BA,BG,WY,Gu,Nat.zero_max]
 rw [Jn (by omega)]
 simp only [dpV,Qcg]
 congr 2
end
theorem QrF:JE Tryz.prog 186:= .inr ⟨by decide,_,Tryz.func186,by kernel_rfl,by kernel_rfl⟩
def Em [Fuel]:Ent:=Ql (.pr Qt .nil) (fun x=>(Yr QZ x.1)) (fun x=>(.t tI (dpV x.1)))
theorem QDh:JE Tryz.prog 186:=QrF
section
variable [Fuel][Nonempty (PLift (Qu Tryz.prog 186 (Qq Em)))]
theorem QDi:Qu Tryz.prog 186 (Qq Em):=(Classical.choice (inferInstance:Nonempty (PLift (Qu Tryz.prog 186 (Qq Em))))).down
def Og [Fuel](x:Qf):Bool:=Yr (QZ+1) x
abbrev Qch:Sh:=⟨[(1,.ptr 1 0),(3,.ty tI),(4,.ty tI)],[(1,.box Qt)]⟩
abbrev QrG:Sh:=⟨[(3,.ty tI)],[]⟩
def QhT:Fg:=Qch.f
def Qci:TC:=aF Tryz.f186 [(58,pL 0 QhT),(931,.fg QrG.f)]
def QrH:TC:=lb 0 Qci
def QrI:List (RV×Option Ty):=[((.t 2),some tI)]
def QrJ (x3 x4:Int)(y1:Qf):VS:=Qch.st ((),x3,x4,()) (y1,())
def QhU (x3:Int):VS:=QrG.st (x3,()) ()
def QDj:VS->Option (Bool×List (Bool×Exit×VS)):=mkL Qch (fun x y=>(decide (0<=x.2.2.1/\x.2.2.1<=y.1.2.2.2.1.length/\0<=x.2.1/\x.2.1<=100)&&Og y.1)) (fun x y=>[(true,.exit 0,QhU ((max x.2.1.toNat (WY ((List.map Val.un y.1.2.2.2.1).drop x.2.2.1.toNat)):Nat):Int))])
def En:G:=gG 22 [(186,Em)] (Ls [QDj])
def Qcj (x3 x4:Int)(y1:Qf):OX:=Qx (Qz En QhT QrH) (QrJ x3 x4 y1)
def Oh (kk:Int->Int->Qf->OX)(x3 x4:Int)(y1:Qf):OX:=
 let a1:=List.map Val.un y1.2.2.2.1
 let a2:=lgt Qt a1 (Int.toNat x4)
 br (ilt x4 (Qc a1)) (br (cIx a1 x4) (br (Yr QZ a2) (kk (imx x3 (dpV a2)) (Qj .i64 x4 1) y1) none) none) (some (.exit 0,QhU x3))
def Qck (x3 x4:Int)(y1:Qf):OX:=some (.exit 0,QhU ((max x3.toNat (WY ((List.map Val.un y1.2.2.2.1).drop x4.toNat)):Nat):Int))
theorem QrK (x3 x4:Int)(y1:Qf):Qcj x3 x4 y1=Oh Qcj x3 x4 y1:=lnT (x:=Oh (fun x3 x4 y1=>some (.normal,QrJ x3 x4 y1)) x3 x4 y1) (by simp only [Oh,nxA];rfl)
def QhV (p0:Qf):OV:=br (decide (0<=(0:Int)/\(0:Int)<=p0.2.2.2.1.length/\0<=(0:Int)/\(0:Int)<=100)&&Og p0) (some (.t tI (Qj .i64 ((max (0:Int).toNat (WY ((List.map Val.un p0.2.2.2.1).drop (0:Int).toNat)):Nat):Int) 1),[])) none
theorem e_f186 (p0:Qf):Jq En Qci QrI false [.t Qt p0] []=QhV p0:=by kernel_rfl
theorem QDk:GOk Tryz.prog En:=J8 _ (gA (gC QDh QDi gN))
theorem QDl (x3 x4:Int)(y1:Qf)(h:(decide (0<=x4/\x4<=y1.2.2.2.1.length/\0<=x3/\x3<=100)&&Og y1)=true):Qcj x3 x4 y1=Qck x3 x4 y1:=by
 simp only [Bc,Ba] at h
 obtain ⟨⟨h0,h1,h2,h3⟩,hc⟩:=h
 obtain ⟨k,rfl⟩:=Bt h0
 obtain ⟨m,rfl⟩:=Bt h2
 clear h2 h3
 simp only [Og,Yr,Bc,Ba] at hc
 obtain ⟨hc,hf⟩:=hc
 have hm:=Qhz hc
 have hl:=(WW hc).2.2.2.2.2.1
 revert m
 refine Q7 (List.map Val.un y1.2.2.2.1) (fun k=> ∀ m:Nat,Qcj (m:Int) (k:Int) y1=Qck (m:Int) (k:Int) y1) ?_ ?_ k (by rw [BN];omega)
 ·intro m
  rw [QrK]
  simp only [Oh,show ilt ((List.map Val.un y1.2.2.2.1).length:Int) (Qc (List.map Val.un y1.2.2.2.1))=false from Bn (by simp only [Qc];omega),Qh]
  simp only [Qck,Bd,Dd,QDd,Nat.max_zero]
 ·intro k hk ih m
  rw [QrK]
  have hk2:k<y1.2.2.2.1.length:=by rw [BN] at hk;exact hk
  have hd:Yr QZ (List.map Val.un y1.2.2.2.1)[k]=true:=by rw [Yr,hm k hk,Be (by omega)];rfl
  simp only [Oh,show ilt (k:Int) (Qc (List.map Val.un y1.2.2.2.1))=true from Be (by simp only [Qc];omega),QS,hk,BK,Qd,Bd,Q3 (show k<4611686018427387904 by omega),Q2 (y:=Qt) hk,hd,dpV,QDf,ih]
  simp only [Qck,Bd,Bl hk,QDe,Nat.max_assoc]
theorem QDm:LO En QhT QrH 0:=QI (s:=Qch) fun x y h _ q=>by simp only [QF,QG] at q;exact (QDl x.2.1 x.2.2.1 y.1 h).trans q
theorem QDn:Qci.lok En:=by
 repeat (first|exact trivial|exact QDm|refine ⟨?_, ?_⟩)
theorem s_f186 (x:Qf)(h:Yr (QZ+1) x=true):QhV x=some (.t tI (dpV x),[]):=by
 have hin:Og x=true:=h
 simp only [Yr,Bc,Ba] at h
 obtain ⟨h,hf⟩:=h
 have hd:=Vy (v:=Val.of x) h
 rw [Qcg] at hd
 have hdd:decide ((0:Int)<=0/\(0:Int)<=x.2.2.2.1.length/\(0:Int)<=0/\(0:Int)<=100)=true:=Be (by omega)
 simp only [QhV,hin,hdd,Dh,Qd,BA,BG,WY,Gu,Nat.zero_max]
 rw [Jn (by omega)]
 simp only [dpV,Qcg]
 congr 2
theorem QDo:Qu Tryz.prog 186 (Jq En Qci QrI false):=mG Tryz.func186 (by kernel_rfl) Tryz.ntmps186 (by kernel_rfl) QDk QDn
end
theorem QrL: ∀ N:Nat,Qu Tryz.prog 186 (Qq (@Em ⟨N⟩))
 |0=>G9 fun x=>by first|rfl|simp [Yr]
 |N+1=>by
  letI:Fuel:=⟨N⟩
  haveI:Nonempty (PLift (Qu Tryz.prog 186 (Qq Em))):=⟨⟨QrL N⟩⟩
  exact Qr QDo fun x hok=>(e_f186 x.1).trans (s_f186 x.1 hok)
def QrM:Ent:=Ql (.pr Qt .nil) (fun x=>(Qcf x.1)) (fun x=>(.t tI (dpV x.1)))
theorem QDp:Qu Tryz.prog 186 (Qq QrM):=V0 QrL fun x hok=>QDc x.1 hok
end
end Go.Proofs.YtmjnnemhoeolgaaGreat.K
noncomputable section
set_option linter.unusedSectionVars false
namespace Go.Proofs.YtmjnnemhoeolgaaGreat.K
open Go.RowKit
noncomputable section
def J9 (x:Qf):List Int:=Vx (Val.of x)
def Zf (l:List Qf):List Int:=Zv (l.map Val.of)
theorem ID:Zf []=[]:=rfl
theorem Gl (x:Qf)(l:List Qf):Zf (x::l)=J9 x++Zf l:=rfl
theorem QaY (x:Qf):J9 x=icv .u8 x.1::(Ul (x.2.1.length+(Zv x.2.2.2.1).length)++(x.2.1++Zv x.2.2.2.1)):=rfl
theorem Qoc (x:Qf):x.2.1.length+(Zv x.2.2.2.1).length<=(J9 x).length:=Qv0 x.1 x.2.1 x.2.2.1 x.2.2.2.1
theorem Qod: ∀ (l:List Qf) (k:Nat) (hk:k<l.length),(Zf (l.take k)).length+(J9 l[k]).length<=(Zf l).length
 | [],k,hk=>by simp at hk
 |x::l,0,_=>by
  rw [List.take_zero,ID,Gl,Bm]
  simp
 |x::l,k+1,hk=>by
  simp only [Bo] at hk
  have:=Qod l k (by omega)
  simp only [List.take_succ_cons,Gl,Bm,DG]
  omega
theorem QaZ (n:Nat):(Ul n).length<=9:=by
 unfold Ul
 split
 ·simp
 ·rw [Bo,Qef]
  have:=Qeg 8 n
  omega
def Xu (n:Nat)(x:Qf):Bool:=okT n x&&decide ((J9 x).length<=100000000)
def WL (x:Qf):Bool:=okT 12 x&&decide ((J9 x).length<=100000000)
theorem QzB (x:Qf)(h:WL x=true): ∃ N,Xu N x=true:=⟨12,h⟩
theorem Qoe:JE Tryz.prog 187:= .inr ⟨by decide,_,Tryz.func187,by kernel_rfl,by kernel_rfl⟩
def FV [Fuel]:Ent:=Ql (.pr Qt .nil) (fun x=>(Xu QZ x.1)) (fun x=>(.t (.sl (.int .u8)) (J9 x.1)))
theorem QzC:JE Tryz.prog 187:=Qoe
section
variable [Fuel][Nonempty (PLift (Qu Tryz.prog 187 (Qq FV)))]
theorem QzD:Qu Tryz.prog 187 (Qq FV):=(Classical.choice (inferInstance:Nonempty (PLift (Qu Tryz.prog 187 (Qq FV))))).down
def IE [Fuel](x:Qf):Bool:=Xu (QZ+1) x
abbrev Qa0:Sh:=⟨[(1,.ptr 1 0),(3,.ms 5),(4,.ty tI)],[(1,.box Qt),(3,.no),(5,.arr 5 (.int .u8)),(8,.no),(23,.no)]⟩
abbrev Qof:Sh:=⟨[(1,.ptr 1 0),(3,.ms 5)],[(1,.box Qt),(3,.no),(5,.arr 5 (.int .u8)),(8,.no),(23,.no)]⟩
def Qf0:Fg:=Qa0.f
def Qa1:TC:=aF Tryz.f187 [(58,.nw 3 5),(58,pL 0 Qf0),(931,.fg Qof.f),(30,pD [(0,[1]),(1,[1]),(2,[]),(3,[27,5027,10027,15027]),(4,[3,5,8,23]),(5,[3,5,8,23]),(6,[]),(7,[27,31,5031,10031,15031]),(8,[3,5,8,23]),(9,[3,5,8,23,27,31,33,5033,10033,15033]),(10,[27,31,33])] (.of [0,1,2,4,5,6,8,3,7,9,10]))]
def Qog:TC:=lb 0 Qa1
def Qoh:List (RV×Option Ty):=[((.t 2),some (.sl (.int .u8)))]
def Qoi (x4:Int)(y1:Qf)(y5:List Int):VS:=Qa0.st ((),(),x4,()) (y1,(),y5,(),(),())
def Qf1 (y1:Qf)(y5:List Int):VS:=Qof.st ((),(),()) (y1,(),y5,(),(),())
def QzE:VS->Option (Bool×List (Bool×Exit×VS)):=mkL Qa0 (fun x y=>(decide (0<=x.2.2.1/\x.2.2.1<=y.1.2.2.2.1.length/\y.2.2.1.length+(Zf ((List.map Val.un y.1.2.2.2.1).drop x.2.2.1.toNat)).length<=1000000000)&&IE y.1)) (fun x y=>[(true,.exit 0,Qf1 (y.1) (y.2.2.1++Zf ((List.map Val.un y.1.2.2.2.1).drop x.2.2.1.toNat)))])
def FW:G:=⟨TYs,[5,27],34,EL [(187,FV),(211,Quq)],YU,(Ls [QzE]),IL [],RL []⟩
def Qa2 (x4:Int)(y1:Qf)(y5:List Int):OX:=Qx (Qz FW Qf0 Qog) (Qoi x4 y1 y5)
def IF (kk:Int->Qf->List Int->OX)(x4:Int)(y1:Qf)(y5:List Int):OX:=
 let a2:=List.map Val.un y1.2.2.2.1
 let a1:=lgt Qt a2 (Int.toNat x4)
 br (ilt x4 (Qc a2)) (br (cIx a2 x4) (br (Xu QZ a1) (br (QC y5 (J9 a1) 1) (kk (Qj .i64 x4 1) y1 (y5++(J9 a1))) none) none) none) (some (.exit 0,Qf1 y1 y5))
def Qa3 (x4:Int)(y1:Qf)(y5:List Int):OX:=some (.exit 0,Qf1 (y1) (y5++Zf ((List.map Val.un y1.2.2.2.1).drop x4.toNat)))
theorem Qoj (x4:Int)(y1:Qf)(y5:List Int):Qa2 x4 y1 y5=IF Qa2 x4 y1 y5:=lnT (x:=IF (fun x4 y1 y5=>some (.normal,Qoi x4 y1 y5)) x4 y1 y5) (by simp only [IF,nxA];rfl)
def Qf2 (p0:Qf):OV:=
 let a2:=List.map Val.un p0.2.2.2.1
 let a3:=(a2.drop (0:Int).toNat)
 let a1:=(Qc ((([]:List Int)++p0.2.1)++Zf a3))
 let a4:=icv .u8 ((p0).1)
 br (QC ([]:List Int) p0.2.1 1) (br (decide (0<=(0:Int)/\(0:Int)<=p0.2.2.2.1.length/\(([]:List Int)++p0.2.1).length+(Zf a3).length<=1000000000)&&IE p0) (br (OZ a1) (br (QC ([a4]) (Ub a1) 1) (br (QC (([a4])++(Ub a1)) ((([]:List Int)++p0.2.1)++Zf a3) 1) (some (.t (.sl (.int .u8)) ((([a4])++(Ub a1))++((([]:List Int)++p0.2.1)++Zf a3)),[])) none) none) none) none) none
theorem e_f187 (p0:Qf):Jq FW Qa1 Qoh false [.t Qt p0] []=Qf2 p0:=by kernel_rfl
theorem QzF:GOk Tryz.prog FW:=J8 _ (gA (gC QzC QzD (gD QF0 gN)))
theorem QzG (x4:Int)(y1:Qf)(y5:List Int)(h:(decide (0<=x4/\x4<=y1.2.2.2.1.length/\y5.length+(Zf ((List.map Val.un y1.2.2.2.1).drop x4.toNat)).length<=1000000000)&&IE y1)=true):Qa2 x4 y1 y5=Qa3 x4 y1 y5:=by
 simp only [Bc,Ba] at h
 obtain ⟨⟨h0,h1,h2⟩,hc⟩:=h
 obtain ⟨k,rfl⟩:=Bt h0
 simp only [IE,Xu,Bc,Ba] at hc
 obtain ⟨hc,hf⟩:=hc
 have hm:=Qhz hc
 have hl:=(WW hc).2.2.2.2.2.1
 rw [Bd] at h2
 have hel:=Qoc y1
 have hE:Zf (List.map Val.un y1.2.2.2.1)=Zv y1.2.2.2.1:=by rw [Zf,Gu]
 revert y5
 refine Q7 (List.map Val.un y1.2.2.2.1) (fun k=> ∀ y5:List Int,y5.length+(Zf ((List.map Val.un y1.2.2.2.1).drop k)).length<=1000000000->Qa2 (k:Int) y1 y5=Qa3 (k:Int) y1 y5) ?_ ?_ k (by rw [BN];omega)
 ·intro y5 _
  rw [Qoj]
  simp only [IF,show ilt ((List.map Val.un y1.2.2.2.1).length:Int) (Qc (List.map Val.un y1.2.2.2.1))=false from Bn (by simp only [Qc];omega),Qh]
  simp only [Qa3,Bd,Dd,ID,BR]
 ·intro k hk ih y5 hy
  rw [Qoj]
  have hk2:k<y1.2.2.2.1.length:=by rw [BN] at hk;exact hk
  have hs:=Qod (List.map Val.un y1.2.2.2.1) k hk
  rw [hE] at hs
  rw [Bl hk,Gl,Bm] at hy
  have hd:Xu QZ (List.map Val.un y1.2.2.2.1)[k]=true:=by rw [Xu,hm k hk,Be (by omega)];rfl
  simp only [IF,show ilt (k:Int) (Qc (List.map Val.un y1.2.2.2.1))=true from Be (by simp only [Qc];omega),QS,hk,BK,Qd,Bd,Q3 (show k<4611686018427387904 by omega),Q2 (y:=Qt) hk,hd]
  rw [JF (by omega) (by omega),Qd,ih _ (by rw [Bm];omega)]
  simp only [Qa3,Bd,Bl hk,Gl,BV]
theorem QzH:LO FW Qf0 Qog 0:=QI (s:=Qa0) fun x y h _ q=>by simp only [QF,QG] at q;exact (QzG x.2.2.1 y.1 y.2.2.1 h).trans q
theorem QzI:Qa1.lok FW:=by
 repeat (first|exact trivial|exact QzH|refine ⟨?_, ?_⟩)
theorem s_f187 (x:Qf)(h:Xu (QZ+1) x=true):Qf2 x=some (.t (.sl (.int .u8)) (J9 x),[]):=by
 have hin:IE x=true:=h
 simp only [Xu,Bc,Ba] at h
 obtain ⟨h,hf⟩:=h
 have hel:=Qoc x
 have hE:Zf (List.map Val.un x.2.2.2.1)=Zv x.2.2.2.1:=by rw [Zf,Gu]
 have hll:=QaZ (x.2.1.length+(Zv x.2.2.2.1).length)
 simp only [Qf2,hin,Di,BY,BA,BG,hE]
 rw [JF (by omega) (by simp only [Bw];omega),Qd,Be ⟨by omega,by omega,by omega⟩,Qd]
 have e1:OZ (Qc (x.2.1++Zv x.2.2.2.1))=true:=Be (by simp only [Qc,Bm];omega)
 have e2:Ub (Qc (x.2.1++Zv x.2.2.2.1))=Ul (x.2.1.length+(Zv x.2.2.2.1).length):=by simp only [Ub,Qc,Bm,Bd]
 rw [e1,Qd,e2,JF (by omega) (by simp only [Bp];omega),Qd,JF (by omega) (by simp only [Bm,Bp];omega),Qd,QaY]
 simp only [BO,Du,BY]
theorem QzJ:Qu Tryz.prog 187 (Jq FW Qa1 Qoh false):=mG Tryz.func187 (by kernel_rfl) Tryz.ntmps187 (by kernel_rfl) QzF QzI
end
theorem Qok: ∀ N:Nat,Qu Tryz.prog 187 (Qq (@FV ⟨N⟩))
 |0=>G9 fun x=>by first|rfl|simp [Xu]
 |N+1=>by
  letI:Fuel:=⟨N⟩
  haveI:Nonempty (PLift (Qu Tryz.prog 187 (Qq FV))):=⟨⟨Qok N⟩⟩
  exact Qr QzJ fun x hok=>(e_f187 x.1).trans (s_f187 x.1 hok)
def Qol:Ent:=Ql (.pr Qt .nil) (fun x=>(WL x.1)) (fun x=>(.t (.sl (.int .u8)) (J9 x.1)))
theorem QzK:Qu Tryz.prog 187 (Qq Qol):=V0 Qok fun x hok=>QzB x.1 hok
def WM (x:Qf):List Int×Int:=if 4096<(J9 x).length then ([],3) else (J9 x,0)
theorem QzL {x:Qf}(h:okT 12 x=true):igt (dpV x) 16=false:=by
 have:=Vy (v:=Val.of x) h
 exact Bn (by show ¬ ((Um (Val.of x):Int) > 16);omega)
def QzM:TC:=aF Tryz.f151 []
def g_f151:G:=gG 17 [(185,QrD),(186,QrM),(187,Qol)] (fun _ _=>none)
def Qom (p0:Qf):OV:=br (Qb4 p0) (br (!(X9 p0)) (some (.tu [(.t (.sl (.int .u8)) ([]:List Int)),(.t tI 1)],[])) (br (Qcf p0) (br (igt (dpV p0) 16) (some (.tu [(.t (.sl (.int .u8)) ([]:List Int)),(.t tI 3)],[])) (br (WL p0) (br (igt (Qc (J9 p0)) 4096) (some (.tu [(.t (.sl (.int .u8)) ([]:List Int)),(.t tI 3)],[])) (some (.tu [(.t (.sl (.int .u8)) (J9 p0)),(.t tI 0)],[]))) none)) none)) none
theorem s_f151 (x:Qf)(h:WL x=true):Qom x=some (.tu [.t (.sl (.int .u8)) (WM x).1,.t tI (WM x).2],[]):=by
 have h':=h
 simp only [WL,Bc,Ba] at h'
 obtain ⟨h1,h2⟩:=h'
 simp only [Qom,show Qb4 x=true from h1,show Qcf x=true from h1,h,QzL h1,X9,BM,Qd,Qh]
 unfold WM
 refine Q4 (fun g=> ?_) (fun g=> ?_)
 ·simp only [igt,Qc,Ba] at g
  rw [if_pos (by omega)]
 ·simp only [igt,Qc,Bq] at g
  rw [if_neg (by omega)]
def Qon:Ent:=Ql (.pr Qt .nil) (fun x=>(WL x.1)) (fun x=>(.tu [(.t (.sl (.int .u8)) ((WM x.1).1)),(.t tI ((WM x.1).2))]))
theorem QzN:EM 151 Qon:=mS g_f151 QzM [((.t 2),some (.sl (.int .u8))),((.t 3),some tI)] false (gB (gC Qrw QDb (gC QrF QDp (gC Qoe QzK gN)))) fun m=>Qr m fun x hok=>kT (s_f151 x.1 hok)
def conV (x:Qf):List Int:=x.2.1++Zv x.2.2.2.1
def QzO [Fuel]:Ent:=Ql (.pr Qt .nil) (fun x=>(Xu QZ x.1)) (fun x=>(.t (.sl (.int .u8)) (conV x.1)))
section
variable [Fuel][Nonempty (PLift (Qu Tryz.prog 245 (Qq QzO)))]
end
def Y5 (l:List Qf):Qf:=(48,(([]:List Int),(true,(List.map Val.of l,()))))
def QzP:TC:=aF Tryz.f189 []
def g_f189:G:=gG 6 [(212,QqM)] (fun _ _=>none)
def Qoo (p0:List Qf):OV:=br (Xx p0) (some (.t Qt (48,(([]:List Int),(true,((List.map Val.of (X7 p0)),())))),[])) none
theorem s_f189 (l:List Qf)(h:Xx l=true):Qoo l=some (.t Qt (Y5 l),[]):=by
 simp only [Qoo,h,Qd]
 rfl
def Qf3:Ent:=Ql (.pr (.sl Qt) .nil) (fun x=>(Xx x.1)) (fun x=>(.t Qt (Y5 x.1)))
theorem Qop:EM 189 Qf3:=mS g_f189 QzP [((.c 2 true 4),some Qt)] false (gB (gC QqF QB2 gN)) fun m=>Qr m fun x hok=>kT (s_f189 x.1 hok)
end
end Go.Proofs.YtmjnnemhoeolgaaGreat.K
