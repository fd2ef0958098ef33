import Derived.Test.YthlcobdnemhcdaaGreatQ3
set_option linter.unusedSimpArgs false
set_option linter.unusedVariables false
noncomputable section
namespace Go.Proofs.YthlcobdnemhcdaaGreat.K
open Go.RowKit
def QnH:TC:=aF Tryz.f236 []
def QnI:List (RV×Option Ty):=[((.c 0 true 115),some (.pr Qm (.pr Qm (.pr Qm (.pr Qm (.pr Qm (.pr Qm (.pr Qm (.pr Qm (.pr Qm (.pr Qm (.pr Qm (.pr Qm (.pr Qm (.pr Qm (.pr Qm (.pr Qm (.pr Qm (.pr Qm (.pr Qm (.pr Qm (.pr Qm (.pr Qm (.pr Qm .nil))))))))))))))))))))))))]
def QnJ:G:=gG 46 [] (fun _ _=>none)
def QnK  : OV:=some (.t (.pr Qm (.pr Qm (.pr Qm (.pr Qm (.pr Qm (.pr Qm (.pr Qm (.pr Qm (.pr Qm (.pr Qm (.pr Qm (.pr Qm (.pr Qm (.pr Qm (.pr Qm (.pr Qm (.pr Qm (.pr Qm (.pr Qm (.pr Qm (.pr Qm (.pr Qm (.pr Qm .nil))))))))))))))))))))))) (((ByteArray.mk #[]),(0,(0,(([]:List Int),(([]:List Int),()))))),(((ByteArray.mk #[109,100,53]),(1,(0,(([]:List Int),([18],()))))),(((ByteArray.mk #[115,104,97,49]),(1,(0,(([]:List Int),([60],()))))),(((ByteArray.mk #[115,104,97,50,53,54]),(1,(0,(([]:List Int),([128],()))))),(((ByteArray.mk #[115,104,97,51,56,52]),(1,(0,(([]:List Int),([192],()))))),(((ByteArray.mk #[114,115,97]),(2,(1,(([]:List Int),(([]:List Int),()))))),(((ByteArray.mk #[100,115,97]),(2,(1,(([]:List Int),(([]:List Int),()))))),(((ByteArray.mk #[101,99,100,115,97]),(2,(2,(([]:List Int),(([]:List Int),()))))),(((ByteArray.mk #[101,100,50,53,53,49,57]),(2,(0,(([]:List Int),([128],()))))),(((ByteArray.mk #[109,108,100,115,97]),(2,(3,([44,65,87],([128,192,256],()))))),(((ByteArray.mk #[114,115,97,107,120]),(3,(1,(([]:List Int),(([]:List Int),()))))),(((ByteArray.mk #[100,104,101]),(3,(1,(([]:List Int),(([]:List Int),()))))),(((ByteArray.mk #[101,99,100,104,101]),(3,(2,(([]:List Int),(([]:List Int),()))))),(((ByteArray.mk #[109,108,107,101,109]),(3,(3,([512,768,1024],([128,192,256],()))))),(((ByteArray.mk #[114,99,52]),(4,(3,([40,128],([40,60],()))))),(((ByteArray.mk #[100,101,115,51]),(4,(3,([112,168],([80,112],()))))),(((ByteArray.mk #[97,101,115,99,98,99]),(4,(3,([128,256],([128,256],()))))),(((ByteArray.mk #[97,101,115,103,99,109]),(4,(3,([128,256],([128,256],()))))),(((ByteArray.mk #[99,104,97,99,104,97]),(4,(0,(([]:List Int),([256],()))))),(((ByteArray.mk #[104,109,97,99,109,100,53]),(5,(0,(([]:List Int),([64],()))))),(((ByteArray.mk #[104,109,97,99,115,104,97,49]),(5,(0,(([]:List Int),([80],()))))),(((ByteArray.mk #[104,109,97,99,115,104,97,50,53,54]),(5,(0,(([]:List Int),([128],()))))),(((ByteArray.mk #[97,101,97,100]),(5,(0,(([]:List Int),([256],()))))),()))))))))))))))))))))))),[])
theorem e_f236  : QK QnJ QnH QnI false [] []=QnK  :=by kernel_rfl
def FB:Ty.T (.pr Qm (.pr Qm (.pr Qm (.pr Qm (.pr Qm (.pr Qm (.pr Qm (.pr Qm (.pr Qm (.pr Qm (.pr Qm (.pr Qm (.pr Qm (.pr Qm (.pr Qm (.pr Qm (.pr Qm (.pr Qm (.pr Qm (.pr Qm (.pr Qm (.pr Qm (.pr Qm .nil))))))))))))))))))))))):=(((ByteArray.mk #[]),(0,(0,(([]:List Int),(([]:List Int),()))))),(((ByteArray.mk #[109,100,53]),(1,(0,(([]:List Int),([18],()))))),(((ByteArray.mk #[115,104,97,49]),(1,(0,(([]:List Int),([60],()))))),(((ByteArray.mk #[115,104,97,50,53,54]),(1,(0,(([]:List Int),([128],()))))),(((ByteArray.mk #[115,104,97,51,56,52]),(1,(0,(([]:List Int),([192],()))))),(((ByteArray.mk #[114,115,97]),(2,(1,(([]:List Int),(([]:List Int),()))))),(((ByteArray.mk #[100,115,97]),(2,(1,(([]:List Int),(([]:List Int),()))))),(((ByteArray.mk #[101,99,100,115,97]),(2,(2,(([]:List Int),(([]:List Int),()))))),(((ByteArray.mk #[101,100,50,53,53,49,57]),(2,(0,(([]:List Int),([128],()))))),(((ByteArray.mk #[109,108,100,115,97]),(2,(3,([44,65,87],([128,192,256],()))))),(((ByteArray.mk #[114,115,97,107,120]),(3,(1,(([]:List Int),(([]:List Int),()))))),(((ByteArray.mk #[100,104,101]),(3,(1,(([]:List Int),(([]:List Int),()))))),(((ByteArray.mk #[101,99,100,104,101]),(3,(2,(([]:List Int),(([]:List Int),()))))),(((ByteArray.mk #[109,108,107,101,109]),(3,(3,([512,768,1024],([128,192,256],()))))),(((ByteArray.mk #[114,99,52]),(4,(3,([40,128],([40,60],()))))),(((ByteArray.mk #[100,101,115,51]),(4,(3,([112,168],([80,112],()))))),(((ByteArray.mk #[97,101,115,99,98,99]),(4,(3,([128,256],([128,256],()))))),(((ByteArray.mk #[97,101,115,103,99,109]),(4,(3,([128,256],([128,256],()))))),(((ByteArray.mk #[99,104,97,99,104,97]),(4,(0,(([]:List Int),([256],()))))),(((ByteArray.mk #[104,109,97,99,109,100,53]),(5,(0,(([]:List Int),([64],()))))),(((ByteArray.mk #[104,109,97,99,115,104,97,49]),(5,(0,(([]:List Int),([80],()))))),(((ByteArray.mk #[104,109,97,99,115,104,97,50,53,54]),(5,(0,(([]:List Int),([128],()))))),(((ByteArray.mk #[97,101,97,100]),(5,(0,(([]:List Int),([256],()))))),())))))))))))))))))))))))
theorem s_f236:QnK=some (.t (tyR Qm 23) FB,[]):=rfl
def QnL:Ent:=Qn .nil (fun x=>true) (fun x=>(.t (.pr Qm (.pr Qm (.pr Qm (.pr Qm (.pr Qm (.pr Qm (.pr Qm (.pr Qm (.pr Qm (.pr Qm (.pr Qm (.pr Qm (.pr Qm (.pr Qm (.pr Qm (.pr Qm (.pr Qm (.pr Qm (.pr Qm (.pr Qm (.pr Qm (.pr Qm (.pr Qm .nil))))))))))))))))))))))) FB))
theorem QyP:EM 236 QnL:=mS QnJ QnH QnI false (gB gN) fun m=>Qt m fun x _=>(e_f236 ).trans (s_f236)
def Iz:Row:=((ByteArray.mk #[]),(0,(0,(([]:List Int),(([]:List Int),())))))
def ofF (a:Int):Row×Bool:=if a<1∨22<a then (Iz,false) else (FS Qm 23 FB a,true)
def QyQ:TC:=aF Tryz.f199 []
def g_f199:G:=gG 14 [(236,QnL),(1004738,QoD)] (fun _ _=>none)
def QnM (p0:Int):OV:=br (ilt p0 1) (some (.tu [(.t Qm ((ByteArray.mk #[]),(0,(0,(([]:List Int),(([]:List Int),())))))),(.t .bool false)],[])) (br (igt p0 22) (some (.tu [(.t Qm ((ByteArray.mk #[]),(0,(0,(([]:List Int),(([]:List Int),())))))),(.t .bool false)],[])) (br (WQ Qm 23 FB p0) (some (.tu [(.t Qm (FS Qm 23 FB p0)),(.t .bool true)],[])) none))
theorem s_f199 (a:Int):QnM a=some (.tu [.t Qm (ofF a).1,.t .bool (ofF a).2],[]):=by
 simp only [QnM]
 refine Q8 (fun h1=> ?_) (fun h1=>Q8 (fun h2=> ?_) (fun h2=> ?_))
 ·have h1:a<1:=by simpa [ilt] using h1
  simp [ofF,h1,Iz]
 ·have h2:22<a:=by simpa [igt] using h2
  simp [ofF,h2,Iz]
 ·have h1: ¬ a<1:=by simpa [ilt] using h1
  have h2: ¬ 22<a:=by simpa [igt] using h2
  have h3:WQ Qm 23 FB a=true:=by simp [WQ];omega
  rw [h3,Qg]
  simp [ofF,h1,h2]
def Qge:Ent:=Qn (.pr tI .nil) (fun x=>true) (fun x=>(.tu [(.t Qm ((ofF x.1).1)),(.t .bool ((ofF x.1).2))]))
theorem QnN:EM 199 Qge:=mS g_f199 QyQ [((.c 2 true 5),some Qm),((.t 3),some .bool)] false (gB (gD QyP (gC Qzs Qzt gN))) fun m=>Qt m fun x _=>kT (s_f199 x.1)
def Gr:List (Int×Int):=[(1024,56),(2048,80),(3072,112),(7680,128),(15360,192)]
def FC:(Keep×(Keep×(Keep×(Keep×(Keep×Unit))))):=((1024,(56,())),((2048,(80,())),((3072,(112,())),((7680,(128,())),((15360,(192,())),())))))
def ZO (b i:Int):Option Int:=((Gr.drop i.toNat).find? fun x=>ilt b x.1).map (·.2)
def FD (b:Int):Int:=(ZO b 0).getD 256
abbrev Qah:Sh:=⟨[(0,.ty tI),(10,.ty (.pr Qk (.pr Qk (.pr Qk (.pr Qk (.pr Qk .nil)))))),(11,.ty tI)],[]⟩
abbrev QnO:Sh:=⟨[(2,.ty tI)],[]⟩
abbrev Qai:Sh:=⟨[],[]⟩
def Qgf:Fg:=Qah.f
def QnP:TC:=aF Tryz.f200 [(26,pL 0 Qgf),(421,.fg Qai.f),(13517,.fg QnO.f)]
def QnQ:TC:=lb 0 QnP
def QnR (x0:Int)(x10:(Keep×(Keep×(Keep×(Keep×(Keep×Unit))))))(x11:Int):VS:=Qah.st (x0,x10,x11,()) ()
def Qgg (x2:Int):VS:=QnO.st (x2,()) ()
def Qgh  : VS:=Qai.st () ()
def QyR:VS->Option (Bool×List (Bool×Exit×VS)):=mkL Qah (fun x y=>(x.2.1==FC&&decide (0<=x.2.2.1/\x.2.2.1<=5))) (fun x y=>[(((ZO x.1 x.2.2.1).isSome),.ret,Qgg ((ZO x.1 x.2.2.1).getD 0)),(true,.exit 0,Qgh)])
def Qgi:G:=gG 21 [(1004786,QoE)] (Ls [QyR])
def Qaj (x0:Int)(x10:(Keep×(Keep×(Keep×(Keep×(Keep×Unit))))))(x11:Int):OX:=Qx (Qz Qgi Qgf QnQ) (QnR x0 x10 x11)
def Qak (kk:Int->(Keep×(Keep×(Keep×(Keep×(Keep×Unit)))))->Int->OX)(x0:Int)(x10:(Keep×(Keep×(Keep×(Keep×(Keep×Unit))))))(x11:Int):OX:=
 let a1:=FS Qk 5 x10 x11
 br (ilt x11 5) (br (WQ Qk 5 x10 x11) (br (ilt x0 (a1.1)) (some (.ret,Qgg ((a1.2).1))) (kk x0 x10 (Qi .i64 x11 1))) none) (some (.exit 0,Qgh))
def Gs (x0:Int)(x10:(Keep×(Keep×(Keep×(Keep×(Keep×Unit))))))(x11:Int):OX:=br ((ZO x0 x11).isSome) (some (.ret,Qgg ((ZO x0 x11).getD 0)))<|some (.exit 0,Qgh)
theorem QnS (x0:Int)(x10:(Keep×(Keep×(Keep×(Keep×(Keep×Unit))))))(x11:Int):Qaj x0 x10 x11=Qak Qaj x0 x10 x11:=lnT (x:=Qak (fun x0 x10 x11=>some (.normal,QnR x0 x10 x11)) x0 x10 x11) (by simp only [Qak,nxA];rfl)
def QnT (p0:Int):OV:=br (((1024,(56,())),((2048,(80,())),((3072,(112,())),((7680,(128,())),((15360,(192,())),())))))==FC&&decide (0<=(0:Int)/\(0:Int)<=5)) (br ((ZO p0 (0:Int)).isSome) (some (.t tI ((ZO p0 (0:Int)).getD 0),[])) (some (.t tI 256,[]))) none
theorem QyS (x0:Int)(x10:(Keep×(Keep×(Keep×(Keep×(Keep×Unit))))))(x11:Int)(h:(x10==FC&&decide (0<=x11/\x11<=5))=true):Qaj x0 x10 x11=Gs x0 x10 x11:=by
 simp only [Bc,Ba,De] at h
 obtain ⟨rfl,h1,h2⟩:=h
 obtain ⟨k,rfl⟩:=Br h1
 refine Qd3 5 (fun k=>Qaj x0 FC (k:Int)=Gs x0 FC (k:Int)) ?_ ?_ k (by omega)
 ·rw [QnS]
  rfl
 ·intro k hk ih
  rw [QnS]
  simp only [Qak,QW (show k<4611686018427387904 by omega),ih]
  have e1:ilt (k:Int) 5=true:=by simp only [ilt,Ba];omega
  have e2:WQ Qk 5 FC (k:Int)=true:=by simp only [WQ,Ba];omega
  simp only [e1,e2,Qg]
  have hk5:k=0∨k=1∨k=2∨k=3∨k=4:=by omega
  rcases hk5 with rfl|rfl|rfl|rfl|rfl
  ·show br (ilt x0 1024) _ _=_
   cases h:ilt x0 1024<;>simp [Gs,ZO,Gr,h,Qg,Ql]<;>rfl
  ·show br (ilt x0 2048) _ _=_
   cases h:ilt x0 2048<;>simp [Gs,ZO,Gr,h,Qg,Ql]<;>rfl
  ·show br (ilt x0 3072) _ _=_
   cases h:ilt x0 3072<;>simp [Gs,ZO,Gr,h,Qg,Ql]<;>rfl
  ·show br (ilt x0 7680) _ _=_
   cases h:ilt x0 7680<;>simp [Gs,ZO,Gr,h,Qg,Ql]<;>rfl
  ·show br (ilt x0 15360) _ _=_
   cases h:ilt x0 15360<;>simp [Gs,ZO,Gr,h,Qg,Ql]<;>rfl
theorem QyT:LO Qgi Qgf QnQ 0:=QI (s:=Qah) fun x y h _ q=>by simp only [QG,QH] at q;exact (QyS x.1 x.2.1 x.2.2.1 h).trans q
theorem s_f200 (b:Int):QnT b=some (.t tI (FD b),[]):=by
 simp only [QnT]
 show br true (br (ZO b 0).isSome (some (V.t tI ((ZO b 0).getD 0),[])) _) _=_
 rw [Qg,FD]
 cases ZO b 0<;>rfl
def QnU:Ent:=Qn (.pr tI .nil) (fun x=>true) (fun x=>(.t tI (FD x.1)))
theorem QyU:EM 200 QnU:=mS (lk:=lkL (lkc QyT lkn)) Qgi QnP [((.t 2),some tI)] false (gB (gC Qzu Qzv gN)) fun m=>Qt m fun x _=>kT (s_f200 x.1)
def Js (v:Int):List Int->Option Nat
 | []=>none
 |a::l=>if a==v then some 0 else (Js v l).map (· + 1)
theorem QnV {v:Int}: ∀ {l:List Int} {k:Nat},Js v l=some k->k<l.length
 | [],_,h=>by cases h
 |a::l,k,h=>by
  unfold Js at h
  split at h
  ·injection h with h;subst h;simp
  ·obtain ⟨j,h1,h2⟩:=Bf.1 h
   have:=QnV h1
   simp only [Bp];omega
theorem Qgj {v:Int}: ∀ {l:List Int},Js v l=none↔v ∉ l
 | []=>by simp [Js]
 |a::l=>by
  have ih:=Qgj (v:=v) (l:=l)
  unfold Js
  by_cases h:a=v
  ·simp [h]
  ·have h': ¬ v=a:=fun e=>h e.symm
   simp [h,h',ih]
def Gt (l:List Int)(v:Int):Int:=match Js v l with|some k=>(k:Int)|none=> -1
def Yx (l:List Int)(_v:Int):Bool:=decide (l.length<=100000)
abbrev Qal:Sh:=⟨[(0,.ty (.sl tI)),(1,.ty tI),(7,.ty tI),(8,.ty tI)],[]⟩
abbrev QnW:Sh:=⟨[(4,.ty tI)],[]⟩
def Qgk:Fg:=Qal.f
def QnX:TC:=aF Tryz.f202 [(26,pL 0 Qgk),(421,.fg Qai.f),(13517,.fg QnW.f)]
def QnY:TC:=lb 0 QnX
def QnZ (x0:List Int)(x1 x7 x8:Int):VS:=Qal.st (x0,x1,x7,x8,()) ()
def Qgl (x4:Int):VS:=QnW.st (x4,()) ()
def Qgm  : VS:=Qai.st () ()
def QyV:VS->Option (Bool×List (Bool×Exit×VS)):=mkL Qal (fun x y=>(Qy x.1 x.2.2.1 x.2.2.2.1)) (fun x y=>[(((Js x.2.1 (x.1.drop x.2.2.2.1.toNat)).isSome),.ret,Qgl (x.2.2.2.1+((Js x.2.1 (x.1.drop x.2.2.2.1.toNat)).getD 0:Nat))),(true,.exit 0,Qgm)])
def Qgn:G:=gG 19 [] (Ls [QyV])
def Qam (x0:List Int)(x1 x7 x8:Int):OX:=Qx (Qz Qgn Qgk QnY) (QnZ x0 x1 x7 x8)
def IA (kk:List Int->Int->Int->Int->OX)(x0:List Int)(x1 x7 x8:Int):OX:=br (ilt x8 x7) (br (cIx x0 x8) (br (ieq x1 (lgt tI x0 (Int.toNat x8))) (some (.ret,Qgl x8)) (kk x0 x1 x7 (Qi .i64 x8 1))) none) (some (.exit 0,Qgm))
def Qan (x0:List Int)(x1 x7 x8:Int):OX:=
 let a1:=Js x1 (x0.drop x8.toNat)
 br (a1.isSome) (some (.ret,Qgl (x8+(a1.getD 0:Nat))))<|some (.exit 0,Qgm)
theorem Qn0 (x0:List Int)(x1 x7 x8:Int):Qam x0 x1 x7 x8=IA Qam x0 x1 x7 x8:=lnT (x:=IA (fun x0 x1 x7 x8=>some (.normal,QnZ x0 x1 x7 x8)) x0 x1 x7 x8) (by simp only [IA,nxA];rfl)
def Qn1 (p0:List Int)(p1:Int):OV:=
 let a1:=(Js p1 (p0.drop (0:Int).toNat))
 br (Qy p0 (Qd p0) (0:Int)) (br (a1.isSome) (some (.t tI ((0:Int)+(a1.getD 0:Nat)),[])) (some (.t tI (-1),[]))) none
theorem QyW (x0:List Int)(x1 x7 x8:Int)(h:(Qy x0 x7 x8)=true):Qam x0 x1 x7 x8=Qan x0 x1 x7 x8:=by
 obtain ⟨rfl,h3,k,rfl,hk⟩:=JE h
 clear h
 refine QX x0 (fun k=>Qam x0 x1 (x0.length:Int) (k:Int)=Qan x0 x1 (x0.length:Int) (k:Int)) ?_ ?_ k hk
 ·rw [Qn0]
  simp [IA,Qan,QA,Ql,Js]
 ·intro k hk ih
  rw [Qn0]
  simp only [IA,QA,QM,hk,Bx,Qg,Bd,QW (show k<4611686018427387904 by omega),ih,QP (y:=tI) hk]
  simp only [Qan,Bd,Bj hk,Js,ieq]
  have hc:(x1==x0[k])=(x0[k]==x1):=Bool.beq_comm
  cases h:x0[k]==x1 with
  |true=>simp [h,hc,Qg]
  |false=>
   simp only [h,hc,Ql,BG,Df]
   cases hq:Js x1 (x0.drop (k+1)) with
   |none=>rfl
   |some j=>
    simp only [B0,Dn,BU,Qg]
    congr 3
    omega
theorem QyX:LO Qgn Qgk QnY 0:=QI (s:=Qal) fun x y h _ q=>by simp only [QG,QH] at q;exact (QyW x.1 x.2.1 x.2.2.1 x.2.2.2.1 h).trans q
theorem s_f202 (l:List Int)(v:Int)(h:Yx l v=true):Qn1 l v=some (.t tI (Gt l v),[]):=by
 simp only [Yx,Ba] at h
 simp only [Qn1,JF h,Qg,BE,BL,Gt]
 cases Js v l<;>simp [Qg,Ql]
def Qgo:Ent:=Qn (.pr (.sl tI) (.pr tI .nil)) (fun x=>(Yx x.1 x.2.1)) (fun x=>(.t tI (Gt x.1 x.2.1)))
theorem Qn2:EM 202 Qgo:=mS (lk:=lkL (lkc QyX lkn)) Qgn QnX [((.t 4),some tI)] false (gB gN) fun m=>Qt m fun x hok=>kT (s_f202 x.1 x.2.1 hok)
def Zp (l:List Int)(v:Int):Bool:=l.contains v
def QyY:TC:=aF Tryz.f201 []
def g_f201:G:=gG 9 [(202,Qgo)] (fun _ _=>none)
def Qn3 (p0:List Int)(p1:Int):OV:=br (Yx p0 p1) (some (.t .bool (ige (Gt p0 p1) 0),[])) none
theorem s_f201 (l:List Int)(v:Int)(h:Yx l v=true):Qn3 l v=some (.t .bool (Zp l v),[]):=by
 simp only [Qn3,h,Qg]
 congr 3
 unfold Gt Zp
 cases hq:Js v l with
 |none=>
  have:=Qgj.1 hq
  simp [ige,this]
 |some k=>
  have:v∈l:=Dr fun hn=>by rw [Qgj.2 hn] at hq;cases hq
  simp only [ige,BH.2 this,Ba]
  omega
def Qgp:Ent:=Qn (.pr (.sl tI) (.pr tI .nil)) (fun x=>(Yx x.1 x.2.1)) (fun x=>(.t .bool (Zp x.1 x.2.1)))
theorem Qn4:EM 201 Qgp:=mS g_f201 QyY [((.t 4),some .bool)] false (gB (gD Qn2 gN)) fun m=>Qt m fun x hok=>kT (s_f201 x.1 x.2.1 hok)
end Go.Proofs.YthlcobdnemhcdaaGreat.K
noncomputable section
namespace Go.Proofs.YthlcobdnemhcdaaGreat.K
open Go.RowKit
def JP (b:Int)(s t:List Int):Int:=match Js b s with|some k=>t.getD k 0|none=>0
def YZ (a:Int):Int:=if a=1 then 18 else if a=2 then 60 else if a=3∨a=8∨a=21 then 128 else if a=4 then 192 else if a=18∨a=22 then 256 else if a=19 then 64 else if a=20 then 80 else 0
def UL (b:Int):Int:=if b<512∨16384<b then 0 else FD b
def FU (b:Int):Int:=if Zp [160,224,256,384,521] b then GC .i64 b 2 else 0
def YC (u:Keep):Int:=
 if u.1=5∨u.1=6∨u.1=10∨u.1=11 then UL u.2.1
 else if u.1=7∨u.1=12 then FU u.2.1
 else if u.1=9 then JP u.2.1 [44,65,87] [128,192,256]
 else if u.1=13 then JP u.2.1 [512,768,1024] [128,192,256]
 else if u.1=14 then JP u.2.1 [40,128] [40,60]
 else if u.1=15 then JP u.2.1 [112,168] [80,112]
 else if u.1=16∨u.1=17 then JP u.2.1 [128,256] [128,256]
 else JP u.2.1 [0] [YZ u.1]
def Jq (u:Keep):Bool:=decide (YC u > 0)
def QzR:TC:=aF Tryz.f150 []
def g_f150:G:=gG 61 [(199,Qge),(200,QnU),(201,Qgp),(202,Qgo)] (fun _ _=>none)
def Xt (p0:Keep):OV:=
 let a1:=((((ofF p0.1).1).2).2)
 let a2:=Gt ((a1.2).1) p0.2.1
 let a3:=(((a1.2).2).1)
 br (!((ofF p0.1).2)) (some (.t tI 0,[])) (br (ieq (a1.1) 0) (br (ieq p0.2.1 0) (br (cIx a3 0) (some (.t tI (lgt tI a3 (Int.toNat 0)),[])) none) (some (.t tI 0,[]))) (br (ieq (a1.1) 1) (br (ige p0.2.1 512) (br (ile p0.2.1 16384) (some (.t tI (FD p0.2.1),[])) (some (.t tI 0,[]))) (some (.t tI 0,[]))) (br (ieq (a1.1) 2) (br (Yx ([160,224,256,384,521]) p0.2.1) (br (Zp ([160,224,256,384,521]) p0.2.1) (br (cNz 2) (some (.t tI (GC .i64 p0.2.1 2),[])) none) (some (.t tI 0,[]))) none) (br (ieq (a1.1) 3) (br (Yx ((a1.2).1) p0.2.1) (br (ige a2 0) (br (cIx a3 a2) (some (.t tI (lgt tI a3 (Int.toNat a2)),[])) none) (some (.t tI 0,[]))) none) (some (.t tI 0,[]))))))
theorem QzS (u:Keep)(h1:(ofF u.1).2=false):Xt u=some (.t tI 0,[]):=by
 simp only [Xt,h1,DM,Qg]
theorem QzT (u:Keep){v:Int}(h1:(ofF u.1).2=true)(h2:(ofF u.1).1.2.2.1=0)(h3:(ofF u.1).1.2.2.2.2.1=[v]):Xt u=some (.t tI (JP u.2.1 [0] [v]),[]):=by
 simp only [Xt,h1,h2,h3,BI,Ql,show ieq 0 0=true from rfl,Qg,show cIx [v] 0=true from rfl]
 simp only [JP,Js,ieq]
 have hc:((0:Int)==u.2.1)=(u.2.1==0):=Bool.beq_comm
 rw [hc]
 cases u.2.1==0<;>rfl
theorem QzU (u:Keep)(h1:(ofF u.1).2=true)(h2:(ofF u.1).1.2.2.1=1):Xt u=some (.t tI (UL u.2.1),[]):=by
 simp only [Xt,h1,h2,BI,Ql,show ieq 1 0=false from rfl,show ieq 1 1=true from rfl,Qg,UL]
 refine Q8 (fun g1=>Q8 (fun g2=> ?_) (fun g2=> ?_)) (fun g1=> ?_)
 ·rw [if_neg]
  simp [ige,ile] at g1 g2
  omega
 ·rw [if_pos]
  simp [ige,ile] at g1 g2
  omega
 ·rw [if_pos]
  simp [ige] at g1
  omega
theorem QzV (u:Keep)(h1:(ofF u.1).2=true)(h2:(ofF u.1).1.2.2.1=2):Xt u=some (.t tI (FU u.2.1),[]):=by
 simp only [Xt,h1,h2,BI,Ql,show ieq 2 0=false from rfl,show ieq 2 1=false from rfl,show ieq 2 2=true from rfl,Qg,FU,show Yx [160,224,256,384,521] u.2.1=true from rfl,show cNz 2=true from rfl]
 cases Zp [160,224,256,384,521] u.2.1<;>rfl
theorem QzW (u:Keep){s t:List Int}(h1:(ofF u.1).2=true)(h2:(ofF u.1).1.2.2.1=3)(h3:(ofF u.1).1.2.2.2.1=s)(h4:(ofF u.1).1.2.2.2.2.1=t)(h5:s.length=t.length)(h6:s.length<=100000):Xt u=some (.t tI (JP u.2.1 s t),[]):=by
 have e1:Yx s u.2.1=true:=by simp [Yx,h6]
 simp only [Xt,h1,h2,h3,h4,e1,BI,Ql,show ieq 3 0=false from rfl,show ieq 3 1=false from rfl,show ieq 3 2=false from rfl,show ieq 3 3=true from rfl,Qg,Gt,JP]
 cases hq:Js u.2.1 s with
 |none=>rfl
 |some k=>
  have hk:=QnV hq
  have e2:ige (k:Int) 0=true:=by simp only [ige,Ba];omega
  have e3:k<t.length:=by omega
  simp only [e2,Qg,QM,e3,Bx]
  rfl
theorem s_f150 (u:Keep):Xt u=some (.t tI (YC u),[]):=by
 obtain ⟨a,b,c⟩:=u
 by_cases hb:a<1∨22<a
 ·rw [QzS _ (by simp [ofF,hb])]
  have e1:YZ a=0:=by
   unfold YZ
   repeat rw [if_neg (by omega)]
  have e2:YC (a,b,c)=0:=by
   unfold YC
   simp only
   repeat rw [if_neg (by omega)]
   rw [e1]
   simp only [JP,Js]
   cases (0:Int)==b<;>rfl
  rw [e2]
 ·have hc:a=1∨a=2∨a=3∨a=4∨a=5∨a=6∨a=7∨a=8∨a=9∨a=10∨a=11∨a=12∨a=13∨a=14∨a=15∨a=16∨a=17∨a=18∨a=19∨a=20∨a=21∨a=22:=by omega
  rcases hc with rfl|rfl|rfl|rfl|rfl|rfl|rfl|rfl|rfl|rfl|rfl|rfl|rfl|rfl|rfl|rfl|rfl|rfl|rfl|rfl|rfl|rfl
  all_goals first
   |exact QzT (v:=YZ _) (_,b,c) rfl rfl rfl
   |exact QzU (_,b,c) rfl rfl
   |exact QzV (_,b,c) rfl rfl
   |exact QzW (_,b,c) rfl rfl rfl rfl rfl (by decide)
def Qo3:Ent:=Qn (.pr Qk .nil) (fun x=>true) (fun x=>(.t tI (YC x.1)))
theorem QzX:EM 150 Qo3:=mS g_f150 QzR [((.t 2),some tI)] false (gB (gD QnN (gD QyU (gD Qn4 (gD Qn2 gN))))) fun m=>Qt m fun x _=>kT (s_f150 x.1)
def tc_f92:TC:=aF Tryz.f92 []
def g_f92:G:=gG 6 [(150,Qo3)] (fun _ _=>none)
def r_f92 (p0:Keep):OV:=some (.t .bool (igt (YC p0) 0),[])
theorem s_f92 (u:Keep):r_f92 u=some (.t .bool (Jq u),[]):=rfl
def UM:Ent:=Qn (.pr Qk .nil) (fun x=>true) (fun x=>(.t .bool (Jq x.1)))
theorem GD:EM 92 UM:=mS g_f92 tc_f92 [((.t 2),some .bool)] false (gB (gD QzX gN)) fun m=>Qt m fun x _=>kT (s_f92 x.1)
def QzY:TC:=aF Tryz.f206 []
def g_f206:G:=gG 25 [] (fun _ _=>none)
def Qo4 (p0:Int):OV:=br (ilt p0 512) (some (.t tI 0,[])) (br (igt p0 16384) (some (.t tI 0,[])) (br (ilt p0 1024) (some (.t tI 56,[])) (br (ilt p0 2048) (some (.t tI 80,[])) (br (ilt p0 3072) (some (.t tI 112,[])) (br (ilt p0 7680) (some (.t tI 128,[])) (br (ilt p0 15360) (some (.t tI 192,[])) (some (.t tI 256,[]))))))))
theorem s_f206 (b:Int):Qo4 b=some (.t tI (UL b),[]):=by
 simp only [Qo4]
 repeat' (refine Q8 ?_ ?_<;>intro _)
 all_goals simp only [ilt,igt,Ba,Bo] at*
 all_goals simp only [UL,FD,ZO,Gr,BE,BL,List.find?_cons,ilt]
 all_goals first
  |(rw [if_pos (by omega)];done)
  |(rw [if_neg (by omega)];repeat first|rw [Us (by omega)]|rw [QHp (by omega)]
    rfl)
def Qo5:Ent:=Qn (.pr tI .nil) (fun x=>true) (fun x=>(.t tI (UL x.1)))
theorem QzZ:EM 206 Qo5:=mS g_f206 QzY [((.t 2),some tI)] false (gB gN) fun m=>Qt m fun x _=>kT (s_f206 x.1)
theorem Qo6 (a:Int):((∀ k:Int,decide (1<=k/\k<=22)=true->ieq a k=false)/\(a<1∨22<a))∨(a=1∨a=2∨a=3∨a=4∨a=5∨a=6∨a=7∨a=8∨a=9∨a=10∨a=11∨a=12∨a=13∨a=14∨a=15∨a=16∨a=17∨a=18∨a=19∨a=20∨a=21∨a=22):=by
 by_cases hb:a<1∨22<a
 ·refine .inl ⟨fun k hk=> ?_,hb⟩
  simp only [Ba] at hk
  simp only [Zy,Bo]
  omega
 ·right
  omega
def Qz0:TC:=aF Tryz.f208 []
def g_f208:G:=gG 21 [] (fun _ _=>none)
def Qg0 (p0:Int):OV:=br (ieq p0 19) (some (.t tI 64,[])) (br (ieq p0 20) (some (.t tI 80,[])) (some (.t tI 0,[])))
def QaS (p0:Int):OV:=br (ieq p0 4) (some (.t tI 192,[])) (br (ieq p0 18) (br (ieq p0 18) (some (.t tI 256,[])) (Qg0 p0)) (br (ieq p0 22) (some (.t tI 256,[])) (Qg0 p0)))
def Qo7 (p0:Int):OV:=br (ieq p0 1) (some (.t tI 18,[])) (br (ieq p0 2) (some (.t tI 60,[])) (br (ieq p0 3) (br (ieq p0 3) (some (.t tI 128,[])) (QaS p0)) (br (ieq p0 8) (br (ieq p0 8) (some (.t tI 128,[])) (QaS p0)) (br (ieq p0 21) (some (.t tI 128,[])) (QaS p0)))))
theorem s_f208 (a:Int):Qo7 a=some (.t tI (YZ a),[]):=by
 rcases Qo6 a with ⟨e,hb⟩|hc
 ·have e1:YZ a=0:=by
   unfold YZ
   repeat rw [if_neg (by omega)]
  rw [e1]
  simp only [Qo7,QaS,Qg0,e 1 (by decide),e 2 (by decide),e 3 (by decide),e 4 (by decide),e 8 (by decide),e 18 (by decide),e 19 (by decide),e 20 (by decide),e 21 (by decide),e 22 (by decide),Ql]
 ·rcases hc with rfl|rfl|rfl|rfl|rfl|rfl|rfl|rfl|rfl|rfl|rfl|rfl|rfl|rfl|rfl|rfl|rfl|rfl|rfl|rfl|rfl|rfl<;>rfl
def Qo8:Ent:=Qn (.pr tI .nil) (fun x=>true) (fun x=>(.t tI (YZ x.1)))
theorem Qz1:EM 208 Qo8:=mS g_f208 Qz0 [((.t 2),some tI)] false (gB gN) fun m=>Qt m fun x _=>kT (s_f208 x.1)
def WS (_b:Int)(s t:List Int):Bool:=decide (s.length=t.length/\s.length<=100000)
abbrev QaT:Sh:=⟨[(0,.ty tI),(1,.ty (.sl tI)),(2,.ty (.sl tI)),(7,.ty tI)],[]⟩
abbrev Qo9:Sh:=⟨[(6,.ty tI)],[]⟩
abbrev Qpa:Sh:=⟨[],[]⟩
def Qg1:Fg:=QaT.f
def Qpb:TC:=aF Tryz.f207 [(26,pL 0 Qg1),(419,.fg Qpa.f),(3365,.fg Qo9.f)]
def Qpc:TC:=lb 0 Qpb
def Qpd (x0:Int)(x1 x2:List Int)(x7:Int):VS:=QaT.st (x0,x1,x2,x7,()) ()
def Qg2 (x6:Int):VS:=Qo9.st (x6,()) ()
def Qg3  : VS:=Qpa.st () ()
def Qz2:VS->Option (Bool×List (Bool×Exit×VS)):=mkL QaT (fun x y=>(decide (x.2.1.length=x.2.2.1.length/\x.2.1.length<=100000/\0<=x.2.2.2.1/\x.2.2.2.1<=x.2.1.length))) (fun x y=>[(((Js x.1 (x.2.1.drop x.2.2.2.1.toNat)).isSome),.ret,Qg2 (x.2.2.1.getD (x.2.2.2.1.toNat+(Js x.1 (x.2.1.drop x.2.2.2.1.toNat)).getD 0) 0)),(true,.exit 0,Qg3)])
def Qg4:G:=gG 24 [] (Ls [Qz2])
def QaU (x0:Int)(x1 x2:List Int)(x7:Int):OX:=Qx (Qz Qg4 Qg1 Qpc) (Qpd x0 x1 x2 x7)
def IQ (kk:Int->List Int->List Int->Int->OX)(x0:Int)(x1 x2:List Int)(x7:Int):OX:=br (ilt x7 (Qd x1)) (br (cIx x1 x7) (br (ieq (lgt tI x1 (Int.toNat x7)) x0) (br (cIx x2 x7) (some (.ret,Qg2 (lgt tI x2 (Int.toNat x7)))) none) (kk x0 x1 x2 (Qi .i64 x7 1))) none) (some (.exit 0,Qg3))
def QaV (x0:Int)(x1 x2:List Int)(x7:Int):OX:=
 let a1:=Js x0 (x1.drop x7.toNat)
 br (a1.isSome) (some (.ret,Qg2 (x2.getD (x7.toNat+a1.getD 0) 0)))<|some (.exit 0,Qg3)
theorem Qpe (x0:Int)(x1 x2:List Int)(x7:Int):QaU x0 x1 x2 x7=IQ QaU x0 x1 x2 x7:=lnT (x:=IQ (fun x0 x1 x2 x7=>some (.normal,Qpd x0 x1 x2 x7)) x0 x1 x2 x7) (by simp only [IQ,nxA];rfl)
def Qpf (p0:Int)(p1 p2:List Int):OV:=
 let a1:=(Js p0 (p1.drop (0:Int).toNat))
 br (decide (p1.length=p2.length/\p1.length<=100000/\0<=(0:Int)/\(0:Int)<=p1.length)) (br (a1.isSome) (some (.t tI (p2.getD ((0:Int).toNat+a1.getD 0) 0),[])) (some (.t tI 0,[]))) none
theorem Qz3 (x0:Int)(x1 x2:List Int)(x7:Int)(h:(decide (x1.length=x2.length/\x1.length<=100000/\0<=x7/\x7<=x1.length))=true):QaU x0 x1 x2 x7=QaV x0 x1 x2 x7:=by
 simp only [Ba] at h
 obtain ⟨h1,h2,h3,h4⟩:=h
 obtain ⟨k,rfl⟩:=Br h3
 refine QX x1 (fun k=>QaU x0 x1 x2 (k:Int)=QaV x0 x1 x2 (k:Int)) ?_ ?_ k (by omega)
 ·rw [Qpe]
  simp [IQ,QaV,QA,Qd,Ql,Js]
 ·intro k hk ih
  rw [Qpe]
  have hk2:k<x2.length:=by omega
  simp only [IQ,QA,Qd,QM,hk,hk2,Bx,Qg,Bd,QW (show k<4611686018427387904 by omega),ih,QP (y:=tI) hk,QP (y:=tI) hk2]
  simp only [QaV,Bd,Bj hk,Js,ieq]
  cases h:x1[k]==x0 with
  |true=>simp [h,Qg,Bn,Bi hk2]
  |false=>
   simp only [h,Ql,BG,Df]
   cases hq:Js x0 (x1.drop (k+1)) with
   |none=>rfl
   |some j=>
    simp only [B0,Dn,BU,Qg]
    rw [show k+1+j=k+(j+1) by omega]
theorem Qz4:LO Qg4 Qg1 Qpc 0:=QI (s:=QaT) fun x y h _ q=>by simp only [QG,QH] at q;exact (Qz3 x.1 x.2.1 x.2.2.1 x.2.2.2.1 h).trans q
theorem s_f207 (b:Int)(s t:List Int)(h:WS b s t=true):Qpf b s t=some (.t tI (JP b s t),[]):=by
 simp only [WS,Ba] at h
 simp only [Qpf,JP]
 rw [Us ⟨h.1,h.2,Dp 0,by omega⟩,Qg]
 simp only [BE,BL,DJ]
 cases Js b s<;>simp [Qg,Ql]
def Qpg:Ent:=Qn (.pr tI (.pr (.sl tI) (.pr (.sl tI) .nil))) (fun x=>(WS x.1 x.2.1 x.2.2.1)) (fun x=>(.t tI (JP x.1 x.2.1 x.2.2.1)))
theorem Qz5:EM 207 Qpg:=mS (lk:=lkL (lkc Qz4 lkn)) Qg4 Qpb [((.t 6),some tI)] false (gB gN) fun m=>Qt m fun x hok=>kT (s_f207 x.1 x.2.1 x.2.2.1 hok)
def Qz6:TC:=aF Tryz.f159 []
def g_f159:G:=gG 76 [(206,Qo5),(207,Qpg),(208,Qo8)] (fun _ _=>none)
def GE (p0:Keep):OV:=br (cNz 2) (some (.t tI (GC .i64 p0.2.1 2),[])) none
def IR (p0:Keep):OV:=br (ieq p0.2.1 160) (GE p0) (br (ieq p0.2.1 224) (GE p0) (br (ieq p0.2.1 256) (GE p0) (br (ieq p0.2.1 384) (GE p0) (br (ieq p0.2.1 521) (GE p0) (some (.t tI 0,[]))))))
def Qg5 (p0:Keep):OV:=br (WS p0.2.1 ([128,256]) ([128,256])) (some (.t tI (JP p0.2.1 ([128,256]) ([128,256])),[])) none
def Qg6 (p0:Keep):OV:=br (WS p0.2.1 ([0]) ([(YZ p0.1)])) (some (.t tI (JP p0.2.1 ([0]) ([(YZ p0.1)])),[])) none
def Qg7 (p0:Keep):OV:=br (ieq p0.1 9) (br (WS p0.2.1 ([44,65,87]) ([128,192,256])) (some (.t tI (JP p0.2.1 ([44,65,87]) ([128,192,256])),[])) none) (br (ieq p0.1 13) (br (WS p0.2.1 ([512,768,1024]) ([128,192,256])) (some (.t tI (JP p0.2.1 ([512,768,1024]) ([128,192,256])),[])) none) (br (ieq p0.1 14) (br (WS p0.2.1 ([40,128]) ([40,60])) (some (.t tI (JP p0.2.1 ([40,128]) ([40,60])),[])) none) (br (ieq p0.1 15) (br (WS p0.2.1 ([112,168]) ([80,112])) (some (.t tI (JP p0.2.1 ([112,168]) ([80,112])),[])) none) (br (ieq p0.1 16) (br (ieq p0.1 16) (Qg5 p0) (Qg6 p0)) (br (ieq p0.1 17) (Qg5 p0) (Qg6 p0))))))
def IS (p0:Keep):OV:=br (ieq p0.1 7) (br (ieq p0.1 7) (IR p0) (Qg7 p0)) (br (ieq p0.1 12) (IR p0) (Qg7 p0))
def Qph (p0:Keep):OV:=
 let a1:=UL p0.2.1
 br (ieq p0.1 5) (br (ieq p0.1 5) (some (.t tI a1,[])) (IS p0)) (br (ieq p0.1 6) (br (ieq p0.1 6) (some (.t tI a1,[])) (IS p0)) (br (ieq p0.1 10) (br (ieq p0.1 10) (some (.t tI a1,[])) (IS p0)) (br (ieq p0.1 11) (some (.t tI a1,[])) (IS p0))))
theorem s_f159 (u:Keep):Qph u=some (.t tI (YC u),[]):=by
 obtain ⟨a,b,c⟩:=u
 have hcv:IR (a,b,c)=some (.t tI (FU b),[]):=by
  have hh:Zp [160,224,256,384,521] b=(ieq b 160||(ieq b 224||(ieq b 256||(ieq b 384||ieq b 521)))):=by
   rw [DI]
   simp [Zp,ieq]
  simp only [IR,GE,show cNz 2=true from rfl,Qg,FU,hh]
  cases ieq b 160<;>cases ieq b 224<;>cases ieq b 256<;>cases ieq b 384<;>cases ieq b 521<;>rfl
 rcases Qo6 a with ⟨e,hb⟩|hc
 ·have e2:YC (a,b,c)=JP b [0] [YZ a]:=by
   unfold YC
   simp only
   repeat rw [if_neg (by omega)]
  rw [e2]
  simp only [Qph,IS,IR,GE,Qg7,Qg5,Qg6,e 5 (by decide),e 6 (by decide),e 7 (by decide),e 9 (by decide),e 10 (by decide),e 11 (by decide),e 12 (by decide),e 13 (by decide),e 14 (by decide),e 15 (by decide),e 16 (by decide),e 17 (by decide),Ql]
  rfl
 ·rcases hc with rfl|rfl|rfl|rfl|rfl|rfl|rfl|rfl|rfl|rfl|rfl|rfl|rfl|rfl|rfl|rfl|rfl|rfl|rfl|rfl|rfl|rfl
  all_goals first
   |rfl
   |exact hcv
def Qpi:Ent:=Qn (.pr Qk .nil) (fun x=>true) (fun x=>(.t tI (YC x.1)))
theorem Qz7:EM 159 Qpi:=mS g_f159 Qz6 [((.t 2),some tI)] false (gB (gD QzZ (gD Qz5 (gD Qz1 gN)))) fun m=>Qt m fun x _=>kT (s_f159 x.1)
def Qz8:TC:=aF Tryz.f105 []
def g_f105:G:=gG 6 [(159,Qpi)] (fun _ _=>none)
def r_f105 (p0:Keep):OV:=some (.t .bool (igt (YC p0) 0),[])
theorem s_f105 (u:Keep):r_f105 u=some (.t .bool (Jq u),[]):=rfl
def Qg8:Ent:=Qn (.pr Qk .nil) (fun x=>true) (fun x=>(.t .bool (Jq x.1)))
theorem Qpj:EM 105 Qg8:=mS g_f105 Qz8 [((.t 2),some .bool)] false (gB (gD Qz7 gN)) fun m=>Qt m fun x _=>kT (s_f105 x.1)
end Go.Proofs.YthlcobdnemhcdaaGreat.K
noncomputable section
namespace Go.Proofs.YthlcobdnemhcdaaGreat.K
open Go.RowKit
theorem QpG {d:Dice}{n:Int}(h:dOk d=true):dOk (Qe d n)=true:=QS h
theorem Y4 {d:Dice}{l:List Int}(h:dOk d=true):dOk (Qs d l)=true:=QS h
theorem UP {d:Dice}{l:List Int}(h:l≠[]):dof d l∈l:=by
 have hl:0<(l.length:Int):=by
  cases l with
  |nil=>exact absurd rfl h
  |cons a l=>rw [Bp];omega
 have h2:=Jm (d:=d) hl
 have h3:(Qj d l.length).toNat<l.length:=by omega
 unfold dof
 rw [Bn,Bi h3]
 exact Bu h3
def szL (a:Int):List Int:=
 if a=5∨a=6∨a=10∨a=11 then [2048,1024,512,3072,1023,4096,16384]
 else if a=7∨a=12 then [256,160,224,384,521]
 else if a=9 then [65,44,87]
 else if a=13 then [768,512,1024]
 else if a=14 then [128,40]
 else if a=15 then [168,112]
 else if a=16∨a=17 then [128,256]
 else []
def sizeV (d:Dice)(a:Int):Int:=if szL a=[] then 0 else dof d (szL a)
def sizeN (d:Dice)(a:Int):Dice:=if szL a=[] then d else Qs d (szL a)
end Go.Proofs.YthlcobdnemhcdaaGreat.K
noncomputable section
namespace Go.Proofs.YthlcobdnemhcdaaGreat.K
open Go.RowKit
noncomputable section
def Wo {α:Type}(l:List α)(n i:Int):Bool:=decide (n=l.length/\0<=i/\i<=n/\l.length<=9223372036854775807)
theorem Qts {α:Type}{l:List α}{n i:Int}(h:Wo l n i=true):n=l.length/\l.length<=9223372036854775807∧ ∃ k:Nat,i=k/\k<=l.length:=by
 simp only [Wo,Ba] at h
 obtain ⟨h1,h2,h3,h4⟩:=h
 exact ⟨h1,h4,i.toNat,by omega,by omega⟩
theorem Qtt {α:Type}{l:List α}(h:l.length<=9223372036854775807):Wo l (Qd l) 0=true:=by
 simp only [Wo,Ba,Qd]
 exact ⟨trivial,by omega,by omega,h⟩
theorem Qjh {k:Nat}(h:k<9223372036854775807):Qi .i64 (k:Int) 1=((k+1:Nat):Int):=by rw [JL (by omega)];omega
def Ja {α:Type}(m:α->Bool):List α->Option Nat
 | []=>none
 |a::l=>if m a then some 0 else (Ja m l).map (· + 1)
theorem OI {α:Type}{m:α->Bool}: ∀ {l:List α},Ja m l=none↔l.any m=false
 | []=>by simp [Ja]
 |a::l=>by
  have ih:=OI (m:=m) (l:=l)
  unfold Ja
  cases h:m a with
  |true=>simp [h]
  |false=>simpa [h] using ih
theorem Qtu {α:Type}{m:α->Bool}: ∀ {l:List α} {k:Nat},Ja m l=some k→ ∃ h:k<l.length,m l[k]=true
 | [],_,h=>by cases h
 |a::l,k,h=>by
  unfold Ja at h
  split at h
  ·rename_i ha
   injection h with h
   subst h
   exact ⟨by simp,ha⟩
  ·obtain ⟨j,h1,h2⟩:=Bf.1 h
   subst h2
   obtain ⟨q,h3⟩:=Qtu h1
   exact ⟨by simp only [Bp];omega,h3⟩
theorem Qji {α:Type}{m:α->Bool}{l:List α}:(Ja m l).isSome=l.any m:=by
 cases h:Ja m l with
 |none=>rw [OI.1 h];rfl
 |some k=>
  obtain ⟨q,h1⟩:=Qtu h
  exact (List.any_eq_true.2 ⟨l[k],Bu q,h1⟩).symm
theorem Ey (s:ByteArray):(QU s).length=s.size:=by simp [QU]
def hasS (l:List ByteArray)(v:ByteArray):Bool:=l.any (seq v)
def Xd (c:Int):Bool:=decide (32<c/\c<=126)
def Jv (s:ByteArray):Bool:=(QU s).all Xd&&decide (1<=s.size/\s.size<=32)
def Jk (s:ByteArray):Bool:=decide (s.size<=9223372036854775807)
abbrev QcT:Sh:=⟨[(0,.ty .str),(6,.ty (.sl (.int .u8))),(7,.ty tI),(8,.ty tI)],[]⟩
abbrev Qjj:Sh:=⟨[(2,.ty .bool)],[]⟩
abbrev Qtv:Sh:=⟨[(0,.ty .str)],[]⟩
def Qjk:Fg:=QcT.f
def Qtw:TC:=aF Tryz.f178 [(26,pL 0 Qjk),(421,.fg Qtv.f),(13517,.fg Qjj.f)]
def Qtx:TC:=lb 0 Qtw
def Qty (x0:ByteArray)(x6:List Int)(x7 x8:Int):VS:=QcT.st (x0,x6,x7,x8,()) ()
def U6 (x2:Bool):VS:=Qjj.st (x2,()) ()
def Qjl (x0:ByteArray):VS:=Qtv.st (x0,()) ()
def QE0:VS->Option (Bool×List (Bool×Exit×VS)):=mkL QcT (fun x y=>(Wo x.2.1 x.2.2.1 x.2.2.2.1)) (fun x y=>[((!((x.2.1.drop x.2.2.2.1.toNat).all Xd)),.ret,U6 (false)),(true,.exit 0,Qjl (x.1))])
def Qjm:G:=gG 27 [(29000144,IJ)] (Ls [QE0])
def QcU (x0:ByteArray)(x6:List Int)(x7 x8:Int):OX:=Qx (Qz Qjm Qjk Qtx) (Qty x0 x6 x7 x8)
def OJ (kk:ByteArray->List Int->Int->Int->OX)(x0:ByteArray)(x6:List Int)(x7 x8:Int):OX:=
 let a1:=lgt (.int .u8) x6 (Int.toNat x8)
 br (ilt x8 x7) (br (cIx x6 x8) (br (ile a1 32) (some (.ret,U6 false)) (br (igt a1 126) (some (.ret,U6 false)) (kk x0 x6 x7 (Qi .i64 x8 1)))) none) (some (.exit 0,Qjl x0))
def QcV (x0:ByteArray)(x6:List Int)(x7 x8:Int):OX:=br (!((x6.drop x8.toNat).all Xd)) (some (.ret,U6 (false)))<|some (.exit 0,Qjl (x0))
theorem Qtz (x0:ByteArray)(x6:List Int)(x7 x8:Int):QcU x0 x6 x7 x8=OJ QcU x0 x6 x7 x8:=lnT (x:=OJ (fun x0 x6 x7 x8=>some (.normal,Qty x0 x6 x7 x8)) x0 x6 x7 x8) (by simp only [OJ,nxA];rfl)
def QtA (p0:ByteArray):OV:=br (YA p0) (br (Wo (QU p0) (Qd (QU p0)) (0:Int)) (br (!(((QU p0).drop (0:Int).toNat).all Xd)) (some (.t .bool (false),[])) (br (ige (Zi (p0)) 1) (some (.t .bool (ile (Zi (p0)) 32),[])) (some (.t .bool false,[])))) none) none
theorem QE1 (x0:ByteArray)(x6:List Int)(x7 x8:Int)(h:(Wo x6 x7 x8)=true):QcU x0 x6 x7 x8=QcV x0 x6 x7 x8:=by
 obtain ⟨rfl,h3,k,rfl,hk⟩:=Qts h
 clear h
 refine QX x6 (fun k=>QcU x0 x6 (x6.length:Int) (k:Int)=QcV x0 x6 (x6.length:Int) (k:Int)) ?_ ?_ k hk
 ·rw [Qtz]
  simp [OJ,QcV,QA,Ql]
 ·intro k hk ih
  rw [Qtz]
  simp only [OJ,QA,QM,hk,Bx,Qg,Bd,Qjh (show k<9223372036854775807 by omega),QP (y:= .int .u8) hk,ih]
  simp only [QcV,Bd,Bj hk,B4,Xd]
  by_cases c1:x6[k]<=32
  ·rw [show ile x6[k] 32=true from Be c1,Qg,Bt (show ¬ (32<x6[k]/\x6[k]<=126) by omega)]
   rfl
  ·rw [show ile x6[k] 32=false from Bt c1,Ql]
   by_cases c2:126<x6[k]
   ·rw [show igt x6[k] 126=true from Be (by omega),Qg,Bt (show ¬ (32<x6[k]/\x6[k]<=126) by omega)]
    rfl
   ·rw [show igt x6[k] 126=false from Bt (by omega),Ql,Be (show 32<x6[k]/\x6[k]<=126 by omega),By]
theorem QE2:LO Qjm Qjk Qtx 0:=QI (s:=QcT) fun x y h _ q=>by simp only [QG,QH] at q;exact (QE1 x.1 x.2.1 x.2.2.1 x.2.2.2.1 h).trans q
theorem s_f178 (s:ByteArray)(h:Jk s=true):QtA s=some (.t .bool (Jv s),[]):=by
 simp only [Jk,Ba] at h
 have hl:=Ey s
 simp only [QtA,show YA s=true from Be (by omega),Qtt (show (QU s).length<=9223372036854775807 by omega),Qg,BE,BL,Jv]
 cases (QU s).all Xd with
 |false=>rfl
 |true=>
  simp only [BI,Ql,By]
  refine Q8 (fun g=> ?_) (fun g=> ?_)
  ·simp only [ige,Zi,Ba] at g
   apply ES
   rw [DI]
   simp only [ile,Zi,Ba]
   omega
  ·simp only [ige,Zi,Bo] at g
   apply ES
   rw [eq_comm,Bo]
   omega
def QcW:Ent:=Qn (.pr .str .nil) (fun x=>(Jk x.1)) (fun x=>(.t .bool (Jv x.1)))
theorem Qjn:EM 178 QcW:=mS (lk:=lkL (lkc QE2 lkn)) Qjm Qtw [((.t 2),some .bool)] false (gB (gC QaD QaE gN)) fun m=>Qt m fun x hok=>kT (s_f178 x.1 hok)
theorem QE3 {s:ByteArray}{k:Nat}(h:k<s.size):sgt s (k:Int)=(QU s)[k]'(by rw [Ey];exact h):=by
 have hl:k<s.data.toList.length:=by simpa using h
 simp only [sgt,QU,Bd,List.getElem_map,Bn,Bi hl,BU]
abbrev QcX:Sh:=⟨[(0,.ty .str),(3,.ty tI)],[]⟩
abbrev QtB:Sh:=⟨[],[]⟩
def Qjo:Fg:=QcX.f
def QtC:TC:=aF Tryz.f187 [(58,pL 0 Qjo),(931,.fg QtB.f),(7461,.fg Qjj.f)]
def QtD:TC:=lb 0 QtC
def QtE (x0:ByteArray)(x3:Int):VS:=QcX.st (x0,x3,()) ()
def Qjp  : VS:=QtB.st () ()
def QE4:VS->Option (Bool×List (Bool×Exit×VS)):=mkL QcX (fun x y=>(Jk x.1&&decide (0<=x.2.1/\x.2.1<=x.1.size))) (fun x y=>[((!(((QU x.1).drop x.2.1.toNat).all Xd)),.ret,U6 (false)),(true,.exit 0,Qjp)])
def Qjq:G:=gG 28 [] (Ls [QE4])
def QcY (x0:ByteArray)(x3:Int):OX:=Qx (Qz Qjq Qjo QtD) (QtE x0 x3)
def OK (kk:ByteArray->Int->OX)(x0:ByteArray)(x3:Int):OX:=br (ilt x3 (Zi x0)) (br (cSx x0 x3) (br (ilt (sgt x0 x3) 33) (some (.ret,U6 false)) (br (cSx x0 x3) (br (igt (sgt x0 x3) 126) (some (.ret,U6 false)) (kk x0 (Qi .i64 x3 1))) none)) none) (some (.exit 0,Qjp))
def QcZ (x0:ByteArray)(x3:Int):OX:=br (!(((QU x0).drop x3.toNat).all Xd)) (some (.ret,U6 (false)))<|some (.exit 0,Qjp)
theorem QtF (x0:ByteArray)(x3:Int):QcY x0 x3=OK QcY x0 x3:=lnT (x:=OK (fun x0 x3=>some (.normal,QtE x0 x3)) x0 x3) (by simp only [OK,nxA];rfl)
def QtG (p0:ByteArray):OV:=br (ilt (Zi p0) 1) (some (.t .bool false,[])) (br (igt (Zi p0) 32) (some (.t .bool false,[])) (br (Jk p0&&decide (0<=(0:Int)/\(0:Int)<=p0.size)) (br (!(((QU p0).drop (0:Int).toNat).all Xd)) (some (.t .bool (false),[])) (some (.t .bool true,[]))) none))
theorem QE5 (x0:ByteArray)(x3:Int)(h:(Jk x0&&decide (0<=x3/\x3<=x0.size))=true):QcY x0 x3=QcZ x0 x3:=by
 simp only [Jk,Bc,Ba] at h
 obtain ⟨h0,h1,h2⟩:=h
 obtain ⟨k,rfl⟩:=Br h1
 have hl:=Ey x0
 refine QX (QU x0) (fun k=>QcY x0 (k:Int)=QcZ x0 (k:Int)) ?_ ?_ k (by omega)
 ·rw [QtF]
  simp [OK,QcZ,ilt,Zi,hl,Ql,DA (show (QU x0).length<=x0.size by omega)]
 ·intro k hk ih
  have hk2:k<x0.size:=by omega
  rw [QtF]
  simp only [OK,show ilt (k:Int) (Zi x0)=true from by simp only [ilt,Zi,Ba];omega,show cSx x0 (k:Int)=true from by simp only [cSx,Ba];omega,Qg,QE3 hk2,Qjh (show k<9223372036854775807 by omega),ih]
  simp only [QcZ,Bd,Bj hk,B4,Xd]
  by_cases c1:(QU x0)[k]<33
  ·rw [show ilt (QU x0)[k] 33=true from Be c1,Qg,Bt (show ¬ (32<(QU x0)[k]/\(QU x0)[k]<=126) by omega)]
   rfl
  ·rw [show ilt (QU x0)[k] 33=false from Bt c1,Ql]
   by_cases c2:126<(QU x0)[k]
   ·rw [show igt (QU x0)[k] 126=true from Be c2,Qg,Bt (show ¬ (32<(QU x0)[k]/\(QU x0)[k]<=126) by omega)]
    rfl
   ·rw [show igt (QU x0)[k] 126=false from Bt c2,Ql,Be (show 32<(QU x0)[k]/\(QU x0)[k]<=126 by omega),By]
theorem QE6:LO Qjq Qjo QtD 0:=QI (s:=QcX) fun x y h _ q=>by simp only [QG,QH] at q;exact (QE5 x.1 x.2.1 h).trans q
theorem s_f187 (s:ByteArray)(h:Jk s=true):QtG s=some (.t .bool (Jv s),[]):=by
 simp only [QtG]
 unfold Jv
 refine Q8 (fun g=> ?_) (fun g=>Q8 (fun g2=> ?_) (fun g2=> ?_))
 ·simp only [ilt,Zi,Ba] at g
  rw [Bt (show ¬ (1<=s.size/\s.size<=32) by omega),Bool.and_false]
 ·simp only [igt,Zi,Ba] at g2
  rw [Bt (show ¬ (1<=s.size/\s.size<=32) by omega),Bool.and_false]
 ·simp only [ilt,igt,Zi,Bo] at g g2
  rw [h,Be (show (0:Int)<=0/\(0:Int)<=s.size by omega),Be (show 1<=s.size/\s.size<=32 by omega),Dh,Dh,Qg,BE,BL]
  cases (QU s).all Xd<;>rfl
def QtH:Ent:=Qn (.pr .str .nil) (fun x=>(Jk x.1)) (fun x=>(.t .bool (Jv x.1)))
theorem QE7:EM 187 QtH:=mS (lk:=lkL (lkc QE6 lkn)) Qjq QtC [((.t 2),some .bool)] false (gB gN) fun m=>Qt m fun x hok=>kT (s_f187 x.1 hok)
def J7 (d:Dice)(l:List ByteArray):ByteArray:=l.getD (Qj d l.length).toNat ByteArray.empty
def Yr (d:Dice)(l:List ByteArray):Dice:=Qe d l.length
def YO (d:Dice)(l:List ByteArray):Bool:=dOk d&&decide (0<l.length/\l.length<4611686018427387904)
def tc_f49:TC:=aF Tryz.f49 []
def g_f49:G:=gG 12 [(32,Ut)] (fun _ _=>none)
def r_f49 (d0:Dice)(p1:List ByteArray):OV:=br (QC d0 (Qd p1)) (br (cIx p1 (Qj d0 (Qd p1))) (some (.t .str (lgt .str p1 (Int.toNat (Qj d0 (Qd p1)))),[.box (.t QB (Qe d0 (Qd p1)))])) none) none
theorem s_f49 (d:Dice)(l:List ByteArray)(h:YO d l=true):r_f49 d l=some (.t .str (J7 d l),[.box (.t QB (Yr d l))]):=by
 simp only [YO,Bc,Ba] at h
 obtain ⟨h1,h2,h3⟩:=h
 simp only [r_f49]
 have e1:QC d (Qd l)=true:=by simp only [QC,h1,Qd,By,Ba];omega
 rw [e1,Qg]
 have h4:=Jm (d:=d) (n:=Qd l) (by unfold Qd;omega)
 have e2:cIx l (Qj d (Qd l))=true:=by simp only [cIx,Ba];exact h4
 rw [e2,Qg]
 rfl
def Qc0:Ent:=UH QB (.pr (.sl .str) .nil) (fun d x=>(YO d x.1)) (fun d x=>(.t .str (J7 d x.1))) (fun d x=>(Yr d x.1))
theorem Qjr:EM 49 Qc0:=mS g_f49 tc_f49 [((.t 4),some .str)] false (gB (gD Gj gN)) fun m=>FN m rfl fun d x hok=>kT (s_f49 d x.1 hok)
end
end Go.Proofs.YthlcobdnemhcdaaGreat.K
noncomputable section
namespace Go.Proofs.YthlcobdnemhcdaaGreat.K
open Go.RowKit
def byt (n:Int)(k:Nat):Int:=(n / 256 ^ k) % 256
theorem QgA (a:Int):icv .u8 a=a % 256:=by
 show IntKind.u8.wrap a=_
 simp [IntKind.wrap,IntKind.bits,IntKind.signed]
theorem Qzi {kd:IntKind}(hb:kd.bits=64)(a:Int)(k:Nat)(hk:k<=8):XF kd a ((8*k:Nat):Int)=a / 256 ^ k:=by
 unfold XF
 rw [Bd,hb,Nat.min_eq_left (by omega),Int.fdiv_eq_ediv_of_nonneg _ (by exact Int.pow_nonneg (by decide)),Int.pow_mul]
 rfl
def WK (n:Int):Nat->List Int
 |0=>[]
 |k+1=>byt n k::WK n k
theorem Qol (n:Int): ∀ k,(WK n k).length=k
 |0=>rfl
 |k+1=>by rw [WK,Bp,Qol n k]
def nbN (n:Int):Nat:=
 if-128<=n/\n<128 then 1 else if-32768<=n/\n<32768 then 2 else if-8388608<=n/\n<8388608 then 3
 else if-2147483648<=n/\n<2147483648 then 4 else if-549755813888<=n/\n<549755813888 then 5
 else if-140737488355328<=n/\n<140737488355328 then 6 else if-36028797018963968<=n/\n<36028797018963968 then 7 else 8
theorem Qaw (n:Int):nbN n<=8:=by unfold nbN;(repeat' split)<;>omega
def Yy (x b:Int):Bool:=(x != 0&&x != -1)||(x==0&&decide (b≥128))||(x== -1&&decide (b<128))
def J4:Nat->Int->List Int->List Int
 |0,_,b=>b
 |k+1,x,b=>bif Yy x (b.headD 0) then J4 k (x / 256) (x % 256::b) else b
theorem Qzj (x y:Int):Yy x y=true↔((x≠0/\x≠ -1)∨(x=0/\y≥128)∨(x= -1/\y<128)):=by simp [Yy,or_assoc]
theorem FH (n:Int){k:Nat}(h:1<=k):WK n k=byt n (k-1)::WK n (k-1):=by
 obtain ⟨j,rfl⟩: ∃ j,k=j+1:=⟨k-1,by omega⟩
 rfl
theorem QgB {n:Int}(k:Nat)(h1:k<=8)(h0:1<=k)(h: -9223372036854775808<=n/\n<9223372036854775808):Yy (n / 256 ^ k) (byt n (k-1))=decide (k<nbN n):=by
 have key:((n / 256 ^ k≠0/\n / 256 ^ k≠ -1)∨(n / 256 ^ k=0/\byt n (k-1)≥128)∨(n / 256 ^ k= -1/\byt n (k-1)<128))↔k<nbN n:=by
  unfold nbN byt
  have:k=1∨k=2∨k=3∨k=4∨k=5∨k=6∨k=7∨k=8:=by omega
  rcases this with rfl|rfl|rfl|rfl|rfl|rfl|rfl|rfl<;>simp only [Int.reducePow,Nat.reduceSub]<;>(repeat' split)<;>omega
 rw [DI,Qzj,decide_eq_true_iff,key]
theorem Qzk (n:Int):1<=nbN n:=by unfold nbN;(repeat' split)<;>omega
theorem Qom {n:Int}(h: -9223372036854775808<=n/\n<9223372036854775808): ∀ f k,1<=k->k<=nbN n->nbN n-k<=f->J4 (f+1) (n / 256 ^ k) (WK n k)=WK n (nbN n)
 |0,k,h1,h2,h3=>by
  have e:k=nbN n:=by omega
  rw [FH n h1,J4,List.headD_cons,QgB k (by have:=Qaw n;omega) h1 h,Bt (by omega),B3, ← e, ← FH n h1]
 |f+1,k,h1,h2,h3=>by
  have h8:=Qaw n
  rcases B7 k (nbN n) with h4|h4
  ·rw [FH n h1,J4,List.headD_cons,QgB k (by omega) h1 h,Be (by omega),Db]
   have e:n / 256 ^ k / 256=n / 256 ^ (k+1):=by rw [Int.pow_succ,Int.ediv_ediv_of_nonneg (Int.pow_nonneg (by decide))]
   rw [e, ← FH n h1]
   exact Qom h f (k+1) (by omega) (by omega) (by omega)
  ·have e:k=nbN n:=by omega
   rw [FH n h1,J4,List.headD_cons,QgB k (by omega) h1 h,Bt (by omega),B3, ← e, ← FH n h1]
def Gu (n:Int):List Int:=WK n (nbN n)
theorem Qzl {n:Int}(h: -9223372036854775808<=n/\n<9223372036854775808):J4 9 (n / 256) [byt n 0]=Gu n:=by
 have:=Qom h 8 1 (Bv _) (Qzk n) (by have:=Qaw n;omega)
 simpa [WK,Gu] using this
def Zz:Nat->Nat->List Int
 |0,_=>[]
 |f+1,n=>if n=0 then [] else Zz f (n / 256)++[((n % 256:Nat):Int)]
def YV:Nat->Nat->Nat
 |0,_=>0
 |f+1,n=>if n=0 then 0 else YV f (n / 256)+1
theorem QgC: ∀ f n,(Zz f n).length=YV f n
 |0,_=>rfl
 |f+1,n=>by
  simp only [Zz,YV]
  split
  ·rfl
  ·rw [Bm,QgC f];rfl
theorem QgD: ∀ f n,YV f n<=f
 |0,_=>Bv _
 |f+1,n=>by
  simp only [YV]
  split
  ·omega
  ·have:=QgD f (n / 256);omega
theorem Qzm (n k:Nat):byt (n:Int) k=((n / 256 ^ k % 256:Nat):Int):=by
 unfold byt
 have:(256:Int) ^ k=((256 ^ k:Nat):Int):=by simp
 rw [this]
 omega
def UE (n:Nat):List Int:=if n<128 then [(n:Int)] else (((128+YV 8 n:Nat)):Int)::Zz 8 n
mutual
def Qax:Val->List Int
 |.mk t b _ es=>icv .u8 t::(UE (b.length+(Zq es).length)++(b++Zq es))
def Zq:List Val->List Int
 | []=>[]
 |v::r=>Qax v++Zq r
end
mutual
def UF:Val->Nat
 |.mk _ _ _ es=>FI es+1
def FI:List Val->Nat
 | []=>0
 |v::r=>max (UF v) (FI r)
end
def okV:Nat->Val->Bool
 |0,_=>false
 |n+1,.mk t b nst es=>(t==1||t==2||t==12||t==48)&&(nst==(t==48))&&(bif nst then b.isEmpty else es.isEmpty)&&decide (b.length<=100000/\es.length<=100000)&&es.all (okV n)
theorem Qon {n:Nat}{t:Int}{b:List Int}{q:Bool}{es:List Val}(h:okV (n+1) (.mk t b q es)=true):
  (t=1∨t=2∨t=12∨t=48)/\q=(t==48)/\(q=true->b=[])/\(q=false->es=[])/\b.length<=100000/\es.length<=100000∧ ∀ v∈es,okV n v=true:=by
 simp only [okV,Bc,Dc,De,Ba,Bg] at h
 obtain ⟨⟨⟨⟨h1,h2⟩,h3⟩,h4⟩,h5⟩:=h
 refine ⟨by omega,h2,fun hq=> ?_,fun hq=> ?_,h4.1,h4.2,h5⟩
 ·rw [hq,Db] at h3
  exact DN.1 h3
 ·rw [hq,B3] at h3
  exact DN.1 h3
theorem okV_up: ∀ {n:Nat} {v:Val},okV n v=true->okV (n+1) v=true
 |0,_,h=>by cases h
 |n+1,.mk t b q es,h=>by
  simp only [okV,Bc,Bg] at h ⊢
  exact ⟨h.1,fun v hv=>by have:=okV_up (h.2 v hv);simpa only [okV] using this⟩
theorem Qoo: ∀ {n:Nat} {es:List Val},(∀ v∈es,UF v<=n)->FI es<=n
 |_,[],_=>BZ _
 |n,v::r,h=>by
  rw [FI]
  have:=h v (by simp)
  have:=Qoo (es:=r) fun u hu=>h u (by simp [hu])
  omega
theorem Qay: ∀ {n:Nat} {v:Val},okV n v=true->UF v<=n
 |0,_,h=>by cases h
 |n+1,.mk t b q es,h=>by
  rw [UF]
  have:=Qoo (n:=n) fun v hv=>Qay ((Qon h).2.2.2.2.2.2 v hv)
  omega
theorem Qzn (t:Int)(b:List Int)(q:Bool)(es:List Val):b.length+(Zq es).length<=(Qax (.mk t b q es)).length:=by
 rw [Qax,Bp,Bm,Bm]
 omega
end Go.Proofs.YthlcobdnemhcdaaGreat.K
noncomputable section
namespace Go.Proofs.YthlcobdnemhcdaaGreat.K
open Go.RowKit
mutual
def V.plain:V->Bool
 |.t (.int _) _=>true
 |.t .bool _=>true
 |.tu vs=>V.plains vs
 |_=>false
def V.plains:List V->Bool
 | []=>true
 |v::vs=>v.plain&&V.plains vs
end
section
variable {X X':Nat->Nat->Prop}{w w':World}{σ σ':Pl}
mutual
theorem Qxg: ∀ (v:V) (u:Value),v.plain=true->C X w σ v.d u->C X' w' σ' v.d u
 |.t (.int _) x,u,_,h=>by simpa only [V.d,Ty.d,C] using h
 |.t .bool x,u,_,h=>by simpa only [V.d,Ty.d,C] using h
 |.tu vs,u,hp,h=>by
  simp only [V.plain] at hp
  simp only [V.d,C] at h ⊢
  obtain ⟨us,h1,h2⟩:=h
  exact ⟨us,h1,Qmq vs us hp h2⟩
theorem Qmq: ∀ (vs:List V) (us:List Value),V.plains vs=true->Cs X w σ (V.ds vs) us->Cs X' w' σ' (V.ds vs) us
 | [],us,_,h=>by simpa only [V.ds,Cs] using h
 |v::vs,us,hp,h=>by
  simp only [V.plains,Bc] at hp
  simp only [V.ds,Cs] at h ⊢
  obtain ⟨u,us',h1,h2,h3⟩:=h
  exact ⟨u,us',h1,Qxg v u hp.1 h2,Qmq vs us' hp.2 h3⟩
end
end
section
variable {P:Program}
end
end Go.Proofs.YthlcobdnemhcdaaGreat.K
noncomputable section
namespace Go.Proofs.YthlcobdnemhcdaaGreat.K
open Go.RowKit
section
variable {P:Program}
theorem Qcl {f:FuncId}{e:Nat}{y:Ty}{N:Nat}{ok:(Ty.pr (.sl y) .nil).T->Bool}(hlt:f<1000000)
  (hok: ∀ x,ok x=true->x.1.length<=N)
  (h: ∀ (A:Option Addr) (c n:Nat) (cells:List Value) (w:World),Sl w (.slice A n c) y.sz n cells->(∀ u∈cells,u.oneCell'=true)->n<=N→
   Calls P f #[.slice A n c] w fun r w'=> ∃ sv,r= .returned sv/\w'.ownsRow w.heap.size e y.sz sv n cells/\Below w.heap.size w w'):
  Qp P f (Qr (Xp (.pr (.sl y) .nil) ok (fun _=> .ms 50000) (fun x=>[.arr e y x.1]))):=by
 intro args objs r os hF X w σ vs hfin hl hc
 unfold Qr Xp at hF
 cases objs with
 |cons o os'=>simp at hF
 |nil=>
  simp only at hF
  cases ha:(Ty.pr (.sl y) .nil).args args with
  |none=>rw [ha] at hF;cases hF
  |some x=>
   rw [ha] at hF
   simp only at hF
   split at hF
   ·rename_i r' os' hq
    simp only [Bb,Bk] at hF hq
    obtain ⟨rfl,rfl⟩:=hF
    obtain ⟨h1,rfl,rfl⟩:=hq
    have hcc:=WO ha hc
    obtain ⟨l,u0⟩:=x
    have hlen:=hok _ h1
    simp only [Ty.canon,V.ds,V.d,Ty.d,Cs,C] at hcc
    obtain ⟨u,us,rfl,⟨A,c,rfl,hnc,hmx,hz,hp⟩,rfl⟩:=hcc
    have hsl: ∃ cells,Sl w (.slice A l.length c) y.sz l.length cells/\(∀ u∈cells,u.oneCell'=true)/\Cs X w QO (List.flatMap y.cells l) cells:=by
     by_cases hq:l=[]
     ·subst hq
      exact ⟨[],⟨by simp,A,c,rfl,BZ _,hmx,fun hn=>absurd hn (by simp)⟩,fun u hu=>(by cases hu),by simp [Cs]⟩
     ·have hn:0<l.length:=List.length_pos_iff.2 hq
      obtain ⟨b,off,vs,rfl,g1,g2⟩:=hp hn
      have hvl:=Cs.len g1
      rw [Wj] at hvl
      exact ⟨vs,⟨hvl,_,c,rfl,hnc,hmx,fun _=>⟨b,off,rfl,g2.lt,fun j u hu=>g2.at_ j u hu⟩⟩,g2.one,g1⟩
    obtain ⟨cells,s1,s2,s3⟩:=hsl
    refine (OP hlt (h A c l.length cells w s1 s2 hlen)).mono ?_
    rintro _ w' ⟨sv,rfl,ho,hb⟩
    let X':Nat->Nat->Prop:=fun b q=>X b q∨some b=sv.ownBlock
    let σ':Pl:=fun k=>if k=50000 then .arr sv else σ k
    have hsv:sv.oneCell'=true:=by
     rcases ho.2 with ⟨rfl,_⟩|⟨g,cap,cur,rfl,_⟩<;>rfl
    have hlo: ∀ b,sv.ownBlock=some b->w.heap.size<=b/\b<w'.heap.size:=fun b hbk=>ho.lt b hbk
    have ex:Ext0 X w X' w':=⟨hb.size,fun b q hbl hx=>⟨fun hx'=>by
     rcases hx' with hx'|hx'
     ·exact hx hx'
     ·have:=hlo b hx'.symm
      omega,World.cell?_of_block (w:=w) (a:=⟨b,q,none⟩) (hb.block b hbl)⟩⟩
    have e0:σ' 50000= .arr sv:=if_pos rfl
    refine ⟨sv,X',σ',rfl, ?_,⟨fun b q hq=> ?_,fun j o hj=> ?_,fun i j b hij hi hj=>by simp at hi hj;omega,by simp,fun j hj=>by simp at hj,fun j b _ hj hl=> ?_,QoP hb,fun b q hbl hq=> ?_,fun b q _ _ hq=> .inl hq⟩⟩
    ·simp only [V.d,C]
     exact ⟨e0,hsv⟩
    ·rcases hq with hq|hq
     ·exact BX (hfin b q hq) hb.size
     ·exact (hlo b hq.symm).2
    ·cases j with
     |zero=>
      simp only [BR,Bb] at hj
      subst hj
      have ho0:w'.ownsRow 0 e y.sz sv l.length cells:=by
       refine ⟨ho.1, ?_⟩
       rcases ho.2 with hq|⟨g,cap,cur,q1,q2,q3⟩
       ·exact .inl hq
       ·exact .inr ⟨g,cap,cur,q1,BZ _,q3⟩
      exact ⟨⟨sv,cells,e0,.of ho0,Cs.ext0 ex _ _ (fun _ _=>rfl) s3,s2,fun b hbk o=> .inr hbk.symm⟩,fun _ h=>by cases h⟩
     |succ j=>simp at hj
    ·simp only [Bp,BD] at hj
     have:j=0:=by omega
     subst this
     left
     rw [show 50000+0=50000 from rfl,e0] at hl
     exact (hlo b hl).1
    ·rcases hq with hq|hq
     ·exact hq
     ·have:=hlo b hq.symm
      omega
   ·cases hF
theorem QDd {f:FuncId}{e:Nat}{y:Ty}{a:Ty}{ok:a.T->Bool}{L:a.T->List y.T}(h:Qp P f (Qr (Xp a ok (fun _=> .ms 50000) (fun x=>[.arr e y (L x)])))):Qp P f (Qr (Qn a ok (fun x=> .t (.sl y) (L x)))):=by
 intro args objs r os hF X w σ vs hfin hl hc
 unfold Qr Qn at hF
 cases objs with
 |cons o os'=>simp at hF
 |nil=>
  simp only at hF
  cases ha:a.args args with
  |none=>rw [ha] at hF;cases hF
  |some x=>
   rw [ha] at hF
   simp only at hF
   split at hF
   ·rename_i r' os' hq
    simp only [Bb,Bk] at hF hq
    obtain ⟨rfl,rfl⟩:=hF
    obtain ⟨h1,rfl,rfl⟩:=hq
    have h2:=h args [] (.ms 50000) [.arr e y (L x)] (by unfold Qr Xp;simp only [ha,h1]) X w σ vs hfin hl hc
    refine h2.mono ?_
    rintro e0 w' ⟨u,X',σ',rfl,hu,hE⟩
    have hat:=(hE.at_ 0 _ rfl).1
    let X'':Nat->Nat->Prop:=fun b q=>X' b q/\(σ' 50000).blk≠some b
    have ex:Ext X' w' X'' w':=⟨Bv _,fun b q _ hx=>⟨fun hx'=>hx hx'.1,rfl⟩,fun _ _ _=>rfl⟩
    have hX: ∀ u b,σ' 50000= .arr u->u.ownBlock=some b→ ∀ q, ¬ X'' b q:=fun u b h1 h2 q hx=>hx.2 (by rw [h1];exact h2)
    have hz:=XJ (k:=50000) (y:=y) (l:=L x) (e:=e) hat ex hX (.ms 50000) u hu
    simp only [V.fz,if_true] at hz
    refine ⟨u,X'',σ',rfl,hz,⟨fun b q hq=>hE.fin b q hq.1,fun j o hj=>by simp at hj,fun i j b _ hi=>absurd hi (by simp),by simp,fun j hj=>absurd hj (by simp),fun j b _ hj=>absurd hj (by simp),hE.fr,fun b q hb hq=>hE.sub b q hb hq.1,fun b q hb hn hq=>⟨hE.old b q hb (fun i hi=>absurd hi (by simp)) hq,fun hb2=> ?_⟩⟩⟩
    rcases hE.new 0 b (BZ _) (by simp) hb2 with h3|⟨i,hi,_⟩
    ·omega
    ·exact absurd hi (by simp)
   ·cases hF
end
end Go.Proofs.YthlcobdnemhcdaaGreat.K
noncomputable section
namespace Go.Proofs.YthlcobdnemhcdaaGreat.K
open Go.RowKit
noncomputable section
theorem Jr {α:Type}{l l2:List α}{c:Nat}(hc:c<=1000)(h:l.length+l2.length<=100000000000):Qw l l2 c=true:=by
 simp only [Qw,Ba]
 have:(l.length+l2.length)*(c+1)<=100000000000*1001:=Nat.mul_le_mul h (by omega)
 omega
def Qhk (l:List Int):List Int:=l
def Qhl (l:List Int):Bool:=decide (l.length<=4000000)
def QpH:Ent:=Qn (.pr (.sl (.int .u8)) .nil) (fun x=>(Qhl x.1)) (fun x=>(.t (.sl (.int .u8)) (Qhk x.1)))
theorem QAt:QV Tryz.prog 310:= .inr ⟨by decide,_,Tryz.func310,by kernel_rfl,by kernel_rfl⟩
theorem elemU8:ElemOk Tryz.prog 175 5 1 1:=ElemOk.of (.int .u8 0) (by kernel_rfl) (by kernel_rfl) (by kernel_rfl) (by decide)
theorem QAu {P:Program}(w:World)(t e:TypeId)(a:Option Addr)(l c:Nat)(h:P.underlying t=some (.slice e)):(binOp .eql t (.slice a l c) (.slice none 0 0)).run P w= .ok (.bool a.isNone) w:=by
 simp [binOp,run_equal_slice_nil w t e a l c h]
set_option maxHeartbeats 400000 in
theorem QAv (A:Option Addr)(c n:Nat)(cells:List Value)(w:World)(h:Sl w (.slice A n c) 1 n cells)(h1: ∀ u∈cells,u.oneCell'=true)(hn:n<=4000000):
  Calls Tryz.prog 310 #[.slice A n c] w fun r w'=> ∃ sv,r= .returned sv/\w'.ownsRow w.heap.size 5 1 sv n cells/\Below w.heap.size w w':=by
 have he:=QAu (P:=Tryz.prog) w 175 5 A n c (by kernel_rfl)
 rcases A with _|ad
 ·have hnil:n=0:=Dr fun h0=>by
   obtain ⟨_,A',c',hv,_,_,h3⟩:=h
   obtain ⟨b,off,e,_⟩:=h3 (by omega)
   rw [e] at hv
   simp at hv
  subst hnil
  have hc:cells=[]:=Bq (by rw [h.1,DC])
  subst hc
  clear h
  simp only [DT] at he
  go_enter Tryz.func310,Tryz.ntmps310
  go_wp2_with fail
  go_ret
  exact ⟨_,rfl,World.ownsRow_nil _ _ _ _,Below.refl _ _⟩
 ·simp only [DU] at he
  have hown:=World.ownsRow_made w #[] (size:=1) (e:=5) 0 (Bv _) (BZ _) rfl
  have hsrc:=h.alloc (.cells #[] 5)
  have HSRC:=Lib.hid hsrc
  clear h hsrc
  go_enter Tryz.func310,Tryz.ntmps310
  go_wp2_with (at_builtin;refine Ej elemU8 rfl _ _ rfl w.heap.size (.slice (some ⟨w.heap.size,0,none⟩) 0 0) 0 [] rfl hown (some ad) n c cells rfl HSRC.out h1 (by omega) (by omega) (by simp) ?_;intro v' w4 hown4 hg4 hat4)
  go_ret
  refine ⟨v',rfl,by simpa using hown4, ?_⟩
  have hal:=(Below.refl w.heap.size w).alloc (Bv _) (.cells #[] 5)
  exact U3 hal hg4 (Bv _) hal.size
theorem QAw:Qp Tryz.prog 310 (Qr QpH):=
 QDd (a:= .pr (.sl (.int .u8)) .nil) (e:=5) (y:= .int .u8) (L:=fun x=>x.1) (Qcl (e:=5) (y:= .int .u8) (by decide) (fun x hx=>BC hx) fun A c n cells w h h1 hn=>QAv A c n cells w h h1 hn)
def IX (n:Int):Bool:=decide (1<=n/\n<=255)&&(GW .i64 n 31 != 31)
def QAx:TC:=aF Tryz.f305 []
def g_f305:G:=gG 14 [] (fun _ _=>none)
def QpI (p0:Int):OV:=br (ige p0 1) (br (ile p0 255) (some (.t .bool (ine (GW .i64 p0 31) 31),[])) (some (.t .bool false,[]))) (some (.t .bool false,[]))
theorem s_f305 (n:Int):QpI n=some (.t .bool (IX n),[]):=by
 simp only [QpI]
 unfold IX
 refine Q8 (fun h1=>Q8 (fun h2=> ?_) (fun h2=> ?_)) (fun h1=> ?_)
 ·simp only [ige,ile,Ba] at h1 h2
  rw [Be (show 1<=n/\n<=255 by omega),By]
 ·simp only [ige,ile,Ba,Bo] at h1 h2
  rw [Bt (show ¬ (1<=n/\n<=255) by omega),Bool.false_and]
 ·simp only [ige,Bo] at h1
  rw [Bt (show ¬ (1<=n/\n<=255) by omega),Bool.false_and]
def QpJ:Ent:=Qn (.pr tI .nil) (fun x=>true) (fun x=>(.t .bool (IX x.1)))
theorem QAy:EM 305 QpJ:=mS g_f305 QAx [((.t 2),some .bool)] false (gB gN) fun m=>Qt m fun x _=>kT (s_f305 x.1)
def IY (n:Int):Bool:=decide (1<=n/\n<=255)&&(YX n 32 != 31)
def QAz:TC:=aF Tryz.f246 []
def g_f246:G:=gG 14 [] (fun _ _=>none)
def QpK (p0:Int):OV:=br (ige p0 1) (br (ile p0 255) (br (cNz 32) (some (.t .bool (ine (YX p0 32) 31),[])) none) (some (.t .bool false,[]))) (some (.t .bool false,[]))
theorem s_f246 (n:Int):QpK n=some (.t .bool (IY n),[]):=by
 simp only [QpK,show cNz 32=true from rfl,Qg]
 unfold IY
 refine Q8 (fun h1=>Q8 (fun h2=> ?_) (fun h2=> ?_)) (fun h1=> ?_)
 ·simp only [ige,ile,Ba] at h1 h2
  rw [Be (show 1<=n/\n<=255 by omega),By]
 ·simp only [ige,ile,Ba,Bo] at h1 h2
  rw [Bt (show ¬ (1<=n/\n<=255) by omega),Bool.false_and]
 ·simp only [ige,Bo] at h1
  rw [Bt (show ¬ (1<=n/\n<=255) by omega),Bool.false_and]
def QpL:Ent:=Qn (.pr tI .nil) (fun x=>true) (fun x=>(.t .bool (IY x.1)))
theorem QAA:EM 246 QpL:=mS g_f246 QAz [((.t 2),some .bool)] false (gB gN) fun m=>Qt m fun x _=>kT (s_f246 x.1)
theorem byt_low (n:Nat)(h:n<256):byt (n:Int) 0=n:=by
 rw [Qzm]
 simp
 omega
-- loop 0: (x1 : Int) (x5 : Int) (x6 : Int) (Qll : (List Int)); out: ('exit', 0) (x1 : Int) (x5 : Int) (Qll : (List Int))
-- loop 1: (x1 : Int) (x7 : Int) (Qll : (List Int)); out: ('exit', 2) (Qll : (List Int))
theorem QAB: ∀ (f g n:Nat),n<256 ^ f->n<256 ^ g->YV f n=YV g n
 |0,g,n,h1,h2=>by
  have:n=0:=by simpa using h1
  subst this
  cases g<;>rfl
 |f+1,0,n,h1,h2=>by
  have:n=0:=by simpa using h2
  subst this
  rfl
 |f+1,g+1,n,h1,h2=>by
  rw [YV,YV]
  split
  ·rfl
  ·rw [Nat.pow_succ] at h1 h2
   rw [QAB f g (n / 256) (by omega) (by omega)]
theorem Qhm {n:Nat}(h:n<256):icv .u8 (n:Int)=n:=by
 rw [QgA]
 omega
def WT (n:Int):List Int:=UE n.toNat
def IZ (n:Int):Bool:=decide (0<=n/\n<=1000000000)
abbrev Qa6:Sh:=⟨[(0,.ty tI),(3,.ms 3)],[(3,.arr 5 (.int .u8)),(14,.no),(16,.no)]⟩
abbrev QpM:Sh:=⟨[(3,.ms 3)],[(3,.arr 5 (.int .u8)),(14,.no),(16,.no)]⟩
def Qhn:Fg:=Qa6.f
def QpN:TC:=aF Tryz.f247 [(60,.nw 3 5),(60,pL 0 Qhn),(120,.mv [(14,3)]),(963,.fg QpM.f)]
def QpO:TC:=lb 0 QpN
def QpP (x0:Int)(y3:List Int):VS:=Qa6.st (x0,(),()) (y3,(),(),())
def Qho (y3:List Int):VS:=QpM.st ((),()) (y3,(),(),())
def QAC:VS->Option (Bool×List (Bool×Exit×VS)):=mkL Qa6 (fun x y=>(decide (0<=x.1/\x.1<=1000000000/\y.1.length<=100))) (fun x y=>[(true,.exit 0,Qho (Zz 8 x.1.toNat++y.1))])
def Qhp:G:=⟨TYs,[14,23],26,EL [],keeps,(Ls [QAC]),IL [],RL []⟩
def Qa7 (x0:Int)(y3:List Int):OX:=Qx (Qz Qhp Qhn QpO) (QpP x0 y3)
def FW (kk:Int->List Int->OX)(x0:Int)(y3:List Int):OX:=
 let a1:=icv .u8 (YX x0 256)
 br (igt x0 0) (br (cNz 256) (br (Qw ([a1]) y3 1) (br (cNz 256) (kk (GC .i64 x0 256) (([a1])++y3)) none) none) none) (some (.exit 0,Qho y3))
def I0 (x0:Int)(y3:List Int):OX:=some (.exit 0,Qho (Zz 8 x0.toNat++y3))
theorem QpQ (x0:Int)(y3:List Int):Qa7 x0 y3=FW Qa7 x0 y3:=lnT (x:=FW (fun x0 y3=>some (.normal,QpP x0 y3)) x0 y3) (by simp only [FW,nxA];rfl)
def QpR (p0:Int):OV:=
 let a1:=(Zz 8 p0.toNat++([]:List Int))
 let a2:=icv .u8 (Qi .i64 128 (Qd a1))
 br (ilt p0 128) (some (.t (.sl (.int .u8)) ([(icv .u8 p0)]),[])) (br (decide (0<=p0/\p0<=1000000000/\([]:List Int).length<=100)) (br (Qw ([a2]) a1 1) (some (.t (.sl (.int .u8)) (([a2])++a1),[])) none) none)
theorem QpS: ∀ (f g n:Nat),n<256 ^ f->n<256 ^ g->Zz f n=Zz g n
 |0,g,n,h1,h2=>by
  have:n=0:=by simpa using h1
  subst this
  cases g<;>rfl
 |f+1,0,n,h1,h2=>by
  have:n=0:=by simpa using h2
  subst this
  rfl
 |f+1,g+1,n,h1,h2=>by
  rw [Zz,Zz]
  split
  ·rfl
  ·rw [Nat.pow_succ] at h1 h2
   rw [QpS f g (n / 256) (by omega) (by omega)]
theorem QAD (x0:Int)(y3:List Int)(h:(decide (0<=x0/\x0<=1000000000/\y3.length<=100))=true):Qa7 x0 y3=I0 x0 y3:=by
 simp only [Ba] at h
 obtain ⟨h1,h2,h3⟩:=h
 obtain ⟨n,rfl⟩:=Br h1
 have key: ∀ (m n:Nat),n<=m->n<=1000000000→ ∀ y3:List Int,y3.length+n<=2000000000->Qa7 (n:Int) y3=I0 (n:Int) y3:=by
  intro m
  induction m with
  |zero=>
   intro n hn _ y3 _
   have:n=0:=by omega
   subst this
   rw [QpQ]
   simp only [FW,I0,show igt ((0:Nat):Int) 0=false from rfl,Ql,Bd,show Zz 8 0=[] from rfl,BT]
  |succ m ih=>
   intro n hn hb y3 h6
   rw [QpQ]
   by_cases h0:n=0
   ·subst h0
    simp only [FW,I0,show igt ((0:Nat):Int) 0=false from rfl,Ql,Bd,show Zz 8 0=[] from rfl,BT]
   ·have e1:YX (n:Int) 256=((n % 256:Nat):Int):=by
     show (n:Int).tmod 256=_
     rw [Int.tmod_eq_emod_of_nonneg (by omega)]
     omega
    have e2:GC .i64 (n:Int) 256=((n / 256:Nat):Int):=by
     show IntKind.i64.wrap ((n:Int).tdiv 256)=_
     rw [Int.tdiv_eq_ediv_of_nonneg (by omega),Go.IntWalk.i64_in _ (by omega)]
     omega
    simp only [FW,show igt (n:Int) 0=true from Be (by omega),Qg,show cNz 256=true from rfl,e1,e2,Qhm (show n % 256<256 by omega)]
    rw [Jr (by omega) (by simp only [Bl];omega),Qg,ih (n / 256) (by omega) (by omega) _ (by simp only [Bm,Bl];omega)]
    simp only [I0,Bd]
    have:Zz 8 n=Zz 8 (n / 256)++[((n % 256:Nat):Int)]:=by
     rw [show Zz 8 n=(if n=0 then [] else Zz 7 (n / 256)++[((n % 256:Nat):Int)]) from rfl,if_neg h0,QpS 7 8 (n / 256) (by omega) (by omega)]
    rw [this,BN]
 exact key n n (Bv _) (by omega) y3 (by omega)
theorem QAE:LO Qhp Qhn QpO 0:=QI (s:=Qa6) fun x y h _ q=>by simp only [QG,QH] at q;exact (QAD x.1 y.1 h).trans q
theorem s_f247 (n:Int)(h:IZ n=true):QpR n=some (.t (.sl (.int .u8)) (WT n),[]):=by
 simp only [IZ,Ba] at h
 obtain ⟨h2,h3⟩:=h
 obtain ⟨n,rfl⟩:=Br h2
 have hc:=QgD 8 n
 have hd:=QgC 8 n
 simp only [QpR]
 by_cases hn:n<128
 ·rw [show ilt (n:Int) 128=true from Be (by omega),Qg]
  simp only [WT,UE,Bd,if_pos hn,Qhm (show n<256 by omega)]
 ·rw [show ilt (n:Int) 128=false from Bt (by omega),Ql,Be ⟨by omega,by omega,by simp⟩,Qg]
  simp only [Bd,BP,Qd,hd]
  rw [Jr (by omega) (by simp only [Bl];omega),Qg,JL (by omega)]
  have e2:(128+(YV 8 n:Int))=((128+YV 8 n:Nat):Int):=by omega
  simp only [WT,UE,Bd,if_neg hn]
  rw [e2,Qhm (by omega),BM]
def QpT:Ent:=Qn (.pr tI .nil) (fun x=>(IZ x.1)) (fun x=>(.t (.sl (.int .u8)) (WT x.1)))
theorem QAF:EM 247 QpT:=mS (lk:=lkL (lkc QAE lkn)) Qhp QpN [((.t 2),some (.sl (.int .u8)))] false (Jg _ (fun p hp=>by cases hp)) fun m=>Qt m fun x hok=>kT (s_f247 x.1 hok)
end
end Go.Proofs.YthlcobdnemhcdaaGreat.K
noncomputable section
namespace Go.Proofs.YthlcobdnemhcdaaGreat.K
open Go.RowKit
noncomputable section
def Q1 (n:Int):Qh:=(2,(Gu n,(false,(([]:List Val),()))))
def Zo (n:Int):Bool:=decide (-9223372036854775808<=n/\n<9223372036854775808)
-- loop 0: (x0 : Int) (x4 : Int) (y2 : Qh) (y3 : (List Int)); out: ('exit', 0) (y2 : Qh) (y3 : (List Int))
-- loop 1: (x3 : (List Int)) (y2 : Qh); out: ('exit', 2) (x3 : (List Int)) (y2 : Qh)
abbrev VI:Sh:=⟨[(2,.ptr 2 0),(3,.ms 7),(4,.ty tI)],[(2,.box Qv),(3,.no),(7,.arr 5 (.int .u8)),(40,.no),(42,.no)]⟩
abbrev Qmr:Sh:=⟨[(2,.ptr 2 0),(3,.ms 7)],[(2,.box Qv),(3,.no),(7,.arr 5 (.int .u8)),(40,.no),(42,.no)]⟩
def Qe4:Fg:=VI.f
def Qms:TC:=aF Tryz.f164 [(58,.nw 3 5),(58,pL 0 Qe4),(116,.mv [(40,7)]),(931,.fg Qmr.f)]
def Qmt:TC:=lb 0 Qms
def Qmu (x4:Int)(y2:Qh)(y7:List Int):VS:=VI.st ((),(),x4,()) (y2,(),y7,(),(),())
def Fp (y2:Qh)(y7:List Int):VS:=Qmr.st ((),(),()) (y2,(),y7,(),(),())
def Qxh:VS->Option (Bool×List (Bool×Exit×VS)):=mkL VI (fun x y=>(decide (-9223372036854775808<=x.2.2.1/\x.2.2.1<9223372036854775808/\1<=y.2.2.1.length/\y.2.2.1.length<=100))) (fun x y=>[(true,.exit 0,Fp (y.1) (J4 10 x.2.2.1 y.2.2.1))])
def Qe5:G:=⟨TYs,[7,40],45,EL [],keeps,(Ls [Qxh]),IL [],RL []⟩
def Fq (x4:Int)(y2:Qh)(y7:List Int):OX:=Qx (Qz Qe5 Qe4 Qmt) (Qmu x4 y2 y7)
def Ie (kk:Int->Qh->List Int->OX)(x4:Int)(y2:Qh)(y7:List Int):OX:=br (Qw ([(icv .u8 x4)]) y7 1) (br (decide ((0:Int)<=8)) (kk (XF .i64 x4 8) y2 (([(icv .u8 x4)])++y7)) none) none
def VJ (kk:Int->Qh->List Int->OX)(x4:Int)(y2:Qh)(y7:List Int):OX:=br (ieq x4 (-1)) (br (cIx y7 0) (br (cLd y7 (Int.toNat 0)) (br (ilt (lgt (.int .u8) y7 (Int.toNat 0)) 128) (Ie kk x4 y2 y7) (some (.exit 0,Fp y2 y7))) none) none) (some (.exit 0,Fp y2 y7))
def VK (kk:Int->Qh->List Int->OX)(x4:Int)(y2:Qh)(y7:List Int):OX:=br (ieq x4 0) (br (cIx y7 0) (br (cLd y7 (Int.toNat 0)) (br (ige (lgt (.int .u8) y7 (Int.toNat 0)) 128) (Ie kk x4 y2 y7) (VJ kk x4 y2 y7)) none) none) (VJ kk x4 y2 y7)
def VL (kk:Int->Qh->List Int->OX)(x4:Int)(y2:Qh)(y7:List Int):OX:=br (ine x4 0) (br (ine x4 (-1)) (Ie kk x4 y2 y7) (VK kk x4 y2 y7)) (VK kk x4 y2 y7)
def Qe6 (x4:Int)(y2:Qh)(y7:List Int):OX:=some (.exit 0,Fp (y2) (J4 10 x4 y7))
theorem Qxi (x4:Int)(y2:Qh)(y7:List Int):Fq x4 y2 y7=VL Fq x4 y2 y7:=lnT (x:=VL (fun x4 y2 y7=>some (.normal,Qmu x4 y2 y7)) x4 y2 y7) (by simp only [VL,Ie,VK,VJ,nxA];rfl)
def Qmv (p0:Int):OV:=
 let a1:=XF .i64 p0 8
 br (decide ((0:Int)<=8)) (br (decide (-9223372036854775808<=a1/\a1<9223372036854775808/\1<=([(icv .u8 p0)]).length/\([(icv .u8 p0)]).length<=100)) (some (.t Qv (2,((J4 10 a1 ([(icv .u8 p0)])),(false,(([]:List Val),())))),[])) none) none
theorem Qmw (n:Int):XF .i64 n 8=n / 256:=by
 have:=Qzi (kd:= .i64) rfl n 1 (by omega)
 rw [show ((8*1:Nat):Int)=8 from rfl] at this
 rw [this]
 rfl
theorem Qe7: ∀ (k:Nat) (x:Int) (b:List Int), -(256 ^ k:Int)<=x->x<256 ^ k→ ∀ f,J4 (k+2+f) x b=J4 (k+2) x b
 |0,x,b,h1,h2,f=>by
  simp only [Int.pow_zero] at h1 h2
  have hx:x= -1∨x=0:=by omega
  have g: ∀ f,J4 (f+2) x b=bif Yy x (b.headD 0) then (x % 256::b) else b:=by
   intro f
   rw [show f+2=(f+1)+1 from rfl,J4,J4]
   rcases hx with rfl|rfl
   ·rw [show ((-1:Int) % 256::b).headD 0=255 from rfl,show Yy (-1 / 256) 255=false from rfl];rfl
   ·rw [show ((0:Int) % 256::b).headD 0=0 from rfl,show Yy (0 / 256) 0=false from rfl];rfl
  rw [show 0+2+f=f+2 by omega,g f]
  exact (g 0).symm
 |k+1,x,b,h1,h2,f=>by
  rw [show k+1+2+f=(k+2+f)+1 by omega,J4,show k+1+2=(k+2)+1 from rfl,J4]
  have e:(256:Int) ^ (k+1)=256 ^ k*256:=by rw [Int.pow_succ]
  rw [e] at h1 h2
  rw [Qe7 k (x / 256) (x % 256::b) (by omega) (by omega) f]
theorem Qe8 (x:Int)(b:List Int)(h: -9223372036854775808<=x/\x<9223372036854775808):J4 10 x b=bif Yy x (b.headD 0) then J4 10 (x / 256) (x % 256::b) else b:=by
 have:=Qe7 8 x b (by omega) (by omega) 1
 rw [←this]
 rfl
theorem Qxj (x4:Int)(y2:Qh)(y7:List Int)(h:(decide (-9223372036854775808<=x4/\x4<9223372036854775808/\1<=y7.length/\y7.length<=100))=true):Fq x4 y2 y7=Qe6 x4 y2 y7:=by
 simp only [Ba] at h
 obtain ⟨h1,h2,h3,h4⟩:=h
 have step: ∀ (x c:Int) (r:List Int),r.length<=300->Fq x y2 (c::r)=bif Yy x c then Fq (x / 256) y2 (x % 256::c::r) else some (.exit 0,Fp y2 (c::r)):=by
  intro x c r hr
  rw [Qxi]
  have e1:cIx (c::r) 0=true:=by simp only [cIx,Bp,Ba];omega
  have e2:cLd (c::r) (Int.toNat 0)=true:=by simp only [cLd,Bp,Ba,BE];omega
  have e3:lgt (.int .u8) (c::r) (Int.toNat 0)=c:=rfl
  have e4:Qw [x % 256] (c::r) 1=true:=Jr (by omega) (by simp only [Bp,BD];omega)
  simp only [VL,Ie,VK,VJ,e1,e2,e3,e4,Qg,show decide ((0:Int)<=8)=true from rfl,Qmw,QgA,BM]
  simp only [Yy,ine,ieq,ilt,ige]
  have q1:(x != 0)= !(x==0):=rfl
  have q2:(x != -1)= !(x== -1):=rfl
  rw [q1,q2]
  by_cases hx:x=0
  ·subst hx
   cases decide (c≥128)<;>rfl
  ·by_cases hy:x= -1
   ·subst hy
    cases decide (c<128)<;>rfl
   ·rw [show (x==0)=false from beq_false_of_ne hx,show (x== -1)=false from beq_false_of_ne hy]
    rfl
 have lae: ∀ (x:Int) (y:List Int),Qe6 x y2 y=some (.exit 0,Fp y2 (J4 10 x y)):=fun _ _=>rfl
 have key: ∀ (k:Nat) (x:Int) (y:List Int), -(256 ^ k:Int)<=x->x<256 ^ k->k<=8->1<=y.length->y.length+k<=200→ -9223372036854775808<=x->x<9223372036854775808->Fq x y2 y=Qe6 x y2 y:=by
  intro k
  induction k with
  |zero=>
   intro x y g1 g2 g3 g4 g5 g6 g7
   simp only [Int.pow_zero] at g1 g2
   have hx:x= -1∨x=0:=by omega
   obtain ⟨c,r,rfl⟩: ∃ c r,y=c::r:=by
    cases y with
    |nil=>simp at g4
    |cons c r=>exact ⟨c,r,rfl⟩
   simp only [Bp] at g5
   rw [step x c r (by omega),lae,Qe8 x (c::r) ⟨g6,g7⟩,List.headD_cons]
   cases Yy x c with
   |false=>rfl
   |true=>
    rw [Db,Db,step (x / 256) (x % 256) (c::r) (by simp only [Bp];omega),Qe8 (x / 256) (x % 256::c::r) (by omega),List.headD_cons]
    have:Yy (x / 256) (x % 256)=false:=by rcases hx with rfl|rfl<;>rfl
    rw [this]
    rfl
  |succ k ih=>
   intro x y g1 g2 g3 g4 g5 g6 g7
   obtain ⟨c,r,rfl⟩: ∃ c r,y=c::r:=by
    cases y with
    |nil=>simp at g4
    |cons c r=>exact ⟨c,r,rfl⟩
   have e:(256:Int) ^ (k+1)=256 ^ k*256:=by rw [Int.pow_succ]
   rw [e] at g1 g2
   simp only [Bp] at g5
   rw [step x c r (by omega),lae,Qe8 x (c::r) ⟨g6,g7⟩,List.headD_cons]
   cases Yy x c with
   |false=>rfl
   |true=>
    rw [Db,Db,ih (x / 256) (x % 256::c::r) (by omega) (by omega) (by omega) (by simp) (by simp only [Bp];omega) (by omega) (by omega),lae]
 exact key 8 x4 y7 (by omega) (by omega) (by omega) h3 (by omega) (by omega) (by omega)
theorem Qxk:LO Qe5 Qe4 Qmt 0:=QI (s:=VI) fun x y h _ q=>by simp only [QG,QH] at q;exact (Qxj x.2.2.1 y.1 y.2.2.1 h).trans q
theorem s_f164 (n:Int)(h:Zo n=true):Qmv n=some (.t Qv (Q1 n),[]):=by
 have h1:=h
 simp only [Zo,Ba] at h1
 have e0:icv .u8 n=byt n 0:=by
  rw [QgA]
  simp [byt]
 simp only [Qmv,show decide ((0:Int)<=8)=true from rfl,Qg,Qmw,e0]
 rw [Be ⟨by omega,by omega,by simp,by simp⟩,Qg]
 have e1:=Qe7 7 (n / 256) [byt n 0] (by omega) (by omega) 1
 rw [show J4 10 (n / 256) [byt n 0]=J4 9 (n / 256) [byt n 0] from e1,Qzl h1]
 rfl
def Qe9:Ent:=Qn (.pr tI .nil) (fun x=>(Zo x.1)) (fun x=>(.t Qv (Q1 x.1)))
theorem Qmx:EM 164 Qe9:=mS (lk:=lkL (lkc Qxk lkn)) Qe5 Qms [((.c 2 true 4),some Qv)] false (Jg _ (fun p hp=>by cases hp)) fun m=>Qt m fun x hok=>kT (s_f164 x.1 hok)
def JM (s:ByteArray):Qh:=(12,(QU s,(false,(([]:List Val),()))))
def g_f293:G:=gG 6 [(29000144,IJ)] (fun _ _=>none)
theorem gk_f293:GOk Tryz.prog g_f293:=Jg _ (gA (gC QaD QaE gN))
def Qxl:TC:=aF Tryz.f165 []
def g_f165:G:=gG 6 [(29000144,IJ)] (fun _ _=>none)
def Qmy (p0:ByteArray):OV:=br (YA p0) (some (.t Qv (12,((QU p0),(false,(([]:List Val),())))),[])) none
theorem s_f165 (s:ByteArray)(h:YA s=true):Qmy s=some (.t Qv (JM s),[]):=by
 simp only [Qmy,h,Qg]
 rfl
def Qmz:Ent:=Qn (.pr .str .nil) (fun x=>(YA x.1)) (fun x=>(.t Qv (JM x.1)))
theorem Qxm:EM 165 Qmz:=mS g_f165 Qxl [((.c 2 true 4),some Qv)] false (gB (gC QaD QaE gN)) fun m=>Qt m fun x hok=>kT (s_f165 x.1 hok)
def Wy (b:Bool):Qh:=(1,([bif b then 255 else 0],(false,(([]:List Val),()))))
def Qxn:TC:=aF Tryz.f263 []
def g_f263:G:=gG 8 [] (fun _ _=>none)
def r_f263 (p0:Bool):OV:=br (p0) (some (.t Qv (1,([255],(false,(([]:List Val),())))),[])) (some (.t Qv (1,([0],(false,(([]:List Val),())))),[]))
theorem s_f263 (b:Bool):r_f263 b=some (.t Qv (Wy b),[]):=by cases b<;>rfl
def QmA:Ent:=Qn (.pr .bool .nil) (fun x=>true) (fun x=>(.t Qv (Wy x.1)))
theorem Qxo:EM 263 QmA:=mS g_f263 Qxn [((.c 2 true 4),some Qv)] false (gB gN) fun m=>Qt m fun x _=>kT (s_f263 x.1)
end
end Go.Proofs.YthlcobdnemhcdaaGreat.K
noncomputable section
set_option linter.unusedSectionVars false
namespace Go.Proofs.YthlcobdnemhcdaaGreat.K
open Go.RowKit
noncomputable section
def okT (n:Nat)(x:Qh):Bool:=okV n (Val.of x)
theorem Qbk {n:Nat}{v:Val}:okT n v.un=okV n v:=by rw [okT,Val.of_un]
theorem Ud {n:Nat}{x:Qh}(h:okT (n+1) x=true):
  (x.1=1∨x.1=2∨x.1=12∨x.1=48)/\x.2.2.1=(x.1==48)/\(x.2.2.1=true->x.2.1=[])/\(x.2.2.1=false->x.2.2.2.1=[])/\x.2.1.length<=100000/\x.2.2.2.1.length<=100000∧ ∀ v∈x.2.2.2.1,okV n v=true:=by
 obtain ⟨t,b,q,es,_⟩:=x
 exact Qon h
def JT:Nat->List Qh->Bool
 |0,_=>false
 |n+1,l=>decide (l.length<=100000)&&l.all (okT n)
theorem QA7 {n:Nat}{es:List Val}(hl:es.length<=100000)(h: ∀ v∈es,okV n v=true):JT (n+1) (es.map Val.un)=true:=by
 simp only [JT,Bc,Ba,BK,Bg,B8]
 refine ⟨hl, ?_⟩
 rintro x ⟨v,hv,rfl⟩
 rw [Qbk]
 exact h v hv
theorem Qqe {n:Nat}{x:Qh}(h:okT n x=true):JT n (x.2.2.2.1.map Val.un)=true:=by
 cases n with
 |zero=>obtain ⟨t,b,q,es,_⟩:=x;cases h
 |succ n=>
  obtain ⟨_,_,_,_,_,h6,h7⟩:=Ud h
  exact QA7 h6 h7
theorem GM (es:List Val):List.map Val.of (List.map Val.un es)=es:=by
 rw [List.map_map]
 have:(Val.of ∘ Val.un)=id:=funext Val.of_un
 rw [this,List.map_id]
def We (l:List Qh):List Qh:=l
def Xz (l:List Qh):Bool:=JT 12 l
theorem Qqf {n:Nat}{x:Qh}(h:okT n x=true):x.2.1.length<=100000:=by
 cases n with
 |zero=>obtain ⟨t,b,q,es,_⟩:=x;cases h
 |succ n=>exact (Ud h).2.2.2.2.1
theorem QA8:QV Tryz.prog 303:= .inr ⟨by decide,_,Tryz.func303,by kernel_rfl,by kernel_rfl⟩
def F5 [Fuel]:Ent:=Qn (.pr (.sl Qv) .nil) (fun x=>(JT Q3 x.1)) (fun x=>(.t (.sl Qv) (We x.1)))
theorem QA9:QV Tryz.prog 303:=QA8
section
variable [Fuel][Nonempty (PLift (Qp Tryz.prog 303 (Qr F5)))]
theorem QBa:Qp Tryz.prog 303 (Qr F5):=(Classical.choice (inferInstance:Nonempty (PLift (Qp Tryz.prog 303 (Qr F5))))).down
def Ob [Fuel](l:List Qh):Bool:=JT (Q3+1) l
abbrev Qbl:Sh:=⟨[(3,.ms 3),(6,.ty (.sl Qv)),(7,.ty tI),(8,.ty tI)],[(3,.arr 233 Qv),(23,.no)]⟩
abbrev Qqg:Sh:=⟨[(3,.ms 3)],[(3,.arr 233 Qv),(23,.no)]⟩
def QhU:Fg:=Qbl.f
def Qbm:TC:=aF Tryz.f303 [(58,.nw 3 233),(58,pL 0 QhU),(933,.fg Qqg.f),(7474,pD [(0,[5]),(1,[5]),(2,[]),(3,[5]),(4,[5]),(5,[]),(6,[5]),(7,[5]),(8,[5]),(9,[5])] (.of [0,1,2,3,4,5,6,7,8,9]))]
def Qqh:TC:=lb 0 Qbm
def Qqi:List (RV×Option Ty):=[((.t 2),some (.sl Qv))]
def Qqj (x6:List Qh)(x7 x8:Int)(y3:List Qh):VS:=Qbl.st ((),x6,x7,x8,()) (y3,(),())
def QhV (y3:List Qh):VS:=Qqg.st ((),()) (y3,(),())
def QBb:VS->Option (Bool×List (Bool×Exit×VS)):=mkL Qbl (fun x y=>(Qy x.2.1 x.2.2.1 x.2.2.2.1&&Ob x.2.1&&decide (y.1.length+x.2.1.length<=200000+x.2.2.2.1.toNat))) (fun x y=>[(true,.exit 0,QhV (y.1++x.2.1.drop x.2.2.2.1.toNat))])
def F6:G:=gG 26 [(303,F5),(310,QpH)] (Ls [QBb])
def Qbn (x6:List Qh)(x7 x8:Int)(y3:List Qh):OX:=Qx (Qz F6 QhU Qqh) (Qqj x6 x7 x8 y3)
def Oc (kk:List Qh->Int->Int->List Qh->OX)(x6:List Qh)(x7 x8:Int)(y3:List Qh):OX:=
 let a2:=((lgt Qv x6 (Int.toNat x8)).2)
 let a1:=((lgt Qv x6 (Int.toNat x8)).1,((Qhk (a2.1)),((a2.2).1,((List.map Val.of (List.map Val.un (List.map Val.of (We (List.map Val.un (((a2.2).2).1)))))),()))))
 br (ilt x8 x7) (br (cIx x6 x8) (br (Qhl (a2.1)) (br (JT Q3 (List.map Val.un (((a2.2).2).1))) (br (Qw y3 ([a1]) 64) (kk x6 x7 (Qi .i64 x8 1) (y3++([a1]))) none) none) none) none) (some (.exit 0,QhV y3))
def Qbo (x6:List Qh)(x7 x8:Int)(y3:List Qh):OX:=some (.exit 0,QhV (y3++x6.drop x8.toNat))
theorem Qqk (x6:List Qh)(x7 x8:Int)(y3:List Qh):Qbn x6 x7 x8 y3=Oc Qbn x6 x7 x8 y3:=lnT (x:=Oc (fun x6 x7 x8 y3=>some (.normal,Qqj x6 x7 x8 y3)) x6 x7 x8 y3) (by simp only [Oc,nxA];rfl)
def QhW (p0:List Qh):OV:=br (Qy p0 (Qd p0) (0:Int)&&Ob p0&&decide (([]:List Qh).length+p0.length<=200000+(0:Int).toNat)) (some (.t (.sl Qv) (([]:List Qh)++p0.drop (0:Int).toNat),[])) none
theorem e_f303 (p0:List Qh):QK F6 Qbm Qqi false [.t (.sl Qv) p0] []=QhW p0:=by kernel_rfl
theorem QBc:GOk Tryz.prog F6:=Jg _ (gA (gC QA9 QBa (gC QAt QAw gN)))
theorem QBd (x6:List Qh)(x7 x8:Int)(y3:List Qh)(h:(Qy x6 x7 x8&&Ob x6&&decide (y3.length+x6.length<=200000+x8.toNat))=true):Qbn x6 x7 x8 y3=Qbo x6 x7 x8 y3:=by
 simp only [Bc,Ba] at h
 obtain ⟨⟨h0,hc⟩,h2⟩:=h
 obtain ⟨rfl,h3,k,rfl,hk⟩:=JE h0
 clear h0
 rw [Bd] at h2
 simp only [Ob,JT,Bc,Bg] at hc
 revert y3
 refine QX x6 (fun k=> ∀ y3:List Qh,y3.length+x6.length<=200000+k->Qbn x6 (x6.length:Int) (k:Int) y3=Qbo x6 (x6.length:Int) (k:Int) y3) ?_ ?_ k hk
 ·intro y3 _
  rw [Qqk]
  simp [Oc,Qbo,QA,Ql]
 ·intro k hk ih y3 hy
  rw [Qqk]
  have hx:=hc.2 x6[k] (Bu hk)
  have e1:Qhl x6[k].2.1=true:=Be (by have:=Qqf hx;omega)
  have e2:JT Q3 (List.map Val.un x6[k].2.2.2.1)=true:=Qqe hx
  simp only [Oc,QA,QM,hk,Bx,Qg,Bd,QW (show k<4611686018427387904 by omega),QP (y:=Qv) hk,e1,e2,Qhk,We,GM]
  rw [Jr (by omega) (by simp only [Bl];omega),Qg,ih _ (by simp only [Bm,Bl];omega)]
  simp only [Qbo,Bd,Bj hk,BN,BM]
theorem QBe:LO F6 QhU Qqh 0:=QI (s:=Qbl) fun x y h _ q=>by simp only [QG,QH] at q;exact (QBd x.2.1 x.2.2.1 x.2.2.2.1 y.1 h).trans q
theorem QBf:Qbm.lok F6:=by
 repeat (first|exact trivial|exact QBe|refine ⟨?_, ?_⟩)
theorem s_f303 (l:List Qh)(h:JT (Q3+1) l=true):QhW l=some (.t (.sl Qv) (We l),[]):=by
 have hl:l.length<=100000:=by simp only [JT,Bc,Ba] at h;exact h.1
 simp only [QhW,JF hl,show Ob l=true from h,By,BD,BE,BL,BT]
 rw [Be (by omega),Qg]
 rfl
theorem QBg:Qp Tryz.prog 303 (QK F6 Qbm Qqi false):=mG Tryz.func303 (by kernel_rfl) Tryz.ntmps303 (by kernel_rfl) QBc QBf
end
theorem QBh: ∀ N:Nat,Qp Tryz.prog 303 (Qr (@F5 ⟨N⟩))
 |0=>FM fun x=>by first|rfl|simp [JT]
 |N+1=>by
  letI:Fuel:=⟨N⟩
  haveI:Nonempty (PLift (Qp Tryz.prog 303 (Qr F5))):=⟨⟨QBh N⟩⟩
  exact Qt QBg fun x hok=>(e_f303 x.1).trans (s_f303 x.1 hok)
theorem QBi (l:List Qh)(h:Xz l=true): ∃ N,JT N l=true:=⟨12,h⟩
theorem Qql:QV Tryz.prog 215:= .inr ⟨by decide,_,Tryz.func215,by kernel_rfl,by kernel_rfl⟩
def F7 [Fuel]:Ent:=Qn (.pr (.sl Qv) .nil) (fun x=>(JT Q3 x.1)) (fun x=>(.t (.sl Qv) (We x.1)))
theorem QBj:QV Tryz.prog 215:=Qql
section
variable [Fuel][Nonempty (PLift (Qp Tryz.prog 215 (Qr F7)))]
theorem QBk:Qp Tryz.prog 215 (Qr F7):=(Classical.choice (inferInstance:Nonempty (PLift (Qp Tryz.prog 215 (Qr F7))))).down
def Od [Fuel](l:List Qh):Bool:=JT (Q3+1) l
abbrev Qbp:Sh:=⟨[(0,.ty (.sl Qv)),(3,.ms 3),(4,.ty tI)],[(3,.arr 233 Qv),(28,.no)]⟩
abbrev Qqm:Sh:=⟨[(3,.ms 3)],[(3,.arr 233 Qv),(28,.no)]⟩
def QhX:Fg:=Qbp.f
def Qbq:TC:=aF Tryz.f215 [(58,.nf 5 1 5 20501),(58,.nw 3 233),(58,pL 0 QhX),(931,.fg Qqm.f)]
def Qqn:TC:=lb 0 Qbq
def Qqo:List (RV×Option Ty):=[((.t 2),some (.sl Qv))]
def Qqp (x0:List Qh)(x4:Int)(y3:List Qh):VS:=Qbp.st (x0,(),x4,()) (y3,(),())
def QhY (y3:List Qh):VS:=Qqm.st ((),()) (y3,(),())
def QBl:VS->Option (Bool×List (Bool×Exit×VS)):=mkL Qbp (fun x y=>(Ww x.1 x.2.2.1&&Od x.1&&decide (y.1.length+x.1.length<=200000+x.2.2.1.toNat))) (fun x y=>[(true,.exit 0,QhY (y.1++x.1.drop x.2.2.1.toNat))])
def F8:G:=⟨TYs,[16],30,EL [(215,F7)],keeps,(Ls [QBl]),IL [],RL []⟩
def Qbr (x0:List Qh)(x4:Int)(y3:List Qh):OX:=Qx (Qz F8 QhX Qqn) (Qqp x0 x4 y3)
def Oe (kk:List Qh->Int->List Qh->OX)(x0:List Qh)(x4:Int)(y3:List Qh):OX:=
 let a1:=lgt Qv x0 (Int.toNat x4)
 let a2:=(((a1.2).2).1,((List.map Val.of (We (List.map Val.un ((((a1.2).2).2).1)))),()))
 br (ilt x4 (Qd x0)) (br (cIx x0 x4) (br (Qw ([]:List Int) ((a1.2).1) 1) (br (JT Q3 (List.map Val.un ((((a1.2).2).2).1))) (br (Qw y3 ([(a1.1,((([]:List Int)++((a1.2).1)),a2))]) 64) (kk x0 (Qi .i64 x4 1) (y3++([(a1.1,((([]:List Int)++((a1.2).1)),a2))]))) none) none) none) none) (some (.exit 0,QhY y3))
def Qbs (x0:List Qh)(x4:Int)(y3:List Qh):OX:=some (.exit 0,QhY (y3++x0.drop x4.toNat))
theorem Qqq (x0:List Qh)(x4:Int)(y3:List Qh):Qbr x0 x4 y3=Oe Qbr x0 x4 y3:=lnT (x:=Oe (fun x0 x4 y3=>some (.normal,Qqp x0 x4 y3)) x0 x4 y3) (by simp only [Oe,nxA];rfl)
def QhZ (p0:List Qh):OV:=br (Ww p0 (0:Int)&&Od p0&&decide (([]:List Qh).length+p0.length<=200000+(0:Int).toNat)) (some (.t (.sl Qv) (([]:List Qh)++p0.drop (0:Int).toNat),[])) none
theorem e_f215 (p0:List Qh):QK F8 Qbq Qqo false [.t (.sl Qv) p0] []=QhZ p0:=by kernel_rfl
theorem QBm:GOk Tryz.prog F8:=Jg _ (gA (gC QBj QBk gN))
theorem QBn (x0:List Qh)(x4:Int)(y3:List Qh)(h:(Ww x0 x4&&Od x0&&decide (y3.length+x0.length<=200000+x4.toNat))=true):Qbr x0 x4 y3=Qbs x0 x4 y3:=by
 simp only [Bc,Ba,Ww] at h
 obtain ⟨⟨⟨h0,h1,h3⟩,hc⟩,h2⟩:=h
 obtain ⟨k,rfl⟩:=Br h0
 rw [Bd] at h2
 simp only [Od,JT,Bc,Bg] at hc
 revert y3
 refine QX x0 (fun k=> ∀ y3:List Qh,y3.length+x0.length<=200000+k->Qbr x0 (k:Int) y3=Qbs x0 (k:Int) y3) ?_ ?_ k (by omega)
 ·intro y3 _
  rw [Qqq]
  simp [Oe,Qbs,ilt,Qd,Ql]
 ·intro k hk ih y3 hy
  rw [Qqq]
  have hx:=hc.2 x0[k] (Bu hk)
  have e2:JT Q3 (List.map Val.un x0[k].2.2.2.1)=true:=Qqe hx
  simp only [Oe,show ilt (k:Int) (Qd x0)=true from Be (by simp only [Qd];omega),QM,hk,Bx,Qg,Bd,QW (show k<4611686018427387904 by omega),QP (y:=Qv) hk,e2,We,GM]
  rw [Jr (by omega) (by have:=Qqf hx;simp only [BD];omega),Qg,Jr (by omega) (by simp only [Bl];omega),Qg,ih _ (by simp only [Bm,Bl];omega)]
  simp only [Qbs,Bd,Bj hk,BN,BM,BT]
theorem QBo:LO F8 QhX Qqn 0:=QI (s:=Qbp) fun x y h _ q=>by simp only [QG,QH] at q;exact (QBn x.1 x.2.2.1 y.1 h).trans q
theorem QBp:Qbq.lok F8:=by
 repeat (first|exact trivial|exact QBo|refine ⟨?_, ?_⟩)
theorem s_f215 (l:List Qh)(h:JT (Q3+1) l=true):QhZ l=some (.t (.sl Qv) (We l),[]):=by
 have hl:l.length<=100000:=by simp only [JT,Bc,Ba] at h;exact h.1
 simp only [QhZ,show Ww l 0=true from Be (by omega),show Od l=true from h,By,BD,BE,BL,BT]
 rw [Be (by omega),Qg]
 rfl
theorem QBq:Qp Tryz.prog 215 (QK F8 Qbq Qqo false):=mG Tryz.func215 (by kernel_rfl) Tryz.ntmps215 (by kernel_rfl) QBm QBp
end
theorem Qqr: ∀ N:Nat,Qp Tryz.prog 215 (Qr (@F7 ⟨N⟩))
 |0=>FM fun x=>by first|rfl|simp [JT]
 |N+1=>by
  letI:Fuel:=⟨N⟩
  haveI:Nonempty (PLift (Qp Tryz.prog 215 (Qr F7))):=⟨⟨Qqr N⟩⟩
  exact Qt QBq fun x hok=>(e_f215 x.1).trans (s_f215 x.1 hok)
def Qqs:Ent:=Qn (.pr (.sl Qv) .nil) (fun x=>(Xz x.1)) (fun x=>(.t (.sl Qv) (We x.1)))
theorem QBr:Qp Tryz.prog 215 (Qr Qqs):=QaJ Qqr fun x hok=>QBi x.1 hok
end
end Go.Proofs.YthlcobdnemhcdaaGreat.K
noncomputable section
set_option linter.unusedSectionVars false
namespace Go.Proofs.YthlcobdnemhcdaaGreat.K
open Go.RowKit
noncomputable section
theorem Qku {n:Nat}{x:Qh}(h:okT (n+1) x=true): ∀ k (hk:k<(List.map Val.un x.2.2.2.1).length),okT n (List.map Val.un x.2.2.2.1)[k]=true:=by
 intro k hk
 rw [List.getElem_map,Qbk]
 exact (Ud h).2.2.2.2.2.2 _ (Bu _)
def Wv (_x:Qh):Bool:=true
def QdK (x:Qh):Bool:=okT 12 x
theorem QGI (x:Qh)(h:QdK x=true): ∃ N,okT N x=true:=⟨12,h⟩
theorem QGJ:QV Tryz.prog 300:= .inr ⟨by decide,_,Tryz.func300,by kernel_rfl,by kernel_rfl⟩
def EN [Fuel]:Ent:=Qn (.pr Qv .nil) (fun x=>(okT Q3 x.1)) (fun x=>(.t .bool (Wv x.1)))
theorem QGK:QV Tryz.prog 300:=QGJ
section
variable [Fuel][Nonempty (PLift (Qp Tryz.prog 300 (Qr EN)))]
theorem QGL:Qp Tryz.prog 300 (Qr EN):=(Classical.choice (inferInstance:Nonempty (PLift (Qp Tryz.prog 300 (Qr EN))))).down
def QdL (_x:Qh):Bool:=false
def QdM [Fuel](x:Qh):Bool:=okT Q3 x
def YQ [Fuel](l:List Qh):Bool:=decide (l.length<=100000)&&l.all (okT Q3)
def QGM:TC:=aF Tryz.f307 []
def g_f307:G:=gG 6 [(300,EN)] (fun _ _=>none)
def Qu2 (p0:Qh):OV:=br (okT Q3 p0) (some (.t .bool (!(Wv p0)),[])) none
theorem s_f307 (x:Qh)(h:QdM x=true):Qu2 x=some (.t .bool (QdL x),[]):=by
 simp only [Qu2,show okT Q3 x=true from h,Qg]
 rfl
def Qu3:Ent:=Qn (.pr Qv .nil) (fun x=>(QdM x.1)) (fun x=>(.t .bool (QdL x.1)))
theorem QGN:EM 307 Qu3:=mS g_f307 QGM [((.t 2),some .bool)] false (gB (gC QGK QGL gN)) fun m=>Qt m fun x hok=>kT (s_f307 x.1 hok)
def Qkv (_l:List Qh):Int:= -1
abbrev QdN:Sh:=⟨[(0,.ty (.sl Qv)),(1,.cf 307),(7,.ty tI),(8,.ty tI)],[]⟩
abbrev Qu4:Sh:=⟨[(4,.ty tI)],[]⟩
abbrev QdO:Sh:=⟨[],[]⟩
def Qkw:Fg:=QdN.f
def Qu5:TC:=aF Tryz.f311 [(26,pL 0 Qkw),(421,.fg QdO.f),(13517,.fg Qu4.f)]
def Qu6:TC:=lb 0 Qu5
def Qu7 (x0:List Qh)(x7 x8:Int):VS:=QdN.st (x0,(),x7,x8,()) ()
def Qkx (x4:Int):VS:=Qu4.st (x4,()) ()
def Qky  : VS:=QdO.st () ()
def QGO:VS->Option (Bool×List (Bool×Exit×VS)):=mkL QdN (fun x y=>(Qy x.1 x.2.2.1 x.2.2.2.1&&YQ x.1)) (fun x y=>[((false),.ret,Qkx (x.2.2.2.1)),(true,.exit 0,Qky)])
def Qkz:G:=gG 19 [(307,Qu3)] (Ls [QGO])
def QdP (x0:List Qh)(x7 x8:Int):OX:=Qx (Qz Qkz Qkw Qu6) (Qu7 x0 x7 x8)
def O9 (kk:List Qh->Int->Int->OX)(x0:List Qh)(x7 x8:Int):OX:=
 let a1:=lgt Qv x0 (Int.toNat x8)
 br (ilt x8 x7) (br (cIx x0 x8) (br (QdM a1) (br (QdL a1) (some (.ret,Qkx x8)) (kk x0 x7 (Qi .i64 x8 1))) none) none) (some (.exit 0,Qky))
def QkA (x0:List Qh)(x7 x8:Int):OX:=br (false) (some (.ret,Qkx (x8)))<|some (.exit 0,Qky)
theorem Qu8 (x0:List Qh)(x7 x8:Int):QdP x0 x7 x8=O9 QdP x0 x7 x8:=lnT (x:=O9 (fun x0 x7 x8=>some (.normal,Qu7 x0 x7 x8)) x0 x7 x8) (by simp only [O9,nxA];rfl)
def Qu9 (p0:List Qh):OV:=br (Qy p0 (Qd p0) (0:Int)&&YQ p0) (br (false) (some (.t tI (0:Int),[])) (some (.t tI (-1),[]))) none
theorem QGP (x0:List Qh)(x7 x8:Int)(h:(Qy x0 x7 x8&&YQ x0)=true):QdP x0 x7 x8=QkA x0 x7 x8:=by
 simp only [Bc] at h
 obtain ⟨h0,hc⟩:=h
 obtain ⟨rfl,h3,k,rfl,hk⟩:=JE h0
 clear h0
 simp only [YQ,Bc,Bg] at hc
 refine QX x0 (fun k=>QdP x0 (x0.length:Int) (k:Int)=QkA x0 (x0.length:Int) (k:Int)) ?_ ?_ k hk
 ·rw [Qu8]
  simp [O9,QkA,QA,Ql]
 ·intro k hk ih
  rw [Qu8]
  have hx:=hc.2 x0[k] (Bu hk)
  simp only [O9,QA,QM,hk,Bx,Qg,Bd,QW (show k<4611686018427387904 by omega),QP (y:=Qv) hk,show QdM x0[k]=true from hx,QdL,Ql,ih]
  rfl
theorem QGQ:LO Qkz Qkw Qu6 0:=QI (s:=QdN) fun x y h _ q=>by simp only [QG,QH] at q;exact (QGP x.1 x.2.2.1 x.2.2.2.1 h).trans q
theorem QGR (l:List Qh)(h:YQ l=true):Qu9 l=some (.t tI (Qkv l),[]):=by
 have hl:l.length<=100000:=by simp only [YQ,Bc,Ba] at h;exact h.1
 simp only [Qu9,JF hl,h,By,Qg,Ql]
 rfl
def Qva:Ent:=X6 [.ty (.sl Qv),.cf 307] [] (fun x d=>(YQ x.1)) (fun x d=>(.t tI (Qkv x.1)))
theorem QGS:EM 311 Qva:=mS (lk:=lkL (lkc QGQ lkn)) Qkz Qu5 [((.t 4),some tI)] false (gB (gD QGN gN)) fun m=>UI m fun x d hok=>kT (QGR x.1 hok)
def QkB (_l:List Qh):Bool:=false
def QGT:TC:=aF Tryz.f306 []
def QGU:G:=gG 9 [(311,Qva)] (fun _ _=>none)
def Qvb (p0:List Qh):OV:=br (YQ p0) (some (.t .bool (ige (Qkv p0) 0),[])) none
theorem QGV (l:List Qh)(h:YQ l=true):Qvb l=some (.t .bool (QkB l),[]):=by
 simp only [Qvb,h,Qg]
 rfl
def Qvc:Ent:=X6 [.ty (.sl Qv),.cf 307] [] (fun x d=>(YQ x.1)) (fun x d=>(.t .bool (QkB x.1)))
theorem QGW:EM 306 Qvc:=mS QGU QGT [((.t 4),some .bool)] false (gB (gD QGS gN)) fun m=>UI m fun x d hok=>kT (QGV x.1 hok)
def QkC:TC:=aF Tryz.f300 []
def Qvd:List (RV×Option Ty):=[((.t 2),some .bool)]
def QdQ:G:=gG 41 [(305,QpJ),(306,Qvc)] (fun _ _=>none)
def QkD (p0:Qh):OV:=
 let a1:=List.map Val.un p0.2.2.2.1
 br (YQ a1) (some (.t .bool (!(QkB a1)),[])) none
def QkE (p0:Qh):OV:=br (!p0.2.2.1) (br (igt (Qd (List.map Val.un p0.2.2.2.1)) 0) (some (.t .bool false,[])) (QkD p0)) (QkD p0)
def QkF (p0:Qh):OV:=br (!(IX p0.1)) (some (.t .bool false,[])) (br (QaN p0.2.2.1 (ine (GW .i64 p0.1 32) 0)) (some (.t .bool false,[])) (br (p0.2.2.1) (br (igt (Qd p0.2.1) 0) (some (.t .bool false,[])) (QkE p0)) (QkE p0)))
theorem e_f300 (p0:Qh):QK QdQ QkC Qvd false [.t Qv p0] []=QkF p0:=by kernel_rfl
theorem QGX:GOk Tryz.prog QdQ:=Jg _ (gA (gD QAy (gD QGW gN)))
theorem QGY:QkC.lok QdQ:=by repeat (first|exact trivial|refine ⟨?_, ?_⟩)
theorem s_f300 (x:Qh)(h:okT (Q3+1) x=true):QkF x=some (.t .bool (Wv x),[]):=by
 obtain ⟨h1,h2,h3,h4,h5,h6,h7⟩:=Ud h
 have hu:YQ (List.map Val.un x.2.2.2.1)=true:=by
  simp only [YQ,Bc,Ba,BK,Bg,B8]
  refine ⟨h6, ?_⟩
  rintro y ⟨v,hv,rfl⟩
  rw [Qbk]
  exact h7 v hv
 have ht:IX x.1=true:=by rcases h1 with e|e|e|e<;>rw [e]<;>rfl
 have hn:QaN x.2.2.1 (ine (GW .i64 x.1 32) 0)=false:=by rw [h2];rcases h1 with e|e|e|e<;>rw [e]<;>rfl
 simp only [QkF,QkE,QkD,ht,hn,hu,BI,Qg,Ql]
 cases hq:x.2.2.1 with
 |true=>
  rw [h3 hq]
  rfl
 |false=>
  rw [h4 hq]
  rfl
theorem QGZ:Qp Tryz.prog 300 (QK QdQ QkC Qvd false):=mG Tryz.func300 (by kernel_rfl) Tryz.ntmps300 (by kernel_rfl) QGX QGY
end
theorem QG0: ∀ N:Nat,Qp Tryz.prog 300 (Qr (@EN ⟨N⟩))
 |0=>FM fun x=>by first|rfl|simp [okT]
 |N+1=>by
  letI:Fuel:=⟨N⟩
  haveI:Nonempty (PLift (Qp Tryz.prog 300 (Qr EN))):=⟨⟨QG0 N⟩⟩
  exact Qt QGZ fun x hok=>(e_f300 x.1).trans (s_f300 x.1 hok)
theorem Qve:QV Tryz.prog 212:= .inr ⟨by decide,_,Tryz.func212,by kernel_rfl,by kernel_rfl⟩
def EO [Fuel]:Ent:=Qn (.pr Qv .nil) (fun x=>(okT Q3 x.1)) (fun x=>(.t .bool (Wv x.1)))
theorem QG1:QV Tryz.prog 212:=Qve
section
variable [Fuel][Nonempty (PLift (Qp Tryz.prog 212 (Qr EO)))]
theorem QG2:Qp Tryz.prog 212 (Qr EO):=(Classical.choice (inferInstance:Nonempty (PLift (Qp Tryz.prog 212 (Qr EO))))).down
def QdR [Fuel](x:Qh):Bool:=okT (Q3+1) x
abbrev QdS:Sh:=⟨[(1,.ptr 1 0),(3,.ty tI)],[(1,.box Qv)]⟩
abbrev Qvf:Sh:=⟨[(2,.ty .bool)],[]⟩
def QkG:Fg:=QdS.f
def QdT:TC:=aF Tryz.f212 [(58,pL 0 QkG),(931,.fg QdO.f),(7461,.fg Qvf.f)]
def Qvg:TC:=lb 0 QdT
def Qvh:List (RV×Option Ty):=[((.t 2),some .bool)]
def Qvi (x3:Int)(y1:Qh):VS:=QdS.st ((),x3,()) (y1,())
def QkH (x2:Bool):VS:=Qvf.st (x2,()) ()
def QkI  : VS:=QdO.st () ()
def QG3:VS->Option (Bool×List (Bool×Exit×VS)):=mkL QdS (fun x y=>(decide (0<=x.2.1/\x.2.1<=y.1.2.2.2.1.length)&&QdR y.1)) (fun x y=>[((false),.ret,QkH (false)),(true,.exit 0,QkI)])
def EP:G:=gG 53 [(212,EO),(246,QpL)] (Ls [QG3])
def QdU (x3:Int)(y1:Qh):OX:=Qx (Qz EP QkG Qvg) (Qvi x3 y1)
def Va (kk:Int->Qh->OX)(x3:Int)(y1:Qh):OX:=
 let a1:=List.map Val.un y1.2.2.2.1
 let a2:=lgt Qv a1 (Int.toNat x3)
 br (ilt x3 (Qd a1)) (br (cIx a1 x3) (br (okT Q3 a2) (br (!(Wv a2)) (some (.ret,QkH false)) (kk (Qi .i64 x3 1) y1)) none) none) (some (.exit 0,QkI))
def QkJ (x3:Int)(y1:Qh):OX:=br (false) (some (.ret,QkH (false)))<|some (.exit 0,QkI)
theorem Qvj (x3:Int)(y1:Qh):QdU x3 y1=Va QdU x3 y1:=lnT (x:=Va (fun x3 y1=>some (.normal,Qvi x3 y1)) x3 y1) (by simp only [Va,nxA];rfl)
def QkK (p0:Qh):OV:=br (decide (0<=(0:Int)/\(0:Int)<=p0.2.2.2.1.length)&&QdR p0) (br (false) (some (.t .bool (false),[])) (some (.t .bool true,[]))) none
def QkL (p0:Qh):OV:=br (!p0.2.2.1) (br (igt (Qd (List.map Val.un p0.2.2.2.1)) 0) (some (.t .bool false,[])) (QkK p0)) (QkK p0)
def QkM (p0:Qh):OV:=br (!(IY p0.1)) (some (.t .bool false,[])) (br (cNz 32) (br (cNz 2) (br (QaN p0.2.2.1 (ieq (YX (GC .i64 p0.1 32) 2) 1)) (some (.t .bool false,[])) (br (p0.2.2.1) (br (igt (Qd p0.2.1) 0) (some (.t .bool false,[])) (QkL p0)) (QkL p0))) none) none)
theorem e_f212 (p0:Qh):QK EP QdT Qvh false [.t Qv p0] []=QkM p0:=by kernel_rfl
theorem QG4:GOk Tryz.prog EP:=Jg _ (gA (gC QG1 QG2 (gD QAA gN)))
theorem QG5 (x3:Int)(y1:Qh)(h:(decide (0<=x3/\x3<=y1.2.2.2.1.length)&&QdR y1)=true):QdU x3 y1=QkJ x3 y1:=by
 simp only [Bc,Ba] at h
 obtain ⟨⟨h0,h1⟩,hc⟩:=h
 obtain ⟨k,rfl⟩:=Br h0
 have hm:=Qku hc
 have hl:=(Ud hc).2.2.2.2.2.1
 refine QX (List.map Val.un y1.2.2.2.1) (fun k=>QdU (k:Int) y1=QkJ (k:Int) y1) ?_ ?_ k (by rw [BK];omega)
 ·rw [Qvj]
  simp [Va,QkJ,ilt,Qd,Ql]
 ·intro k hk ih
  rw [Qvj]
  have hk2:k<y1.2.2.2.1.length:=by rw [BK] at hk;exact hk
  simp only [Va,show ilt (k:Int) (Qd (List.map Val.un y1.2.2.2.1))=true from Be (by simp only [Qd];omega),QM,hk,Bx,Qg,Bd,QW (show k<4611686018427387904 by omega),QP (y:=Qv) hk,hm k hk,Wv,BI,Ql,ih]
  rfl
theorem QG6:LO EP QkG Qvg 0:=QI (s:=QdS) fun x y h _ q=>by simp only [QG,QH] at q;exact (QG5 x.2.1 y.1 h).trans q
theorem QG7:QdT.lok EP:=by
 repeat (first|exact trivial|exact QG6|refine ⟨?_, ?_⟩)
theorem s_f212 (x:Qh)(h:okT (Q3+1) x=true):QkM x=some (.t .bool (Wv x),[]):=by
 obtain ⟨h1,h2,h3,h4,h5,h6,h7⟩:=Ud h
 have ht:IY x.1=true:=by rcases h1 with e|e|e|e<;>rw [e]<;>rfl
 have hn:QaN x.2.2.1 (ieq (YX (GC .i64 x.1 32) 2) 1)=false:=by rw [h2];rcases h1 with e|e|e|e<;>rw [e]<;>rfl
 have hd:decide ((0:Int)<=0/\(0:Int)<=x.2.2.2.1.length)=true:=Be (by omega)
 simp only [QkM,QkL,QkK,ht,hn,hd,show QdR x=true from h,B5,show cNz 32=true from rfl,show cNz 2=true from rfl,BI,Qg,Ql]
 cases hq:x.2.2.1 with
 |true=>
  rw [h3 hq]
  rfl
 |false=>
  rw [h4 hq]
  rfl
theorem QG8:Qp Tryz.prog 212 (QK EP QdT Qvh false):=mG Tryz.func212 (by kernel_rfl) Tryz.ntmps212 (by kernel_rfl) QG4 QG7
end
theorem Qvk: ∀ N:Nat,Qp Tryz.prog 212 (Qr (@EO ⟨N⟩))
 |0=>FM fun x=>by first|rfl|simp [okT]
 |N+1=>by
  letI:Fuel:=⟨N⟩
  haveI:Nonempty (PLift (Qp Tryz.prog 212 (Qr EO))):=⟨⟨Qvk N⟩⟩
  exact Qt QG8 fun x hok=>(e_f212 x.1).trans (s_f212 x.1 hok)
def Qvl:Ent:=Qn (.pr Qv .nil) (fun x=>(QdK x.1)) (fun x=>(.t .bool (Wv x.1)))
theorem QG9:Qp Tryz.prog 212 (Qr Qvl):=QaJ Qvk fun x hok=>QGI x.1 hok
def dpV (x:Qh):Int:=(UF (Val.of x):Int)
def Yu (n:Nat)(x:Qh):Bool:=okT n x&&decide (n<=100)
def QdV (x:Qh):Bool:=okT 12 x
theorem QHa (x:Qh)(h:QdV x=true): ∃ N,Yu N x=true:=⟨12,by rw [Yu,show okT 12 x=true from h];rfl⟩
def Ur (l:List Qh):Nat:=FI (l.map Val.of)
theorem QHb:Ur []=0:=rfl
theorem QHc (x:Qh)(l:List Qh):Ur (x::l)=max (UF (Val.of x)) (Ur l):=rfl
theorem QdW (x:Qh):UF (Val.of x)=FI x.2.2.2.1+1:=rfl
theorem QHd (a b:Nat):imx (a:Int) (b:Int)=((max a b:Nat):Int):=by
 unfold imx
 split<;>omega
def QHe [Fuel]:Ent:=Qn (.pr Qv .nil) (fun x=>(Yu Q3 x.1)) (fun x=>(.t tI (dpV x.1)))
section
variable [Fuel][Nonempty (PLift (Qp Tryz.prog 301 (Qr QHe)))]
def QkN [Fuel](l:List Qh):Bool:=decide (l.length<=100000/\Q3+1<=100)&&l.all (okT Q3)
-- loop 0: (x3 : Int) (x7 : (List Qh)) (x8 : Int) (x9 : Int); out: ('exit', 0) (x3 : Int)
def Qvm (p0:Qh):OV:=
 let a1:=List.map Val.un p0.2.2.2.1
 br (Qy a1 (Qd a1) (0:Int)&&QkN a1&&decide (0<=(0:Int)/\(0:Int)<=100)) (some (.t tI (Qi .i64 ((max (0:Int).toNat (Ur (a1.drop (0:Int).toNat)):Nat):Int) 1),[])) none
theorem s_f301 (x:Qh)(h:Yu (Q3+1) x=true):Qvm x=some (.t tI (dpV x),[]):=by
 simp only [Yu,Bc,Ba] at h
 obtain ⟨h,hf⟩:=h
 obtain ⟨h1,h2,h3,h4,h5,h6,h7⟩:=Ud h
 have hu:QkN (List.map Val.un x.2.2.2.1)=true:=by
  simp only [QkN,Bc,Ba,BK,Bg,B8]
  refine ⟨⟨h6,hf⟩, ?_⟩
  rintro y ⟨v,hv,rfl⟩
  rw [Qbk]
  exact h7 v hv
 have hd:=Qay (v:=Val.of x) h
 rw [QdW] at hd
 simp only [Qvm,JF (show (List.map Val.un x.2.2.2.1).length<=100000 by rw [BK];exact h6),hu,B5,show decide ((0:Int)<=0/\(0:Int)<=100)=true from rfl,Qg,BE,BL,Ur,GM,Nat.zero_max]
 rw [JL (by omega)]
 simp only [dpV,QdW]
 congr 2
end
theorem Qvn:QV Tryz.prog 213:= .inr ⟨by decide,_,Tryz.func213,by kernel_rfl,by kernel_rfl⟩
def EQ [Fuel]:Ent:=Qn (.pr Qv .nil) (fun x=>(Yu Q3 x.1)) (fun x=>(.t tI (dpV x.1)))
theorem QHf:QV Tryz.prog 213:=Qvn
section
variable [Fuel][Nonempty (PLift (Qp Tryz.prog 213 (Qr EQ)))]
theorem QHg:Qp Tryz.prog 213 (Qr EQ):=(Classical.choice (inferInstance:Nonempty (PLift (Qp Tryz.prog 213 (Qr EQ))))).down
def Vb [Fuel](x:Qh):Bool:=Yu (Q3+1) x
abbrev QdX:Sh:=⟨[(1,.ptr 1 0),(3,.ty tI),(4,.ty tI)],[(1,.box Qv)]⟩
abbrev Qvo:Sh:=⟨[(3,.ty tI)],[]⟩
def QkO:Fg:=QdX.f
def QdY:TC:=aF Tryz.f213 [(58,pL 0 QkO),(931,.fg Qvo.f)]
def Qvp:TC:=lb 0 QdY
def Qvq:List (RV×Option Ty):=[((.t 2),some tI)]
def Qvr (x3 x4:Int)(y1:Qh):VS:=QdX.st ((),x3,x4,()) (y1,())
def QkP (x3:Int):VS:=Qvo.st (x3,()) ()
def QHh:VS->Option (Bool×List (Bool×Exit×VS)):=mkL QdX (fun x y=>(decide (0<=x.2.2.1/\x.2.2.1<=y.1.2.2.2.1.length/\0<=x.2.1/\x.2.1<=100)&&Vb y.1)) (fun x y=>[(true,.exit 0,QkP ((max x.2.1.toNat (Ur ((List.map Val.un y.1.2.2.2.1).drop x.2.2.1.toNat)):Nat):Int))])
def ER:G:=gG 22 [(213,EQ)] (Ls [QHh])
def QdZ (x3 x4:Int)(y1:Qh):OX:=Qx (Qz ER QkO Qvp) (Qvr x3 x4 y1)
def Vc (kk:Int->Int->Qh->OX)(x3 x4:Int)(y1:Qh):OX:=
 let a1:=List.map Val.un y1.2.2.2.1
 let a2:=lgt Qv a1 (Int.toNat x4)
 br (ilt x4 (Qd a1)) (br (cIx a1 x4) (br (Yu Q3 a2) (kk (imx x3 (dpV a2)) (Qi .i64 x4 1) y1) none) none) (some (.exit 0,QkP x3))
def Qd0 (x3 x4:Int)(y1:Qh):OX:=some (.exit 0,QkP ((max x3.toNat (Ur ((List.map Val.un y1.2.2.2.1).drop x4.toNat)):Nat):Int))
theorem Qvs (x3 x4:Int)(y1:Qh):QdZ x3 x4 y1=Vc QdZ x3 x4 y1:=lnT (x:=Vc (fun x3 x4 y1=>some (.normal,Qvr x3 x4 y1)) x3 x4 y1) (by simp only [Vc,nxA];rfl)
def QkQ (p0:Qh):OV:=br (decide (0<=(0:Int)/\(0:Int)<=p0.2.2.2.1.length/\0<=(0:Int)/\(0:Int)<=100)&&Vb p0) (some (.t tI (Qi .i64 ((max (0:Int).toNat (Ur ((List.map Val.un p0.2.2.2.1).drop (0:Int).toNat)):Nat):Int) 1),[])) none
theorem e_f213 (p0:Qh):QK ER QdY Qvq false [.t Qv p0] []=QkQ p0:=by kernel_rfl
theorem QHi:GOk Tryz.prog ER:=Jg _ (gA (gC QHf QHg gN))
theorem QHj (x3 x4:Int)(y1:Qh)(h:(decide (0<=x4/\x4<=y1.2.2.2.1.length/\0<=x3/\x3<=100)&&Vb y1)=true):QdZ x3 x4 y1=Qd0 x3 x4 y1:=by
 simp only [Bc,Ba] at h
 obtain ⟨⟨h0,h1,h2,h3⟩,hc⟩:=h
 obtain ⟨k,rfl⟩:=Br h0
 obtain ⟨m,rfl⟩:=Br h2
 clear h2 h3
 simp only [Vb,Yu,Bc,Ba] at hc
 obtain ⟨hc,hf⟩:=hc
 have hm:=Qku hc
 have hl:=(Ud hc).2.2.2.2.2.1
 revert m
 refine QX (List.map Val.un y1.2.2.2.1) (fun k=> ∀ m:Nat,QdZ (m:Int) (k:Int) y1=Qd0 (m:Int) (k:Int) y1) ?_ ?_ k (by rw [BK];omega)
 ·intro m
  rw [Qvs]
  simp only [Vc,show ilt ((List.map Val.un y1.2.2.2.1).length:Int) (Qd (List.map Val.un y1.2.2.2.1))=false from Bt (by simp only [Qd];omega),Ql]
  simp only [Qd0,Bd,B6,QHb,Nat.max_zero]
 ·intro k hk ih m
  rw [Qvs]
  have hk2:k<y1.2.2.2.1.length:=by rw [BK] at hk;exact hk
  have hd:Yu Q3 (List.map Val.un y1.2.2.2.1)[k]=true:=by rw [Yu,hm k hk,Be (by omega)];rfl
  simp only [Vc,show ilt (k:Int) (Qd (List.map Val.un y1.2.2.2.1))=true from Be (by simp only [Qd];omega),QM,hk,Bx,Qg,Bd,QW (show k<4611686018427387904 by omega),QP (y:=Qv) hk,hd,dpV,QHd,ih]
  simp only [Qd0,Bd,Bj hk,QHc,Nat.max_assoc]
theorem QHk:LO ER QkO Qvp 0:=QI (s:=QdX) fun x y h _ q=>by simp only [QG,QH] at q;exact (QHj x.2.1 x.2.2.1 y.1 h).trans q
theorem QHl:QdY.lok ER:=by
 repeat (first|exact trivial|exact QHk|refine ⟨?_, ?_⟩)
theorem s_f213 (x:Qh)(h:Yu (Q3+1) x=true):QkQ x=some (.t tI (dpV x),[]):=by
 have hin:Vb x=true:=h
 simp only [Yu,Bc,Ba] at h
 obtain ⟨h,hf⟩:=h
 have hd:=Qay (v:=Val.of x) h
 rw [QdW] at hd
 have hdd:decide ((0:Int)<=0/\(0:Int)<=x.2.2.2.1.length/\(0:Int)<=0/\(0:Int)<=100)=true:=Be (by omega)
 simp only [QkQ,hin,hdd,B5,Qg,BE,BL,Ur,GM,Nat.zero_max]
 rw [JL (by omega)]
 simp only [dpV,QdW]
 congr 2
theorem QHm:Qp Tryz.prog 213 (QK ER QdY Qvq false):=mG Tryz.func213 (by kernel_rfl) Tryz.ntmps213 (by kernel_rfl) QHi QHl
end
theorem Qvt: ∀ N:Nat,Qp Tryz.prog 213 (Qr (@EQ ⟨N⟩))
 |0=>FM fun x=>by first|rfl|simp [Yu]
 |N+1=>by
  letI:Fuel:=⟨N⟩
  haveI:Nonempty (PLift (Qp Tryz.prog 213 (Qr EQ))):=⟨⟨Qvt N⟩⟩
  exact Qt QHm fun x hok=>(e_f213 x.1).trans (s_f213 x.1 hok)
def Qvu:Ent:=Qn (.pr Qv .nil) (fun x=>(QdV x.1)) (fun x=>(.t tI (dpV x.1)))
theorem QHn:Qp Tryz.prog 213 (Qr Qvu):=QaJ Qvt fun x hok=>QHa x.1 hok
end
end Go.Proofs.YthlcobdnemhcdaaGreat.K
noncomputable section
set_option linter.unusedSectionVars false
namespace Go.Proofs.YthlcobdnemhcdaaGreat.K
open Go.RowKit
noncomputable section
def J0 (x:Qh):List Int:=Qax (Val.of x)
def J5 (l:List Qh):List Int:=Zq (l.map Val.of)
theorem I1:J5 []=[]:=rfl
theorem GG (x:Qh)(l:List Qh):J5 (x::l)=J0 x++J5 l:=rfl
theorem Qa8 (x:Qh):J0 x=icv .u8 x.1::(UE (x.2.1.length+(Zq x.2.2.2.1).length)++(x.2.1++Zq x.2.2.2.1)):=rfl
theorem QpU (x:Qh):x.2.1.length+(Zq x.2.2.2.1).length<=(J0 x).length:=Qzn x.1 x.2.1 x.2.2.1 x.2.2.2.1
theorem QpV: ∀ (l:List Qh) (k:Nat) (hk:k<l.length),(J5 (l.take k)).length+(J0 l[k]).length<=(J5 l).length
 | [],k,hk=>by simp at hk
 |x::l,0,_=>by
  rw [List.take_zero,I1,GG,Bm]
  simp
 |x::l,k+1,hk=>by
  simp only [Bp] at hk
  have:=QpV l k (by omega)
  simp only [List.take_succ_cons,GG,Bm,Dx]
  omega
theorem Qa9 (n:Nat):(UE n).length<=9:=by
 unfold UE
 split
 ·simp
 ·rw [Bp,QgC]
  have:=QgD 8 n
  omega
def Xv (n:Nat)(x:Qh):Bool:=okT n x&&decide ((J0 x).length<=100000000)
def WU (x:Qh):Bool:=okT 12 x&&decide ((J0 x).length<=100000000)
theorem QAG (x:Qh)(h:WU x=true): ∃ N,Xv N x=true:=⟨12,h⟩
theorem QpW:QV Tryz.prog 214:= .inr ⟨by decide,_,Tryz.func214,by kernel_rfl,by kernel_rfl⟩
def FX [Fuel]:Ent:=Qn (.pr Qv .nil) (fun x=>(Xv Q3 x.1)) (fun x=>(.t (.sl (.int .u8)) (J0 x.1)))
theorem QAH:QV Tryz.prog 214:=QpW
section
variable [Fuel][Nonempty (PLift (Qp Tryz.prog 214 (Qr FX)))]
theorem QAI:Qp Tryz.prog 214 (Qr FX):=(Classical.choice (inferInstance:Nonempty (PLift (Qp Tryz.prog 214 (Qr FX))))).down
def I2 [Fuel](x:Qh):Bool:=Xv (Q3+1) x
abbrev Qba:Sh:=⟨[(1,.ptr 1 0),(3,.ms 5),(4,.ty tI)],[(1,.box Qv),(3,.no),(5,.arr 5 (.int .u8)),(8,.no),(23,.no)]⟩
abbrev QpX:Sh:=⟨[(1,.ptr 1 0),(3,.ms 5)],[(1,.box Qv),(3,.no),(5,.arr 5 (.int .u8)),(8,.no),(23,.no)]⟩
def Qhq:Fg:=Qba.f
def Qbb:TC:=aF Tryz.f214 [(58,.nw 3 5),(58,pL 0 Qhq),(931,.fg QpX.f),(30,pD [(0,[1]),(1,[1]),(2,[]),(3,[27,5027,10027,15027]),(4,[3,5,8,23]),(5,[3,5,8,23]),(6,[]),(7,[27,31,5031,10031,15031]),(8,[3,5,8,23]),(9,[3,5,8,23,27,31,33,5033,10033,15033]),(10,[27,31,33])] (.of [0,1,2,4,5,6,8,3,7,9,10]))]
def QpY:TC:=lb 0 Qbb
def QpZ:List (RV×Option Ty):=[((.t 2),some (.sl (.int .u8)))]
def Qp0 (x4:Int)(y1:Qh)(y5:List Int):VS:=Qba.st ((),(),x4,()) (y1,(),y5,(),(),())
def Qhr (y1:Qh)(y5:List Int):VS:=QpX.st ((),(),()) (y1,(),y5,(),(),())
def QAJ:VS->Option (Bool×List (Bool×Exit×VS)):=mkL Qba (fun x y=>(decide (0<=x.2.2.1/\x.2.2.1<=y.1.2.2.2.1.length/\y.2.2.1.length+(J5 ((List.map Val.un y.1.2.2.2.1).drop x.2.2.1.toNat)).length<=1000000000)&&I2 y.1)) (fun x y=>[(true,.exit 0,Qhr (y.1) (y.2.2.1++J5 ((List.map Val.un y.1.2.2.2.1).drop x.2.2.1.toNat)))])
def FY:G:=⟨TYs,[5,27],34,EL [(214,FX),(247,QpT)],keeps,(Ls [QAJ]),IL [],RL []⟩
def Qbc (x4:Int)(y1:Qh)(y5:List Int):OX:=Qx (Qz FY Qhq QpY) (Qp0 x4 y1 y5)
def I3 (kk:Int->Qh->List Int->OX)(x4:Int)(y1:Qh)(y5:List Int):OX:=
 let a2:=List.map Val.un y1.2.2.2.1
 let a1:=lgt Qv a2 (Int.toNat x4)
 br (ilt x4 (Qd a2)) (br (cIx a2 x4) (br (Xv Q3 a1) (br (Qw y5 (J0 a1) 1) (kk (Qi .i64 x4 1) y1 (y5++(J0 a1))) none) none) none) (some (.exit 0,Qhr y1 y5))
def Qbd (x4:Int)(y1:Qh)(y5:List Int):OX:=some (.exit 0,Qhr (y1) (y5++J5 ((List.map Val.un y1.2.2.2.1).drop x4.toNat)))
theorem Qp1 (x4:Int)(y1:Qh)(y5:List Int):Qbc x4 y1 y5=I3 Qbc x4 y1 y5:=lnT (x:=I3 (fun x4 y1 y5=>some (.normal,Qp0 x4 y1 y5)) x4 y1 y5) (by simp only [I3,nxA];rfl)
def Qhs (p0:Qh):OV:=
 let a2:=List.map Val.un p0.2.2.2.1
 let a3:=(a2.drop (0:Int).toNat)
 let a1:=(Qd ((([]:List Int)++p0.2.1)++J5 a3))
 let a4:=icv .u8 ((p0).1)
 br (Qw ([]:List Int) p0.2.1 1) (br (decide (0<=(0:Int)/\(0:Int)<=p0.2.2.2.1.length/\(([]:List Int)++p0.2.1).length+(J5 a3).length<=1000000000)&&I2 p0) (br (IZ a1) (br (Qw ([a4]) (WT a1) 1) (br (Qw (([a4])++(WT a1)) ((([]:List Int)++p0.2.1)++J5 a3) 1) (some (.t (.sl (.int .u8)) ((([a4])++(WT a1))++((([]:List Int)++p0.2.1)++J5 a3)),[])) none) none) none) none) none
theorem e_f214 (p0:Qh):QK FY Qbb QpZ false [.t Qv p0] []=Qhs p0:=by kernel_rfl
theorem QAK:GOk Tryz.prog FY:=Jg _ (gA (gC QAH QAI (gD QAF gN)))
theorem QAL (x4:Int)(y1:Qh)(y5:List Int)(h:(decide (0<=x4/\x4<=y1.2.2.2.1.length/\y5.length+(J5 ((List.map Val.un y1.2.2.2.1).drop x4.toNat)).length<=1000000000)&&I2 y1)=true):Qbc x4 y1 y5=Qbd x4 y1 y5:=by
 simp only [Bc,Ba] at h
 obtain ⟨⟨h0,h1,h2⟩,hc⟩:=h
 obtain ⟨k,rfl⟩:=Br h0
 simp only [I2,Xv,Bc,Ba] at hc
 obtain ⟨hc,hf⟩:=hc
 have hm:=Qku hc
 have hl:=(Ud hc).2.2.2.2.2.1
 rw [Bd] at h2
 have hel:=QpU y1
 have hE:J5 (List.map Val.un y1.2.2.2.1)=Zq y1.2.2.2.1:=by rw [J5,GM]
 revert y5
 refine QX (List.map Val.un y1.2.2.2.1) (fun k=> ∀ y5:List Int,y5.length+(J5 ((List.map Val.un y1.2.2.2.1).drop k)).length<=1000000000->Qbc (k:Int) y1 y5=Qbd (k:Int) y1 y5) ?_ ?_ k (by rw [BK];omega)
 ·intro y5 _
  rw [Qp1]
  simp only [I3,show ilt ((List.map Val.un y1.2.2.2.1).length:Int) (Qd (List.map Val.un y1.2.2.2.1))=false from Bt (by simp only [Qd];omega),Ql]
  simp only [Qbd,Bd,B6,I1,BP]
 ·intro k hk ih y5 hy
  rw [Qp1]
  have hk2:k<y1.2.2.2.1.length:=by rw [BK] at hk;exact hk
  have hs:=QpV (List.map Val.un y1.2.2.2.1) k hk
  rw [hE] at hs
  rw [Bj hk,GG,Bm] at hy
  have hd:Xv Q3 (List.map Val.un y1.2.2.2.1)[k]=true:=by rw [Xv,hm k hk,Be (by omega)];rfl
  simp only [I3,show ilt (k:Int) (Qd (List.map Val.un y1.2.2.2.1))=true from Be (by simp only [Qd];omega),QM,hk,Bx,Qg,Bd,QW (show k<4611686018427387904 by omega),QP (y:=Qv) hk,hd]
  rw [Jr (by omega) (by omega),Qg,ih _ (by rw [Bm];omega)]
  simp only [Qbd,Bd,Bj hk,GG,BN]
theorem QAM:LO FY Qhq QpY 0:=QI (s:=Qba) fun x y h _ q=>by simp only [QG,QH] at q;exact (QAL x.2.2.1 y.1 y.2.2.1 h).trans q
theorem QAN:Qbb.lok FY:=by
 repeat (first|exact trivial|exact QAM|refine ⟨?_, ?_⟩)
theorem s_f214 (x:Qh)(h:Xv (Q3+1) x=true):Qhs x=some (.t (.sl (.int .u8)) (J0 x),[]):=by
 have hin:I2 x=true:=h
 simp only [Xv,Bc,Ba] at h
 obtain ⟨h,hf⟩:=h
 have hel:=QpU x
 have hE:J5 (List.map Val.un x.2.2.2.1)=Zq x.2.2.2.1:=by rw [J5,GM]
 have hll:=Qa9 (x.2.1.length+(Zq x.2.2.2.1).length)
 simp only [Qhs,hin,Dh,BT,BE,BL,hE]
 rw [Jr (by omega) (by simp only [BD];omega),Qg,Be ⟨by omega,by omega,by omega⟩,Qg]
 have e1:IZ (Qd (x.2.1++Zq x.2.2.2.1))=true:=Be (by simp only [Qd,Bm];omega)
 have e2:WT (Qd (x.2.1++Zq x.2.2.2.1))=UE (x.2.1.length+(Zq x.2.2.2.1).length):=by simp only [WT,Qd,Bm,Bd]
 rw [e1,Qg,e2,Jr (by omega) (by simp only [Bl];omega),Qg,Jr (by omega) (by simp only [Bm,Bl];omega),Qg,Qa8]
 simp only [BM,Dl,BT]
theorem QAO:Qp Tryz.prog 214 (QK FY Qbb QpZ false):=mG Tryz.func214 (by kernel_rfl) Tryz.ntmps214 (by kernel_rfl) QAK QAN
end
theorem Qp2: ∀ N:Nat,Qp Tryz.prog 214 (Qr (@FX ⟨N⟩))
 |0=>FM fun x=>by first|rfl|simp [Xv]
 |N+1=>by
  letI:Fuel:=⟨N⟩
  haveI:Nonempty (PLift (Qp Tryz.prog 214 (Qr FX))):=⟨⟨Qp2 N⟩⟩
  exact Qt QAO fun x hok=>(e_f214 x.1).trans (s_f214 x.1 hok)
def Qp3:Ent:=Qn (.pr Qv .nil) (fun x=>(WU x.1)) (fun x=>(.t (.sl (.int .u8)) (J0 x.1)))
theorem QAP:Qp Tryz.prog 214 (Qr Qp3):=QaJ Qp2 fun x hok=>QAG x.1 hok
def WV (x:Qh):List Int×Int:=if 4096<(J0 x).length then ([],3) else (J0 x,0)
theorem QAQ {x:Qh}(h:okT 12 x=true):igt (dpV x) 16=false:=by
 have:=Qay (v:=Val.of x) h
 exact Bt (by show ¬ ((UF (Val.of x):Int) > 16);omega)
def QAR:TC:=aF Tryz.f166 []
def g_f166:G:=gG 17 [(212,Qvl),(213,Qvu),(214,Qp3)] (fun _ _=>none)
def Qp4 (p0:Qh):OV:=br (QdK p0) (br (!(Wv p0)) (some (.tu [(.t (.sl (.int .u8)) ([]:List Int)),(.t tI 1)],[])) (br (QdV p0) (br (igt (dpV p0) 16) (some (.tu [(.t (.sl (.int .u8)) ([]:List Int)),(.t tI 3)],[])) (br (WU p0) (br (igt (Qd (J0 p0)) 4096) (some (.tu [(.t (.sl (.int .u8)) ([]:List Int)),(.t tI 3)],[])) (some (.tu [(.t (.sl (.int .u8)) (J0 p0)),(.t tI 0)],[]))) none)) none)) none
theorem s_f166 (x:Qh)(h:WU x=true):Qp4 x=some (.tu [.t (.sl (.int .u8)) (WV x).1,.t tI (WV x).2],[]):=by
 have h':=h
 simp only [WU,Bc,Ba] at h'
 obtain ⟨h1,h2⟩:=h'
 simp only [Qp4,show QdK x=true from h1,show QdV x=true from h1,h,QAQ h1,Wv,BI,Qg,Ql]
 unfold WV
 refine Q8 (fun g=> ?_) (fun g=> ?_)
 ·simp only [igt,Qd,Ba] at g
  rw [if_pos (by omega)]
 ·simp only [igt,Qd,Bo] at g
  rw [if_neg (by omega)]
def Qp5:Ent:=Qn (.pr Qv .nil) (fun x=>(WU x.1)) (fun x=>(.tu [(.t (.sl (.int .u8)) ((WV x.1).1)),(.t tI ((WV x.1).2))]))
theorem QAS:EM 166 Qp5:=mS g_f166 QAR [((.t 2),some (.sl (.int .u8))),((.t 3),some tI)] false (gB (gC Qve QG9 (gC Qvn QHn (gC QpW QAP gN)))) fun m=>Qt m fun x hok=>kT (s_f166 x.1 hok)
def conV (x:Qh):List Int:=x.2.1++Zq x.2.2.2.1
def QAT [Fuel]:Ent:=Qn (.pr Qv .nil) (fun x=>(Xv Q3 x.1)) (fun x=>(.t (.sl (.int .u8)) (conV x.1)))
section
variable [Fuel][Nonempty (PLift (Qp Tryz.prog 308 (Qr QAT)))]
end
def Y5 (l:List Qh):Qh:=(48,(([]:List Int),(true,(List.map Val.of l,()))))
def QAU:TC:=aF Tryz.f167 []
def g_f167:G:=gG 6 [(215,Qqs)] (fun _ _=>none)
def Qp6 (p0:List Qh):OV:=br (Xz p0) (some (.t Qv (48,(([]:List Int),(true,((List.map Val.of (We p0)),())))),[])) none
theorem s_f167 (l:List Qh)(h:Xz l=true):Qp6 l=some (.t Qv (Y5 l),[]):=by
 simp only [Qp6,h,Qg]
 rfl
def Qht:Ent:=Qn (.pr (.sl Qv) .nil) (fun x=>(Xz x.1)) (fun x=>(.t Qv (Y5 x.1)))
theorem Qp7:EM 167 Qht:=mS g_f167 QAU [((.c 2 true 4),some Qv)] false (gB (gC Qql QBr gN)) fun m=>Qt m fun x hok=>kT (s_f167 x.1 hok)
end
end Go.Proofs.YthlcobdnemhcdaaGreat.K
