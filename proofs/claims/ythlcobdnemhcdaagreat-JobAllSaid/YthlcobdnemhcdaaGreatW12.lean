import Derived.Test.YthlcobdnemhcdaaGreatW11
set_option linter.unusedSimpArgs false
set_option linter.unusedVariables false
noncomputable section
namespace Go.Proofs.YthlcobdnemhcdaaGreat.K.PE
open Go.RowKit
noncomputable section
theorem QLG:(UJ.all fun s=>YI s&&(Y9 s&&nm1 s))=true:=by kernel_rfl
theorem Qw3 {s:ByteArray}(h:s∈UJ):YI s=true/\Y9 s=true/\s.size<=1000:=by
 have:=Bi.1 QLG s h
 simp only [Bc] at this
 exact ⟨this.1,this.2.1,BD this.2.2⟩
def mkP (e:Endpoint):Prop:= ∃ d s,e=epV d s/\s∈UJ/\dOk d=true
attribute [local irreducible] epV epN
theorem QLH {e:Endpoint}(h:mkP e):Q6 e=true:=by
 obtain ⟨d,s,rfl,hs,hd⟩:=h
 obtain ⟨h1,h2,h3⟩:=Qw3 hs
 exact QJ2 h1 h2 h3 hd
theorem mk_len {e:Endpoint}(h:mkP e):Jd e=true:=by
 obtain ⟨d,s,rfl,hs,hd⟩:=h
 obtain ⟨_,_,h3⟩:=Qw3 hs
 have hi:=QBs (d:=d) (nm:=s) h3 hd
 exact QPB (by rw [QBt];exact h3) (Db (QNc (nm:=s) hd) (show 10<=1000 by decide)) (Db hi.2 (show 3<=1000 by decide)) (Db (an_len d s) (show 4<=1000 by decide)) (Db (hs_len d s) (show 4<=1000 by decide)) hi.1
theorem Qw4: ∀ (l:List ByteArray) (d:Dice),(mkZ l d).1.length=l.length
 | [],_=>rfl
 |_::r,d=>by simp only [mkZ,Br,Qw4 r (epN d _)]
theorem Qw5: ∀ (l:List ByteArray) (d:Dice),(∀ s∈l,s∈UJ)->dOk d=true→ ∀ e∈(mkZ l d).1,mkP e
 | [],_,_,_,e,he=>by cases he
 |s::r,d,h,hd,e,he=>by
  simp only [mkZ,BA] at he
  rcases he with rfl|he
  ·exact ⟨d,s,rfl,h s B2,hd⟩
  ·exact Qw5 r (epN d s) (fun s hs=>h s (BR _ hs)) (QnC hd) e he
theorem QLI (d:Dice): ∀ s∈JA d,s∈UJ:=by
 rcases QlZ d with h|h|h<;>rw [h]
 ·exact fun s hs=>DI hs
 ·exact fun s hs=>DI hs
 ·exact fun s hs=>hs
theorem Qw6 {d:Dice}(h:dOk d=true): ∀ e∈JN (mkX d),mkP e:=Qw5 (JA d) (Qe d 3) (QLI d) (QB h)
theorem Qw7 (d:Dice):(JN (mkX d)).length=(JA d).length:=Qw4 _ _
theorem mk_up {d:Dice}(h:dOk d=true):F3 (JN (mkX d)) 0=true:=by
 have q1:slt (ByteArray.mk #[97,112,112]) (ByteArray.mk #[100,98])=true:=by kernel_rfl
 have q2:slt (ByteArray.mk #[100,98]) (ByteArray.mk #[109,97,105,108])=true:=by kernel_rfl
 have q3:slt (ByteArray.mk #[109,97,105,108]) (ByteArray.mk #[119,101,98])=true:=by kernel_rfl
 have hall:=Qw6 h
 have hd:=QB (n:=3) h
 have hv: ∀ e∈(mkZ (JA d) (Qe d 3)).1,Q6 e=true:=fun e he=>QLH (hall e he)
 have hn: ∀ d s,(epV d s).1=s:=fun d s=>QBt d s
 show YW (mkZ (JA d) (Qe d 3)).1 (mkZ (JA d) (Qe d 3)).1 0=true
 rcases QlZ d with hc|hc|hc<;>rw [hc] at hv ⊢
 ·show (Q6 (epV _ _)&&true&&(Q6 (epV _ _)&&(false||slt (epV _ (ByteArray.mk #[97,112,112])).1 (epV _ (ByteArray.mk #[100,98])).1)&&true))=true
  rw [hn,hn,q1,hv _ B2,hv _ (BR _ B2)]
  rfl
 ·show (Q6 (epV _ _)&&true&&(Q6 (epV _ _)&&(false||slt (epV _ (ByteArray.mk #[97,112,112])).1 (epV _ (ByteArray.mk #[100,98])).1)&&(Q6 (epV _ _)&&(false||slt (epV _ (ByteArray.mk #[100,98])).1 (epV _ (ByteArray.mk #[109,97,105,108])).1)&&true)))=true
  rw [hn,hn,hn,q1,q2,hv _ B2,hv _ (BR _ B2),hv _ (BR _ (BR _ B2))]
  rfl
 ·show (Q6 (epV _ _)&&true&&(Q6 (epV _ _)&&(false||slt (epV _ (ByteArray.mk #[97,112,112])).1 (epV _ (ByteArray.mk #[100,98])).1)&&(Q6 (epV _ _)&&(false||slt (epV _ (ByteArray.mk #[100,98])).1 (epV _ (ByteArray.mk #[109,97,105,108])).1)&&(Q6 (epV _ _)&&(false||slt (epV _ (ByteArray.mk #[109,97,105,108])).1 (epV _ (ByteArray.mk #[119,101,98])).1)&&true))))=true
  rw [hn,hn,hn,hn,q1,q2,q3,hv _ B2,hv _ (BR _ B2),hv _ (BR _ (BR _ B2)),hv _ (BR _ (BR _ (BR _ B2)))]
  rfl
theorem Qek {n:Int}: ∀ (m:Nat) (i k:Int) (l:List Keep) (d:Dice),0<=i->i<n->0<=k->k+m<=n->edG n l i k->edG n (edM m i k l d).1 i (k+m)
 |0,i,k,l,d,_,_,_,_,h=>F7 h (.inr ⟨rfl,by omega⟩)
 |m+1,i,k,l,d,h0,h1,h2,h3,h=>by
  have hs:edG n l i (k+1):=F7 h (.inr ⟨rfl,by omega⟩)
  have e:k+((m+1:Nat):Int)=k+1+m:=by omega
  unfold edM
  rw [e]
  cases hn:ine i k with
  |false=>exact Qek m i (k+1) l d h0 h1 (by omega) (by omega) hs
  |true=>
   cases h4:ieq (Qh d 3) 0 with
   |false=>exact Qek m i (k+1) l (Qe d 3) h0 h1 (by omega) (by omega) hs
   |true=>
    have hne:i≠k:=by simpa [ine] using hn
    refine Qek m i (k+1) (l++[(i,(k,()))]) (Qe d 3) h0 h1 (by omega) (by omega) ⟨fun x hx=> ?_, ?_,fun x hx=> ?_⟩
    ·rcases BE.1 hx with hx|hx
     ·exact h.1 x hx
     ·rw [BX.1 hx]
      simp only [Qcb,ilt,ige,ZS,Bc,Bx,Bn]
      exact ⟨by omega,by omega,by omega,by omega,hne⟩
    ·rw [DJ]
     refine ⟨h.2.1,DD _ _,fun x hx y hy=> ?_⟩
     rw [BX.1 hy]
     exact h.2.2 x hx
    ·rcases BE.1 hx with hx|hx
     ·exact hs.2.2 x hx
     ·rw [BX.1 hx]
      exact .inr ⟨rfl,by show k<k+1;omega⟩
theorem Qw8 {n:Int}: ∀ (m nn:Nat) (i:Int) (l:List Keep) (d:Dice),(nn:Int)<=n->0<=i->i+m<=n->edG n l i 0->edG n (edN m nn i l d).1 (i+m) 0
 |0,nn,i,l,d,_,_,_,h=>F7 h (by omega)
 |m+1,nn,i,l,d,hnn,h0,h1,h=>by
  have:=Qek nn i 0 l d h0 (by omega) (by omega) (by omega) h
  have e:i+((m+1:Nat):Int)=i+1+m:=by omega
  unfold edN
  rw [e]
  exact Qw8 m nn (i+1) _ _ hnn (by omega) (by omega) (F7 this (.inl (by omega)))
theorem Qw9: ∀ (m n:Nat) (i:Int) (l:List Keep) (d:Dice),dOk d=true->(edN m n i l d).1.length<=l.length+n*m
 |0,_,_,_,_,_=>by simp [edN]
 |m+1,n,i,l,d,h=>by
  have h1:=IH n i 0 l d h
  have h2:=Qw9 m n (i+1) (edM n i 0 l d).1 (edM n i 0 l d).2 h1.1
  have h3:=h1.2
  rw [Nat.mul_add,Nat.mul_one]
  unfold edN
  omega
theorem QLJ {d:Dice}(h:dOk d=true):ZK (Qc (JN (mkX d))) (ZR (mkX d)) 0=true/\(ZR (mkX d)).length<=16:=by
 have hn:=Ql0 d
 have hl:Qc (JN (mkX d))=((JA d).length:Int):=by rw [Qc,Qw7]
 rw [hl]
 have hy:=Qw8 (n:=((JA d).length:Int)) (JA d).length (JA d).length 0 [] (mkZ (JA d) (Qe d 3)).2 (B1 _) (B1 _) (by omega) (⟨fun x hx=>(nomatch hx),List.Pairwise.nil,fun x hx=>(nomatch hx)⟩:edG _ [] 0 0)
 refine ⟨Qsz hy, ?_⟩
 have h2:=Qw9 (JA d).length (JA d).length 0 [] (mkZ (JA d) (Qe d 3)).2 (QlY (JA d) _ (QB h))
 have h3:(JA d).length*(JA d).length<=4*4:=Nat.mul_le_mul hn.2.1 hn.2.1
 show (Yy d).1.length<=16
 unfold Yy
 simp only [Bv] at h2
 omega
theorem mk_ok {d:Dice}(h:dOk d=true):YX (mkX d)=true/\ZC (mkX d)=true:=by
 have hn:=Ql0 d
 have h1:=mk_up h
 obtain ⟨h2,h3⟩:=QLJ h
 have hv3:=Q7 (d:=(Yy d).2) (n:=3) (by omega)
 have hi:=QcD (Qh (Yy d).2 3).toNat (Qe (Yy d).2 3)
 have hl:(JN (mkX d)).length<=4:=by rw [Qw7];omega
 have hx:Je (mkX d)=(itZ (Qh (Yy d).2 3).toNat (Qe (Yy d).2 3)).1:=rfl
 constructor
 ·unfold YX
  rw [h1,h2,hx,hi.1,show ile (Qc (JN (mkX d))) 16=true from Be (by simp only [Qc];omega),show ile (Qc (ZR (mkX d))) 40=true from Be (by simp only [Qc];omega),show ile (Qc (itZ (Qh (Yy d).2 3).toNat (Qe (Yy d).2 3)).1) 30=true from Be (by simp only [Qc];omega)]
  rfl
 ·unfold ZC Ya
  rw [hx,hi.2.1,Be (show (JN (mkX d)).length<=99999/\(ZR (mkX d)).length<=99999 by omega),Be (show (itZ (Qh (Yy d).2 3).toNat (Qe (Yy d).2 3)).1.length<=100000 by omega),Bu,Bu,B7]
  exact Bi.2 fun e he=>mk_len (Qw6 h e he)
open Classical in
end
end Go.Proofs.YthlcobdnemhcdaaGreat.K.PE
namespace Go.Proofs.YthlcobdnemhcdaaGreat.K
open Go.RowKit PE
end Go.Proofs.YthlcobdnemhcdaaGreat.K
noncomputable section
namespace Go.Proofs.YthlcobdnemhcdaaGreat.K.SO
open Go.RowKit Go.Proofs.YthlcobdnemhcdaaGreat.K.PE
noncomputable section
theorem ap_one (e:Estate)(y:Policy)(j:Job):(apF e y j).1=Oy∨apE e y j=0:=by
 unfold apE apF
 cases ine (Jt e y) 0 with
 |true=>exact .inl rfl
 |false=>
  cases ilt j.1 0 with
  |true=>exact .inl rfl
  |false=>
   cases ige j.1 (Qc (Je e)) with
   |true=>exact .inl rfl
   |false=>
    cases ine (ZO y (JB e j.1.toNat) j.2.1.1 j.2.1.2.1) 0 with
    |true=>exact .inl rfl
    |false=>
     cases (ZB y j.2.1.1 (JB e j.1.toNat).2.2.1 j.2.1.2.1).1 with
     |true=>exact .inr rfl
     |false=>exact .inl rfl
theorem QPZ {e:Estate}{y:Policy}{j:Job}(hc:JE e=true)(hl:Jg e y=true):JE (apF e y j).1=true:=by
 rcases ap_one e y j with h|h
 ·rw [h];rfl
 ·exact QD4 hc h hl
theorem QP0 {e:Estate}{y:Policy}{l:List Job}(hc:JE e=true)(hl:Jg e y=true):JE (Zk e y l).1=true:=by
 unfold Zk
 cases igt (Qc l) 60 with
 |true=>exact hc
 |false=>exact QD5 hc hl
theorem Qgx {e:Estate}{y:Policy}{can:Bool}(hl:Jg e y=true):(thF e y can).1.length<=100000:=by
 have hi:=F1 (I5 (Bf.1 hl).1)
 unfold thF
 cases ine (Jt e y) 0 with
 |true=>exact Da _
 |false=>exact Db (QpC y can _ _) hi
theorem QB2 (n:Int): ∀ (k:Nat) (d:Dice),dOk d=true->dOk (jbZ n k d).2=true
 |0,_,h=>h
 |k+1,d,h=>QB2 n k _ (QB (n:=250) (QB (n:=4) (QB (n:=n) h)))
theorem QP1 {d:Dice}(h:dOk d=true):dOk (UF d)=true:=by
 have k4:dOk (jD2 d)=true:=QBx (QdP _ _ (QB (n:=3) (QvQ h)))
 have k5:dOk (jD4 d)=true:=by
  unfold jD4
  cases jB d with
  |true=>exact Jc (l:=[30,60,200]) (Jc (l:=[2,1,5]) (QB (n:=2) k4))
  |false=>exact QB (n:=2) k4
 exact QB2 _ _ _ (QB (n:=4) k5)
theorem mk_cpy {d:Dice}(h:dOk d=true):JE (mkX d)=true:=Bf.2 ⟨(mk_ok h).2,QvJ _ _⟩
def jaL (_:List Int)(_:Job)(_:Int):Bool:=true
abbrev Qgy:Sh:=⟨[(2,.ty tI),(4,.ptr 4 0),(9,.ptr 9 0),(10,.ty (.sl Jb)),(13,.ptr 13 0),(58,.ty (.sl Qm)),(59,.ty tI),(60,.ty tI),(68,.ms 65),(69,.ty tI),(70,.ty tI)],[(4,.box Jb),(9,.box QE),(13,.box Qm),(50,.no),(65,.arr 47 Jb),(68,.no),(5050,.no),(10050,.no),(15050,.no)]⟩
abbrev Qgz:Sh:=⟨[(6,.ty .bool)],[]⟩
abbrev QP2:Sh:=⟨[(2,.ty tI),(4,.ptr 4 0),(9,.ptr 9 0),(10,.ty (.sl Jb)),(13,.ptr 13 0),(58,.ty (.sl Qm)),(59,.ty tI),(60,.ty tI)],[(4,.box Jb),(9,.box QE),(13,.box Qm),(50,.no),(5050,.no),(10050,.no),(15050,.no)]⟩
abbrev QgA:Sh:=⟨[(2,.ty tI),(4,.ptr 4 0),(9,.ptr 9 0),(10,.ty (.sl Jb)),(13,.ptr 13 0),(58,.ty (.sl Qm)),(59,.ty tI),(60,.ty tI),(183,.ty (.sl tI)),(184,.ty tI),(185,.ty tI)],[(4,.box Jb),(9,.box QE),(13,.box Qm),(50,.no),(5050,.no),(10050,.no),(15050,.no)]⟩
abbrev QgB:Sh:=⟨[(2,.ty tI),(4,.ptr 4 0),(9,.ptr 9 0),(10,.ty (.sl Jb)),(58,.ty (.sl Qm)),(59,.ty tI),(60,.ty tI)],[(4,.box Jb),(9,.box QE),(50,.no),(5050,.no),(10050,.no),(15050,.no)]⟩
abbrev QB3:Sh:=⟨[],[]⟩
def Qpd:Fg:=Qgy.f
def Qpe:Fg:=QgA.f
def Qpf:Fg:=QgB.f
def Or:TC:=aF Tryz.f4 [(506,.fz [5050,10050]),(506,pL 2 Qpf),(8101,.fg QB3.f),(129636,pD [(0,[50,5050,10050,15050]),(1,[8,9,50,65,5050,5065,10050,10065,15050,15065]),(2,[4]),(3,[]),(4,[65,68,5068,10068,15068]),(5,[65,68]),(6,[])] (.of [0,2,3,6,1,4,5])),(259274,pL 0 Qpd),(4148389,.fg ⟨[(2,some tI),(4,none),(9,none),(10,none),(13,none),(58,some (.sl Qm)),(59,some tI),(60,some tI)],[(4,some Jb),(9,some QE),(13,some Qm),(50,none),(5050,none),(10050,none),(15050,none)]⟩),(530993981,.fg Qgz.f),(66375669,.fg Qgz.f),(33187838,pL 1 Qpe),(531005413,.fg ⟨[(2,some tI),(4,none),(9,none),(10,none),(58,some (.sl Qm)),(59,some tI),(60,some tI)],[(4,some Jb),(9,some QE),(50,none),(5050,none),(10050,none),(15050,none)]⟩),(67968693053,.fg Qgz.f)]
def QB4:TC:=lb 0 Or
def QB5:TC:=lb 1 Or
def QB6:TC:=lb 2 Or
def rv_f4:List (RV×Option Ty):=[((.t 6),some .bool)]
def QB7 (x2:Int)(x10:List Job)(x58:List Estate)(x59 x60 x69 x70:Int)(y4:Job)(y9:Policy)(y13:Estate)(y65:List Job):VS:=Qgy.st (x2,(),(),x10,(),x58,x59,x60,(),x69,x70,()) (y4,y9,y13,(),y65,(),(),(),(),())
def ZY (x6:Bool):VS:=Qgz.st (x6,()) ()
def Qpg (x2:Int)(x10:List Job)(x58:List Estate)(x59 x60:Int)(y4:Job)(y9:Policy)(y13:Estate):VS:=QP2.st (x2,(),(),x10,(),x58,x59,x60,()) (y4,y9,y13,(),(),(),(),())
def QB8 (x2:Int)(x10:List Job)(x58:List Estate)(x59 x60:Int)(x183:List Int)(x184 x185:Int)(y4:Job)(y9:Policy)(y13:Estate):VS:=QgA.st (x2,(),(),x10,(),x58,x59,x60,x183,x184,x185,()) (y4,y9,y13,(),(),(),(),())
def Qbl (x2:Int)(x10:List Job)(x58:List Estate)(x59 x60:Int)(y4:Job)(y9:Policy):VS:=QgB.st (x2,(),(),x10,x58,x59,x60,()) (y4,y9,(),(),(),(),())
def Qph  : VS:=QB3.st () ()
def L_f4_0:VS->Option (Bool×List (Bool×Exit×VS)):=mkL Qgy (fun x y=>(QD y.2.2.2.2.1 x.2.2.2.2.2.2.2.2.2.1 x.2.2.2.2.2.2.2.2.2.2.1&&(JE y.2.2.1&&Q5 y.2.1))) (fun x y=>[((false),.ret,ZY (false)),(true,.exit 2,Qpg (x.1) (x.2.2.2.1) (x.2.2.2.2.2.1) (x.2.2.2.2.2.2.1) (x.2.2.2.2.2.2.2.1) (y.1) (y.2.1) (y.2.2.1))])
def L_f4_1:VS->Option (Bool×List (Bool×Exit×VS)):=mkL QgA (fun x y=>(QD x.2.2.2.2.2.2.2.2.1 x.2.2.2.2.2.2.2.2.2.1 x.2.2.2.2.2.2.2.2.2.2.1&&(JE y.2.2.1&&Q5 y.2.1))) (fun x y=>[((false),.ret,ZY (false)),(true,.exit 4,Qbl (x.1) (x.2.2.2.1) (x.2.2.2.2.2.1) (x.2.2.2.2.2.2.1) (x.2.2.2.2.2.2.2.1) (y.1) (y.2.1))])
def L_f4_2:VS->Option (Bool×List (Bool×Exit×VS)):=mkL QgB (fun x y=>(QD x.2.2.2.2.1 x.2.2.2.2.2.1 x.2.2.2.2.2.2.1&&(x.2.2.2.2.1.all JE&&(Q5 y.2.1&&decide (x.2.2.2.1.length<=100))))) (fun x y=>[((false),.ret,ZY (false)),(true,.exit 0,Qph)])
def UT:G:=gG 221 [(8,sp_f8),(9,Qlu),(10,QvU),(11,QGU),(12,Qlq),(13,QaB),(14,QHE),(15,Qnl),(16,Qwp),(17,Qnk),(18,Qy1),(19,Qnw),(20,QyO),(21,QyN),(22,QyP),(23,Qux),(24,QyR),(25,QyS)] (Ls [L_f4_0,L_f4_1,L_f4_2])
def QgC (x2:Int)(x10:List Job)(x58:List Estate)(x59 x60 x69 x70:Int)(y4:Job)(y9:Policy)(y13:Estate)(y65:List Job):OX:=Qx (QA UT Qpd QB4) (QB7 x2 x10 x58 x59 x60 x69 x70 y4 y9 y13 y65)
def Qbm (kk:Int->List Job->List Estate->Int->Int->Int->Int->Job->Policy->Estate->List Job->OX)(x2:Int)(x10:List Job)(x58:List Estate)(x59 x60 x69 x70:Int)(y4:Job)(y9:Policy)(y13:Estate)(y65:List Job):OX:=
 let a1:=lgt Jb y65 (Int.toNat x70)
 let a2:=apF y13 y9 a1
 let a3:=GG y13 y9 a1
 br (ilt x70 x69) (br (cIx y65 x70) (br (cLd y65 (Int.toNat x70)) (br a3 (br a3 (br (ine (a2.2) (a2.2)) (some (.ret,ZY false)) (br (Qcz (a2.1) (a2.1)) (br (!(Vb (a2.1) (a2.1))) (some (.ret,ZY false)) (br a3 (br (ine (apE y13 y9 a1) (a2.2)) (some (.ret,ZY false)) (kk x2 x10 x58 x59 x60 x69 (Qj .i64 x70 1) y4 y9 y13 y65)) none)) none)) none) none) none) none) (some (.exit 2,Qpg x2 x10 x58 x59 x60 y4 y9 y13))
def Qpi (x2:Int)(x10:List Job)(x58:List Estate)(x59 x60 x69 x70:Int)(y4:Job)(y9:Policy)(y13:Estate)(y65:List Job):OX:=br (false) (some (.ret,ZY (false)))<|some (.exit 2,Qpg (x2) (x10) (x58) (x59) (x60) (y4) (y9) (y13))
theorem QB9 (x2:Int)(x10:List Job)(x58:List Estate)(x59 x60 x69 x70:Int)(y4:Job)(y9:Policy)(y13:Estate)(y65:List Job):QgC x2 x10 x58 x59 x60 x69 x70 y4 y9 y13 y65=Qbm QgC x2 x10 x58 x59 x60 x69 x70 y4 y9 y13 y65:=lnT (x:=Qbm (fun x2 x10 x58 x59 x60 x69 x70 y4 y9 y13 y65=>some (.normal,QB7 x2 x10 x58 x59 x60 x69 x70 y4 y9 y13 y65)) x2 x10 x58 x59 x60 x69 x70 y4 y9 y13 y65) (by simp only [Qbm,nxA];rfl)
def QgD (x2:Int)(x10:List Job)(x58:List Estate)(x59 x60:Int)(x183:List Int)(x184 x185:Int)(y4:Job)(y9:Policy)(y13:Estate):OX:=Qx (QA UT Qpe QB5) (QB8 x2 x10 x58 x59 x60 x183 x184 x185 y4 y9 y13)
def Qbn (kk:Int->List Job->List Estate->Int->Int->List Int->Int->Int->Job->Policy->Estate->OX)(x2:Int)(x10:List Job)(x58:List Estate)(x59 x60:Int)(x183:List Int)(x184 x185:Int)(y4:Job)(y9:Policy)(y13:Estate):OX:=
 let a1:=dlF y13 y9 (lgt tI x183 (Int.toNat x185))
 let a2:=QaE y13 y9 (lgt tI x183 (Int.toNat x185))
 br (ilt x185 x184) (br (cIx x183 x185) (br a2 (br a2 (br (ine (a1.1) (a1.1)) (some (.ret,ZY false)) (br (IX ((a1.2).1) ((a1.2).1)) (some (.ret,ZY false)) (br (ine ((a1.2).2) ((a1.2).2)) (some (.ret,ZY false)) (kk x2 x10 x58 x59 x60 x183 x184 (Qj .i64 x185 1) y4 y9 y13)))) none) none) none) (some (.exit 4,Qbl x2 x10 x58 x59 x60 y4 y9))
def Qpj (x2:Int)(x10:List Job)(x58:List Estate)(x59 x60:Int)(x183:List Int)(x184 x185:Int)(y4:Job)(y9:Policy)(y13:Estate):OX:=br (false) (some (.ret,ZY (false)))<|some (.exit 4,Qbl (x2) (x10) (x58) (x59) (x60) (y4) (y9))
theorem QCa (x2:Int)(x10:List Job)(x58:List Estate)(x59 x60:Int)(x183:List Int)(x184 x185:Int)(y4:Job)(y9:Policy)(y13:Estate):QgD x2 x10 x58 x59 x60 x183 x184 x185 y4 y9 y13=Qbn QgD x2 x10 x58 x59 x60 x183 x184 x185 y4 y9 y13:=lnT (x:=Qbn (fun x2 x10 x58 x59 x60 x183 x184 x185 y4 y9 y13=>some (.normal,QB8 x2 x10 x58 x59 x60 x183 x184 x185 y4 y9 y13)) x2 x10 x58 x59 x60 x183 x184 x185 y4 y9 y13) (by simp only [Qbn,nxA];rfl)
def QgE (x2:Int)(x10:List Job)(x58:List Estate)(x59 x60:Int)(y4:Job)(y9:Policy):OX:=Qx (QA UT Qpf QB6) (Qbl x2 x10 x58 x59 x60 y4 y9)
def Qbo (kk:Int->List Job->List Estate->Int->Int->Job->Policy->OX)(x2:Int)(x10:List Job)(x58:List Estate)(x59 x60:Int)(y4:Job)(y9:Policy):OX:=
 let a1:=lgt Qm x58 (Int.toNat x60)
 let a2:=Zk a1 (y9) (x10)
 let a3:=(((y4.2.1.1.1,(y4.2.1.1.2.1,())),(y4.2.1.2.1,())),())
 let a4:=Ui a1 (y9)
 let a5:=Uh a1 (y9)
 let a6:=Jg a1 (y9)
 br (ilt x60 x59) (br (cIx x58 x60) (br (Qq ([]:List Job) x10 32) (br (Qq (([]:List Job)++x10) ([(y4.1,a3)]) 32) (br (QD ((([]:List Job)++x10)++([(y4.1,a3)])) (Qc ((([]:List Job)++x10)++([(y4.1,a3)]))) (0:Int)&&(JE a1&&Q5 y9)) (br (false) (some (.ret,ZY (false))) (br (FB a1 (y9) (x10)) (br (FB a1 (y9) (x10)) (br a6 (br a6 (br a6 (br a6 (br (ine ((a2.2).2) ((a2.2).2)) (some (.ret,ZY false)) (br (ine ((a2.2).1) ((a2.2).1)) (some (.ret,ZY false)) (br (Qcz (a2.1) (a2.1)) (br (!(Vb (a2.1) (a2.1))) (some (.ret,ZY false)) (br (ine (a5.2) (a5.2)) (some (.ret,ZY false)) (br (ine (a4.2) (a4.2)) (some (.ret,ZY false)) (br (Ec (a5.1) (a5.1)) (br (!(Ih (a5.1) (a5.1))) (some (.ret,ZY false)) (br (Ec (a4.1) (a4.1)) (br (!(Ih (a4.1) (a4.1))) (some (.ret,ZY false)) (br (QD ([(x2),0,1,2]) (Qc ([(x2),0,1,2])) (0:Int)&&(JE a1&&Q5 (y9))) (br (false) (some (.ret,ZY (false))) (kk (x2) (x10) (x58) (x59) (Qj .i64 (x60) 1) (y4) (y9))) none)) none)) none)))) none))) none) none) none) none) none) none)) none) none) none) none) (some (.exit 0,Qph))
def Qpk (x2:Int)(x10:List Job)(x58:List Estate)(x59 x60:Int)(y4:Job)(y9:Policy):OX:=br (false) (some (.ret,ZY (false)))<|some (.exit 0,Qph)
theorem QCb (x2:Int)(x10:List Job)(x58:List Estate)(x59 x60:Int)(y4:Job)(y9:Policy):QgE x2 x10 x58 x59 x60 y4 y9=Qbo QgE x2 x10 x58 x59 x60 y4 y9:=lnT (x:=Qbo (fun x2 x10 x58 x59 x60 y4 y9=>some (.normal,Qbl x2 x10 x58 x59 x60 y4 y9)) x2 x10 x58 x59 x60 y4 y9) (by simp only [Qbo,nxA];rfl)
def Qpl (p0:List Int)(p1:Job)(p2:Int):OV:=
 let a1:=((mkX (UF (XL p0))).1,(((mkX (UF (XL p0))).2).1,((((mkX (UF (XL p0))).2).2).1,())))
 let a2:=(((Ud (XL p0)).1).1,((((Ud (XL p0)).1).2).1,(((((Ud (XL p0)).1).2).2).1,())))
 let a3:=((Ud (XL p0)).2)
 br (!(E3 p0)) (some (.t .bool Qlt,[])) (br (dOk (XL p0)) (br (dOk (UF (XL p0))) (br (QD ([a2,a1]) (Qc ([a2,a1])) (0:Int)&&(([a2,a1]).all JE&&(Q5 ((a3.1).1,(((a3.1).2).1,()))&&decide ((a3.2).length<=100)))) (br (false) (some (.t .bool (false),[])) (some (.t .bool Qlt,[]))) none) none) none)
theorem e_f4 (p0:List Int)(p1:Job)(p2:Int):QS UT Or rv_f4 false [.t (.sl tI) p0,.t Jb p1,.t tI p2] []=Qpl p0 p1 p2:=by kernel_rfl
theorem gk_f4:GOk Tryz.prog UT:=Jp _ (gA (gD ms_f8 (gC en_f9 ms_f9 (gD ms_f10 (gD ms_f11 (gC en_f12 ms_f12 (gD Qnj (gD ms_f14 (gD Qyy (gD ms_f16 (gD Qyx (gD ms_f18 (gD QyM (gD ms_f20 (gD ms_f21 (gD ms_f22 (gD ms_f23 (gD ms_f24 (gD ms_f25 gN)))))))))))))))))))
theorem l_f4_0 (x2:Int)(x10:List Job)(x58:List Estate)(x59 x60 x69 x70:Int)(y4:Job)(y9:Policy)(y13:Estate)(y65:List Job)(h:(QD y65 x69 x70&&(JE y13&&Q5 y9))=true):QgC x2 x10 x58 x59 x60 x69 x70 y4 y9 y13 y65=Qpi x2 x10 x58 x59 x60 x69 x70 y4 y9 y13 y65:=by
 obtain ⟨h0,hj⟩:=Bf.1 h
 obtain ⟨hc,hp⟩:=Bf.1 hj
 have hl:Jg y13 y9=true:=Bf.2 ⟨(Bf.1 hc).1,hp⟩
 obtain ⟨rfl,h3,k,rfl,hk⟩:=JG h0
 clear h h0 hj
 refine QQ y65 (fun k=>QgC x2 x10 x58 x59 x60 (y65.length:Int) (k:Int) y4 y9 y13 y65=Qpi x2 x10 x58 x59 x60 (y65.length:Int) (k:Int) y4 y9 y13 y65) ?_ ?_ k hk
 ·rw [QB9]
  simp only [Qbm,Qpi,Qy,BN,BM,Qi]
 ·intro k hk ih
  rw [QB9]
  have hap:=QPZ (j:=y65[k]) hc hl
  have e1:ine (apE y13 y9 y65[k]) (apF y13 y9 y65[k]).2=false:=WK _
  have e2:cLd y65 k=true:=by
   simp only [cLd,Ba]
   omega
  simp only [Qbm,Qy,QK,hk,Bo,Qf,Bb,QO (show k<4611686018427387904 by omega),QL (y:=Jb) hk,e2,WK,e1,Vb,BF,Qi]
  refine brY hl (brY hl (brY (QHF _ hap) (brY hl ?_)))
  rw [ih]
  rfl
theorem l_f4_1 (x2:Int)(x10:List Job)(x58:List Estate)(x59 x60:Int)(x183:List Int)(x184 x185:Int)(y4:Job)(y9:Policy)(y13:Estate)(h:(QD x183 x184 x185&&(JE y13&&Q5 y9))=true):QgD x2 x10 x58 x59 x60 x183 x184 x185 y4 y9 y13=Qpj x2 x10 x58 x59 x60 x183 x184 x185 y4 y9 y13:=by
 obtain ⟨h0,hj⟩:=Bf.1 h
 obtain ⟨hc,hp⟩:=Bf.1 hj
 have hl:Jg y13 y9=true:=Bf.2 ⟨(Bf.1 hc).1,hp⟩
 obtain ⟨rfl,h3,k,rfl,hk⟩:=JG h0
 clear h h0 hj
 refine QQ x183 (fun k=>QgD x2 x10 x58 x59 x60 x183 (x183.length:Int) (k:Int) y4 y9 y13=Qpj x2 x10 x58 x59 x60 x183 (x183.length:Int) (k:Int) y4 y9 y13) ?_ ?_ k hk
 ·rw [QCa]
  simp only [Qbn,Qpj,Qy,BN,BM,Qi]
 ·intro k hk ih
  rw [QCa]
  simp only [Qbn,Qy,QK,hk,Bo,Qf,Bb,QO (show k<4611686018427387904 by omega),QL (y:=tI) hk,WK,bneq_s,Qi]
  refine brY hl (brY hl ?_)
  rw [ih]
  rfl
theorem l_f4_2 (x2:Int)(x10:List Job)(x58:List Estate)(x59 x60:Int)(y4:Job)(y9:Policy)(h:(QD x58 x59 x60&&(x58.all JE&&(Q5 y9&&decide (x10.length<=100))))=true):QgE x2 x10 x58 x59 x60 y4 y9=Qpk x2 x10 x58 x59 x60 y4 y9:=by
 obtain ⟨h0,hj⟩:=Bf.1 h
 obtain ⟨hca,hj2⟩:=Bf.1 hj
 obtain ⟨hp,hn⟩:=Bf.1 hj2
 have hn:x10.length<=100:=BD hn
 obtain ⟨rfl,h3,k,rfl,hk⟩:=JG h0
 clear h h0 hj hj2
 refine QQ x58 (fun k=>QgE x2 x10 x58 (x58.length:Int) (k:Int) y4 y9=Qpk x2 x10 x58 (x58.length:Int) (k:Int) y4 y9) ?_ ?_ k hk
 ·rw [QCb]
  simp only [Qbo,Qpk,Qy,BN,BM,Qi]
 ·intro k hk ih
  rw [QCb]
  have hc:JE x58[k]=true:=Bi.1 hca _ (Bw hk)
  have hl:Jg x58[k] y9=true:=Bf.2 ⟨(Bf.1 hc).1,hp⟩
  have ha:FB x58[k] y9 x10=true:=Bf.2 ⟨hc,hp⟩
  have c1:Qq ([]:List Job) x10 32=true:=Q1 (by omega) (by simp only [Bv];omega)
  have c2: ∀ v,Qq x10 [v] 32=true:=fun v=>Q1 (by omega) (by simp only [Bh];omega)
  have c3: ∀ v:Job,QD (x10++[v]) (Qc (x10++[v])) 0=true:=fun v=>JH (by simp only [Bm,Bh];omega)
  have c4:QD [x2,0,1,2] (Qc [x2,0,1,2]) 0=true:=JH (by simp)
  have d1:Ec (Uh x58[k] y9).1 (Uh x58[k] y9).1=true:=Be ⟨Qgx hl,Qgx hl⟩
  have d2:Ec (Ui x58[k] y9).1 (Ui x58[k] y9).1=true:=Be ⟨Qgx hl,Qgx hl⟩
  simp only [Qbo,Qy,QK,hk,Bo,Qf,Bb,QO (show k<4611686018427387904 by omega),QL (y:=Qm) hk,WK,Vb,Ih,beq_self_eq_true,BF,Qi,BV,c1,c2,c3,c4,hc,hp,ha,hl,d1,d2,B6,B7,QHF _ (QP0 hc hl),ih]
  rfl
theorem QP3:LO UT Qpd QB4 0:=QI (s:=Qgy) fun x y h _ q=>by simp only [QG,QH] at q;exact (l_f4_0 x.1 x.2.2.2.1 x.2.2.2.2.2.1 x.2.2.2.2.2.2.1 x.2.2.2.2.2.2.2.1 x.2.2.2.2.2.2.2.2.2.1 x.2.2.2.2.2.2.2.2.2.2.1 y.1 y.2.1 y.2.2.1 y.2.2.2.2.1 h).trans q
theorem QP4:LO UT Qpe QB5 1:=QI (s:=QgA) fun x y h _ q=>by simp only [QG,QH] at q;exact (l_f4_1 x.1 x.2.2.2.1 x.2.2.2.2.2.1 x.2.2.2.2.2.2.1 x.2.2.2.2.2.2.2.1 x.2.2.2.2.2.2.2.2.1 x.2.2.2.2.2.2.2.2.2.1 x.2.2.2.2.2.2.2.2.2.2.1 y.1 y.2.1 y.2.2.1 h).trans q
theorem QP5:LO UT Qpf QB6 2:=QI (s:=QgB) fun x y h _ q=>by simp only [QG,QH] at q;exact (l_f4_2 x.1 x.2.2.2.1 x.2.2.2.2.1 x.2.2.2.2.2.1 x.2.2.2.2.2.2.1 y.1 y.2.1 h).trans q
theorem lk_f4:Or.lok UT:=by
 repeat (first|exact trivial|exact QP3|exact QP4|exact QP5|refine ⟨?_, ?_⟩)
theorem s_f4 (p0:List Int)(p1:Job)(p2:Int):Qpl p0 p1 p2=some (.t .bool (jaL p0 p1 p2),[]):=by
 unfold Qpl
 refine QY (fun _=>rfl) (fun k1=> ?_)
 have k1:E3 p0=true:=by simpa using k1
 have hd:=QVd k1
 generalize XL p0=d at hd ⊢
 have hN:=QP1 hd
 have ho:=mk_cpy hN
 have hl:=jL_len d
 have hE:=jE_len d
 have hP:=jP_len d
 rw [show Ud d=(jE d,jP d,(jL d).1) from rfl]
 generalize jE d=e at hE ⊢
 generalize jP d=y at hP ⊢
 generalize (jL d).1=l at hl ⊢
 generalize mkX (UF d)=o at ho ⊢
 refine brY hd (brY hN (brY ?_ rfl))
 have c1:QD [e,o] (Qc [e,o]) 0=true:=JH (by simp)
 have c2:[e,o].all JE=true:=by simp [hE,ho]
 exact Bf.2 ⟨c1,Bf.2 ⟨c2,Bf.2 ⟨hP,Be (show l.length<=100 by omega)⟩⟩⟩
def sp_f4:Ent:=Qo (.pr (.sl tI) (.pr Jb (.pr tI .nil))) (fun x=>true) (fun x=>(.t .bool (jaL x.1 x.2.1 x.2.2.1)))
theorem ms_f4:Qu Tryz.prog 4 (Qv sp_f4):=Qs (R:=QS UT Or rv_f4 false) (mG Tryz.func4 (by kernel_rfl) Tryz.ntmps4 (by kernel_rfl) gk_f4 lk_f4) fun x _=>(e_f4 x.1 x.2.1 x.2.2.1).trans (s_f4 x.1 x.2.1 x.2.2.1)
end
end Go.Proofs.YthlcobdnemhcdaaGreat.K.SO
namespace Go.Proofs.YthlcobdnemhcdaaGreat.K
open Go.RowKit SO
theorem walkJobAll (z0:(List Int))(z1:Job)(z2:Int)(W:World)(v0:Value)(v1:Value)(v2:Value)(c0:C noX W (fun _=> .no) (V.t (.sl tI) z0).d v0)(c1:C noX W (fun _=> .no) (V.t Jb z1).d v1)(c2:C noX W (fun _=> .no) (V.t tI z2).d v2)(w0:Ty.wf (.sl tI) z0)(w1:Ty.wf Jb z1)(w2:Ty.wf tI z2):
  Calls Tryz.prog 4 #[v0,v1,v2] W fun r w'=>r= .returned (.bool true)/\Below W.heap.size W w':=
 QMn (by decide) ms_f4 (args:=[.t (.sl tI) z0,.t Jb z1,.t tI z2]) (QmQ (x:=(z0,z1,z2,())) rfl (rfl)) (by simp only [V.ds,Cs];exact ⟨_,_,rfl,c0,_,_,rfl,c1,_,_,rfl,c2,rfl⟩)
end Go.Proofs.YthlcobdnemhcdaaGreat.K
