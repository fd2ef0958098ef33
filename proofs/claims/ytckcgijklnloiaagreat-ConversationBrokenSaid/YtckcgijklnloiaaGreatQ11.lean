import Derived.Test.YtckcgijklnloiaaGreatQ10
set_option linter.unusedSimpArgs false
set_option linter.unusedVariables false
namespace Go.Proofs.YtckcgijklnloiaaGreat.K
open Go.RowKit
def lexL (a b:Keep):Prop:=a.1<b.1∨(a.1=b.1∧a.2.1<b.2.1)
def edG (n:Int)(l:List Keep)(i k:Int):Prop:=(∀ x ∈ l,egIn n x=true)∧l.Pairwise lexL∧ ∀ x ∈ l,lexL x (i,(k,()))
theorem Qid {n:Int}{l:List Keep}{i k i' k':Int}(h:edG n l i k)(hl:i<i'∨(i=i'∧k≤k')):edG n l i' k':=by
 refine ⟨h.1,h.2.1,fun x hx=> ?_⟩
 have:=h.2.2 x hx
 simp only [lexL] at this ⊢
 omega
theorem QuF {n:Int}: ∀ (m:Nat) (i k:Int) (l:List Keep) (d:Dice),0≤i→i<n→0≤k→k+m≤n→edG n l i k→edG n (edZ m i k l d).1 i (k+m)
 | 0,i,k,l,d,_,_,_,_,h=>Qid h (.inr ⟨rfl,by omega⟩)
 | m+1,i,k,l,d,h0,h1,h2,h3,h=>by
  have hs:edG n l i (k+1):=Qid h (.inr ⟨rfl,by omega⟩)
  have e:k+((m+1:Nat):Int)=k+1+m:=by omega
  unfold edZ
  rw [e]
  cases hn:ine i k with
  | false=>exact QuF m i (k+1) l d h0 h1 (by omega) (by omega) hs
  | true=>
   cases h4:(igt (dval d 3) 0&&ilt (llen l) 3) with
   | false=>exact QuF m i (k+1) l (dnext d 3) h0 h1 (by omega) (by omega) hs
   | true=>
    have hne:i≠k:=by simpa [ine] using hn
    refine QuF m i (k+1) (l++[(i,(k,()))]) (dnext d 3) h0 h1 (by omega) (by omega) ⟨fun x hx=> ?_, ?_,fun x hx=> ?_⟩
    ·rcases List.mem_append.1 hx with hx | hx
     ·exact h.1 x hx
     ·rw [List.mem_singleton.1 hx]
      simp only [egIn,ilt,ige,Qdb,Bool.and_eq_true,Bool.not_eq_true',decide_eq_false_iff_not]
      exact ⟨by omega,by omega,by omega,by omega,hne⟩
    ·rw [List.pairwise_append]
     refine ⟨h.2.1,List.pairwise_singleton _ _,fun x hx y hy=> ?_⟩
     rw [List.mem_singleton.1 hy]
     exact h.2.2 x hx
    ·rcases List.mem_append.1 hx with hx | hx
     ·exact hs.2.2 x hx
     ·rw [List.mem_singleton.1 hx]
      exact .inr ⟨rfl,by show k<k+1; omega⟩
theorem Q0i {n i k:Int}{l:List Keep}(h:edG n l i k):egUp n l 0=true:=by
 unfold egUp
 rw [List.all_eq_true]
 intro j hj
 have hj:j<l.length:=by
  rw [List.mem_range'] at hj
  obtain ⟨a,ha,rfl⟩:=hj
  omega
 have at_: ∀ q (hq:q<l.length),egAt l q=l[q]:=fun q hq=>by simp only [egAt,List.getD_eq_getElem?_getD,List.getElem?_eq_getElem hq,Option.getD_some]
 unfold egOk
 rw [at_ j hj,h.1 _ (List.getElem_mem hj),Bool.true_and]
 by_cases h0:j=0
 ·rw [decide_eq_true h0,Bool.true_or]
 ·rw [decide_eq_false h0,Bool.false_or,at_ (j - 1) (by omega)]
  have hp:=List.pairwise_iff_getElem.1 h.2.1 (j - 1) j (by omega) hj (by omega)
  simp only [lexL] at hp
  simp only [egLt,igt,ige,Qdb,Bool.and_eq_true,Bool.not_eq_true',decide_eq_false_iff_not,Bool.and_eq_false_imp,decide_eq_true_eq]
  refine ⟨by omega,fun he=>by omega⟩
theorem QDT {d:Dice}:QaT (dwdG d sIt)=true:=by
 have hv:=QaP (d:=d) (n:=2) (by omega)
 unfold dwdG
 show QaT (sIt.getD (dval d 2).toNat ByteArray.empty)=true
 rcases (show dval d 2=0∨dval d 2=1 by omega) with h | h <;> rw [h] <;> kernel_rfl
theorem QOD {d:Dice}:nameG (dwdG d sIt)=true:=by
 have hv:=QaP (d:=d) (n:=2) (by omega)
 unfold dwdG
 show nameG (sIt.getD (dval d 2).toNat ByteArray.empty)=true
 rcases (show dval d 2=0∨dval d 2=1 by omega) with h | h <;> rw [h] <;> kernel_rfl
theorem QLQ: ∀ (n:Nat) (d:Dice),(itZ n d).1.all QeW=true∧(itZ n d).1.all Qfb=true∧(itZ n d).1.length=n
 | 0,_=>⟨rfl,rfl,rfl⟩
 | n+1,d=>by
  have:=QLQ n (itemN (dwdGN d sIt) (dwdG d sIt))
  simp only [itZ,List.all_cons,List.length_cons,this,Bool.and_true,and_true]
  exact ⟨QXX _ QDT,QOD⟩
end Go.Proofs.YtckcgijklnloiaaGreat.K
namespace Go.Proofs.YtckcgijklnloiaaGreat.K
open Go.RowKit
noncomputable section
open Classical in
end
end Go.Proofs.YtckcgijklnloiaaGreat.K
namespace Go.Proofs.YtckcgijklnloiaaGreat.K
open Go.RowKit
noncomputable section
-- loop 0: (x12 : (List Qaa)) (x13 : Int) (x14 : Int) (y2 : Qao) (y3_0 : Int) (y3_1 : Int) (y3_2 : Int) (y20303 : (List Qaa)); out: ('exit', 0) (y2 : Qao) (y3_0 : Int) (y3_1 : Int) (y3_2 : Int) (y20303 : (List Qaa))
-- loop 0: (x21 : (List Qao)) (x22 : Int) (x23 : Int) (y2 : Endpoint) (y3_0 : ByteArray) (y3_1 : Int) (y3_2 : Int) (y3_4 : Bool) (y3_8 : Bool) (y9 : (List Int)) (y12 : (List Int)) (y15 : (List Int)) (y20305 : (List Qao)); out: ('exit', 0) (y2 : Endpoint) (y3_0 : ByteArray) (y3_1 : Int) (y3_2 : Int) (y3_4 : Bool) (y3_8 : Bool) (y9 : (List Int)) (y12 : (List Int)) (y15 : (List Int)) (y20305 : (List Qao))
-- loop 0: (x13 : (List Endpoint)) (x14 : Int) (x15 : Int) (y1 : Estate) (y2 : Estate) (y10 : (List Keep)) (y20300 : (List Endpoint)) (y20302 : (List Item)); out: ('exit', 0) (y1 : Estate) (y2 : Estate) (y10 : (List Keep)) (y20300 : (List Endpoint)) (y20302 : (List Item))
-- loop 1: (x28 : (List Item)) (x29 : Int) (x30 : Int) (y2 : Estate) (y10 : (List Keep)) (y20300 : (List Endpoint)) (y20302 : (List Item)); out: ('exit', 2) (y2 : Estate) (y10 : (List Keep)) (y20300 : (List Endpoint)) (y20302 : (List Item))
end
end Go.Proofs.YtckcgijklnloiaaGreat.K
namespace Go.Proofs.YtckcgijklnloiaaGreat.K
open Go.RowKit
noncomputable section
def noAn (e:Endpoint):Endpoint:=(e.1,(e.2.1,(e.2.2.1,(e.2.2.2.1,(e.2.2.2.2.1,(e.2.2.2.2.2.1,(([]:List Int),e.2.2.2.2.2.2.2)))))))
def an (b:Bool)(e:Endpoint):Endpoint:=bif b then noAn e else e
theorem QNA (D:Int): ∀ (l:List ERow) (j:Nat),(∀ i:Nat,i<j→hasF (brkU D l j) (i:Int)=false)∧ ∀ (i:Nat) (hi:i<l.length),hasF (brkU D l j) ((j+i:Nat):Int)=QdT D l[i]
 | [],j=>⟨fun _ _=>rfl,fun i hi=>absurd hi (Nat.not_lt_zero i)⟩
 | z::l,j=>by
  obtain ⟨h1,h2⟩:=QNA D l (j+1)
  have hc: ∀ (a:Int) (m:List Int) (x:Int),hasF (a::m) x=(ieq x a||hasF m x):=fun a m x=>by
   unfold hasF
   rw [List.contains_cons]
  refine ⟨fun i hi=> ?_,fun i hi=> ?_⟩
  ·unfold brkU
   cases QdT D z with
   | false=>exact h1 i (by omega)
   | true=>
    show hasF ((j:Int)::brkU D l (j+1)) (i:Int)=false
    rw [hc,h1 i (by omega),Qdb,decide_eq_false (by omega)]
    rfl
  ·unfold brkU
   cases i with
   | zero=>
    show _=QdT D z
    cases hz:QdT D z with
    | false=>exact h1 j (by omega)
    | true=>
     show hasF ((j:Int)::brkU D l (j+1)) (j:Int)=true
     rw [hc,Qdb,decide_eq_true rfl,Bool.true_or]
   | succ i=>
    have hi2:i<l.length:=by simpa using hi
    have h3:=h2 i hi2
    rw [show j+1+i=j+(i+1) by omega] at h3
    show _=QdT D (l[i]'hi2)
    cases QdT D z with
    | false=>exact h3
    | true=>
     show hasF ((j:Int)::brkU D l (j+1)) ((j+(i+1):Nat):Int)=_
     rw [hc,h3,Qdb,decide_eq_false (by omega),Bool.false_or]
end
end Go.Proofs.YtckcgijklnloiaaGreat.K
namespace Go.Proofs.YtckcgijklnloiaaGreat.K.PE
open Go.RowKit
noncomputable section
theorem QUL:(mAll.all fun s=>subOk s&&(wordF s&&nm1 s))=true:=by kernel_rfl
theorem QSA {s:ByteArray}(h:s ∈ mAll):subOk s=true∧wordF s=true∧s.size≤1000:=by
 have:=List.all_eq_true.1 QUL s h
 simp only [Bool.and_eq_true] at this
 exact ⟨this.1,this.2.1,of_decide_eq_true this.2.2⟩
def mkP (e:Endpoint):Prop:= ∃ d s,e=epV d s∧s ∈ mAll∧dOk d=true
attribute [local irreducible] epV epN
theorem QPu {e:Endpoint}(h:mkP e):QaS e=true:=by
 obtain ⟨d,s,rfl,hs,hd⟩:=h
 obtain ⟨h1,h2,h3⟩:=QSA hs
 exact QQM h1 h2 h3 hd
theorem mk_len {e:Endpoint}(h:mkP e):Qa8 e=true:=by
 obtain ⟨d,s,rfl,hs,hd⟩:=h
 obtain ⟨_,_,h3⟩:=QSA hs
 have hi:=QUm (d:=d) (nm:=s) h3 hd
 exact QMn (by rw [QMk]; exact h3) (Nat.le_trans (QuC (nm:=s) hd) (show 10≤1000 by decide)) (Nat.le_trans hi.2 (show 3≤1000 by decide)) (Nat.le_trans (an_len d s) (show 4≤1000 by decide)) (Nat.le_trans (hs_len d s) (show 4≤1000 by decide)) hi.1
theorem QKS: ∀ (l:List ByteArray) (d:Dice),(mkZ l d).1.length=l.length
 | [],_=>rfl
 | _::r,d=>by simp only [mkZ,List.length_cons,QKS r (epN d _)]
theorem QKT: ∀ (l:List ByteArray) (d:Dice),(∀ s ∈ l,s ∈ mAll)→dOk d=true→ ∀ e ∈ (mkZ l d).1,mkP e
 | [],_,_,_,e,he=>by cases he
 | s::r,d,h,hd,e,he=>by
  simp only [mkZ,List.mem_cons] at he
  rcases he with rfl | he
  ·exact ⟨d,s,rfl,h s List.mem_cons_self,hd⟩
  ·exact QKT r (epN d s) (fun s hs=>h s (List.mem_cons_of_mem _ hs)) (QNn hd) e he
theorem QPv (d:Dice): ∀ s ∈ mkNm d,s ∈ mAll:=by
 rcases QlJ d with h | h | h <;> rw [h]
 ·exact fun s hs=>List.mem_of_mem_take hs
 ·exact fun s hs=>List.mem_of_mem_take hs
 ·exact fun s hs=>hs
theorem QUh {d:Dice}(h:dOk d=true): ∀ e ∈ xEps (mkX d),mkP e:=QKT (mkNm d) (dnext d 3) (QPv d) (Qal h)
theorem QBC (d:Dice):(xEps (mkX d)).length=(mkNm d).length:=QKS _ _
theorem mk_up {d:Dice}(h:dOk d=true):epUp (xEps (mkX d)) 0=true:=by
 have q1:slt (ByteArray.mk #[97,112,112]) (ByteArray.mk #[100,98])=true:=by kernel_rfl
 have q2:slt (ByteArray.mk #[100,98]) (ByteArray.mk #[109,97,105,108])=true:=by kernel_rfl
 have q3:slt (ByteArray.mk #[109,97,105,108]) (ByteArray.mk #[119,101,98])=true:=by kernel_rfl
 have hall:=QUh h
 have hd:=Qal (n:=3) h
 have hv: ∀ e ∈ (mkZ (mkNm d) (dnext d 3)).1,QaS e=true:=fun e he=>QPu (hall e he)
 have hn: ∀ d s,(epV d s).1=s:=fun d s=>QMk d s
 show epUp2 (mkZ (mkNm d) (dnext d 3)).1 (mkZ (mkNm d) (dnext d 3)).1 0=true
 rcases QlJ d with hc | hc | hc <;> rw [hc] at hv ⊢
 ·show (QaS (epV _ _)&&true&&(QaS (epV _ _)&&(false||slt (epV _ (ByteArray.mk #[97,112,112])).1 (epV _ (ByteArray.mk #[100,98])).1)&&true))=true
  rw [hn,hn,q1,hv _ List.mem_cons_self,hv _ (List.mem_cons_of_mem _ List.mem_cons_self)]
  rfl
 ·show (QaS (epV _ _)&&true&&(QaS (epV _ _)&&(false||slt (epV _ (ByteArray.mk #[97,112,112])).1 (epV _ (ByteArray.mk #[100,98])).1)&&(QaS (epV _ _)&&(false||slt (epV _ (ByteArray.mk #[100,98])).1 (epV _ (ByteArray.mk #[109,97,105,108])).1)&&true)))=true
  rw [hn,hn,hn,q1,q2,hv _ List.mem_cons_self,hv _ (List.mem_cons_of_mem _ List.mem_cons_self),hv _ (List.mem_cons_of_mem _ (List.mem_cons_of_mem _ List.mem_cons_self))]
  rfl
 ·show (QaS (epV _ _)&&true&&(QaS (epV _ _)&&(false||slt (epV _ (ByteArray.mk #[97,112,112])).1 (epV _ (ByteArray.mk #[100,98])).1)&&(QaS (epV _ _)&&(false||slt (epV _ (ByteArray.mk #[100,98])).1 (epV _ (ByteArray.mk #[109,97,105,108])).1)&&(QaS (epV _ _)&&(false||slt (epV _ (ByteArray.mk #[109,97,105,108])).1 (epV _ (ByteArray.mk #[119,101,98])).1)&&true))))=true
  rw [hn,hn,hn,hn,q1,q2,q3,hv _ List.mem_cons_self,hv _ (List.mem_cons_of_mem _ List.mem_cons_self),hv _ (List.mem_cons_of_mem _ (List.mem_cons_of_mem _ List.mem_cons_self)),hv _ (List.mem_cons_of_mem _ (List.mem_cons_of_mem _ (List.mem_cons_of_mem _ List.mem_cons_self)))]
  rfl
theorem Qoi {n:Int}: ∀ (m:Nat) (i k:Int) (l:List Keep) (d:Dice),0≤i→i<n→0≤k→k+m≤n→edG n l i k→edG n (edM m i k l d).1 i (k+m)
 | 0,i,k,l,d,_,_,_,_,h=>Qid h (.inr ⟨rfl,by omega⟩)
 | m+1,i,k,l,d,h0,h1,h2,h3,h=>by
  have hs:edG n l i (k+1):=Qid h (.inr ⟨rfl,by omega⟩)
  have e:k+((m+1:Nat):Int)=k+1+m:=by omega
  unfold edM
  rw [e]
  cases hn:ine i k with
  | false=>exact Qoi m i (k+1) l d h0 h1 (by omega) (by omega) hs
  | true=>
   cases h4:ieq (dval d 3) 0 with
   | false=>exact Qoi m i (k+1) l (dnext d 3) h0 h1 (by omega) (by omega) hs
   | true=>
    have hne:i≠k:=by simpa [ine] using hn
    refine Qoi m i (k+1) (l++[(i,(k,()))]) (dnext d 3) h0 h1 (by omega) (by omega) ⟨fun x hx=> ?_, ?_,fun x hx=> ?_⟩
    ·rcases List.mem_append.1 hx with hx | hx
     ·exact h.1 x hx
     ·rw [List.mem_singleton.1 hx]
      simp only [egIn,ilt,ige,Qdb,Bool.and_eq_true,Bool.not_eq_true',decide_eq_false_iff_not]
      exact ⟨by omega,by omega,by omega,by omega,hne⟩
    ·rw [List.pairwise_append]
     refine ⟨h.2.1,List.pairwise_singleton _ _,fun x hx y hy=> ?_⟩
     rw [List.mem_singleton.1 hy]
     exact h.2.2 x hx
    ·rcases List.mem_append.1 hx with hx | hx
     ·exact hs.2.2 x hx
     ·rw [List.mem_singleton.1 hx]
      exact .inr ⟨rfl,by show k<k+1; omega⟩
theorem QC5 {n:Int}: ∀ (m nn:Nat) (i:Int) (l:List Keep) (d:Dice),(nn:Int)≤n→0≤i→i+m≤n→edG n l i 0→edG n (edN m nn i l d).1 (i+m) 0
 | 0,nn,i,l,d,_,_,_,h=>Qid h (by omega)
 | m+1,nn,i,l,d,hnn,h0,h1,h=>by
  have:=Qoi nn i 0 l d h0 (by omega) (by omega) (by omega) h
  have e:i+((m+1:Nat):Int)=i+1+m:=by omega
  unfold edN
  rw [e]
  exact QC5 m nn (i+1) _ _ hnn (by omega) (by omega) (Qid this (.inl (by omega)))
theorem QMV: ∀ (m n:Nat) (i:Int) (l:List Keep) (d:Dice),dOk d=true→(edN m n i l d).1.length≤l.length+n * m
 | 0,_,_,_,_,_=>by simp [edN]
 | m+1,n,i,l,d,h=>by
  have h1:=Qsn n i 0 l d h
  have h2:=QMV m n (i+1) (edM n i 0 l d).1 (edM n i 0 l d).2 h1.1
  have h3:=h1.2
  rw [Nat.mul_add,Nat.mul_one]
  unfold edN
  omega
theorem QBD {d:Dice}(h:dOk d=true):egUp (llen (xEps (mkX d))) (xEdg (mkX d)) 0=true∧(xEdg (mkX d)).length≤16:=by
 have hn:=QzT d
 have hl:llen (xEps (mkX d))=((mkNm d).length:Int):=by rw [llen,QBC]
 rw [hl]
 have hy:=QC5 (n:=((mkNm d).length:Int)) (mkNm d).length (mkNm d).length 0 [] (mkZ (mkNm d) (dnext d 3)).2 (Int.le_refl _) (Int.le_refl _) (by omega) (⟨fun x hx=>(nomatch hx),List.Pairwise.nil,fun x hx=>(nomatch hx)⟩:edG _ [] 0 0)
 refine ⟨Q0i hy, ?_⟩
 have h2:=QMV (mkNm d).length (mkNm d).length 0 [] (mkZ (mkNm d) (dnext d 3)).2 (QKR (mkNm d) _ (Qal h))
 have h3:(mkNm d).length * (mkNm d).length≤4 * 4:=Nat.mul_le_mul hn.2.1 hn.2.1
 show (mkEd d).1.length≤16
 unfold mkEd
 simp only [List.length_nil] at h2
 omega
theorem mk_ok {d:Dice}(h:dOk d=true):estOk (mkX d)=true∧Qcy (mkX d)=true:=by
 have hn:=QzT d
 have h1:=mk_up h
 obtain ⟨h2,h3⟩:=QBD h
 have hv3:=QaP (d:=(mkEd d).2) (n:=3) (by omega)
 have hi:=QLQ (dval (mkEd d).2 3).toNat (dnext (mkEd d).2 3)
 have hl:(xEps (mkX d)).length≤4:=by rw [QBC]; omega
 have hx:xItm (mkX d)=(itZ (dval (mkEd d).2 3).toNat (dnext (mkEd d).2 3)).1:=rfl
 constructor
 ·unfold estOk
  rw [h1,h2,hx,hi.1,show ile (llen (xEps (mkX d))) 16=true from decide_eq_true (by simp only [llen]; omega),show ile (llen (xEdg (mkX d))) 40=true from decide_eq_true (by simp only [llen]; omega),show ile (llen (itZ (dval (mkEd d).2 3).toNat (dnext (mkEd d).2 3)).1) 30=true from decide_eq_true (by simp only [llen]; omega)]
  rfl
 ·unfold Qcy Qb6
  rw [hx,hi.2.1,decide_eq_true (show (xEps (mkX d)).length≤99999∧(xEdg (mkX d)).length≤99999 by omega),decide_eq_true (show (itZ (dval (mkEd d).2 3).toNat (dnext (mkEd d).2 3)).1.length≤100000 by omega),Bool.true_and,Bool.true_and,Bool.and_true]
  exact List.all_eq_true.2 fun e he=>mk_len (QUh h e he)
open Classical in
def isMk (e:Estate):Bool:= @decide (∃ d,dOk d=true∧e=mkX d) (Classical.propDecidable _)
theorem QXZ {d:Dice}(h:dOk d=true):isMk (mkX d)=true:= @decide_eq_true _ (Classical.propDecidable _) ⟨d,h,rfl⟩
theorem QXY {e:Estate}(h:isMk e=true): ∃ d,dOk d=true∧e=mkX d:= @of_decide_eq_true _ (Classical.propDecidable _) h
theorem QAP {c s:Endpoint}{d:Int}(h:ine (Qbz c s d).2 0=true):(Qbz c s d).1=zK:=by
 unfold Qbz withF at h ⊢
 cases h1:(!Qgi c s) with
 | true=>rfl
 | false=>
  rw [h1] at h
  cases h2:ilt d 0 with
  | true=>rfl
  | false=>
   rw [h2] at h
   cases h3:igt d 40000 with
   | true=>rfl
   | false=>
    rw [h3] at h
    cases h4:ilt c.2.2.1 1 with
    | true=>rfl
    | false=>
     rw [h4] at h
     cases h5:igt c.2.2.1 4 with
     | true=>rfl
     | false=>
      rw [h5] at h
      cases h6:ilt (imn c.2.2.1 s.2.2.1) c.2.1 with
      | true=>rfl
      | false=>
       rw [h6] at h
       cases h7:ilt (imn c.2.2.1 s.2.2.1) s.2.1 with
       | true=>rfl
       | false=>
        rw [h7] at h
        simp only [cond_false] at h ⊢
        unfold overF at h ⊢
        cases h8:fstG (posE s (QaJ c) (imn c.2.2.1 s.2.2.1)) (outL s (QaJ c)) with
        | none=>rfl
        | some k=>
         rw [h8] at h
         simp only at h ⊢
         unfold pickF at h ⊢
         cases h9:ine (pickE c s d ((outL s (QaJ c)).getD k 0)) 0 with
         | true=>rfl
         | false=>
          rw [h9] at h
          exact absurd (show false=true from h) (by decide)
def cntE (D:Int)(l:List ERow):Int:=((l.filter (QdT D)).length:Int)
theorem QAT (D:Int): ∀ (l:List ERow) (j:Nat),(brkU D l j).length=(l.filter (QdT D)).length
 | [],_=>rfl
 | z::l,j=>by
  have:=QAT D l (j+1)
  unfold brkU
  rw [List.filter_cons]
  cases QdT D z with
  | false=>exact this
  | true=>simp only [cond_true,if_true,List.length_cons,this]
def broL (_:List Int)(_:Int):Bool:=true
theorem QE3 (b:Bool):bneq b b=false:=by cases b <;> rfl
theorem QEA (x:Keep):(and (ieq x.1 x.1) (and (ieq x.2.1 x.2.1) true))=true:=(show (x == x)=true from beq_self_eq_true x)
noncomputable def Q0l:List DO:=dT Tryz.f3 13
def Qq7:Fg:=⟨[(5,none),(6,some tI),(7,some (.sl Qah)),(8,some (.sl tI)),(10,some tI),(42,some tI),(43,some tI)],[(5,some Qau)]⟩
noncomputable def QsF:TC:=(.sq (.reg (rT Tryz.f3 10)) (.sq (.cd (.t 44) .sk (.fg ⟨[(8,some (.sl tI)),(10,some tI)],[]⟩ (.ex 0))) (.sq (.bk 1 (.sq (.reg (rT Tryz.f3 11)) (.sq (.reg (rT Tryz.f3 12)) (.sq (.sq (.dr Q0l [(0,[]),(1,[]),(2,[]),(3,[]),(4,[]),(5,[]),(6,[]),(7,[]),(8,[]),(9,[]),(10,[]),(11,[12]),(12,[]),(13,[])] (.of [0,1,2,3,4,5,6,7,8,9,10,11,12,13])) (.cd (.t 66) (.sq (.reg (rT Tryz.f3 14)) (.fg ⟨[(4,some .bool)],[]⟩ .rt)) .sk)) (.sq (.reg (rT Tryz.f3 15)) (.cd (.t 68) (.reg (rT Tryz.f3 16)) .sk)))))) (.reg (rT Tryz.f3 17)))))
noncomputable def tc_f3:TC:=(.sq (.reg (rT Tryz.f3 0)) (.sq (.sq (.reg (rT Tryz.f3 1)) (.cd (.t 16) (.sq (.reg (rT Tryz.f3 2)) .rt) .sk)) (.sq (.reg (rT Tryz.f3 3)) (.sq (.reg (rT Tryz.f3 4)) (.sq (.reg (rT Tryz.f3 5)) (.sq (.sq (.reg (rT Tryz.f3 6)) (.cd (.t 39) (.sq (.reg (rT Tryz.f3 7)) .rt) .sk)) (.sq (.reg (rT Tryz.f3 8)) (.sq (.sq (.reg (rT Tryz.f3 9)) (.bk 0 (.lp 0 Qq7 QsF))) (.sq (.reg (rT Tryz.f3 18)) .rt)))))))))
def rv_f3:List (RV×Option Ty):=[((.t 4),some .bool)]
abbrev Qzf:Sh:=⟨[(5, .ptr 5 0),(6, .ty tI),(7, .ty (.sl Qah)),(8, .ty (.sl tI)),(10, .ty tI),(42, .ty tI),(43, .ty tI)],[(5, .box Qau)]⟩
def QsL (x6:Int)(x7:List Keep)(x8:List Int)(x10 x42 x43:Int)(y5:Estate):VS:=Qzf.st ((),x6,x7,x8,x10,x42,x43,()) (y5,())
abbrev Qze:Sh:=⟨[(4, .ty .bool)],[]⟩
def Qcz (x4:Bool):VS:=Qze.st (x4,()) ()
abbrev QD8:Sh:=⟨[(8, .ty (.sl tI)),(10, .ty tI)],[]⟩
def QhH (x8:List Int)(x10:Int):VS:=QD8.st (x8,x10,()) ()
def L_f3_0:VS→Option (Bool×List (Bool×Exit×VS)):=mkL Qzf (fun x y=>(isMk y.1&&(x.2.2.1 == (prsI y.1).map (outO x.2.1)&&(x.2.2.2.1 == brkU x.2.1 (prsI y.1) 0&&decide (0≤x.2.2.2.2.2.2.1∧x.2.2.2.2.2.2.1≤x.2.2.2.2.2.1∧x.2.2.2.2.2.1=y.1.2.1.length∧0≤x.2.1∧x.2.1≤60∧0≤x.2.2.2.2.1∧x.2.2.2.2.1≤x.2.2.2.2.2.2.1))))) (fun x y=>[((false), .ret,Qcz (false)),(true, .exit 0,QhH (x.2.2.2.1) (x.2.2.2.2.1+cntE x.2.1 ((prsI y.1).drop x.2.2.2.2.2.2.1.toNat)))])
def g_f3:G:=⟨TYs,[],79,EL [(9,sp_f9),(10,QS1),(11,QS0),(12,QSZ),(13,QHe),(14,QG8),(15,QG1),(16,QSY)],keeps,(Ls [L_f3_0]),IL [],RL []⟩
def QUD (x6:Int)(x7:List Keep)(x8:List Int)(x10 x42 x43:Int)(y5:Estate):Option (Exit×VS):=
 let a1:=Qdd y5 x43 x6
 let a2:=lgt Qah x7 (Int.toNat x43)
 br (ilt x43 x42) (br (Qsl y5 x43 x6) (br (Qa2 x8 x43) (br (bneq (ine (a1.2) 0) (hasF x8 x43)) (some (.ret,Qcz false)) (br (cIx x7 x43) (br (!(and (ieq (a2.1) ((a1.1).1)) (and (ieq ((a2.2).1) (((a1.1).2).1)) true))) (some (.ret,Qcz false)) (br (ine (a1.2) 0) (some (.normal,QsL x6 x7 x8 (iadd .i64 x10 1) x42 (iadd .i64 x43 1) y5)) (some (.normal,QsL x6 x7 x8 x10 x42 (iadd .i64 x43 1) y5)))) none)) none) none) (some (.exit 0,QhH x8 x10))
noncomputable def Qqz (x6:Int)(x7:List Keep)(x8:List Int)(x10 x42 x43:Int)(y5:Estate):Option (Exit×VS):=loopF (Qai g_f3 Qq7 QsF) (QsL x6 x7 x8 x10 x42 x43 y5)
noncomputable def QBz (x6:Int)(x7:List Keep)(x8:List Int)(x10 x42 x43:Int)(y5:Estate):Option (Exit×VS):=
 let a1:=Qdd y5 x43 x6
 let a2:=lgt Qah x7 (Int.toNat x43)
 br (ilt x43 x42) (br (Qsl y5 x43 x6) (br (Qa2 x8 x43) (br (bneq (ine (a1.2) 0) (hasF x8 x43)) (some (.ret,Qcz false)) (br (cIx x7 x43) (br (!(and (ieq (a2.1) ((a1.1).1)) (and (ieq ((a2.2).1) (((a1.1).2).1)) true))) (some (.ret,Qcz false)) (br (ine (a1.2) 0) (Qqz x6 x7 x8 (iadd .i64 x10 1) x42 (iadd .i64 x43 1) y5) (Qqz x6 x7 x8 x10 x42 (iadd .i64 x43 1) y5))) none)) none) none) (some (.exit 0,QhH x8 x10))
def Qur (x6:Int)(x7:List Keep)(x8:List Int)(x10 x42 x43:Int)(y5:Estate):Option (Exit×VS):=br (false) (some (.ret,Qcz (false)))<|some (.exit 0,QhH (x8) (x10+cntE x6 ((prsI y5).drop x43.toNat)))
theorem Q0x (x6:Int)(x7:List Keep)(x8:List Int)(x10 x42 x43:Int)(y5:Estate):Qai g_f3 Qq7 QsF (QsL x6 x7 x8 x10 x42 x43 y5)=QUD x6 x7 x8 x10 x42 x43 y5:=by kernel_rfl
theorem QLy (x6:Int)(x7:List Keep)(x8:List Int)(x10 x42 x43:Int)(y5:Estate):Qqz x6 x7 x8 x10 x42 x43 y5=QBz x6 x7 x8 x10 x42 x43 y5:=(Qan _ _).trans (by
 rw [Q0x]
 simp only [QUD,QBz,QaA,nxt_n,nxt_r,nxt_e,nxt_0]
 rfl)
def r_f3 (p0:List Int)(p1:Int):Option (V×List VO):=
 let a1:=mkX (roll p0)
 let a2:=allF a1 (dmod p1 60)
 let a3:=llen ((a1.2).1)
 br (!(light p0)) (some (.t .bool Qol,[])) (br (dOk (roll p0)) (br (Qsp p1 60) (br (QhD a1 (dmod p1 60)) (br (ine ((a2.2).2) 0) (some (.t .bool false,[])) (br (ine (llen (a2.1)) a3) (some (.t .bool false,[])) (br (isMk a1&&((a2.1) == (prsI a1).map (outO (dmod p1 60))&&(((a2.2).1) == brkU (dmod p1 60) (prsI a1) 0&&decide (0≤(0:Int)∧(0:Int)≤a3∧a3=a1.2.1.length∧0≤(dmod p1 60)∧(dmod p1 60)≤60∧0≤(0:Int)∧(0:Int)≤(0:Int))))) (br (false) (some (.t .bool (false),[])) (br (ieq ((0:Int)+cntE (dmod p1 60) ((prsI a1).drop (0:Int).toNat)) (llen ((a2.2).1))) (some (.t .bool Qol,[])) (some (.t .bool false,[])))) none))) none) none) none)
theorem e_f3 (p0:List Int)(p1:Int):runF g_f3 tc_f3 rv_f3 false [.t (.sl tI) p0, .t tI p1] []=r_f3 p0 p1:=by kernel_rfl
theorem gk_f3:GOk Tryz.prog g_f3:=Qak _ (gA (gC en_f9 ms_f9 (gC en_f10 ms_f10 (gC en_f11 ms_f11 (gC en_f12 ms_f12 (gC QUz QUg (gC QUy QUf (gC QUx QUe (gC en_f16 ms_f16 gN)))))))))
theorem l_f3_0 (x6:Int)(x7:List Keep)(x8:List Int)(x10 x42 x43:Int)(y5:Estate)(h:(isMk y5&&(x7 == (prsI y5).map (outO x6)&&(x8 == brkU x6 (prsI y5) 0&&decide (0≤x43∧x43≤x42∧x42=y5.2.1.length∧0≤x6∧x6≤60∧0≤x10∧x10≤x43))))=true):Qqz x6 x7 x8 x10 x42 x43 y5=Qur x6 x7 x8 x10 x42 x43 y5:=by
 simp only [Bool.and_eq_true,beq_iff_eq,decide_eq_true_eq] at h
 obtain ⟨hs,rfl,rfl,h0,h1,rfl,h2,h3,h4,h5⟩:=h
 obtain ⟨d,hd,rfl⟩:=QXY hs
 obtain ⟨k,rfl⟩:=Int.eq_ofNat_of_zero_le h0
 clear hs h0
 have hln:(mkX d).2.1.length≤16:=(QBD hd).2
 have hpl:(prsI (mkX d)).length=(mkX d).2.1.length:=by rw [QjN,List.length_map]
 obtain ⟨o1,o2⟩:=mk_ok hd
 revert x10
 refine Qat (mkX d).2.1 (fun k=> ∀ x10:Int,0≤x10→x10≤(k:Int)→Qqz x6 ((prsI (mkX d)).map (outO x6)) (brkU x6 (prsI (mkX d)) 0) x10 ((mkX d).2.1.length:Int) (k:Int) (mkX d)=Qur x6 ((prsI (mkX d)).map (outO x6)) (brkU x6 (prsI (mkX d)) 0) x10 ((mkX d).2.1.length:Int) (k:Int) (mkX d)) ?_ ?_ k (by omega)
 ·intro x10 _ _
  rw [QLy]
  have e0:(prsI (mkX d)).drop (mkX d).2.1.length=[]:=List.drop_of_length_le (by omega)
  simp only [QBz,Qur,Qar,Nat.lt_irrefl,decide_false,Qae,Int.toNat_natCast,e0,cntE,List.filter_nil,List.length_nil,Int.natCast_zero,Int.add_zero]
 ·intro k hk ih x10 g0 g1
  rw [QLy]
  have hk1:k<(prsI (mkX d)).length:=by omega
  have hl:Qsl (mkX d) (k:Int) x6=true:=o2
  have th:Qff (mkX d) (k:Int)=0:=by
   unfold Qff
   rw [o1,show ilt (k:Int) 0=false from decide_eq_false (by omega),show ige (k:Int) (llen (xEdg (mkX d)))=false from decide_eq_false (by show ¬ (k:Int)≥((mkX d).2.1.length:Int); omega)]
   rfl
  have hrow:(prsI (mkX d))[k]=((endsF (mkX d) (k:Int)).1,((endsF (mkX d) (k:Int)).2,())):=by
   have e1:(prsI (mkX d))[k]=prow (mkX d) ((mkX d).2.1[k]):=by
    simp only [QjN,List.getElem_map]
   rw [e1]
   unfold prow endsF
   rw [Int.toNat_natCast,show egAt (xEdg (mkX d)) k=(mkX d).2.1[k] by simp only [egAt,List.getD_eq_getElem?_getD,List.getElem?_eq_getElem hk,Option.getD_some]]
  have hw:Qdd (mkX d) (k:Int) x6=Qbz (endsF (mkX d) (k:Int)).1 (endsF (mkX d) (k:Int)).2 x6:=by
   unfold Qdd
   rw [th]
   rfl
  have hz:hasF (brkU x6 (prsI (mkX d)) 0) (k:Int)=ine (Qdd (mkX d) (k:Int) x6).2 0:=by
   have:=(QNA x6 (prsI (mkX d)) 0).2 k hk1
   rw [Nat.zero_add] at this
   rw [this,hrow,hw]
   rfl
  have hi:Qa2 (brkU x6 (prsI (mkX d)) 0) (k:Int)=true:=by
   have h1:=QAT x6 (prsI (mkX d)) 0
   have h2:=List.length_filter_le (QdT x6) (prsI (mkX d))
   exact decide_eq_true (by omega)
  have ho:lgt Qah ((prsI (mkX d)).map (outO x6)) k=(Qdd (mkX d) (k:Int) x6).1:=by
   rw [QaC (y:=Qah) (by rw [List.length_map]; exact hk1),List.getElem_map,hrow,hw]
   unfold outO QdT
   cases hq:ine (Qbz (endsF (mkX d) (k:Int)).1 (endsF (mkX d) (k:Int)).2 x6).2 0 with
   | false=>rfl
   | true=>rw [QAP hq]; rfl
  have hix:cIx ((prsI (mkX d)).map (outO x6)) (k:Int)=true:=by
   rw [Qax,List.length_map]
   exact decide_eq_true hk1
  have ea:iadd .i64 x10 1=x10+1:=QaV (by omega)
  simp only [QBz,Qar,hk,decide_true,Qab,Int.toNat_natCast,add1 (show k<4611686018427387904 by omega),hl,hi,hz,ho,hix,ea,QEA,QE3,Qae,Bool.not_true]
  rw [ih x10 g0 (by omega),ih (x10+1) (by omega) (by omega)]
  have hd2:cntE x6 ((prsI (mkX d)).drop k)=(bif ine (Qdd (mkX d) (k:Int) x6).2 0 then 1 else 0)+cntE x6 ((prsI (mkX d)).drop (k+1)):=by
   unfold cntE
   rw [List.drop_eq_getElem_cons hk1,List.filter_cons,hrow]
   have:QdT x6 ((endsF (mkX d) (k:Int)).1,((endsF (mkX d) (k:Int)).2,()))=ine (Qdd (mkX d) (k:Int) x6).2 0:=by rw [hw]; rfl
   rw [this]
   cases ine (Qdd (mkX d) (k:Int) x6).2 0 with
   | false=>simp
   | true=>simp only [if_true,List.length_cons,cond_true,Int.natCast_add,Int.natCast_one]; omega
  simp only [Qur,Int.toNat_natCast,hd2]
  cases ine (Qdd (mkX d) (k:Int) x6).2 0 with
  | false=>simp only [Qae,cond_false,Int.zero_add]
  | true=>simp only [Qab,cond_true,Int.add_assoc]
theorem QWk: ∀ S l p,g_f3.L 0 (fgt Qq7 S)=some (true,l)→pickA l=some p→loopF (Qai g_f3 Qq7 QsF) S=some p:=
 QaB (s:=Qzf) ⟨by decide,by decide⟩ (by kernel_rfl) fun x y hok p hp=>by
 simp only [Qap,Qam] at hp
 exact (l_f3_0 x.2.1 x.2.2.1 x.2.2.2.1 x.2.2.2.2.1 x.2.2.2.2.2.1 x.2.2.2.2.2.2.1 y.1 (by simpa using hok)).trans hp
theorem lk_f3:tc_f3.lok g_f3:=by
 repeat (first | exact trivial | exact QWk | refine ⟨?_, ?_⟩)
theorem s_f3 (p0:List Int)(a:Int):r_f3 p0 a=some (.t .bool (broL p0 a),[]):=by
 unfold r_f3
 refine QaE (fun _=>rfl) (fun k1=> ?_)
 have k1:light p0=true:=by simpa using k1
 have hd:=QRv k1
 generalize roll p0=d at hd ⊢
 obtain ⟨o1,o2⟩:=mk_ok hd
 have hm:0≤dmod a 60∧dmod a 60<60:=by
  unfold dmod
  rw [if_neg (by decide)]
  omega
 have hA:allF (mkX d) (dmod a 60)=((prsI (mkX d)).map (outO (dmod a 60)),brkU (dmod a 60) (prsI (mkX d)) 0,0):=by
  unfold allF
  rw [o1,show dayF (dmod a 60)=true by unfold dayF; rw [show ige (dmod a 60) 0=true from decide_eq_true hm.1,show ile (dmod a 60) 40000=true from decide_eq_true (by omega)]; rfl]
  rfl
 refine brY hd (brY rfl (brY o2 ?_))
 rw [hA]
 refine Eq.trans (congrArg (fun c=>br c _ _) (show ine (0:Int) 0=false from rfl)) ?_
 rw [Qae]
 refine Eq.trans (congrArg (fun c=>br c _ _) (show ine (llen ((prsI (mkX d)).map (outO (dmod a 60)))) (llen (mkX d).2.1)=false by rw [QjN]; simp [ine,llen])) ?_
 rw [Qae]
 refine brY ?_ ?_
 ·rw [QXZ hd,beq_self_eq_true,beq_self_eq_true,Bool.true_and,Bool.true_and,Bool.true_and]
  exact decide_eq_true ⟨by omega,by simp only [llen]; omega,rfl,hm.1,by omega,by omega,by omega⟩
 ·rw [Qae]
  refine brY ?_ rfl
  rw [Int.toNat_zero,List.drop_zero,Int.zero_add]
  unfold cntE
  rw [Qdb, ← QAT (dmod a 60) (prsI (mkX d)) 0]
  exact decide_eq_true rfl
def sp_f3:Ent:=spec (.pr (.sl tI) (.pr tI .nil)) (fun x=>true) (fun x=>(.t .bool (broL x.1 x.2.1)))
theorem ms_f3:Meets Tryz.prog 3 (strip sp_f3):=Qaf (R:=runF g_f3 tc_f3 rv_f3 false) (mG Tryz.func3 (by kernel_rfl) Tryz.ntmps3 (by kernel_rfl) gk_f3 lk_f3) fun x _=>(e_f3 x.1 x.2.1).trans (s_f3 x.1 x.2.1)
end
end Go.Proofs.YtckcgijklnloiaaGreat.K.PE
namespace Go.Proofs.YtckcgijklnloiaaGreat.K
open Go.RowKit PE
theorem walkConversationBroken (z0:(List Int))(z1:Int)(W:World)(v0:Value)(v1:Value)(c0:C noX W (fun _=> .no) (V.t (.sl tI) z0).d v0)(c1:C noX W (fun _=> .no) (V.t tI z1).d v1)(w0:Ty.wf (.sl tI) z0)(w1:Ty.wf tI z1):
  Calls Tryz.prog 3 #[v0,v1] W fun r w'=>r= .returned (.bool true)∧Below W.heap.size W w':=
 QE0 (by decide) ms_f3 (args:=[.t (.sl tI) z0, .t tI z1]) (QD1 (x:=(z0,z1,())) rfl (rfl)) (by simp only [V.ds,Cs]; exact ⟨_,_,rfl,c0,_,_,rfl,c1,rfl⟩)
end Go.Proofs.YtckcgijklnloiaaGreat.K
