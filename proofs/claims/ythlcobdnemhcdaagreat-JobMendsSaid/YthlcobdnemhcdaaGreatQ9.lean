import Derived.Test.YthlcobdnemhcdaaGreatQ8
import Derived.Test.YthlcobdnemhcdaaGreatQ7
import Derived.Test.YthlcobdnemhcdaaGreatQ6
import Derived.Test.YthlcobdnemhcdaaGreatQ3
set_option linter.unusedSimpArgs false
set_option linter.unusedVariables false
noncomputable section
namespace Go.Proofs.YthlcobdnemhcdaaGreat.K
open Go.RowKit
theorem Qo5 {u:Keep}{day:Int}(hu:Je u=true)(hd:0<=day/\day<=40000): ∀ {l:List Link} {pv:Option Int},Z8 pv l=true->(∀ d,pv=some d->d<day)->(∀ x,x∈l->x.2.1<day)->Z8 pv (l++[(u,(day,()))])=true
 | [],pv,_,h2,_=>by
  rw [BS,Gg,hu,Be hd]
  cases pv with
  |none=>rfl
  |some d=>
   show (true&&true&&decide (d<day)&&true)=true
   rw [Be (h2 d rfl)]
   rfl
 |a::l,pv,h,h2,h3=>by
  rw [Gg,Bb] at h
  rw [Dm,Gg,h.1,By]
  exact Qo5 hu hd h.2 (fun d hd=>by injection hd with hd;have:=h3 a (by simp);omega) (fun x hx=>h3 x (by simp [hx]))
theorem Qgr {i:Item}(h:1<=i.2.2.2.1.length): ∃ l x,i.2.2.2.1=l++[x]/\Q4 i=x.2.1:=by
 rcases DI i.2.2.2.1 with e|⟨l,x,e⟩
 ·rw [e] at h
  simp at h
 ·rw [DJ] at e
  refine ⟨l,x,e, ?_⟩
  unfold Q4
  rw [e]
  have hk:(l++[x]).length-1=l.length:=by simp
  rw [hk,QO (y:=QH) (by simp),List.getElem_append_right (Bw _)]
  simp
theorem QAo {i:Item}{u:Keep}{day:Int}(hi:Zp i=true)(hu:Je u=true)(h1:Q4 i<day)(h2:day<=40000)(h8:i.2.2.2.1.length<8):Zp (Q8 i u day)=true:=by
 have hI:=Jn.1 hi
 obtain ⟨l,x,e,hx⟩:=Qgr (i:=i) hI.2.2.2.1.1
 have ha:=Qu4 hI.2.2.2.2.1
 have hall:=FA hI.2.2.2.2.1
 have hlt: ∀ z,z∈i.2.2.2.1->z.2.1<day:=fun z hz=>by
  have hp:=ha.1
  rw [e] at hz hp
  obtain ⟨_,_,hp⟩:=DL.1 hp
  rcases Bv.1 hz with hz|hz
  ·have:=hp z hz x (by simp)
   omega
  ·rw [BT.1 hz]
   omega
 have hx0:=(hall x (by rw [e];simp)).2
 refine Jn.2 ⟨hI.1,hI.2.1,hI.2.2.1, ?_, ?_, ?_⟩
 ·show 1<=(i.2.2.2.1++[(u,(day,()))]).length/\(i.2.2.2.1++[(u,(day,()))]).length<=8
  rw [Bl,Bk]
  omega
 ·exact Qo5 hu ⟨by omega,h2⟩ hI.2.2.2.2.1 (fun d hd=>by cases hd) hlt
 ·show ((i.2.2.2.1++[(u,(day,()))]).headD ((0,(0,())),(0,()))).2.1<=i.2.2.2.2.1/\_
  have e2:(i.2.2.2.1++[(u,(day,()))]).headD ((0,(0,())),(0,()))=i.2.2.2.1.headD ((0,(0,())),(0,())):=by
   cases hq:i.2.2.2.1 with
   |nil=>rw [hq] at hI;simp at hI
   |cons a r=>rfl
  rw [e2]
  exact hI.2.2.2.2.2
theorem I4 (y:Policy)(i:Item)(u:Keep)(day:Int):QB y (Q8 i u day)=QB y i++[lkF y i.2.2.1 (u,(day,()))]:=by
 show (i.2.2.2.1++[(u,(day,()))]).map (lkF y i.2.2.1)=_
 rw [List.map_append]
 rfl
theorem Qgs (x:LinkX): ∀ (r:List LinkX) (a:LinkX),J7 a (r++[x])=if J7 a r=r.length then (if cnd ((a::r).getLast (by simp)) x then r.length+1 else r.length) else J7 a r
 | [],a=>rfl
 |b::r,a=>by
  have e1:J7 a (b::r++[x])=if cnd a b then J7 b (r++[x])+1 else 0:=rfl
  have e2:J7 a (b::r)=if cnd a b then J7 b r+1 else 0:=rfl
  have e3:(a::b::r).getLast (by simp)=(b::r).getLast (by simp):=List.getLast_cons (by simp)
  rw [e1,e2,e3,Qgs x r b]
  by_cases hc:cnd a b=true
  ·rw [if_pos hc,if_pos hc]
   by_cases hl:J7 b r=r.length
   ·rw [if_pos hl,if_pos (show J7 b r+1=(b::r).length by rw [hl];rfl)]
    by_cases hx:cnd ((b::r).getLast (by simp)) x=true
    ·rw [if_pos hx,if_pos hx]
     rfl
    ·rw [if_neg hx,if_neg hx]
     rfl
   ·rw [if_neg hl,if_neg (show ¬ J7 b r+1=(b::r).length by rw [Bq];omega)]
  ·rw [if_neg hc,if_neg hc]
   rw [if_neg (show ¬ 0=(b::r).length by rw [Bq];omega)]
theorem Qgt {l:List LinkX}{b x:LinkX}(ho:Jp (l++[b])=((l++[b]).length:Int)):
  (cnd b x=true->Jp (l++[b]++[x])=((l++[b]).length:Int)+1/\Zf (l++[b]++[x])=x)/\(cnd b x=false->Jp (l++[b]++[x])=((l++[b]).length:Int)/\Zf (l++[b]++[x])=b)/\Zf (l++[b])=b:=by
 obtain ⟨a,r,e⟩: ∃ a r,l++[b]=a::r:=by cases l<;>exact ⟨_,_,rfl⟩
 have hb:(a::r).getLast (by simp)=b:=by
  have:(l++[b]).getLast (by simp)=b:=List.getLast_concat
  simp only [e] at this
  exact this
 have hn:(l++[b]).length=l.length+1:=by simp
 have g1:(l++[b]++[x]).getD (l.length+1) Jq.zero=x:=by
  rw [Bm,Dn (by rw [hn];omega),hn,DV]
  rfl
 have g2:(l++[b]++[x]).getD l.length Jq.zero=b:=by
  rw [Bm,Dg (by rw [hn];omega),Dn (Bw _),DV]
  rfl
 have g3:(l++[b]).getD l.length Jq.zero=b:=by
  rw [Bm,Dn (Bw _),DV]
  rfl
 have hc:J7 a r=r.length:=by
  rw [e] at ho
  have:Jp (a::r)=1+(J7 a r:Int):=rfl
  rw [this,Bq] at ho
  omega
 have hr:r.length=l.length:=by
  have:=congrArg List.length e
  rw [hn,Bq] at this
  omega
 have hq:Jp (l++[b]++[x])=1+(J7 a (r++[x]):Int):=by rw [e];rfl
 have hk:=Qgs x r a
 rw [if_pos hc,hb] at hk
 refine ⟨fun h=> ?_,fun h=> ?_, ?_⟩
 ·rw [if_pos h] at hk
  rw [hq,hk]
  refine ⟨by rw [hn];omega, ?_⟩
  unfold Zf
  rw [hq,hk,show (1+((r.length+1:Nat):Int)-1).toNat=l.length+1 by omega]
  exact g1
 ·rw [if_neg (by rw [h];simp)] at hk
  rw [hq,hk]
  refine ⟨by rw [hn];omega, ?_⟩
  unfold Zf
  rw [hq,hk,show (1+((r.length:Nat):Int)-1).toNat=l.length by omega]
  exact g2
 ·unfold Zf
  rw [ho,hn,show (((l.length+1:Nat):Int)-1).toNat=l.length by omega]
  exact g3
end Go.Proofs.YthlcobdnemhcdaaGreat.K
noncomputable section
namespace Go.Proofs.YthlcobdnemhcdaaGreat.K
open Go.RowKit
theorem OM {y:Policy}{j:Item}(hj:j.2.1=2):JX y j=JN (QB y j):=by
 unfold JX
 rw [hj]
 rfl
theorem ON {y:Policy}{i:Item}(hf:QQ y i=true)(hk:i.2.1=2):J2 y i=if ZV (QB y i) then (if ile (ZK y i) (Q4 i) then (0,false,0) else (ZK y i,true,0)) else (0,false,0):=by
 have hk1:ieq i.2.1 1=false:=by rw [hk];rfl
 unfold J2
 rw [hf,hk1]
 rfl
theorem QiE {y:Policy}{i:Item}(hf:QQ y i=true)(hk:i.2.1=1):J2 y i=(0,false,0):=by
 have hk1:ieq i.2.1 1=true:=by rw [hk];rfl
 unfold J2
 rw [hf,hk1]
 rfl
theorem Qch {y:Policy}{i:Item}(hf:QQ y i=true)(ho:ZV (QB y i)=true):
  ∃ l x,i.2.2.2.1=l++[x]/\Q4 i=x.2.1/\0<=x.2.1/\x.2.1<=40000/\QB y i=l.map (lkF y i.2.2.1)++[lkF y i.2.2.1 x]/\Jp (l.map (lkF y i.2.2.1)++[lkF y i.2.2.1 x])=((l.map (lkF y i.2.2.1)++[lkF y i.2.2.1 x]).length:Int)∧
   (((lkF y i.2.2.1 x).2.2.1=false/\(JN (QB y i)).2=false/\ZK y i=40000)∨
    ∃ f,JW (Jk y x.1 i.2.2.1)=(f,true)/\0<=f/\f<=40000/\(lkF y i.2.2.1 x).2.1=f/\(lkF y i.2.2.1 x).2.2.1=true/\JN (QB y i)=(max x.2.1 f,true)/\ZK y i=max x.2.1 f-1):=by
 have hf2:=hf
 simp only [QQ,Bb] at hf2
 have hI:=Jn.1 hf2.2
 have hc:Jp (QB y i)=((QB y i).length:Int):=by
  simp only [ZV,Zw,Qc,Ba] at ho
  exact ho
 obtain ⟨l,x,e,hx⟩:=Qgr (i:=i) hI.2.2.2.1.1
 have eK:QB y i=l.map (lkF y i.2.2.1)++[lkF y i.2.2.1 x]:=by
  show i.2.2.2.1.map _=_
  rw [e,List.map_append]
  rfl
 have hx0:=(FA hI.2.2.2.2.1 x (by rw [e];simp)).2
 rw [eK] at hc
 have sL:=(Qgt (x:=lkF y i.2.2.1 x) hc).2.2
 refine ⟨l,x,e,hx,hx0.1,hx0.2,eK,hc, ?_⟩
 cases hfa:(lkF y i.2.2.1 x).2.2.1 with
 |false=>
  have hno:(JN (QB y i)).2=false:=by
   cases hq:(JN (QB y i)).2 with
   |false=>rfl
   |true=>
    have:=Qu3.1 hq
    rw [eK,sL,hfa] at this
    cases this
  refine .inl ⟨rfl,hno, ?_⟩
  unfold ZK
  rw [hno]
  rfl
 |true=>
  have hv:JN (QB y i)=((J6 (lkF y i.2.2.1 x)).1,true):=by
   have:=QGu (l:=QB y i) (by rw [eK,sL];exact hfa)
   rw [this,eK,sL]
  obtain ⟨f,hff⟩: ∃ f,JW (Jk y x.1 i.2.2.1)=(f,true):=⟨_,Prod.ext rfl hfa⟩
  have hfi:=fallI hf2.1 hff
  have hg:(J6 (lkF y i.2.2.1 x)).1=max x.2.1 f:=by
   rw [QGt]
   show max x.2.1 (JW (Jk y x.1 i.2.2.1)).1=_
   rw [hff]
  refine .inr ⟨f,hff,hfi.1,hfi.2, ?_,rfl,by rw [hv,hg], ?_⟩
  ·show (JW (Jk y x.1 i.2.2.1)).1=f
   rw [hff]
  ·unfold ZK
   rw [hv,if_pos rfl]
   simp only [hg]
   exact J5 (by omega)
theorem QDp {y:Policy}{i:Item}{u:Keep}{day last:Int}(hf:QQ y i=true)(hk:i.2.1=2)(hn:(JW (Jk y u i.2.2.1)).2=false)(ho:J2 y i=(last,true,0))(hd:day<=last):(JX y (Q8 i u day)).2=false:=by
 rw [ON hf hk] at ho
 have hop:ZV (QB y i)=true:=by
  cases hq:ZV (QB y i) with
  |true=>rfl
  |false=>rw [hq] at ho;simp at ho
 rw [hop,if_pos rfl] at ho
 have hl2:ZK y i=last:=by
  split at ho
  ·simp at ho
  ·exact (Prod.mk.inj ho).1
 obtain ⟨l,x,e,hx,hx1,hx2,eK,hc,h⟩:=Qch hf hop
 have hcd:cnd (lkF y i.2.2.1 x) (lkF y i.2.2.1 (u,(day,())))=true:=by
  unfold cnd
  rcases h with ⟨h1,_,_⟩|⟨f,hff,hf0,hf1,hfa,hft,hv,h4⟩
  ·rw [h1]
   rfl
  ·rw [hft,hfa]
   have hmx:day<f:=by
    have hle:ile (ZK y i) (Q4 i)=false:=by
     cases hq:ile (ZK y i) (Q4 i) with
     |false=>rfl
     |true=>rw [hq] at ho;simp at ho
    have hle:=Du hle
    rw [hx,h4] at hle
    omega
   exact Be (show day<f from hmx)
 rw [OM (j:=Q8 i u day) hk,I4,eK]
 have M:=(Qgt (x:=lkF y i.2.2.1 (u,(day,()))) hc).1 hcd
 cases hq:(JN (l.map (lkF y i.2.2.1)++[lkF y i.2.2.1 x]++[lkF y i.2.2.1 (u,(day,()))])).2 with
 |false=>rfl
 |true=>
  have:=Qu3.1 hq
  rw [M.2] at this
  have hn':(lkF y i.2.2.1 (u,(day,()))).2.2.1=false:=hn
  rw [hn'] at this
  cases this
theorem QDq {l:List LinkX}{x:LinkX}(hl:l≠[])(ho:ZV l=false):Jp (l++[x])=Jp l/\Zf (l++[x])=Zf l:=by
 obtain ⟨a,r,rfl⟩: ∃ a r,l=a::r:=by cases l with|nil=>exact absurd rfl hl|cons a r=>exact ⟨a,r,rfl⟩
 have hle:=QmX a r
 have hne:J7 a r≠r.length:=fun h=>by
  have:ZV (a::r)=true:=by
   simp only [ZV,Zw,Qc,Ba]
   show 1+(J7 a r:Int)=((a::r).length:Int)
   rw [h,Bq]
   omega
  rw [ho] at this
  cases this
 have hk:=Qgs x r a
 rw [if_neg hne] at hk
 have hc:Jp (a::r++[x])=Jp (a::r):=by
  show 1+(J7 a (r++[x]):Int)=1+(J7 a r:Int)
  rw [hk]
 refine ⟨hc, ?_⟩
 unfold Zf
 rw [hc]
 have e:Jp (a::r)=1+(J7 a r:Int):=rfl
 rw [e,Bm,Bm,Dg (by rw [Bq];omega)]
theorem QDr {y:Policy}{i:Item}{u:Keep}{day:Int}(hf:QQ y i=true)(hm:QQ y (Q8 i u day)=true)(hn:(JW (Jk y u i.2.2.1)).2=false)(hb:(JX y i).2=true)(ho:(J2 y i).2.1=false)(hd:Q4 i<day):
  JX y (Q8 i u day)=JX y i/\(J2 y (Q8 i u day)).2.1=false:=by
 have hf2:=hf
 simp only [QQ,Bb] at hf2
 have hI:=Jn.1 hf2.2
 have hk:i.2.1=1∨i.2.1=2:=by have:=hI.2.1;omega
 rcases hk with hk|hk
 ·refine ⟨?_,by rw [QiE (i:=Q8 i u day) hm hk]⟩
  have e: ∀ j:Item,j.2.1=1->JX y j=XS (QB y j):=fun j hj=>by unfold JX;rw [hj];rfl
  rw [e _ hk,e (Q8 i u day) hk,I4]
  unfold XS
  rw [List.foldl_append,Dt,List.foldl_nil]
  unfold Z3
  have:(J6 (lkF y i.2.2.1 (u,(day,())))).2=false:=hn
  rw [this,DT,if_neg (by simp)]
 ·have hlen:(QB y (Q8 i u day)).length=(QB y i).length+1:=by rw [I4];simp
  have fin:Jp (QB y (Q8 i u day))=Jp (QB y i)->Zf (QB y (Q8 i u day))=Zf (QB y i)->Jp (QB y i)<=(QB y i).length->JX y (Q8 i u day)=JX y i/\(J2 y (Q8 i u day)).2.1=false:=fun h1 h2 h3=>by
   refine ⟨?_, ?_⟩
   ·rw [OM (j:=Q8 i u day) hk,OM hk]
    unfold JN
    rw [h2]
   ·rw [ON (i:=Q8 i u day) hm hk]
    have:ZV (QB y (Q8 i u day))=false:=by
     simp only [ZV,Zw,Qc,Bn]
     rw [h1,hlen]
     omega
    rw [this]
    rfl
  have hne:QB y i≠[]:=fun h=>by
   have:=congrArg List.length h
   simp [QB] at this
   have:=hI.2.2.2.1.1
   simp_all
  cases hop:ZV (QB y i) with
  |false=>
   obtain ⟨h1,h2⟩:=QDq (x:=lkF y i.2.2.1 (u,(day,()))) hne hop
   rw [←I4] at h1 h2
   exact fin h1 h2 (Qfj hne).2
  |true=>
   obtain ⟨l,x,e,hx,hx1,hx2,eK,hc,h⟩:=Qch hf hop
   rw [ON hf hk,hop,if_pos rfl] at ho
   have hle:ile (ZK y i) (Q4 i)=true:=by
    cases hq:ile (ZK y i) (Q4 i) with
    |true=>rfl
    |false=>rw [hq] at ho;simp at ho
   have hle:=BJ hle
   rw [OM hk] at hb
   rcases h with ⟨_,h2,_⟩|⟨f,hff,hf0,hf1,hfa,hft,hv,h4⟩
   ·rw [h2] at hb
    cases hb
   ·have hcd:cnd (lkF y i.2.2.1 x) (lkF y i.2.2.1 (u,(day,())))=false:=by
     refine QGv.2 ⟨hft, ?_⟩
     rw [hfa]
     show f<=day
     rw [hx,h4] at hle
     rw [hx] at hd
     omega
    have M:=(Qgt (x:=lkF y i.2.2.1 (u,(day,()))) hc)
    have m2:=M.2.1 hcd
    rw [←eK, ← I4] at m2
    have m3:=M.2.2
    rw [←eK] at m3 hc
    exact fin (by rw [m2.1,hc]) (by rw [m2.2,m3]) (by rw [hc];exact B4 _)
def rlS:Rule:=(true,(4,(0,(0,(0,(40001,()))))))
def JK (y:Policy):Policy:=(y.1++[rlS],y.2)
def Jf:Keep:=(4,(0,()))
theorem Qr3 {y:Policy}{p d:Int}(h0:0<=d)(h1:d<=40000):Zs (JK y) Jf p d=true:=by
 have hm:YU rlS Jf p d=true:=by
  have e1:Ww rlS Jf p=true:=by simp [Ww,rlS,Jf]
  have e2:I8 rlS d=true:=by
   show (decide (0<=d)&&decide (d<40001))=true
   rw [Be h0,Be (by omega)]
   rfl
  unfold YU
  rw [e1,e2]
  rfl
 unfold Zs Qce Yw JK
 rw [Qcd]
 simp only [Zh,hm,if_true]
 rw [DK,Dn (Bw _),DV]
 rfl
theorem Qr4 {y:Policy}{p:Int}(hy:Jr (JK y)=true):(JW (Jk (JK y) Jf p)).2=false:=by
 have hin:inL (Jk (JK y) Jf p) 40000:=(QCp hy (by decide) (by decide)).2 (Qr3 (by decide) (by decide))
 rcases QhY (u:=Jf) (p:=p) hy with ⟨e,_⟩|⟨l,s,e,h1,h2,h3,h4,h5⟩
 ·rw [e] at hin
  obtain ⟨k,hk,_⟩:=hin
  cases hk
 ·rw [h5,if_neg]
  intro hs
  rw [e] at hin
  obtain ⟨k,hk,hk1,hk2⟩:=hin
  rcases Bv.1 hk with hk|hk
  ·have:=h4 k hk
   omega
  ·rw [BT.1 hk] at hk2
   omega
end Go.Proofs.YthlcobdnemhcdaaGreat.K
noncomputable section
namespace Go.Proofs.YthlcobdnemhcdaaGreat.K
open Go.RowKit
abbrev OO:Sh:=⟨[(2,.ty tI),(3,.ptr 3 0),(4,.ptr 4 0),(9,.ty (.sl tI)),(10,.ms 10),(11,.ty tI)],[(3,.box QE),(4,.box Qi),(10,.arr 70 Qi),(77,.no)]⟩
abbrev Qr5:Sh:=⟨[(10,.ms 10)],[(10,.arr 70 Qi),(77,.no)]⟩
def QiF:Fg:=OO.f
def Qr6:TC:=aF Tryz.f114 [(250,.nw 10 70),(250,pL 0 QiF),(4003,.fg Qr5.f),(16016,pD [(0,[3]),(1,[4]),(2,[]),(3,[]),(4,[]),(5,[]),(6,[]),(7,[]),(8,[])] (.of [0,1,2,3,4,5,6,7,8])),(32034,.fg OO.f),(32038,pD [(0,[]),(1,[]),(2,[]),(3,[10,77]),(4,[]),(5,[]),(6,[10,77]),(7,[10,77]),(8,[10,77]),(9,[]),(10,[]),(11,[]),(12,[]),(13,[]),(14,[])] (.of [0,1,2,3,4,5,6,7,8,9,10,11,12,13,14])),(64079,pD [(0,[10,77]),(1,[]),(2,[]),(3,[]),(4,[]),(5,[]),(6,[]),(7,[]),(8,[]),(9,[]),(10,[]),(11,[]),(12,[10,77,5077,10077,15077]),(13,[10,77])] (.of [0,1,2,3,4,5,6,7,8,9,10,11,12,13]))]
def Qr7:TC:=lb 0 Qr6
def Qr8 (x2:Int)(x9:List Int)(x11:Int)(y3:Policy)(y4:Keep)(y10:List Keep):VS:=OO.st (x2,(),(),x9,(),x11,()) (y3,y4,y10,(),())
def QiG (y10:List Keep):VS:=Qr5.st ((),()) (y10,(),())
def QDs:VS->Option (Bool×List (Bool×Exit×VS)):=mkL OO (fun x y=>(decide (0<=x.2.2.2.2.2.1/\x.2.2.2.2.2.1+1<=x.2.2.2.1.length/\x.2.2.2.1.length<=500000/\y.1.1.length<=100000/\(y.2.2.1.length:Int)<=x.2.2.2.2.2.1))) (fun x y=>[(true,.exit 0,QiG (Ws y.1 y.2.1 x.1 (x.2.2.2.1.drop x.2.2.2.2.2.1.toNat) y.2.2.1))])
def QiH:G:=gG 79 [(106,QnH),(107,QnF),(162,QnU)] (Ls [QDs])
def OP (x2:Int)(x9:List Int)(x11:Int)(y3:Policy)(y4:Keep)(y10:List Keep):OX:=QA (QC QiH QiF Qr7) (Qr8 x2 x9 x11 y3 y4 y10)
def Qci (kk:Int->List Int->Int->Policy->Keep->List Keep->OX)(x2:Int)(x9:List Int)(x11:Int)(y3:Policy)(y4:Keep)(y10:List Keep):OX:=
 let a1:=((lgt tI x9 (Int.toNat x11)),((lgt tI x9 (Int.toNat (Qh .i64 x11 1))),()))
 br (cIx x9 x11) (br (cIx x9 (Qh .i64 x11 1)) (br (Qx y10 ([a1]) 16) (kk x2 x9 (Qh .i64 x11 1) y3 y4 (y10++([a1]))) none) none) none
def OQ (kk:Int->List Int->Int->Policy->Keep->List Keep->OX)(x2:Int)(x9:List Int)(x11:Int)(y3:Policy)(y4:Keep)(y10:List Keep):OX:=
 let a1:=Int.toNat (Qs .i64 (Qc y10) 1)
 let a2:=Qh .i64 x11 1
 let a3:=lgt tI x9 (Int.toNat x11)
 let a4:=lgt Qi y10 a1
 let a5:=cIx y10 (Qs .i64 (Qc y10) 1)
 br (ilt a2 (Qc x9)) (br (cIx x9 x11) (br (U4 y3 y4 x2 a3) (br (!(Zs y3 y4 x2 a3)) (kk x2 x9 a2 y3 y4 y10) (br (igt (Qc y10) 0) (br a5 (br (cLd y10 a1) (br (cIx x9 x11) (br (ieq ((a4.2).1) a3) (br (cIx x9 a2) (br a5 (br (cLd y10 a1) (kk x2 x9 a2 y3 y4 (List.set y10 a1 (a4.1,((lgt tI x9 (Int.toNat a2)),(a4.2).2)))) none) none) none) (Qci kk x2 x9 x11 y3 y4 y10)) none) none) none) (Qci kk x2 x9 x11 y3 y4 y10))) none) none) (some (.exit 0,QiG y10))
def Eu (x2:Int)(x9:List Int)(x11:Int)(y3:Policy)(y4:Keep)(y10:List Keep):OX:=some (.exit 0,QiG (Ws y3 y4 x2 (x9.drop x11.toNat) y10))
theorem Qr9 (x2:Int)(x9:List Int)(x11:Int)(y3:Policy)(y4:Keep)(y10:List Keep):OP x2 x9 x11 y3 y4 y10=OQ OP x2 x9 x11 y3 y4 y10:=lnT (x:=OQ (fun x2 x9 x11 y3 y4 y10=>some (.normal,Qr8 x2 x9 x11 y3 y4 y10)) x2 x9 x11 y3 y4 y10) (by simp only [OQ,Qci,nxA];rfl)
def Qsa (p0:Policy)(p1:Keep)(p2:Int):OV:=br (Z0 p0 p1 p2) (br (ine (FP p0 p1 p2) 0) (some (.tu [(.t (.sl Qi) ([]:List Keep)),(.t tI (FP p0 p1 p2))],[])) (br (Jl p0) (br (decide (0<=(0:Int)/\(0:Int)+1<=(Yf p0).length/\(Yf p0).length<=500000/\p0.1.length<=100000/\(([]:List Keep).length:Int)<=(0:Int))) (some (.tu [(.t (.sl Qi) (Ws p0 p1 p2 ((Yf p0).drop (0:Int).toNat) ([]:List Keep))),(.t tI 0)],[])) none) none)) none
theorem QDt (x2:Int)(x9:List Int)(x11:Int)(y3:Policy)(y4:Keep)(y10:List Keep)(h:(decide (0<=x11/\x11+1<=x9.length/\x9.length<=500000/\y3.1.length<=100000/\(y10.length:Int)<=x11))=true):OP x2 x9 x11 y3 y4 y10=Eu x2 x9 x11 y3 y4 y10:=by
 simp only [Ba] at h
 obtain ⟨h1,h2,h3,h5,h4⟩:=h
 obtain ⟨k,rfl⟩:=Bu h1
 revert y10
 refine Qae (x9.length-1) (fun k=> ∀ y10:List Keep,(y10.length:Int)<=(k:Int)->OP x2 x9 (k:Int) y3 y4 y10=Eu x2 x9 (k:Int) y3 y4 y10) ?_ ?_ k (by omega)
 ·intro y7 _
  rw [Qr9]
  have e0:Qh .i64 ((x9.length-1:Nat):Int) 1=((x9.length-1+1:Nat):Int):=QW (by omega)
  have e1:ilt (Qh .i64 ((x9.length-1:Nat):Int) 1) (Qc x9)=false:=by rw [e0];simp only [ilt,Qc,Bn];omega
  have e2:x9.drop (x9.length-1)=[x9[x9.length-1]'(by omega)]:=by
   rw [Bi (by omega)]
   congr 1
   exact Dq (by omega)
  simp only [OQ,e1,Qj,Eu,Bd,e2,Ws,Y5]
 ·intro k hk ih y7 hy
  rw [Qr9]
  have hk1:k<x9.length:=by omega
  have hk2:k+1<x9.length:=by omega
  have ea:Qh .i64 (k:Int) 1=((k+1:Nat):Int):=QW (by omega)
  have ep: ∀ d,U4 y3 y4 x2 d=true:=fun d=>by simp only [U4,Q2,Ba];exact h5
  simp only [OQ,Qci,ea,Qc,QD,Qf,QI,hk1,hk2,Br,Bd,QO (y:=tI) hk1,QO (y:=tI) hk2,ep]
  have hs:=Qn1 (f:=fun z=>OP x2 x9 ((k+1:Nat):Int) y3 y4 z) y7 x9[k] x9[k+1] (by omega)
  simp only [Qc] at hs
  rw [hs]
  have el:Eu x2 x9 (k:Int) y3 y4 y7=Eu x2 x9 ((k+1:Nat):Int) y3 y4 (if Zs y3 y4 x2 x9[k] then Y4 y7 x9[k] x9[k+1] else y7):=by
   simp only [Eu,Ws,Bd]
   rw [Bi hk1,Bi hk2]
   rfl
  rw [el]
  have hp:=QfQ y7 x9[k] x9[k+1]
  cases hc:Zs y3 y4 x2 x9[k] with
  |true=>
   simp only [BK,Qj,if_true]
   exact ih _ (by omega)
  |false=>
   simp only [DA,Qf,BE,B8]
   exact ih _ (by omega)
theorem QDu:LO QiH QiF Qr7 0:=QN (s:=OO) fun x y h _ q=>by simp only [QK,QL] at q;exact (QDt x.1 x.2.2.2.1 x.2.2.2.2.2.1 y.1 y.2.1 y.2.2.1 h).trans q
theorem s_f114 (y:Policy)(u:Keep)(p:Int)(h:Z0 y u p=true):Qsa y u p=some (.tu [.t (.sl Qi) (GU y u p).1,.t tI (GU y u p).2],[]):=by
 have h':Jl y=true:=h
 have h2:=h'
 simp only [Jl,Q2,Bb,Ba] at h2
 have hl:2<=(Yf y).length/\(Yf y).length<=2*y.1.length+2:=QfR y.1
 simp only [Qsa,h,h',Qf,GU,Qfa,FP,BC,BF]
 by_cases h0:Zk y u p 0=0
 ·simp only [h0,ne_eq,not_true_eq_false,BW,Qj,if_true]
  rw [Yq ⟨B4 0,by omega,by omega,h2.1,by simp⟩,Qf]
  rfl
 ·simp [h0,Qf]
def Qsb:Ent:=Qo (.pr QE (.pr Qi (.pr tI .nil))) (fun x=>(Z0 x.1 x.2.1 x.2.2.1)) (fun x=>(.tu [(.t (.sl Qi) ((GU x.1 x.2.1 x.2.2.1).1)),(.t tI ((GU x.1 x.2.1 x.2.2.1).2))]))
theorem QDv:EM 114 Qsb:=mS (lk:=lkL (lkc QDu lkn)) QiH Qr6 [((.t 6),some (.sl Qi)),((.t 7),some tI)] false (gB (gD Qzq (gD Qzo (gD Qzy gN)))) fun m=>Qt m fun x hok=>kT (s_f114 x.1 x.2.1 x.2.2.1 hok)
def tc_f68:TC:=aF Tryz.f68 []
def g_f68:G:=gG 35 [(114,Qsb)] (fun _ _=>none)
def r_f68 (p0:Policy)(p1:Keep)(p2:Int):OV:=
 let a1:=GU p0 p1 p2
 let a2:=(((lgt Qi (a1.1) (Int.toNat (Qs .i64 (Qc (a1.1)) 1))).2).1)
 br (Z0 p0 p1 p2) (br (ine (a1.2) 0) (some (.tu [(.t tI 0),(.t .bool false),(.t tI (a1.2))],[])) (br (ieq (Qc (a1.1)) 0) (some (.tu [(.t tI 0),(.t .bool true),(.t tI 0)],[])) (br (cIx (a1.1) (Qs .i64 (Qc (a1.1)) 1)) (br (ile a2 40000) (some (.tu [(.t tI a2),(.t .bool true),(.t tI 0)],[])) (some (.tu [(.t tI 0),(.t .bool false),(.t tI 0)],[]))) none))) none
theorem QDw {y:Policy}{u:Keep}{p d:Int}(h:Zk y u p d=0):Jr y=true/\Je u=true/\1<=p/\p<=4/\0<=d/\d<=40000:=by
 unfold Zk at h
 split at h
 ·cases h
 ·split at h
  ·cases h
  ·split at h
   ·cases h
   ·rename_i h1 h2 h3
    refine ⟨by simpa using h1,by simpa using h2, ?_⟩
    omega
theorem s_f68 (y:Policy)(u:Keep)(p:Int)(h:Z0 y u p=true):r_f68 y u p=some (.tu [.t tI (ZJ y u p).1,.t .bool (ZJ y u p).2.1,.t tI (ZJ y u p).2.2],[]):=by
 have h5:Jl y=true:=h
 simp only [Jl,Q2,Bb,Ba] at h5
 have hl:=Qn5 y u p
 simp only [r_f68,h,Qf,ZJ,GU,Qfa]
 by_cases h0:Zk y u p 0=0
 ·simp only [h0,ne_eq,not_true_eq_false,BW,Qj,if_true]
  rcases QhY (u:=u) (p:=p) (QDw h0).1 with ⟨e,ef⟩|⟨l,s,e,g1,g2,g3,_,ef⟩
  ·rw [ef,e]
   rfl
  ·rw [ef]
   rw [e] at hl ⊢
   have e1:Qs .i64 (Qc (l++[s])) 1=(l.length:Int):=by
    have:Qc (l++[s])=(l.length:Int)+1:=by simp [Qc]
    rw [this,J5 (by rw [Bl,Bk] at hl;omega)]
    omega
   have h2:l.length<(l++[s]).length:=by simp
   have e2:ieq (Qc (l++[s])) 0=false:=by simp only [Zw,Qc,Bl,Bk,Bn];omega
   have e4:lgt Qi (l++[s]) l.length=s:=by rw [QO (y:=Qi) h2];simp
   rw [e1,e2]
   simp only [Qj,QI,h2,Br,Qf,Bd,e4,ile]
   by_cases hs:s.2.1<=40000<;>simp [hs,Qf,Qj]
 ·simp [h0,Qf]
def QiI:Ent:=Qo (.pr QE (.pr Qi (.pr tI .nil))) (fun x=>(Z0 x.1 x.2.1 x.2.2.1)) (fun x=>(.tu [(.t tI ((ZJ x.1 x.2.1 x.2.2.1).1)),(.t .bool (((ZJ x.1 x.2.1 x.2.2.1).2).1)),(.t tI (((ZJ x.1 x.2.1 x.2.2.1).2).2))]))
theorem Qsc:EM 68 QiI:=mS g_f68 tc_f68 [((.t 6),some tI),((.t 7),some .bool),((.t 8),some tI)] false (gB (gD QDv gN)) fun m=>Qt m fun x hok=>kT (s_f68 x.1 x.2.1 x.2.2.1 hok)
end Go.Proofs.YthlcobdnemhcdaaGreat.K
noncomputable section
namespace Go.Proofs.YthlcobdnemhcdaaGreat.K
open Go.RowKit
noncomputable section
def GE (y:Policy)(i:Item):Int:=if QQ y i then 0 else ofE y i
def QHY:TC:=aF Tryz.f104 []
def g_f104:G:=gG 13 [(103,Qkn),(130,Qq9)] (fun _ _=>none)
def QvL (p0:Policy)(p1:Item):OV:=br (Jl p0) (br (ine (Zj p0) 0) (some (.t tI (Zj p0),[])) (br (Z9 p1) (some (.t tI (ZD p1),[])) none)) none
theorem s_f104 (y:Policy)(i:Item)(h:J8 y i=true):QvL y i=some (.t tI (GE y i),[]):=by
 simp only [J8,Bb] at h
 have h2:Z9 i=true:=h.2
 simp only [QvL,h.1,h2,Qf]
 unfold GE QQ ofE Zj ZD
 generalize Jr y=a
 generalize Zp i=b
 cases a<;>cases b<;>rfl
def QvM:Ent:=Qo (.pr QE (.pr Qm .nil)) (fun x=>(J8 x.1 x.2.1)) (fun x=>(.t tI (GE x.1 x.2.1)))
theorem QHZ:EM 104 QvM:=mS g_f104 QHY [((.t 4),some tI)] false (gB (gD Qu1 (gD QCD gN))) fun m=>Qt m fun x hok=>kT (s_f104 x.1 x.2.1 hok)
theorem QH0 {y:Policy}{i:Item}:(QQ y i=true/\GE y i=0)∨(QQ y i=false/\GE y i=ofE y i/\ine (ofE y i) 0=true):=by
 unfold GE
 cases hf:QQ y i with
 |true=>exact .inl ⟨rfl,rfl⟩
 |false=>exact .inr ⟨rfl,rfl,I5 y i⟩
abbrev QdT:Sh:=⟨[(2,.ptr 2 0),(3,.ptr 3 0),(7,.ty tI)],[(2,.box QE),(3,.box Qm)]⟩
abbrev QkQ:Sh:=⟨[(7,.ty tI)],[]⟩
def QkR:Fg:=QdT.f
def QvN:TC:=aF Tryz.f67 [(124,pL 0 QkR),(1987,.fg QkQ.f),(1988,pD [(0,[2]),(1,[3]),(2,[3]),(3,[]),(4,[]),(5,[]),(6,[]),(7,[]),(8,[3]),(9,[3]),(10,[]),(11,[]),(12,[]),(13,[]),(14,[]),(15,[]),(16,[]),(17,[])] (.of [0,1,2,3,4,5,6,7,8,9,10,11,12,13,14,15,16,17])),(15914,.fg QkQ.f)]
def QvO:TC:=lb 0 QvN
def QvP (x7:Int)(y2:Policy)(y3:Item):VS:=QdT.st ((),(),x7,()) (y2,y3,())
def VG (x7:Int):VS:=QkQ.st (x7,()) ()
def QH1:VS->Option (Bool×List (Bool×Exit×VS)):=mkL QdT (fun x y=>(QQ y.1 y.2.1&&decide (1<=x.2.2.1/\x.2.2.1<=y.2.1.2.2.2.1.length))) (fun x y=>[(true,.exit 0,VG (x.2.2.1+(Xx ((QB y.1 y.2.1).drop (x.2.2.1-1).toNat):Int)))])
def QkS:G:=gG 57 [(68,QiI),(104,QvM)] (Ls [QH1])
def QkT (x7:Int)(y2:Policy)(y3:Item):OX:=QA (QC QkS QkR QvO) (QvP x7 y2 y3)
def VH (kk:Int->Policy->Item->OX)(x7:Int)(y2:Policy)(y3:Item):OX:=
 let a1:=((lgt QH y3.2.2.2.1 (Int.toNat (Qs .i64 x7 1))).1)
 let a2:=ZJ y2 a1 y3.2.2.1
 br (ilt x7 (Qc y3.2.2.2.1)) (br (cIx y3.2.2.2.1 (Qs .i64 x7 1)) (br (Z0 y2 a1 y3.2.2.1) (br ((a2.2).1) (br (cIx y3.2.2.2.1 x7) (br (ige (((lgt QH y3.2.2.2.1 (Int.toNat x7)).2).1) (a2.1)) (some (.exit 0,VG x7)) (kk (Qh .i64 x7 1) y2 y3)) none) (kk (Qh .i64 x7 1) y2 y3)) none) none) (some (.exit 0,VG x7))
def VI (x7:Int)(y2:Policy)(y3:Item):OX:=some (.exit 0,VG (x7+(Xx ((QB y2 y3).drop (x7-1).toNat):Int)))
theorem QvQ (x7:Int)(y2:Policy)(y3:Item):QkT x7 y2 y3=VH QkT x7 y2 y3:=lnT (x:=VH (fun x7 y2 y3=>some (.normal,QvP x7 y2 y3)) x7 y2 y3) (by simp only [VH,nxA];rfl)
def r_f67 (p0:Policy)(p1:Item):OV:=br (J8 p0 p1) (br (ine (GE p0 p1) 0) (some (.tu [(.t tI 0),(.t tI (GE p0 p1))],[])) (br (ieq p1.2.1 1) (some (.tu [(.t tI (Qc p1.2.2.2.1)),(.t tI 0)],[])) (br (QQ p0 p1&&decide (1<=(1:Int)/\(1:Int)<=p1.2.2.2.1.length)) (some (.tu [(.t tI ((1:Int)+(Xx ((QB p0 p1).drop ((1:Int)-1).toNat):Int))),(.t tI 0)],[])) none))) none
theorem QH2 (x7:Int)(y2:Policy)(y3:Item)(h:(QQ y2 y3&&decide (1<=x7/\x7<=y3.2.2.2.1.length))=true):QkT x7 y2 y3=VI x7 y2 y3:=by
 simp only [Bb,Ba] at h
 obtain ⟨hf,h1,h2⟩:=h
 have hf2:=hf
 simp only [QQ,Bb] at hf2
 have hi:=Jn.1 hf2.2
 have hpl: ∀ u q,Z0 y2 u q=true:=fun u q=>(O1 hf2.1).1
 obtain ⟨k,hk⟩: ∃ k:Nat,x7=((k+1:Nat):Int):=⟨(x7-1).toNat,by omega⟩
 subst hk
 obtain ⟨m,hm⟩: ∃ m,m=y3.2.2.2.1.length-(k+1):=⟨_,rfl⟩
 have hlk:(QB y2 y3).length=y3.2.2.2.1.length:=by simp [QB]
 induction m generalizing k with
 |zero=>
  rw [QvQ]
  have e1:ilt ((k+1:Nat):Int) (Qc y3.2.2.2.1)=false:=by simp only [ilt,Qc,Bn];omega
  have hk0:k<(QB y2 y3).length:=by omega
  have e7:(QB y2 y3).drop (k+1)=[]:=Dq (by omega)
  have e2:(((k+1:Nat):Int)-1).toNat=k:=by omega
  simp only [VH,e1,Qj,VI,e2,Bi hk0,e7,Xx,J7]
  simp
 |succ m ih=>
  rw [QvQ]
  have hk1:k+1<y3.2.2.2.1.length:=by omega
  have hk0:k<y3.2.2.2.1.length:=by omega
  have e1:ilt ((k+1:Nat):Int) (Qc y3.2.2.2.1)=true:=by simp only [ilt,Qc,Ba];omega
  have e3:Qs .i64 ((k+1:Nat):Int) 1=(k:Int):=by rw [J5 (by omega)];omega
  have hv:=FA hi.2.2.2.2.1 y3.2.2.2.1[k] (Bx hk0)
  have ef:=Qln (u:=y3.2.2.2.1[k].1) (p:=y3.2.2.1) hf2.1 hv.1 hi.2.2.1.1 hi.2.2.1.2
  have ih:=ih (k+1) (by omega) (by omega) (by omega)
  have e2:(((k+1:Nat):Int)-1).toNat=k:=by omega
  have e5:(((k+1+1:Nat):Int)-1).toNat=k+1:=by omega
  have hd0:k<(QB y2 y3).length:=by omega
  have hd1:k+1<(QB y2 y3).length:=by omega
  have g0:(QB y2 y3)[k]=lkF y2 y3.2.2.1 y3.2.2.2.1[k]:=by simp [QB]
  have g1:(QB y2 y3)[k+1]=lkF y2 y3.2.2.1 y3.2.2.2.1[k+1]:=by simp [QB]
  have el:VI ((k+1:Nat):Int) y2 y3=br (cnd (lkF y2 y3.2.2.1 y3.2.2.2.1[k]) (lkF y2 y3.2.2.1 y3.2.2.2.1[k+1])) (VI ((k+1+1:Nat):Int) y2 y3) (some (.exit 0,VG ((k+1:Nat):Int))):=by
   simp only [VI,e2,e5,Bi hd0,Bi hd1,Xx,g0,g1]
   have e9: ∀ (a b:LinkX) (r:List LinkX),J7 a (b::r)=if cnd a b then J7 b r+1 else 0:=fun _ _ _=>rfl
   rw [e9]
   cases hcn:cnd (lkF y2 y3.2.2.1 y3.2.2.2.1[k]) (lkF y2 y3.2.2.1 y3.2.2.2.1[k+1]) with
   |true=>
    rw [if_pos rfl,Qf]
    congr 3
    omega
   |false=>
    rw [if_neg (by simp),Qj]
    simp
  rw [el]
  simp only [VH,e1,e3,Qf,QI,hk1,hk0,Br,Bd,QO (y:=QH) hk1,QO (y:=QH) hk0,hpl,ef,QW (show k+1<4611686018427387904 by omega),ih]
  simp only [cnd,lkF]
  by_cases c1:(JW (Jk y2 y3.2.2.2.1[k].1 y3.2.2.1)).2=true
  ·rw [c1,Qf]
   by_cases c2:y3.2.2.2.1[k+1].2.1<(JW (Jk y2 y3.2.2.2.1[k].1 y3.2.2.1)).1
   ·rw [show ige y3.2.2.2.1[k+1].2.1 (JW (Jk y2 y3.2.2.2.1[k].1 y3.2.2.1)).1=false from Bp (by omega),Qj,show ilt y3.2.2.2.1[k+1].2.1 (JW (Jk y2 y3.2.2.2.1[k].1 y3.2.2.1)).1=true from Be c2]
    rfl
   ·rw [show ige y3.2.2.2.1[k+1].2.1 (JW (Jk y2 y3.2.2.2.1[k].1 y3.2.2.1)).1=true from Be (by omega),Qf,show ilt y3.2.2.2.1[k+1].2.1 (JW (Jk y2 y3.2.2.2.1[k].1 y3.2.2.1)).1=false from Bp c2]
    rfl
  ·rw [show (JW (Jk y2 y3.2.2.2.1[k].1 y3.2.2.1)).2=false by simpa using c1]
   rfl
theorem QH3:LO QkS QkR QvO 0:=QN (s:=QdT) fun x y h _ q=>by simp only [QK,QL] at q;exact (QH2 x.2.2.1 y.1 y.2.1 h).trans q
theorem s_f67 (y:Policy)(i:Item)(h:J8 y i=true):r_f67 y i=some (.tu [.t tI (YI y i).1,.t tI (YI y i).2],[]):=by
 simp only [r_f67,h,Qf]
 rcases QH0 (y:=y) (i:=i) with ⟨q1,q2⟩|⟨q1,q2,q3⟩
 ·rw [q2,q1,show ine 0 0=false from rfl,Qj,By]
  have hf2:=q1
  simp only [QQ,Bb] at hf2
  have hi:=Jn.1 hf2.2
  rw [Yq ⟨B4 1,by omega⟩,Qf]
  unfold YI
  rw [q1,if_pos rfl]
  have e0:(1-1:Int).toNat=0:=rfl
  rw [e0,BF]
  cases hk:ieq i.2.1 1 with
  |true=>
   simp only [Qf,if_true,QmP,QB,BL]
  |false=>rfl
 ·rw [q2,q3,Qf]
  unfold YI
  rw [q1,if_neg (by simp)]
def QvR:Ent:=Qo (.pr QE (.pr Qm .nil)) (fun x=>(J8 x.1 x.2.1)) (fun x=>(.tu [(.t tI ((YI x.1 x.2.1).1)),(.t tI ((YI x.1 x.2.1).2))]))
theorem ms_f67:EM 67 QvR:=mS (lk:=lkL (lkc QH3 lkn)) QkS QvN [((.t 4),some tI),((.t 5),some tI)] false (gB (gD Qsc (gD QHZ gN))) fun m=>Qt m fun x hok=>kT (s_f67 x.1 x.2.1 hok)
end
end Go.Proofs.YthlcobdnemhcdaaGreat.K
noncomputable section
namespace Go.Proofs.YthlcobdnemhcdaaGreat.K
open Go.RowKit
noncomputable section
theorem QDL (a b:Int):imx a b=imx b a:=by
 unfold imx
 split<;>split<;>omega
abbrev Qcu:Sh:=⟨[(2,.ptr 2 0),(3,.ptr 3 0),(7,.ty tI),(10,.ty tI),(11,.ty .bool),(12,.ty tI)],[(2,.box QE),(3,.box Qm)]⟩
abbrev Qsz:Sh:=⟨[(10,.ty tI),(11,.ty .bool)],[]⟩
def Qi3:Fg:=Qcu.f
def QsA:TC:=aF Tryz.f26 [(1018,pL 0 Qi3),(16291,.fg Qsz.f),(32584,pD [(0,[2]),(1,[3]),(2,[3]),(3,[]),(4,[]),(5,[]),(6,[]),(7,[3]),(8,[3]),(9,[]),(10,[]),(11,[]),(12,[]),(13,[]),(14,[]),(15,[]),(16,[])] (.of [0,1,2,3,4,5,6,7,8,9,10,11,12,13,14,15,16]))]
def QsB:TC:=lb 0 QsA
def QsC (x7 x10:Int)(x11:Bool)(x12:Int)(y2:Policy)(y3:Item):VS:=Qcu.st ((),(),x7,x10,x11,x12,()) (y2,y3,())
def Qi4 (x10:Int)(x11:Bool):VS:=Qsz.st (x10,x11,()) ()
def QDM:VS->Option (Bool×List (Bool×Exit×VS)):=mkL Qcu (fun x y=>(QQ y.1 y.2.1&&decide (0<=x.2.2.2.2.2.1/\x.2.2.2.2.2.1<=x.2.2.1/\x.2.2.1<=y.2.1.2.2.2.1.length))) (fun x y=>[(true,.exit 0,Qi4 (((((QB y.1 y.2.1).take x.2.2.1.toNat).drop x.2.2.2.2.2.1.toNat).foldl Z3 (x.2.2.2.1,x.2.2.2.2.1)).1) (((((QB y.1 y.2.1).take x.2.2.1.toNat).drop x.2.2.2.2.2.1.toNat).foldl Z3 (x.2.2.2.1,x.2.2.2.2.1)).2))])
def Qi5:G:=gG 71 [(67,QvR),(68,QiI)] (Ls [QDM])
def Qcv (x7 x10:Int)(x11:Bool)(x12:Int)(y2:Policy)(y3:Item):OX:=QA (QC Qi5 Qi3 QsB) (QsC x7 x10 x11 x12 y2 y3)
def O2 (kk:Int->Int->Bool->Int->Policy->Item->OX)(x7 x10:Int)(x11:Bool)(x12:Int)(y2:Policy)(y3:Item):OX:=
 let a1:=lgt QH y3.2.2.2.1 (Int.toNat x12)
 let a2:=imx ((ZJ y2 (a1.1) y3.2.2.1).1) ((a1.2).1)
 let a3:=Qh .i64 x12 1
 br (ilt x12 x7) (br (cIx y3.2.2.2.1 x12) (br (Z0 y2 (a1.1) y3.2.2.1) (br (cIx y3.2.2.2.1 x12) (br (((ZJ y2 (a1.1) y3.2.2.1).2).1) (br (!x11) (kk x7 a2 true a3 y2 y3) (br (ilt a2 x10) (kk x7 a2 true a3 y2 y3) (kk x7 x10 x11 a3 y2 y3))) (kk x7 x10 x11 a3 y2 y3)) none) none) none) (some (.exit 0,Qi4 x10 x11))
def Ez (x7 x10:Int)(x11:Bool)(x12:Int)(y2:Policy)(y3:Item):OX:=
 let a1:=((((QB y2 y3).take x7.toNat).drop x12.toNat).foldl Z3 (x10,x11))
 some (.exit 0,Qi4 (a1.1) (a1.2))
theorem QsD (x7 x10:Int)(x11:Bool)(x12:Int)(y2:Policy)(y3:Item):Qcv x7 x10 x11 x12 y2 y3=O2 Qcv x7 x10 x11 x12 y2 y3:=lnT (x:=O2 (fun x7 x10 x11 x12 y2 y3=>some (.normal,QsC x7 x10 x11 x12 y2 y3)) x7 x10 x11 x12 y2 y3) (by simp only [O2,nxA];rfl)
def r_f26 (p0:Policy)(p1:Item):OV:=
 let a1:=((YI p0 p1).1)
 let a2:=((((QB p0 p1).take a1.toNat).drop (Qs .i64 a1 1).toNat).foldl Z3 ((0:Int),false))
 let a3:=((((QB p0 p1).take a1.toNat).drop (0:Int).toNat).foldl Z3 ((0:Int),false))
 br (J8 p0 p1) (br (ine ((YI p0 p1).2) 0) (some (.tu [(.t tI 0),(.t .bool false),(.t tI ((YI p0 p1).2))],[])) (br (ieq p1.2.1 2) (br (QQ p0 p1&&decide (0<=(Qs .i64 a1 1)/\(Qs .i64 a1 1)<=a1/\a1<=p1.2.2.2.1.length)) (some (.tu [(.t tI (a2.1)),(.t .bool (a2.2)),(.t tI 0)],[])) none) (br (QQ p0 p1&&decide (0<=(0:Int)/\(0:Int)<=a1/\a1<=p1.2.2.2.1.length)) (some (.tu [(.t tI (a3.1)),(.t .bool (a3.2)),(.t tI 0)],[])) none))) none
theorem QDN (x7 x10:Int)(x11:Bool)(x12:Int)(y2:Policy)(y3:Item)(h:(QQ y2 y3&&decide (0<=x12/\x12<=x7/\x7<=y3.2.2.2.1.length))=true):Qcv x7 x10 x11 x12 y2 y3=Ez x7 x10 x11 x12 y2 y3:=by
 simp only [Bb,Ba] at h
 obtain ⟨hf,h1,h2,h3⟩:=h
 have hf2:=hf
 simp only [QQ,Bb] at hf2
 have hi:=Jn.1 hf2.2
 have hpl: ∀ u q,Z0 y2 u q=true:=fun u q=>(O1 hf2.1).1
 obtain ⟨k,rfl⟩:=Bu h1
 obtain ⟨n,rfl⟩:=Bu (show 0<=x7 by omega)
 have hlk:(QB y2 y3).length=y3.2.2.2.1.length:=by simp [QB]
 have hn:((QB y2 y3).take n).length=n:=by rw [B6,hlk];omega
 revert x10 x11
 refine Q5 ((QB y2 y3).take n) (fun k=> ∀ (x10:Int) (x11:Bool),Qcv (n:Int) x10 x11 (k:Int) y2 y3=Ez (n:Int) x10 x11 (k:Int) y2 y3) ?_ ?_ k (by rw [hn];omega)
 ·intro x10 x11
  rw [QsD,hn]
  simp [O2,Ez,QD,Qj]
 ·intro k hk ih x10 x11
  have hkn:k<n:=by rw [hn] at hk;exact hk
  have hk0:k<y3.2.2.2.1.length:=by omega
  rw [QsD]
  have hv:=FA hi.2.2.2.2.1 y3.2.2.2.1[k] (Bx hk0)
  have ef:=Qln (u:=y3.2.2.2.1[k].1) (p:=y3.2.2.1) hf2.1 hv.1 hi.2.2.1.1 hi.2.2.1.2
  have g0:((QB y2 y3).take n)[k]=lkF y2 y3.2.2.1 y3.2.2.2.1[k]:=by simp [QB]
  have el:Ez (n:Int) x10 x11 (k:Int) y2 y3=Ez (n:Int) (Z3 (x10,x11) (lkF y2 y3.2.2.1 y3.2.2.2.1[k])).1 (Z3 (x10,x11) (lkF y2 y3.2.2.1 y3.2.2.2.1[k])).2 ((k+1:Nat):Int) y2 y3:=by
   simp only [Ez,Bd,Bi hk,Dt,g0]
  have eg:(J6 (lkF y2 y3.2.2.1 y3.2.2.2.1[k])).1=imx (JW (Jk y2 y3.2.2.2.1[k].1 y3.2.2.1)).1 y3.2.2.2.1[k].2.1:=QDL _ _
  have eh:(J6 (lkF y2 y3.2.2.1 y3.2.2.2.1[k])).2=(JW (Jk y2 y3.2.2.2.1[k].1 y3.2.2.1)).2:=rfl
  rw [el]
  simp only [O2,QD,hkn,Br,Qf,QI,hk0,Bd,QO (y:=QH) hk0,hpl,ef,QW (show k<4611686018427387904 by omega),ih]
  unfold Z3
  rw [eg,eh]
  generalize imx (JW (Jk y2 y3.2.2.2.1[k].1 y3.2.2.1)).1 y3.2.2.2.1[k].2.1=g
  cases (JW (Jk y2 y3.2.2.2.1[k].1 y3.2.2.1)).2<;>cases x11<;>cases ilt g x10<;>rfl
theorem QDO:LO Qi5 Qi3 QsB 0:=QN (s:=Qcu) fun x y h _ q=>by simp only [QK,QL] at q;exact (QDN x.2.2.1 x.2.2.2.1 x.2.2.2.2.1 x.2.2.2.2.2.1 y.1 y.2.1 h).trans q
theorem QDP {l:List LinkX}(h:l≠[]):((l.take (Jp l).toNat).drop ((Jp l).toNat-1)).foldl Z3 (0,false)=JN l:=by
 have hc:=Qfj h
 obtain ⟨n,hn⟩: ∃ n:Nat,Jp l=((n+1:Nat):Int):=⟨(Jp l).toNat-1,by omega⟩
 have hl:n<l.length:=by omega
 have e1:(Jp l).toNat=n+1:=by omega
 have e2:(l.take (n+1)).drop n=[l[n]]:=by
  have hk:n<(l.take (n+1)).length:=by rw [B6];omega
  rw [Bi hk,Dq (by rw [B6];omega)]
  simp
 have e3:Zf l=l[n]:=by
  unfold Zf
  rw [hn,show (((n+1:Nat):Int)-1).toNat=n by omega,Bm,Bj hl]
  rfl
 rw [e1,D1,e2,JN,e3,Dt,List.foldl_nil]
 unfold Z3
 cases (J6 l[n]).2<;>rfl
theorem s_f26 (y:Policy)(i:Item)(h:J8 y i=true):r_f26 y i=some (.tu [.t tI (Q7 y i).1,.t .bool (Q7 y i).2.1,.t tI (Q7 y i).2.2],[]):=by
 simp only [r_f26,h,Qf]
 cases hf:QQ y i with
 |false=>
  have e:YI y i=(0,ofE y i):=by unfold YI;rw [hf];rfl
  rw [e,I5,Qf]
  unfold Q7
  rw [hf]
  rfl
 |true=>
  have hf2:=hf
  simp only [QQ,Bb] at hf2
  have hi:=Jn.1 hf2.2
  have hlk:(QB y i).length=i.2.2.2.1.length:=by simp [QB]
  have hne:QB y i≠[]:=fun e=>by rw [e] at hlk;simp at hlk;omega
  have hc:=Qfj hne
  have eF:Q7 y i=((JX y i).1,(JX y i).2,0):=by unfold Q7;rw [hf];rfl
  have hk:=hi.2.1
  by_cases k1:i.2.1=1
  ·have e:YI y i=((i.2.2.2.1.length:Int),0):=by unfold YI;rw [hf,k1];simp [ieq,QmP,hlk]
   have ef:JX y i=XS (QB y i):=by unfold JX;rw [k1];rfl
   rw [e,k1,show ine 0 0=false from rfl,Qj,show ieq 1 2=false from rfl,Qj,By,Yq ⟨B4 0,by omega,by omega⟩,Qf,eF,ef]
   have e2:((QB y i).take (Int.toNat (i.2.2.2.1.length:Int))).drop (Int.toNat 0)=QB y i:=by
    rw [Bd,BC,BF, ← hlk,List.take_length]
   rw [e2]
   rfl
  ·have k2:i.2.1=2:=by omega
   have e:YI y i=(Jp (QB y i),0):=by unfold YI;rw [hf,k2];rfl
   have ef:JX y i=JN (QB y i):=by unfold JX;rw [k2];rfl
   have es:Qs .i64 (Jp (QB y i)) 1=Jp (QB y i)-1:=J5 (by omega)
   have e5:(Jp (QB y i)-1).toNat=(Jp (QB y i)).toNat-1:=by omega
   rw [e,k2,show ine 0 0=false from rfl,Qj,show ieq 2 2=true from rfl,Qf]
   simp only [es]
   rw [By,Yq ⟨by omega,by omega,by omega⟩,Qf,eF,ef,e5,QDP hne]
def QsE:Ent:=Qo (.pr QE (.pr Qm .nil)) (fun x=>(J8 x.1 x.2.1)) (fun x=>(.tu [(.t tI ((Q7 x.1 x.2.1).1)),(.t .bool (((Q7 x.1 x.2.1).2).1)),(.t tI (((Q7 x.1 x.2.1).2).2))]))
theorem ms_f26:EM 26 QsE:=mS (lk:=lkL (lkc QDO lkn)) Qi5 QsA [((.t 4),some tI),((.t 5),some .bool),((.t 6),some tI)] false (gB (gD ms_f67 (gD Qsc gN))) fun m=>Qt m fun x hok=>kT (s_f26 x.1 x.2.1 hok)
end
end Go.Proofs.YthlcobdnemhcdaaGreat.K
noncomputable section
namespace Go.Proofs.YthlcobdnemhcdaaGreat.K
open Go.RowKit
noncomputable section
def EZ:Estate:=(([]:List Endpoint),(([]:List Keep),(([]:List Item),())))
def Ja (e:Estate)(y:Policy):Int:=bif !YD e then 31 else Zj y
def Js (e:Estate)(y:Policy):Bool:=YE e&&Jl y
abbrev Qw (e:Estate)(k:Nat):Item:=lgt Qm (QM e) k
theorem E0 {e:Estate}{y:Policy}(h:Ja e y=0):YD e=true/\Jr y=true:=by
 unfold Ja at h
 cases he:YD e with
 |false=>rw [he] at h;cases h
 |true=>
  rw [he] at h
  have h:Zj y=0:=h
  refine ⟨rfl, ?_⟩
  unfold Zj at h
  cases hp:Jr y with
  |true=>rfl
  |false=>rw [hp] at h;cases h
theorem Qko {e:Estate}{y:Policy}(h1:YD e=true)(h2:Jr y=true):Ja e y=0:=by
 unfold Ja Zj
 rw [h1,h2]
 rfl
def ZR (e:Estate)(k:Nat)(x:Item):Estate:=(e.1,(e.2.1,((QM e).set k x,())))
def apF (e:Estate)(y:Policy)(j:Job):Estate×Int:=
 bif ine (Ja e y) 0 then (EZ,Ja e y) else bif ilt j.1 0 then (EZ,52) else bif ige j.1 (Qc (QM e)) then (EZ,52) else
  bif ine (Zn y (Qw e j.1.toNat) j.2.1.1 j.2.1.2.1) 0 then (EZ,Zn y (Qw e j.1.toNat) j.2.1.1 j.2.1.2.1) else
   bif !(Yn y j.2.1.1 (Qw e j.1.toNat).2.2.1 j.2.1.2.1).1 then (EZ,43) else (ZR e j.1.toNat (Q8 (Qw e j.1.toNat) j.2.1.1 j.2.1.2.1),0)
def apE (e:Estate)(y:Policy)(j:Job):Int:=(apF e y j).2
theorem Qkp {e:Estate}{y:Policy}{j:Job}(h:apE e y j=0):Ja e y=0/\0<=j.1/\j.1<(QM e).length/\Zn y (Qw e j.1.toNat) j.2.1.1 j.2.1.2.1=0/\(Yn y j.2.1.1 (Qw e j.1.toNat).2.2.1 j.2.1.2.1).1=true/\apF e y j=(ZR e j.1.toNat (Q8 (Qw e j.1.toNat) j.2.1.1 j.2.1.2.1),0):=by
 unfold apE at h
 have hu:apF e y j=apF e y j:=rfl
 unfold apF at h
 cases h1:ine (Ja e y) 0 with
 |true=>
  rw [h1,Da] at h
  have h:Ja e y=0:=h
  rw [h] at h1
  cases h1
 |false=>
  rw [h1,B0] at h
  cases h2:ilt j.1 0 with
  |true=>rw [h2,Da] at h;cases h
  |false=>
   rw [h2,B0] at h
   cases h3:ige j.1 (Qc (QM e)) with
   |true=>rw [h3,Da] at h;cases h
   |false=>
    rw [h3,B0] at h
    cases h4:ine (Zn y (Qw e j.1.toNat) j.2.1.1 j.2.1.2.1) 0 with
    |true=>
     rw [h4,Da] at h
     have h:Zn y (Qw e j.1.toNat) j.2.1.1 j.2.1.2.1=0:=h
     rw [h] at h4
     cases h4
    |false=>
     rw [h4,B0] at h
     cases h5:(Yn y j.2.1.1 (Qw e j.1.toNat).2.2.1 j.2.1.2.1).1 with
     |false=>rw [h5] at h;cases h
     |true=>
      refine ⟨by simpa [ine] using h1,by simpa [ilt] using h2,by simpa [ige,Qc] using h3,by simpa [ine] using h4,rfl, ?_⟩
      unfold apF
      rw [h1,h2,h3,h4,h5]
      rfl
def WK (y:Policy):List Job->Estate->Int->Estate×Int×Int
 | [],e,n=>(e,n,0)
 |j::l,e,n=>bif ieq (apE e y j) 0 then WK y l (apF e y j).1 (n+1) else (e,n,apE e y j)
def We (e:Estate)(y:Policy)(l:List Job):Estate×Int×Int:=bif igt (Qc l) 60 then (e,0,3) else WK y l e 0
def stF (y:Policy)(i:Item):Bool×Int×Bool:=((Q7 y i).2.1&&ile (Q7 y i).1 i.2.2.2.2.1,(J2 y i).1,(J2 y i).2.1)
def thB (y:Policy)(can:Bool)(i:Item):Bool:=(stF y i).1&&(stF y i).2.2==can
def thZ (y:Policy)(can:Bool):List Item->Int->List Int
 | [],_=>[]
 |i::l,k=>bif thB y can i then k::thZ y can l (k+1) else thZ y can l (k+1)
def thF (e:Estate)(y:Policy)(can:Bool):List Int×Int:=bif ine (Ja e y) 0 then ([],Ja e y) else (thZ y can (QM e) 0,0)
def dlF (e:Estate)(y:Policy)(i:Int):Int×Bool×Int:=
 bif ine (Ja e y) 0 then (0,false,Ja e y) else bif ilt i 0||ige i (Qc (QM e)) then (0,false,52) else
  bif thB y true (Qw e i.toNat) then ((stF y (Qw e i.toNat)).2.1,true,0) else (0,false,0)
theorem Qdt {e:Estate}(h:YD e=true){i:Item}(hi:i∈QM e):Zp i=true:=by
 simp only [YD,Bb] at h
 exact Bh.1 h.2.1 i hi
theorem Vx {e:Estate}{k:Nat}(hk:k<(QM e).length):Qw e k∈QM e:=QoN (y:=Qm) hk
theorem Gx {e:Estate}{k:Nat}(hk:k<(QM e).length):Qw e k=(QM e)[k]:=QO (y:=Qm) hk
theorem Gy {e:Estate}{y:Policy}(h:Ja e y=0){k:Nat}(hk:k<(QM e).length):QQ y (Qw e k)=true:=by
 obtain ⟨h1,h2⟩:=E0 h
 unfold QQ
 rw [h2,Qdt h1 (Vx hk)]
 rfl
theorem Qkq (y:Policy)(can:Bool): ∀ (l:List Item) (k:Int),(thZ y can l k).length<=l.length
 | [],_=>Bw _
 |i::l,k=>by
  have:=Qkq y can l (k+1)
  unfold thZ
  cases thB y can i with
  |true=>simp only [Da,Bq];omega
  |false=>simp only [B0,Bq];omega
theorem Qkr {y:Policy}{can:Bool}{x:Int}: ∀ {l:List Item} {k:Int},x∈thZ y can l k↔ ∃ (n:Nat) (h:n<l.length),x=k+n/\thB y can l[n]=true
 | [],k=>by simp [thZ]
 |i::l,k=>by
  have ih:=Qkr (y:=y) (can:=can) (x:=x) (l:=l) (k:=k+1)
  have e:x∈thZ y can (i::l) k↔(x=k/\thB y can i=true)∨x∈thZ y can l (k+1):=by
   rw [thZ]
   cases thB y can i with
   |true=>simp
   |false=>simp
  rw [e,ih]
  constructor
  ·rintro (⟨h1,h2⟩|⟨n,hn,h1,h2⟩)
   ·exact ⟨0,by simp,by simpa using h1,h2⟩
   ·exact ⟨n+1,by simpa using hn,by omega,by simpa using h2⟩
  ·rintro ⟨n,hn,h1,h2⟩
   cases n with
   |zero=>exact .inl ⟨by simpa using h1,by simpa using h2⟩
   |succ n=>exact .inr ⟨n,by simpa using hn,by omega,by simpa using h2⟩
end
end Go.Proofs.YthlcobdnemhcdaaGreat.K
noncomputable section
namespace Go.Proofs.YthlcobdnemhcdaaGreat.K
open Go.RowKit
noncomputable section
def tc_f53:TC:=aF Tryz.f53 []
def g_f53:G:=gG 13 [(72,QxJ),(90,Qdm)] (fun _ _=>none)
def r_f53 (p0:Estate)(p1:Policy):OV:=br (YE p0) (br (ine (Iu p0) 0) (some (.t tI 31,[])) (br (Jl p1) (br (ine (Zj p1) 0) (some (.t tI 25,[])) (some (.t tI 0,[]))) none)) none
theorem s_f53 (e:Estate)(y:Policy)(h:Js e y=true):r_f53 e y=some (.t tI (Ja e y),[]):=by
 obtain ⟨h1,h2⟩:=Bg.1 h
 unfold r_f53 Ja
 refine brY h1 ?_
 rw [QJV]
 cases YD e with
 |false=>rfl
 |true=>
  rw [BK,Qj]
  refine brY h2 ?_
  unfold Zj
  cases Jr y<;>rfl
def Qcj:Ent:=Qo (.pr Qr (.pr QE .nil)) (fun x=>(Js x.1 x.2.1)) (fun x=>(.t tI (Ja x.1 x.2.1)))
theorem QiJ:EM 53 Qcj:=mS g_f53 tc_f53 [((.t 4),some tI)] false (gB (gD ms_f72 (gD Qkg gN))) fun m=>Qt m fun x hok=>kT (s_f53 x.1 x.2.1 hok)
theorem jchk_z {e:Estate}{y:Policy}(h:ine (Ja e y) 0=false):Ja e y=0:=by simpa [ine] using h
theorem QgS {i:Item}(h:Zp i=true):UA i=true:=Be (by have:=(Jn.1 h).2.2.2.1;omega)
theorem jcpy {e:Estate}{y:Policy}(h:Js e y=true)(h0:Ja e y=0):Yx e=true:=by
 obtain ⟨h1,h2⟩:=Bg.1 h
 exact Bg.2 ⟨h1,Bh.2 fun i hi=>QgS (Qdt (E0 h0).1 hi)⟩
theorem Ev {e:Estate}(h:YE e=true):Yg (QM e)=true:=by
 simp only [YE,Bb] at h
 exact h.2.2
theorem Qsd {e:Estate}(h:YE e=true){k:Nat}(hk:k<(QM e).length):Z9 (Qw e k)=true:=by
 rw [Gx hk]
 exact QeJ (Ev h) hk
theorem ren_ne (y:Policy)(i:Item)(u:Keep)(d:Int):ine (Yc y i u d).2 0=ine (Zn y i u d) 0:=by
 unfold Yc
 split
 ·rename_i h
  rw [h]
 ·rfl
theorem QDx {y:Policy}{i:Item}{u:Keep}{d:Int}(h:ine (Zn y i u d) 0=false):Yc y i u d=(Q8 i u d,0):=by
 have h:Zn y i u d=0:=by simpa [ine] using h
 unfold Yc
 rw [if_pos h]
theorem QDy {y:Policy}{i:Item}{u:Keep}{d:Int}(h:ine (Zn y i u d) 0=true):(Yc y i u d).2=Zn y i u d:=by
 unfold Yc
 split
 ·rename_i h2
  rw [h2]
 ·rfl
def XZ (e:Estate)(y:Policy)(_:Job):Bool:=Js e y
def tc_f13:TC:=aF Tryz.f13 [(30,pD [(0,[4]),(1,[3]),(2,[3]),(3,[5]),(4,[5]),(5,[]),(6,[]),(7,[5]),(8,[5]),(9,[5]),(10,[5]),(11,[5]),(12,[5]),(13,[]),(14,[]),(15,[]),(16,[]),(17,[9,5009,10009,15009]),(18,[9]),(19,[])] (.of [0,1,2,3,4,5,6,7,8,9,10,11,12,13,14,15,16,17,18,19]))]
def g_f13:G:=gG 81 [(51,F1),(53,Qcj),(54,Qu9),(55,Qwt)] (fun _ _=>none)
def r_f13 (p0:Estate)(p1:Policy)(p2:Job):OV:=
 let a3:=Int.toNat p2.1
 let a1:=Yc p1 (lgt Qm p0.2.2.1 a3) p2.2.1.1 p2.2.1.2.1
 let a2:=((((Xi p0).2).2).1)
 br (Js p0 p1) (br (ine (Ja p0 p1) 0) (some (.tu [(.t Qr (([]:List Endpoint),(([]:List Keep),(([]:List Item),())))),(.t tI (Ja p0 p1))],[])) (br (ilt p2.1 0) (some (.tu [(.t Qr (([]:List Endpoint),(([]:List Keep),(([]:List Item),())))),(.t tI 52)],[])) (br (ige p2.1 (Qc p0.2.2.1)) (some (.tu [(.t Qr (([]:List Endpoint),(([]:List Keep),(([]:List Item),())))),(.t tI 52)],[])) (br (cIx p0.2.2.1 p2.1) (br (Qdw p1 (lgt Qm p0.2.2.1 a3) p2.2.1.1 p2.2.1.2.1) (br (ine (a1.2) 0) (some (.tu [(.t Qr (([]:List Endpoint),(([]:List Keep),(([]:List Item),())))),(.t tI (a1.2))],[])) (br (GG p1 p2.2.1.1 ((((a1.1).2).2).1) p2.2.1.2.1) (br (!((Yn p1 p2.2.1.1 ((((a1.1).2).2).1) p2.2.1.2.1).1)) (some (.tu [(.t Qr (([]:List Endpoint),(([]:List Keep),(([]:List Item),())))),(.t tI 43)],[])) (br (Yx p0) (br (cIx a2 p2.1) (br (cLd a2 a3) (some (.tu [(.t Qr ((Xi p0).1,(((Xi p0).2).1,((List.set a2 a3 (a1.1)),())))),(.t tI 0)],[])) none) none) none)) none)) none) none)))) none
theorem s_f13 (e:Estate)(y:Policy)(j:Job)(h:XZ e y j=true):r_f13 e y j=some (.tu [.t Qr (apF e y j).1,.t tI (apF e y j).2],[]):=by
 have h:Js e y=true:=h
 obtain ⟨hl1,hl2⟩:=Bg.1 h
 unfold r_f13 apF
 refine brY h ?_
 cases h1:ine (Ja e y) 0 with
 |true=>rfl
 |false=>
  rw [Qj,B0]
  cases h2:ilt j.1 0 with
  |true=>rfl
  |false=>
   rw [Qj,B0]
   cases h3:ige j.1 (Qc (QM e)) with
   |true=>rfl
   |false=>
    rw [Qj,B0]
    have h2:=Du h2
    have h3:=Du h3
    simp only [Qc] at h3
    have hk:j.1.toNat<(QM e).length:=by omega
    have hk2:j.1.toNat<(Xi e).2.2.1.length:=hk
    have h3b: ¬ ((e.2.2.1.length:Nat):Int)<=j.1:=h3
    have hcx:cIx e.2.2.1 j.1=true:=Be ⟨by omega,by omega⟩
    refine brY hcx (brY (show Qdw y (Qw e j.1.toNat) j.2.1.1 j.2.1.2.1=true from Bg.2 ⟨hl2,Qsd hl1 hk⟩) ?_)
    rw [ren_ne]
    cases h4:ine (Zn y (Qw e j.1.toNat) j.2.1.1 j.2.1.2.1) 0 with
    |true=>
     rw [Qf,Da,QDy h4]
     rfl
    |false=>
     rw [Qj,B0,QDx h4]
     refine brY (show Jl y=true from hl2) ?_
     show br (!(Yn y j.2.1.1 (Qw e j.1.toNat).2.2.1 j.2.1.2.1).1) _ _=_
     cases (Yn y j.2.1.1 (Qw e j.1.toNat).2.2.1 j.2.1.2.1).1 with
     |false=>rfl
     |true=>
      rw [BK,Qj,B0]
      exact brY (jcpy h (jchk_z h1)) (brY hcx (brY (Be hk2) rfl))
def OR:Ent:=Qo (.pr Qr (.pr QE (.pr Zq .nil))) (fun x=>(XZ x.1 x.2.1 x.2.2.1)) (fun x=>(.tu [(.t Qr ((apF x.1 x.2.1 x.2.2.1).1)),(.t tI ((apF x.1 x.2.1 x.2.2.1).2))]))
theorem QiK:EM 13 OR:=mS g_f13 tc_f13 [((.c 6 true 3),some Qr),((.t 7),some tI)] false (gB (gC QpO Qhi (gD QiJ (gC en_f54 ms_f54 (gD ms_f55 gN))))) fun m=>Qt m fun x hok=>kT (s_f13 x.1 x.2.1 x.2.2.1 hok)
def QiL:TC:=aF Tryz.f15 []
def Qse:List (RV×Option Ty):=[((.t 6),some tI)]
def Qck:G:=gG 17 [(13,OR)] (fun _ _=>none)
def QiM (p0:Estate)(p1:Policy)(p2:Job):OV:=br (XZ p0 p1 p2) (some (.t tI ((apF p0 p1 p2).2),[])) none
theorem e_f15 (p0:Estate)(p1:Policy)(p2:Job):QP Qck QiL Qse false [.t Qr p0,.t QE p1,.t Zq p2] []=QiM p0 p1 p2:=by kernel_rfl
theorem gk_f15:GOk Tryz.prog Qck:=Jw _ (gA (gD QiK gN))
theorem lk_f15:QiL.lok Qck:=by repeat (first|exact trivial|refine ⟨?_, ?_⟩)
theorem s_f15 (e:Estate)(y:Policy)(j:Job)(h:XZ e y j=true):QiM e y j=some (.t tI (apE e y j),[]):=by
 unfold QiM
 exact brY h rfl
def Qsf:Ent:=Qo (.pr Qr (.pr QE (.pr Zq .nil))) (fun x=>(XZ x.1 x.2.1 x.2.2.1)) (fun x=>(.t tI (apE x.1 x.2.1 x.2.2.1)))
theorem ms_f15:Qp Tryz.prog 15 (Qq Qsf):=Qt (R:=QP Qck QiL Qse false) (mG Tryz.func15 (by kernel_rfl) Tryz.ntmps15 (by kernel_rfl) gk_f15 lk_f15) fun x hok=>(e_f15 x.1 x.2.1 x.2.2.1).trans (s_f15 x.1 x.2.1 x.2.2.1 hok)
def tc_f65:TC:=aF Tryz.f65 []
def g_f65:G:=gG 32 [(111,Qpr),(112,Qpv)] (fun _ _=>none)
def r_f65 (p0:Policy)(p1:Item):OV:=
 let a1:=J2 p0 p1
 br (J8 p0 p1) (br (J8 p0 p1) (br (((Q7 p0 p1).2).1) (some (.tu [(.t .bool (ile ((Q7 p0 p1).1) p1.2.2.2.2.1)),(.t tI (a1.1)),(.t .bool ((a1.2).1))],[])) (some (.tu [(.t .bool false),(.t tI (a1.1)),(.t .bool ((a1.2).1))],[]))) none) none
theorem s_f65 (y:Policy)(i:Item)(h:J8 y i=true):r_f65 y i=some (.tu [.t .bool (stF y i).1,.t tI (stF y i).2.1,.t .bool (stF y i).2.2],[]):=by
 unfold r_f65
 refine brY h (brY h ?_)
 unfold stF
 cases (Q7 y i).2.1<;>rfl
def QiN:Ent:=Qo (.pr QE (.pr Qm .nil)) (fun x=>(J8 x.1 x.2.1)) (fun x=>(.tu [(.t .bool ((stF x.1 x.2.1).1)),(.t tI (((stF x.1 x.2.1).2).1)),(.t .bool (((stF x.1 x.2.1).2).2))]))
theorem Qsg:EM 65 QiN:=mS g_f65 tc_f65 [((.t 4),some .bool),((.t 5),some tI),((.t 6),some .bool)] false (gB (gC QAU QAV (gC QA8 QA9 gN))) fun m=>Qt m fun x hok=>kT (s_f65 x.1 x.2.1 hok)
def Qcl (l:List Int):List Int:=l
def QiO (l:List Int):Bool:=decide (l.length<=100000)
def QDz:TC:=aF Tryz.f110 []
def g_f110:G:=gG 9 [] (fun _ _=>none)
def Qsh (p0:List Int):OV:=br (cSl p0 0 (Qc p0) (Qc p0)) (some (.t (.sl tI) (lsl p0 0 (Qc p0)),[])) none
theorem s_f110 (l:List Int)(h:QiO l=true):Qsh l=some (.t (.sl tI) (Qcl l),[]):=by
 unfold Qsh Qcl
 have e1:cSl l 0 (Qc l) (Qc l)=true:=by simp only [cSl,Qc,Ba];omega
 have e2:lsl l 0 (Qc l)=l:=by simp [lsl,Qc]
 rw [e1,Qf,e2]
def Qsi:Ent:=Qo (.pr (.sl tI) .nil) (fun x=>(QiO x.1)) (fun x=>(.t (.sl tI) (Qcl x.1)))
theorem QDA:EM 110 Qsi:=mS g_f110 QDz [((.t 2),some (.sl tI))] false (gB gN) fun m=>Qt m fun x hok=>kT (s_f110 x.1 hok)
def OS (y:Policy)(l:List Item)(o:List Int)(k:Int):Bool:=Jl y&&(Yg l&&decide ((o.length:Int)<=k))
def Ew (e:Estate)(y:Policy)(_:Bool):Bool:=Js e y
theorem QDB {y:Policy}{can:Bool}{l:List Item}{k:Nat}(hk:k<l.length):thZ y can (l.drop k) (k:Int)=bif thB y can l[k] then (k:Int)::thZ y can (l.drop (k+1)) ((k:Int)+1) else thZ y can (l.drop (k+1)) ((k:Int)+1):=by
 rw [Bi hk]
 rfl
abbrev Qcm:Sh:=⟨[(2,.ty .bool),(4,.ptr 4 0),(9,.ms 9),(22,.ty (.sl Qm)),(23,.ty tI),(24,.ty tI)],[(4,.box QE),(9,.arr 3 tI),(45,.no)]⟩
abbrev Qsj:Sh:=⟨[(9,.ms 9)],[(9,.arr 3 tI),(45,.no)]⟩
def QiP:Fg:=Qcm.f
def Qsk:TC:=aF Tryz.f63 [(122,.nw 9 3),(122,pL 0 QiP),(1957,.fg Qsj.f),(62,.fz [9])]
def Qsl:TC:=lb 0 Qsk
def Qsm (x2:Bool)(x22:List Item)(x23 x24:Int)(y4:Policy)(y9:List Int):VS:=Qcm.st (x2,(),(),x22,x23,x24,()) (y4,y9,(),())
def QiQ (y9:List Int):VS:=Qsj.st ((),()) (y9,(),())
def QDC:VS->Option (Bool×List (Bool×Exit×VS)):=mkL Qcm (fun x y=>(Qy x.2.2.2.1 x.2.2.2.2.1 x.2.2.2.2.2.1&&OS y.1 x.2.2.2.1 y.2.1 x.2.2.2.2.2.1)) (fun x y=>[(true,.exit 0,QiQ (y.2.1++thZ y.1 x.1 (x.2.2.2.1.drop x.2.2.2.2.2.1.toNat) x.2.2.2.2.2.1))])
def QiR:G:=gG 49 [(53,Qcj),(65,QiN),(110,Qsi)] (Ls [QDC])
def Qcn (x2:Bool)(x22:List Item)(x23 x24:Int)(y4:Policy)(y9:List Int):OX:=QA (QC QiR QiP Qsl) (Qsm x2 x22 x23 x24 y4 y9)
def OT (kk:Bool->List Item->Int->Int->Policy->List Int->OX)(x2:Bool)(x22:List Item)(x23 x24:Int)(y4:Policy)(y9:List Int):OX:=
 let a1:=lgt Qm x22 (Int.toNat x24)
 let a2:=Qh .i64 x24 1
 br (ilt x24 x23) (br (cIx x22 x24) (br (J8 y4 a1) (br ((stF y4 a1).1) (br (beqq (((stF y4 a1).2).2) x2) (br (Qx y9 ([x24]) 8) (kk x2 x22 x23 a2 y4 (y9++([x24]))) none) (kk x2 x22 x23 a2 y4 y9)) (kk x2 x22 x23 a2 y4 y9)) none) none) (some (.exit 0,QiQ y9))
def Qco (x2:Bool)(x22:List Item)(x23 x24:Int)(y4:Policy)(y9:List Int):OX:=some (.exit 0,QiQ (y9++thZ y4 x2 (x22.drop x24.toNat) x24))
theorem Qsn (x2:Bool)(x22:List Item)(x23 x24:Int)(y4:Policy)(y9:List Int):Qcn x2 x22 x23 x24 y4 y9=OT Qcn x2 x22 x23 x24 y4 y9:=lnT (x:=OT (fun x2 x22 x23 x24 y4 y9=>some (.normal,Qsm x2 x22 x23 x24 y4 y9)) x2 x22 x23 x24 y4 y9) (by simp only [OT,nxA];rfl)
def r_f63 (p0:Estate)(p1:Policy)(p2:Bool):OV:=
 let a1:=(p0.2.2.1.drop (0:Int).toNat)
 br (Js p0 p1) (br (ine (Ja p0 p1) 0) (some (.tu [(.t (.sl tI) ([]:List Int)),(.t tI (Ja p0 p1))],[])) (br (Qy p0.2.2.1 (Qc p0.2.2.1) (0:Int)&&OS p1 p0.2.2.1 ([]:List Int) (0:Int)) (br (QiO (([]:List Int)++thZ p1 p2 a1 (0:Int))) (some (.tu [(.t (.sl tI) (Qcl (([]:List Int)++thZ p1 p2 a1 (0:Int)))),(.t tI 0)],[])) none) none)) none
theorem QDD (x2:Bool)(x22:List Item)(x23 x24:Int)(y4:Policy)(y9:List Int)(h:(Qy x22 x23 x24&&OS y4 x22 y9 x24)=true):Qcn x2 x22 x23 x24 y4 y9=Qco x2 x22 x23 x24 y4 y9:=by
 simp only [OS,Bb,Ba] at h
 obtain ⟨h0,g1,g2,g3⟩:=h
 obtain ⟨rfl,h3,k,rfl,hk⟩:=JR h0
 clear h0
 revert y9
 refine Q5 x22 (fun k=> ∀ y9:List Int,(y9.length:Int)<=(k:Int)->Qcn x2 x22 (x22.length:Int) (k:Int) y4 y9=Qco x2 x22 (x22.length:Int) (k:Int) y4 y9) ?_ ?_ k hk
 ·intro y9 _
  rw [Qsn]
  simp only [OT,Qco,QD,BX,BW,Qj,Bd,B5,thZ,BP]
 ·intro k hk ih y9 g3
  rw [Qsn]
  have c1:J8 y4 x22[k]=true:=Bg.2 ⟨g1,QeJ g2 hk⟩
  have c2:Qx y9 [(k:Int)] 8=true:=JE (by omega) (by simp only [Bk];omega)
  simp only [OT,QD,QI,hk,Br,Qf,Bd,QW (show k<4611686018427387904 by omega),QO (y:=Qm) hk,c1,c2]
  rw [ih y9 (by omega),ih (y9++[(k:Int)]) (by simp only [Bl,Bk];omega)]
  simp only [Qco,Bd,QDB hk]
  unfold thB
  have e:((k+1:Nat):Int)=(k:Int)+1:=by omega
  rw [e]
  cases (stF y4 x22[k]).1 with
  |false=>rfl
  |true=>
   rw [Qf,By]
   have e2:beqq (stF y4 x22[k]).2.2 x2=((stF y4 x22[k]).2.2==x2):=rfl
   rw [e2]
   cases ((stF y4 x22[k]).2.2==x2) with
   |false=>rfl
   |true=>simp only [Qf,Da,BN,BM]
theorem QDE:LO QiR QiP Qsl 0:=QN (s:=Qcm) fun x y h _ q=>by simp only [QK,QL] at q;exact (QDD x.1 x.2.2.2.1 x.2.2.2.2.1 x.2.2.2.2.2.1 y.1 y.2.1 h).trans q
theorem s_f63 (e:Estate)(y:Policy)(can:Bool)(h:Ew e y can=true):r_f63 e y can=some (.tu [.t (.sl tI) (thF e y can).1,.t tI (thF e y can).2],[]):=by
 have h:Js e y=true:=h
 obtain ⟨hl1,hl2⟩:=Bg.1 h
 have hi:=Ev hl1
 have hil:=Is hi
 unfold r_f63 thF
 refine brY h ?_
 cases ine (Ja e y) 0 with
 |true=>rfl
 |false=>
  rw [Qj,B0]
  refine brY ?_ (brY ?_ ?_)
  ·rw [JS (show (QM e).length<=100000 from hil),By]
   unfold OS
   rw [hl2,hi]
   rfl
  ·rw [BC,BF,BS]
   exact Be (Do (Qkq y can _ _) hil)
  ·rw [BC,BF,BS]
   rfl
def QiS:Ent:=Qo (.pr Qr (.pr QE (.pr .bool .nil))) (fun x=>(Ew x.1 x.2.1 x.2.2.1)) (fun x=>(.tu [(.t (.sl tI) ((thF x.1 x.2.1 x.2.2.1).1)),(.t tI ((thF x.1 x.2.1 x.2.2.1).2))]))
theorem Qso:EM 63 QiS:=mS (lk:=lkL (lkc QDE lkn)) QiR Qsk [((.t 6),some (.sl tI)),((.t 7),some tI)] false (gB (gD QiJ (gD Qsg (gD QDA gN)))) fun m=>Qt m fun x hok=>kT (s_f63 x.1 x.2.1 x.2.2.1 hok)
def JD (e:Estate)(y:Policy):List Int×Int:=thF e y true
def Ji (e:Estate)(y:Policy):List Int×Int:=thF e y false
def tc_f19:TC:=aF Tryz.f19 []
def g_f19:G:=gG 11 [(63,QiS)] (fun _ _=>none)
def r_f19 (p0:Estate)(p1:Policy):OV:=br (Ew p0 p1 true) (some (.tu [(.t (.sl tI) ((thF p0 p1 true).1)),(.t tI ((thF p0 p1 true).2))],[])) none
theorem s_f19 (e:Estate)(y:Policy)(h:Js e y=true):r_f19 e y=some (.tu [.t (.sl tI) (JD e y).1,.t tI (JD e y).2],[]):=by
 unfold r_f19
 exact brY (show Ew e y true=true from h) rfl
def Qcp:Ent:=Qo (.pr Qr (.pr QE .nil)) (fun x=>(Js x.1 x.2.1)) (fun x=>(.tu [(.t (.sl tI) ((JD x.1 x.2.1).1)),(.t tI ((JD x.1 x.2.1).2))]))
theorem QiT:EM 19 Qcp:=mS g_f19 tc_f19 [((.t 4),some (.sl tI)),((.t 5),some tI)] false (gB (gD Qso gN)) fun m=>Qt m fun x hok=>kT (s_f19 x.1 x.2.1 hok)
def tc_f21:TC:=aF Tryz.f21 []
def g_f21:G:=gG 11 [(63,QiS)] (fun _ _=>none)
def r_f21 (p0:Estate)(p1:Policy):OV:=br (Ew p0 p1 false) (some (.tu [(.t (.sl tI) ((thF p0 p1 false).1)),(.t tI ((thF p0 p1 false).2))],[])) none
theorem s_f21 (e:Estate)(y:Policy)(h:Js e y=true):r_f21 e y=some (.tu [.t (.sl tI) (Ji e y).1,.t tI (Ji e y).2],[]):=by
 unfold r_f21
 exact brY (show Ew e y false=true from h) rfl
def QiU:Ent:=Qo (.pr Qr (.pr QE .nil)) (fun x=>(Js x.1 x.2.1)) (fun x=>(.tu [(.t (.sl tI) ((Ji x.1 x.2.1).1)),(.t tI ((Ji x.1 x.2.1).2))]))
theorem Qsp:EM 21 QiU:=mS g_f21 tc_f21 [((.t 4),some (.sl tI)),((.t 5),some tI)] false (gB (gD Qso gN)) fun m=>Qt m fun x hok=>kT (s_f21 x.1 x.2.1 hok)
def Ex (e:Estate)(y:Policy)(_:Int):Bool:=Js e y
theorem QDF (y:Policy)(i:Item):thB y true i=((stF y i).1&&(stF y i).2.2):=by
 unfold thB
 cases (stF y i).2.2<;>rfl
def tc_f24:TC:=aF Tryz.f24 [(60,pD [(0,[4]),(1,[3]),(2,[3]),(3,[]),(4,[]),(5,[]),(6,[]),(7,[]),(8,[]),(9,[]),(10,[]),(11,[]),(12,[]),(13,[])] (.of [0,1,2,3,4,5,6,7,8,9,10,11,12,13]))]
def g_f24:G:=gG 44 [(53,Qcj),(65,QiN)] (fun _ _=>none)
def r_f24 (p0:Estate)(p1:Policy)(p2:Int):OV:=
 let a1:=lgt Qm p0.2.2.1 (Int.toNat p2)
 br (Js p0 p1) (br (ine (Ja p0 p1) 0) (some (.tu [(.t tI 0),(.t .bool false),(.t tI (Ja p0 p1))],[])) (br (ilt p2 0) (some (.tu [(.t tI 0),(.t .bool false),(.t tI 52)],[])) (br (ige p2 (Qc p0.2.2.1)) (some (.tu [(.t tI 0),(.t .bool false),(.t tI 52)],[])) (br (cIx p0.2.2.1 p2) (br (J8 p1 a1) (br ((stF p1 a1).1) (br (((stF p1 a1).2).2) (some (.tu [(.t tI (((stF p1 a1).2).1)),(.t .bool true),(.t tI 0)],[])) (some (.tu [(.t tI 0),(.t .bool false),(.t tI 0)],[]))) (some (.tu [(.t tI 0),(.t .bool false),(.t tI 0)],[]))) none) none)))) none
theorem s_f24 (e:Estate)(y:Policy)(i:Int)(h:Ex e y i=true):r_f24 e y i=some (.tu [.t tI (dlF e y i).1,.t .bool (dlF e y i).2.1,.t tI (dlF e y i).2.2],[]):=by
 have h:Js e y=true:=h
 obtain ⟨hl1,hl2⟩:=Bg.1 h
 unfold r_f24 dlF
 refine brY h ?_
 cases ine (Ja e y) 0 with
 |true=>rfl
 |false=>
  rw [Qj,B0]
  cases h2:ilt i 0 with
  |true=>rfl
  |false=>
   rw [Qj,Dr]
   cases h3:ige i (Qc (QM e)) with
   |true=>rfl
   |false=>
    rw [Qj,B0]
    have h2:=Du h2
    have h3:=Du h3
    simp only [Qc] at h3
    have hk:i.toNat<(QM e).length:=by omega
    have h3b: ¬ ((e.2.2.1.length:Nat):Int)<=i:=h3
    refine brY (Be ⟨by omega,by omega⟩) (brY (show J8 y (Qw e i.toNat)=true from Bg.2 ⟨hl2,Qsd hl1 hk⟩) ?_)
    rw [QDF]
    show br (stF y (Qw e i.toNat)).1 (br (stF y (Qw e i.toNat)).2.2 _ _) _=_
    cases (stF y (Qw e i.toNat)).1 with
    |false=>rfl
    |true=>cases (stF y (Qw e i.toNat)).2.2<;>rfl
def QiV:Ent:=Qo (.pr Qr (.pr QE (.pr tI .nil))) (fun x=>(Ex x.1 x.2.1 x.2.2.1)) (fun x=>(.tu [(.t tI ((dlF x.1 x.2.1 x.2.2.1).1)),(.t .bool (((dlF x.1 x.2.1 x.2.2.1).2).1)),(.t tI (((dlF x.1 x.2.1 x.2.2.1).2).2))]))
theorem Qsq:EM 24 QiV:=mS g_f24 tc_f24 [((.t 6),some tI),((.t 7),some .bool),((.t 8),some tI)] false (gB (gD QiJ (gD Qsg gN))) fun m=>Qt m fun x hok=>kT (s_f24 x.1 x.2.1 x.2.2.1 hok)
theorem OU (e:Estate)(k:Nat)(x:Item):(QM (ZR e k x)).length=(QM e).length:=List.length_set
theorem QiW {e:Estate}{y:Policy}{j:Job}(h:Js e y=true)(h0:apE e y j=0):Js (apF e y j).1 y=true:=by
 obtain ⟨h1,h2,h3,h4,h5,h6⟩:=Qkp h0
 obtain ⟨hl1,hl2⟩:=Bg.1 h
 rw [h6]
 refine Bg.2 ⟨?_,hl2⟩
 have hi:=Ev hl1
 simp only [YE,Bb] at hl1 ⊢
 refine ⟨hl1.1,hl1.2.1, ?_⟩
 have hk:j.1.toNat<(QM e).length:=by omega
 unfold Yg at hi ⊢
 obtain ⟨g1,g2⟩:=Bg.1 hi
 refine Bg.2 ⟨?_,Bh.2 fun z hz=> ?_⟩
 ·rw [OU]
  exact g1
 ·rcases DU hz with hz|hz
  ·exact Bh.1 g2 z hz
  ·rw [hz]
   show Z9 (Qw e j.1.toNat)=true
   rw [Gx hk]
   exact Bh.1 g2 _ (Bx hk)
def QiX (e:Estate)(y:Policy)(_:List Job):Bool:=Yx e&&Jl y
theorem Qsr {e:Estate}{y:Policy}{l:List Job}(h:QiX e y l=true):Js e y=true:=by
 obtain ⟨h1,h2⟩:=Bg.1 h
 exact Bg.2 ⟨(Bg.1 h1).1,h2⟩
-- loop 0: (x2 : (List Job)) (x20 : (List Job)) (x21 : Int) (x22 : Int) (y4 : Policy) (y6 : Estate) (y9 : Estate); out: ('ret',) (x7 : Int) (x8 : Int) (y6 : Estate); ('exit', 0) (x2 : (List Job)) (y6 : Estate) (y9 : Estate)
end
end Go.Proofs.YthlcobdnemhcdaaGreat.K
noncomputable section
namespace Go.Proofs.YthlcobdnemhcdaaGreat.K
open Go.RowKit Go.Conc
def Rd (X:Nat->Nat->Prop)(w:World)(y:Ty)(x:y.T)(u:Value):Prop:=C X w QT (V.t y x).d u
def StX (X:Nat->Nat->Prop)(w w':World):Prop:=w.heap.size<=w'.heap.size∧ ∀ b o,b<w.heap.size→ ¬ X b o->w'.cell? ⟨b,o,none⟩=w.cell? ⟨b,o,none⟩
theorem Qj7 {X X':Nat->Nat->Prop}{w:World}{σ:Pl}{y:Ty}{x:y.T}{u:Value}(h:C X' w σ (V.t y x).d u)(hx: ∀ b q,b<w.heap.size->X b q->X' b q):Rd X w y x u:=
 C.ext0 (X:=X') (X':=X) ⟨Bw _,fun b q hb hn=>⟨fun h=>hn (hx b q hb h),rfl⟩⟩ _ _ (fun k hk=>by rw [show (V.t y x).d=y.d x from rfl,Ty.refs_d] at hk;cases hk) h
theorem Rd.stand {X:Nat->Nat->Prop}{w w':World}{y:Ty}{x:y.T}{u:Value}(h:Rd X w y x u)(k:StX X w w'):Rd X w' y x u:=
 C.ext0 (X:=X) (X':=X) ⟨k.1,fun b q hb hn=>⟨hn,k.2 b q hb hn⟩⟩ _ _ (fun _ _=>rfl) h
theorem Rd.more {X X':Nat->Nat->Prop}{w:World}{y:Ty}{x:y.T}{u:Value}(h:Rd X w y x u)(hx: ∀ b q,b<w.heap.size->X' b q->X b q):Rd X' w y x u:=Qj7 h hx
theorem StX.below {X:Nat->Nat->Prop}{w w':World}(h:Below w.heap.size w w'):StX X w w':=⟨h.size,fun b o hb _=>h.cell (p:=⟨b,o,none⟩) hb⟩
theorem QFQ {X:Nat->Nat->Prop}{w:World}{e:Estate}{u:Value}(hfin: ∀ b q,X b q->b<w.heap.size)(hs:Rd X w Qr e u)(h:Yx e=true):
  Calls Tryz.prog 51 #[u] w fun en w'=> ∃ v,en= .returned v/\Rd X w' Qr e v/\Below w.heap.size w w':=by
 refine (PJ.copyMeets hfin hs h).mono ?_
 rintro en w' ⟨v,X',σ',rfl,h1,h2⟩
 exact ⟨v,rfl,Qj7 h1 (fun b q _ hx=>h2.old b q (hfin b q hx) (fun i hi=>absurd hi (by simp)) hx),Qd8 h2⟩
theorem QFR {X:Nat->Nat->Prop}{w:World}{e:Estate}{y:Policy}{j:Job}{u v:Value}(hfin: ∀ b q,X b q->b<w.heap.size)(hs:Rd X w Qr e u)(hp:Rd X w QE y v)(h:Js e y=true):
  Calls Tryz.prog 13 #[u,v,jV j] w fun en w'=> ∃ r,en= .returned (.tuple #[r,.int .i64 (apF e y j).2])/\Rd X w' Qr (apF e y j).1 r/\Below w.heap.size w w':=by
 have hF:Qq OR [.t Qr e,.t QE y,.t Zq j] []=some (.tu [.t Qr (apF e y j).1,.t tI (apF e y j).2],[]):=by
  unfold OR
  exact Qb6 (a:= .pr Qr (.pr QE (.pr Zq .nil))) (x:=(e,(y,(j,())))) (by simp [Ty.args,QlK]) h
 have hj:C X w QT (V.t Zq j).d (jV j):=by
  simp only [V.d]
  rw [Ty.d_row Zq _ rfl]
  simp only [C]
  exact ⟨[.int .i64 j.1,.int .i64 j.2.1.1.1,.int .i64 j.2.1.1.2.1,.int .i64 j.2.1.2.1],rfl,_,_,rfl,⟨rfl,rfl⟩,_,_,rfl,⟨rfl,rfl⟩,_,_,rfl,⟨rfl,rfl⟩,_,_,rfl,⟨rfl,rfl⟩,rfl⟩
 refine (WX (by decide) (QiK.2 _ _ _ _ hF X w QT [u,v,jV j] hfin Qd7 ⟨u,_,rfl,hs,v,_,rfl,hp,jV j,_,rfl,hj,rfl⟩)).mono ?_
 rintro en w' ⟨r,X',σ',rfl,h1,h2⟩
 have h1:C X' w' σ' (.tu [(V.t Qr (apF e y j).1).d,.v (.int .i64 (apF e y j).2)]) r:=h1
 simp only [C,Cs] at h1
 obtain ⟨vs,rfl,u1,us,rfl,c1,u2,us2,rfl,⟨rfl,_⟩,rfl⟩:=h1
 exact ⟨u1,rfl,Qj7 c1 (fun b q _ hx=>h2.old b q (hfin b q hx) (fun i hi=>absurd hi (by simp)) hx),Qd8 h2⟩
theorem Qdc {w:World}{g:Nat}{t:TypeId}{a b c:Value}(h:Go.Proofs.YthlcobdnemhcdaaGreat.Blk w g t #[a,b,c])(x0 x1 x2:Value):
  Go.Proofs.YthlcobdnemhcdaaGreat.Blk (((w.setCell ⟨g,0,none⟩ x0).setCell ⟨g,1,none⟩ x1).setCell ⟨g,2,none⟩ x2) g t #[x0,x1,x2]:=((h.set_ 0 x0).set_ 1 x1).set_ 2 x2
theorem Qdd (w:World)(g:Nat)(x0 x1 x2:Value):w.grownBy (((w.setCell ⟨g,0,none⟩ x0).setCell ⟨g,1,none⟩ x1).setCell ⟨g,2,none⟩ x2) (some g):=
 have h1:=QkA (World.grownBy.refl w (some g)) (p:=⟨g,0,none⟩) (.inl rfl) x0
 have h2:=QkA h1 (p:=⟨g,1,none⟩) (.inl rfl) x1
 QkA h2 (p:=⟨g,2,none⟩) (.inl rfl) x2
theorem Quq {X:Nat->Nat->Prop}{w w':World}{g:Nat}(h:w.grownBy w' (some g))(hx: ∀ o,X g o):StX X w w':=⟨h.size,fun b o hb hn=>by
 by_cases hg:b=g
 ·subst hg
  exact absurd (hx o) hn
 ·have:=h.block b hb (fun e=>hg (by injection e))
  simp [World.cell?, this]⟩
theorem Qur (w:World)(c cap:Nat)(buf:Array Value)(cl:Bool)(s r:Nat)(tm:Bool):w.grownBy (w.setChan c cap buf cl s r tm) (some c):=
 ⟨rfl,rfl,rfl,by simp [World.setChan],fun k _ hne=>by simp only [World.setChan];rw [Array.getElem?_setIfInBounds_ne (fun e=>hne (by rw [e]))]⟩
theorem QFS {w:World}{c:Nat}{cap:Nat}{buf:Array Value}{cl:Bool}{s r:Nat}{tm:Bool}(h:w.heap[c]? = some (.chan cap buf cl s r tm))(cap':Nat)(buf':Array Value)(cl':Bool)(s' r':Nat)(tm':Bool)(X:Nat->Nat->Prop):StX X w (w.setChan c cap' buf' cl' s' r' tm'):=by
 have hlt:=(BQ.1 h).1
 have hg:=Qur w c cap' buf' cl' s' r' tm'
 refine ⟨hg.size,fun b o hb _=> ?_⟩
 by_cases hc:b=c
 ·subst hc
  have h2:=heap_setChan w b cap' buf' cl' s' r' tm' hlt
  simp [World.cell?, h,h2]
 ·have:=hg.block b hb (fun e=>hc (by injection e))
  simp [World.cell?, this]
theorem Qj8 {X:Nat->Nat->Prop}{w:World}{σ:Pl}{s:Estate}{u:Value}(h:C X w σ (V.t Qr s).d u): ∃ v0 v1 v2,u= .agg #[v0,v1,v2]/\(v0.oneCell'=true/\v1.oneCell'=true/\v2.oneCell'=true):=by
 simp only [V.d] at h
 rw [Ty.d_row Qr _ rfl] at h
 simp only [C] at h
 obtain ⟨us,rfl,h⟩:=h
 have hl:us.length=3:=h.len.trans (by rw [Qr.cells_len];rfl)
 have one: ∀ v∈us,v.oneCell'=true:=fun v hv=>Cs.cell1 h (show (Qr.cells s).all D.cell1=true from rfl) v hv
 match us,hl with
 | [v0,v1,v2],_=>exact ⟨v0,v1,v2,rfl,one _ (by simp),one _ (by simp),one _ (by simp)⟩
end Go.Proofs.YthlcobdnemhcdaaGreat.K
noncomputable section
namespace Go.Proofs.YthlcobdnemhcdaaGreat.K
open Go.RowKit Go.Conc
theorem QIk {l:List Job}{k:Nat}(hk:k<l.length):((l.drop k).map jV).toArray.getD 0 undef=jV l[k]/\((l.drop k).map jV).toArray.extract 1 ((l.drop k).map jV).toArray.size=((l.drop (k+1)).map jV).toArray:=by
 rw [Bi hk,BI]
 constructor
 ·rfl
 ·rw [←Array.toList_inj]
  simp only [Array.toList_extract,Dz,Bq]
  simp
  exact DQ (by simp)
theorem Qk5 {X0 X:Nat->Nat->Prop}{w W W':World}{S g:Nat}{x:Estate}{u:Value}(hv:Rd X W Qr x u)(hg:W.grownBy W' (some g))(hX: ∀ o,X g o)(h0: ∀ b o,X0 b o->X b o)(hb:Below S w W)(h1:S<=g)(h2:S<=W.heap.size):Rd X0 W' Qr x u/\Below S w W':=
 ⟨(hv.stand (Quq hg hX)).more (fun b o _ h=>h0 b o h),GB hb hg h1 h2⟩
section
variable {P:Program}{Q:Exit->Act->World->Prop}{a:Act}{w:World}{ops:Array Oper}
theorem Qv8 {i:Nat}{rest:List Nat}{o:Oper}{v:Value}{w':World}(d:Option Nat)(ho:ops[i]? = some o)(hd:o.dst=d)(hw:Region.wanted o (yielded ops a.tmps)=true)(hr:(execOp a.eval o).run P w= .ok (.value v) w')
  (h:LN P ops Q rest (a.put d v) w'):LN P ops Q (i::rest) a w:=LN.value ho hw hr (hd▸h)
theorem QIl {i:Nat}{rest:List Nat}{o:Oper}{c cap s r:Nat}{buf:Array Value}{z:Value}{tm closed ok:Bool}(d:Option Nat)(ho:ops[i]? = some o)(hd:o.dst=d)(hw:Region.wanted o (yielded ops a.tmps)=true)
  (hr:(execOp a.eval o).run P w= .ok (.comm #[rcase c z] true (.recv ok)) w) (hc:w.heap[c]? = some (.chan cap buf closed s r tm)) (hs:0<buf.size)
  (h:LN P ops Q rest (a.put d (got ok (buf.getD 0 undef) true)) (w.setChan c cap (buf.extract 1 buf.size) closed s (r+1) tm)):LN P ops Q (i::rest) a w:=LN.recv ho hw hr hc hs (hd▸h)
theorem QIm {i:Nat}{rest:List Nat}{o:Oper}{c cap s r:Nat}{z:Value}{tm ok:Bool}(d:Option Nat)(ho:ops[i]? = some o)(hd:o.dst=d)(hw:Region.wanted o (yielded ops a.tmps)=true)
  (hr:(execOp a.eval o).run P w= .ok (.comm #[rcase c z] true (.recv ok)) w) (hc:w.heap[c]? = some (.chan cap #[] true s r tm))
  (h:LN P ops Q rest (a.put d (got ok z false)) w):LN P ops Q (i::rest) a w:=LN.shut ho hw hr hc (hd▸h)
end
set_option maxRecDepth 50000 in
set_option maxHeartbeats 4000000 in
theorem QIn {X0:Nat->Nat->Prop}{w:World}{e:Estate}{y:Policy}{l:List Job}{A:Option Addr}{n c:Nat}{a0 a1 a2 p0 p1:Value}(hn:l.length=n)(hl:n<=9223372036854775807)
  (hX0: ∀ b o,X0 b o->b<w.heap.size) (he:Rd X0 w Qr e (.agg #[a0,a1,a2])) (hp:Rd X0 w QE y (.agg #[p0,p1])) (oa0:a0.oneCell'=true) (oa1:a1.oneCell'=true) (oa2:a2.oneCell'=true) (op0:p0.oneCell'=true) (op1:p1.oneCell'=true)
  (hc:0<n→ ∃ b off,A=some ⟨b,off,none⟩/\b<w.heap.size∧ ∀ j v,(cJ l)[j]? = some v->w.cell? ⟨b,off+j,none⟩=some v) (h:QiX e y l=true):
  Calls Tryz.prog 12 #[.agg #[a0,a1,a2],.agg #[p0,p1],.slice A n c] w fun en w'=> ∃ v,en= .returned (.tuple #[v,.int .i64 (We e y l).2.1,.int .i64 (We e y l).2.2])/\Rd X0 w' Qr (We e y l).1 v/\Below w.heap.size w w':=by
 have HC:=Lib.hid hc
 have HN:=Lib.hid hn
 have HE:=Lib.hid he
 have HP:=Lib.hid hp
 have HH:=Lib.hid h
 have HX0:=Lib.hid hX0
 clear hc hn he hp h hX0
 refine WN.calls Tryz.func12 rfl ?_
 simp only [Tryz.ntmps12,Dz,Bq,BG,Nat.reduceAdd,Nat.reduceSub,Array.replicate_succ,
   Array.replicate_zero,List.push_toArray,List.append_toArray,BS,Dm]
 refine WN.seq (WN.of ?_)
 go_wp2_with fail
 refine WN.seq (WN.of ?_)
 go_wp2_with fail
 obtain ⟨Wa,hWa⟩: ∃ W,W=w.alloc (.cells #[a0,a1,a2] 29):=⟨_,rfl⟩
 obtain ⟨Wb,hWb⟩: ∃ W,W=Wa.alloc (.cells #[p0,p1] 33):=⟨_,rfl⟩
 obtain ⟨Wc,hWc⟩: ∃ W,W=Wb.alloc (.cells #[.slice none 0 0,.slice none 0 0,.slice none 0 0] 29):=⟨_,rfl⟩
 obtain ⟨S,hS⟩: ∃ S,S=w.heap.size:=⟨_,rfl⟩
 rw [←hWa, ← hWb, ← hWc, ← hS]
 have sa:Wa.heap.size=S+1:=by rw [hWa,World.size_alloc,hS]
 have sb:Wb.heap.size=S+1+1:=by rw [hWb,World.size_alloc,sa]
 have sc:Wc.heap.size=S+1+1+1:=by rw [hWc,World.size_alloc,sb]
 have bW:Below w.heap.size w Wc:=by
  rw [hWc,hWb,hWa]
  have e1:=(Below.refl w.heap.size w).alloc (Bw _) (.cells #[a0,a1,a2] 29)
  have e2:=e1.alloc e1.size (.cells #[p0,p1] 33)
  exact e2.alloc e2.size _
 have kP:Go.Proofs.YthlcobdnemhcdaaGreat.Blk Wc (S+1) 33 #[p0,p1]:=by
  rw [hWc];refine Go.Proofs.YthlcobdnemhcdaaGreat.Blk.alloc ?_ _;rw [hWb, ← sa];exact Go.Proofs.YthlcobdnemhcdaaGreat.Blk.new _ _ _
 have kR:Go.Proofs.YthlcobdnemhcdaaGreat.Blk Wc (S+1+1) 29 #[.slice none 0 0,.slice none 0 0,.slice none 0 0]:=by
  rw [hWc, ← sb];exact Go.Proofs.YthlcobdnemhcdaaGreat.Blk.new _ _ _
 clear hWa hWb hWc sa sb
 have e1:Rd (fun b o=>X0 b o∨b=S+1+1) Wc Qr e (.agg #[a0,a1,a2]):=(HE.out.more (fun b o hb hx=>hx.elim id (fun h=>by omega))).stand (StX.below bW)
 have p1':Rd (fun b o=>X0 b o∨b=S+1+1) Wc QE y (.agg #[p0,p1]):=(HP.out.more (fun b o hb hx=>hx.elim id (fun h=>by omega))).stand (StX.below bW)
 have hok:=Bg.1 HH.out
 refine (QFQ (fun b o hx=>hx.elim (fun h=>by have:=HX0.out b o h;omega) (fun h=>by omega)) e1 hok.1).mono ?_
 rintro en w1 ⟨v,rfl,hv,hb1⟩
 have hjl:=Qsr HH.out
 obtain ⟨c0,c1,c2,rfl,oc0,oc1,oc2⟩:=Qj8 hv
 have kP:=kP.ext hb1
 have kR:=kR.ext hb1
 have bl1:Below S w w1:=hS▸UQ bW hb1 (by omega)
 obtain ⟨q,hq⟩: ∃ q,q=w1.heap.size:=⟨_,rfl⟩
 have hqS:S+1+1<q:=by have:=hb1.size;omega
 have hv:Rd (fun b o=>X0 b o∨b=S+1+1∨b=q) w1 Qr e (.agg #[c0,c1,c2]):=hv.more (fun b o hb hx=>hx.elim .inl (fun h=>h.elim .inr (fun h=>by omega)))
 have hp2:Rd (fun b o=>X0 b o∨b=S+1+1∨b=q) w1 QE y (.agg #[p0,p1]):=(p1'.stand (StX.below hb1)).more (fun b o hb hx=>hx.elim .inl (fun h=>h.elim .inr (fun h=>by omega)))
 have HV:=Lib.hid hv
 have HP2:=Lib.hid hp2
 have HKP:=Lib.hid kP
 have HKR:=Lib.hid kR
 have HB1:=Lib.hid bl1
 have HQ:=Lib.hid hq
 have HQS:=Lib.hid hqS
 have HJ:=Lib.hid hjl
 have HS:=Lib.hid hS
 clear bW kP kR e1 p1' hb1 hv hp2 bl1 hq hqS hjl sc hS hok HE HP oa0 oa1 oa2
 have sv0:=fun a m W=>run_store Tryz.prog W a c0 m oc0
 have sv1:=fun a m W=>run_store Tryz.prog W a c1 m oc1
 have sv2:=fun a m W=>run_store Tryz.prog W a c2 m oc2
 go_wp2_with fail
 clear sv0 sv1 sv2
 obtain ⟨W2,hW2⟩: ∃ W,W=w1.alloc (.cells #[c0,c1,c2] 29):=⟨_,rfl⟩
 have hq:=HQ.out
 rw [←hW2, ← hq]
 have b2:Below w1.heap.size w1 W2:=hW2▸(Below.refl _ _).alloc (Bw _) _
 have HKQ:=Lib.hid (show Go.Proofs.YthlcobdnemhcdaaGreat.Blk W2 q 29 #[c0,c1,c2] by rw [hW2,hq];exact Go.Proofs.YthlcobdnemhcdaaGreat.Blk.new _ _ _)
 have HKP:=Lib.hid (HKP.out.ext b2)
 have HKR:=Lib.hid (HKR.out.ext b2)
 have HV:=Lib.hid (HV.out.stand (StX.below b2))
 have HP2:=Lib.hid (HP2.out.stand (StX.below b2))
 have HB2:=Lib.hid (UQ HB1.out b2 (by have:=HQS.out;omega))
 clear hW2 b2 hq HB1 HQ
 by_cases h60:60<n
 ·have z0:=HKQ.out.cell 0
  have z1:=HKQ.out.cell 1
  have z2:=HKQ.out.cell 2
  have r0:=HKR.out.cell 0
  have r1:=HKR.out.cell 1
  have r2:=HKR.out.cell 2
  have f0:=HKR.out.frozen 0
  have f1:=HKR.out.frozen 1
  have f2:=HKR.out.frozen 2
  simp only [Dk,BR,BV] at z0 z1 z2 r0 r1 r2
  refine WN.seq (WN.seq (WN.of ?_))
  go_wp2_with fail
  refine WN.of ?_
  have sv0:=fun a m W=>run_store Tryz.prog W a c0 m oc0
  have sv1:=fun a m W=>run_store Tryz.prog W a c1 m oc1
  have sv2:=fun a m W=>run_store Tryz.prog W a c2 m oc2
  go_wp2_with fail
  have hfin:=Qdc HKR.out c0 c1 c2
  have hgf:=Qdd W2 (S+1+1) c0 c1 c2
  generalize ((W2.setCell ⟨S+1+1,0,none⟩ c0).setCell ⟨S+1+1,1,none⟩ c1).setCell ⟨S+1+1,2,none⟩ c2=W3 at*
  have q0:=hfin.cell 0
  have q1:=hfin.cell 1
  have q2:=hfin.cell 2
  simp only [Dk,BR,BV] at q0 q1 q2
  obtain ⟨g1,g2⟩:=Qk5 HV.out hgf (fun _=> .inr (.inl rfl)) (fun _ _ h=> .inl h) HB2.out (by omega) (by have:=HKQ.out.lt;have:=HQS.out;omega)
  refine bodyPost_ret (by simp [results,Tryz.results12,go_sem,q0,q1,q2];rfl) rfl ?_
  have ea:We e y l=(e,0,3):=by
   unfold We
   rw [show igt (Qc l) 60=true from Be (by simp only [Qc,HN.out];omega)]
   rfl
  rw [ea]
  exact ⟨_,rfl,g1,by rw [←HS.out];exact g2⟩
 ·refine WN.seq (WN.seq (WN.of ?_))
  go_wp2_with fail
  refine WN.of ?_
  go_wp2_with fail
  refine WN.seq (WN.of ?_)
  go_wp2_with fail
  have hc2:0<n→ ∃ b off,A=some ⟨b,off,none⟩/\b<W2.heap.size∧ ∀ j v,(cJ l)[j]? = some v->W2.cell? ⟨b,off+j,none⟩=some v:=fun h0=>by
   obtain ⟨b,off,rfl,g1,g2⟩:=HC.out h0
   have hb:b<S:=by rw [HS.out];exact g1
   exact ⟨b,off,rfl,by have:=HKQ.out.lt;have:=HQS.out;omega,fun j v hj=>(HB2.out.cell (p:=⟨b,off+j,none⟩) hb).trans (g2 j v hj)⟩
  have HC2:=Lib.hid hc2
  clear hc2
  refine WN.seq (WN.seq (WN.of ?_))
  go_wp2_with fail
  refine (QCw l A n c W2 HN.out (by omega) HC2.out).mono ?_
  rintro en w4 ⟨ch,rfl,hch1,hch2,hca,hb4⟩
  have hqW:q<W2.heap.size:=HKQ.out.lt
  have hqS:=HQS.out
  have HKQ:=Lib.hid (HKQ.out.ext hb4)
  have HKP:=Lib.hid (HKP.out.ext hb4)
  have HKR:=Lib.hid (HKR.out.ext hb4)
  have HV:=Lib.hid (HV.out.stand (StX.below hb4))
  have HP2:=Lib.hid (HP2.out.stand (StX.below hb4))
  have HB4:=Lib.hid (UQ HB2.out hb4 (by omega))
  have HCA:=Lib.hid hca
  have HCH:=Lib.hid (show q<ch by omega)
  have HCW:=Lib.hid hch2
  clear hb4 hch1 hch2 hca HB2 HC2
  go_wp2_with fail
  refine WN.block (WN.loop (fun m a w'=> ∃ (k:Nat) (cur:Estate) (s r:Nat) (d0 d1 d2 u11 u12 u13 u22 u23 u24 u25 u26 u27 u28 u29 u30 u31 u32 u33 u34 u35 u36 u37 u38 u39 u40 u41:Value),m+k=n/\a=⟨#[.agg #[a0,a1,a2],.agg #[p0,p1],.slice A n c,.pointer (some ⟨S,0,none⟩),.pointer (some ⟨S+1,0,none⟩),undef,
     .pointer (some ⟨S+1+1,0,none⟩),.int .i64 0,.int .i64 0,.pointer (some ⟨q,0,none⟩),.int .i64 k,u11,u12,u13,.agg #[a0,a1,a2],.agg #[c0,c1,c2],.slice A n c,.int .i64 n,.bool (decide (60<(n:Int))),undef,.slice A n c,.chan (some ch),
     u22,u23,u24,u25,u26,u27,u28,u29,u30,u31,u32,u33,u34,u35,u36,u37,u38,u39,u40,u41],[]⟩∧
    w'.heap[ch]? = some (.chan n ((l.drop k).map jV).toArray true s r false)/\Go.Proofs.YthlcobdnemhcdaaGreat.Blk w' q 29 #[d0,d1,d2]/\(d0.oneCell'=true/\d1.oneCell'=true/\d2.oneCell'=true)∧
    Go.Proofs.YthlcobdnemhcdaaGreat.Blk w' (S+1) 33 #[p0,p1]/\Go.Proofs.YthlcobdnemhcdaaGreat.Blk w' (S+1+1) 29 #[.slice none 0 0,.slice none 0 0,.slice none 0 0]∧
    Rd (fun b o=>X0 b o∨b=S+1+1∨b=q) w' Qr cur (.agg #[d0,d1,d2])/\Rd (fun b o=>X0 b o∨b=S+1+1∨b=q) w' QE y (.agg #[p0,p1])/\Below S w w'/\Js cur y=true/\WK y (l.drop k) cur k=WK y l e 0) n ?_ ?_)
  ·obtain ⟨s,r,hch⟩:=HCA.out
   exact ⟨0,e,s,r,c0,c1,c2,_,_,_,_,_,_,_,_,_,_,_,_,_,_,_,_,_,_,_,_,_,_,_,rfl,rfl,hch,HKQ.out,⟨oc0,oc1,oc2⟩,HKP.out,HKR.out,HV.out,HP2.out,HB4.out,HJ.out,rfl⟩
  ·rintro m a w' ⟨k,cur,s,r,d0,d1,d2,u11,u12,u13,u22,u23,u24,u25,u26,u27,u28,u29,u30,u31,u32,u33,u34,u35,u36,u37,u38,u39,u40,u41,hm,rfl,hch,kq,⟨od0,od1,od2⟩,kp,kr,rv,rp,bl,hjl,hz⟩
   have HM:=Lib.hid hm
   have HCH2:=Lib.hid hch
   have HKQ:=Lib.hid kq
   have HKP:=Lib.hid kp
   have HKR:=Lib.hid kr
   have HV:=Lib.hid rv
   have HP2:=Lib.hid rp
   have HB4:=Lib.hid bl
   have HJ:=Lib.hid hjl
   have HZ:=Lib.hid hz
   clear hm hch kq kp kr rv rp bl hjl hz oc0 oc1 oc2
   refine WN.seq (LN.region ?_)
   simp only [Dz,Bq,BG,Nat.reduceAdd,List.range,List.range.loop]
   have hlt3:ch<w'.heap.size:=(BQ.1 HCH2.out).1
   by_cases hlt:k<n
   ·have hkl:k<l.length:=by rw [HN.out];exact hlt
    obtain ⟨j1,j2⟩:=QIk hkl
    obtain ⟨t,ht⟩: ∃ t,t=l[k]:=⟨_,rfl⟩
    rw [←ht] at j1
    have hd:WK y (l.drop k) cur (k:Int)=bif ieq (apE cur y t) 0 then WK y (l.drop (k+1)) (apF cur y t).1 ((k:Int)+1) else (cur,(k:Int),apE cur y t):=by
     rw [Bi hkl,ht]
     rfl
    have HZ:=Lib.hid (hd.symm.trans HZ.out)
    clear hd ht
    refine QIl (some 22) (i:=0) (c:=ch) (z:= .agg #[.int .i64 0,.int .i64 0,.int .i64 0,.int .i64 0]) (ok:=true) rfl rfl rfl (by simp [go_sem,rcase]) HCH2.out (by simp;omega) ?_
    rw [j1,j2]
    obtain ⟨W3,hW3⟩: ∃ W,W=w'.setChan ch n ((l.drop (k+1)).map jV).toArray true s (r+1) false:=⟨_,rfl⟩
    rw [←hW3]
    refine Qv8 (some 23) (i:=1) rfl rfl rfl (v:= .bool true) (w':=W3) (by simp [go_sem,got]) ?_
    refine LN.nil ?_
    have HCH3:=Lib.hid (show W3.heap[ch]? = some (.chan n ((l.drop (k+1)).map jV).toArray true s (r+1) false) by rw [hW3];exact heap_setChan w' ch n _ true s (r+1) false hlt3)
    have hcc:=QFS HCH2.out n ((l.drop (k+1)).map jV).toArray true s (r+1) false (fun b o=>X0 b o∨b=S+1+1∨b=q)
    have hgc:=Qur w' ch n ((l.drop (k+1)).map jV).toArray true s (r+1) false
    have hbc:=below_setChan HB4.out (show S<=ch by have:=HCH.out;omega) n ((l.drop (k+1)).map jV).toArray true s (r+1) false
    rw [←hW3] at hcc hgc hbc
    have hqc:=HCH.out
    have hc3:ch<W3.heap.size:=(BQ.1 HCH3.out).1
    have HKQ:=Lib.hid (HKQ.out.grown hgc (fun e=>by injection e;omega))
    have HKP:=Lib.hid (HKP.out.grown hgc (fun e=>by injection e;omega))
    have HKR:=Lib.hid (HKR.out.grown hgc (fun e=>by injection e;omega))
    have HV:=Lib.hid (HV.out.stand hcc)
    have HP2:=Lib.hid (HP2.out.stand hcc)
    have HB4:=Lib.hid hbc
    clear hW3 hcc hgc hbc HCH2 j1 j2 hlt3
    simp only [Exit.then,got,if_true,jV]
    go_frame
    refine WN.seq (WN.of ?_)
    go_wp2_with fail
    refine WN.block (WN.seq (WN.of ?_))
    go_wp2_with fail
    obtain ⟨g,hg⟩: ∃ g,g=W3.heap.size:=⟨_,rfl⟩
    obtain ⟨W5,hW5⟩: ∃ W,W=W3.alloc (.cells #[.int .i64 t.1,.int .i64 t.2.1.1.1,.int .i64 t.2.1.1.2.1,.int .i64 t.2.1.2.1] 47):=⟨_,rfl⟩
    rw [←hW5, ← hg]
    have b5:Below W3.heap.size W3 W5:=hW5▸(Below.refl _ _).alloc (Bw _) _
    have HKT:=Lib.hid (show Go.Proofs.YthlcobdnemhcdaaGreat.Blk W5 g 47 #[.int .i64 t.1,.int .i64 t.2.1.1.1,.int .i64 t.2.1.1.2.1,.int .i64 t.2.1.2.1] by rw [hW5,hg];exact Go.Proofs.YthlcobdnemhcdaaGreat.Blk.new _ _ _)
    have HCH3:=Lib.hid ((b5.block ch hc3).trans HCH3.out)
    have hqW:q<W3.heap.size:=HKQ.out.lt
    have HKQ:=Lib.hid (HKQ.out.ext b5)
    have HKP:=Lib.hid (HKP.out.ext b5)
    have HKR:=Lib.hid (HKR.out.ext b5)
    have HV:=Lib.hid (HV.out.stand (StX.below b5))
    have HP2:=Lib.hid (HP2.out.stand (StX.below b5))
    have HB4:=Lib.hid (UQ HB4.out b5 (by omega))
    have HC3:=Lib.hid (show ch<W5.heap.size by have:=b5.size;omega)
    have HG:=Lib.hid hg
    clear hW5 b5 hg
    have t0:=HKT.out.cell 0
    have t1:=HKT.out.cell 1
    have t2:=HKT.out.cell 2
    have t3:=HKT.out.cell 3
    have z0:=HKQ.out.cell 0
    have z1:=HKQ.out.cell 1
    have z2:=HKQ.out.cell 2
    have r0:=HKP.out.cell 0
    have r1:=HKP.out.cell 1
    simp only [Dk,BR,BV] at z0 z1 z2 r0 r1 t0 t1 t2 t3
    refine WN.seq (WN.of ?_)
    go_wp2_with fail
    refine (QFR (X:=fun b o=>X0 b o∨b=S+1+1∨b=q) (fun b o hx=>hx.elim (fun h=>by have:=HX0.out b o h;have:=HB4.out.size;omega) (fun h=>by have:=HKQ.out.lt;have:=HQS.out;omega)) HV.out HP2.out HJ.out).mono ?_
    rintro en w5 ⟨rr,rfl,hr,hb5⟩
    obtain ⟨x0,x1,x2,rfl,ox0,ox1,ox2⟩:=Qj8 hr
    have HX:=Lib.hid hr
    have HCH3:=Lib.hid ((hb5.block ch HC3.out).trans HCH3.out)
    have HKQ2:=Lib.hid (HKQ.out.ext hb5)
    have HKP:=Lib.hid (HKP.out.ext hb5)
    have HKR:=Lib.hid (HKR.out.ext hb5)
    have HV:=Lib.hid (HV.out.stand (StX.below hb5))
    have HP2:=Lib.hid (HP2.out.stand (StX.below hb5))
    have HB4:=Lib.hid (UQ HB4.out hb5 (by have:=HKQ.out.lt;omega))
    have HC3:=Lib.hid (show ch<w5.heap.size by have:=hb5.size;have:=HC3.out;omega)
    have HKQ:=HKQ2
    clear hb5 hr HKQ2 t0 t1 t2 t3 z0 z1 z2 r0 r1
    have sx0:=fun a m W=>run_store Tryz.prog W a x0 m ox0
    have sx1:=fun a m W=>run_store Tryz.prog W a x1 m ox1
    have sx2:=fun a m W=>run_store Tryz.prog W a x2 m ox2
    go_wp2_with fail
    clear sx0 sx1 sx2
    obtain ⟨g2,hg2⟩: ∃ g,g=w5.heap.size:=⟨_,rfl⟩
    obtain ⟨W6,hW6⟩: ∃ W,W=w5.alloc (.cells #[x0,x1,x2] 29):=⟨_,rfl⟩
    rw [←hW6, ← hg2]
    have b6:Below w5.heap.size w5 W6:=hW6▸(Below.refl _ _).alloc (Bw _) _
    have HKX:=Lib.hid (show Go.Proofs.YthlcobdnemhcdaaGreat.Blk W6 g2 29 #[x0,x1,x2] by rw [hW6,hg2];exact Go.Proofs.YthlcobdnemhcdaaGreat.Blk.new _ _ _)
    have HCH3:=Lib.hid ((b6.block ch HC3.out).trans HCH3.out)
    have hqW:q<w5.heap.size:=HKQ.out.lt
    have HKQ:=Lib.hid (HKQ.out.ext b6)
    have HKP:=Lib.hid (HKP.out.ext b6)
    have HKR:=Lib.hid (HKR.out.ext b6)
    have HV:=Lib.hid (HV.out.stand (StX.below b6))
    have HP2:=Lib.hid (HP2.out.stand (StX.below b6))
    have HX:=Lib.hid (HX.out.stand (StX.below b6))
    have HB4:=Lib.hid (UQ HB4.out b6 (by omega))
    have HC3:=Lib.hid (show ch<W6.heap.size by have:=b6.size;have:=HC3.out;omega)
    clear hW6 b6 hg2
    cases hq0:ieq (apE cur y t) 0 with
    |false=>
     have hne:(apF cur y t).2≠0:=fun h=>by
      have h:apE cur y t=0:=h
      rw [h] at hq0
      cases hq0
     have HZ:=Lib.hid (show (cur,(k:Int),(apF cur y t).2)=WK y l e 0 by have:=HZ.out;rw [hq0] at this;exact this)
     have z0:=HKQ.out.cell 0
     have z1:=HKQ.out.cell 1
     have z2:=HKQ.out.cell 2
     have r0:=HKR.out.cell 0
     have r1:=HKR.out.cell 1
     have r2:=HKR.out.cell 2
     have f0:=HKR.out.frozen 0
     have f1:=HKR.out.frozen 1
     have f2:=HKR.out.frozen 2
     simp only [Dk,BR,BV] at z0 z1 z2 r0 r1 r2
     refine WN.seq (WN.seq (WN.of ?_))
     go_wp2_with fail
     refine WN.of ?_
     have sv0:=fun a m W=>run_store Tryz.prog W a d0 m od0
     have sv1:=fun a m W=>run_store Tryz.prog W a d1 m od1
     have sv2:=fun a m W=>run_store Tryz.prog W a d2 m od2
     go_wp2_with fail
     have hfin:=Qdc HKR.out d0 d1 d2
     have hgf:=Qdd W6 (S+1+1) d0 d1 d2
     generalize ((W6.setCell ⟨S+1+1,0,none⟩ d0).setCell ⟨S+1+1,1,none⟩ d1).setCell ⟨S+1+1,2,none⟩ d2=W7 at*
     have q0:=hfin.cell 0
     have q1:=hfin.cell 1
     have q2:=hfin.cell 2
     simp only [Dk,BR,BV] at q0 q1 q2
     obtain ⟨g1,g2⟩:=Qk5 HV.out hgf (fun _=> .inr (.inl rfl)) (fun _ _ h=> .inl h) HB4.out (by omega) (by have:=HKQ.out.lt;have:=HQS.out;omega)
     refine bodyPost_ret (by simp [results,Tryz.results12,go_sem,q0,q1,q2];rfl) rfl ?_
     have ea:We e y l=(cur,(k:Int),(apF cur y t).2):=by
      unfold We
      rw [show igt (Qc l) 60=false from Bp (by simp only [Qc,HN.out];omega)]
      exact HZ.out.symm
     rw [ea]
     exact ⟨_,rfl,g1,by rw [←HS.out];exact g2⟩
    |true=>
     have hne:(apF cur y t).2=0:=eq_of_beq hq0
     have hne':apE cur y t=0:=hne
     have HZ:=Lib.hid (show WK y (l.drop (k+1)) (apF cur y t).1 ((k:Int)+1)=WK y l e 0 by have:=HZ.out;rw [hq0] at this;exact this)
     have hjl2:=QiW HJ.out hne'
     have z0:=HKX.out.cell 0
     have z1:=HKX.out.cell 1
     have z2:=HKX.out.cell 2
     have r0:=HKQ.out.cell 0
     have r1:=HKQ.out.cell 1
     have r2:=HKQ.out.cell 2
     have f0:=HKQ.out.frozen 0
     have f1:=HKQ.out.frozen 1
     have f2:=HKQ.out.frozen 2
     simp only [Dk,BR,BV] at z0 z1 z2 r0 r1 r2
     refine WN.seq (WN.seq (WN.of ?_))
     go_wp2_with fail
     refine WN.of ?_
     go_wp2_with fail
     refine WN.of ?_
     have sv0:=fun a m W=>run_store Tryz.prog W a x0 m ox0
     have sv1:=fun a m W=>run_store Tryz.prog W a x1 m ox1
     have sv2:=fun a m W=>run_store Tryz.prog W a x2 m ox2
     go_wp2_with fail
     have hfin:=Qdc HKQ.out x0 x1 x2
     have hgf:=Qdd W6 q x0 x1 x2
     generalize ((W6.setCell ⟨q,0,none⟩ x0).setCell ⟨q,1,none⟩ x1).setCell ⟨q,2,none⟩ x2=W7 at*
     have hst:=Quq (X:=fun b o=>X0 b o∨b=S+1+1∨b=q) hgf (fun _=> .inr (.inr rfl))
     have hqS:=HQS.out
     have hqc:=HCH.out
     exact ⟨m-1,by have:=HM.out;omega,k+1,(apF cur y t).1,s,r+1,x0,x1,x2,_,_,_,_,_,_,_,_,_,_,_,_,_,_,_,_,_,_,_,_,_,_,_,by have:=HM.out;omega,rfl,
      (hgf.block ch (by have:=HC3.out;omega) (fun e=>by injection e;omega)).trans HCH3.out,hfin,⟨ox0,ox1,ox2⟩,HKP.out.grown hgf (fun e=>by injection e;omega),HKR.out.grown hgf (fun e=>by injection e;omega),
      HX.out.stand hst,HP2.out.stand hst,GB HB4.out hgf (by omega) (by have:=HKQ.out.lt;omega),hjl2,HZ.out⟩
   ·obtain rfl:k=n:=by have:=HM.out;omega
    have hd:l.drop k=[]:=List.drop_of_length_le (by rw [HN.out];exact Bw _)
    have hch:=HCH2.out
    have hz:=HZ.out
    rw [hd] at hch hz
    have HZ:=Lib.hid (show (cur,(k:Int),(0:Int))=WK y l e 0 from hz)
    clear HCH2 hz hd
    refine QIm (some 22) (i:=0) (c:=ch) (z:= .agg #[.int .i64 0,.int .i64 0,.int .i64 0,.int .i64 0]) (ok:=true) rfl rfl rfl (by simp [go_sem,rcase]) hch ?_
    refine Qv8 (some 23) (i:=1) rfl rfl rfl (v:= .bool false) (w':=w') (by simp [go_sem,got]) ?_
    refine LN.nil ?_
    have z0:=HKQ.out.cell 0
    have z1:=HKQ.out.cell 1
    have z2:=HKQ.out.cell 2
    have r0:=HKR.out.cell 0
    have r1:=HKR.out.cell 1
    have r2:=HKR.out.cell 2
    have f0:=HKR.out.frozen 0
    have f1:=HKR.out.frozen 1
    have f2:=HKR.out.frozen 2
    simp only [Dk,BR,BV] at z0 z1 z2 r0 r1 r2
    clear hch
    simp only [Exit.then,got,if_true]
    go_frame
    refine WN.seq (WN.of ?_)
    go_wp2_with fail
    refine WN.of ?_
    have sv0:=fun a m W=>run_store Tryz.prog W a d0 m od0
    have sv1:=fun a m W=>run_store Tryz.prog W a d1 m od1
    have sv2:=fun a m W=>run_store Tryz.prog W a d2 m od2
    go_wp2_with fail
    have hfin:=Qdc HKR.out d0 d1 d2
    have hgf:=Qdd w' (S+1+1) d0 d1 d2
    generalize ((w'.setCell ⟨S+1+1,0,none⟩ d0).setCell ⟨S+1+1,1,none⟩ d1).setCell ⟨S+1+1,2,none⟩ d2=W7 at*
    have q0:=hfin.cell 0
    have q1:=hfin.cell 1
    have q2:=hfin.cell 2
    simp only [Dk,BR,BV] at q0 q1 q2
    obtain ⟨g1,g2⟩:=Qk5 HV.out hgf (fun _=> .inr (.inl rfl)) (fun _ _ h=> .inl h) HB4.out (by omega) (by have:=HKQ.out.lt;have:=HQS.out;omega)
    refine bodyPost_ret (by simp [results,Tryz.results12,go_sem,q0,q1,q2];rfl) rfl ?_
    have ea:We e y l=(cur,(k:Int),0):=by
     unfold We
     rw [show igt (Qc l) 60=false from Bp (by simp only [Qc,HN.out];omega)]
     exact HZ.out.symm
    rw [ea]
    exact ⟨_,rfl,g1,by rw [←HS.out];exact g2⟩
end Go.Proofs.YthlcobdnemhcdaaGreat.K
noncomputable section
namespace Go.Proofs.YthlcobdnemhcdaaGreat.K
open Go.RowKit
noncomputable section
theorem ER (a:Int):ine a a=false:=by simp [ine]
theorem Qj6 (a:Bool):En a a=false:=by cases a<;>rfl
def Xq {α:Type}(a b:α):Bool:= @decide (a=b) (Classical.propDecidable _)
theorem ES {α:Type}(a:α):Xq a a=true:= @Be _ (Classical.propDecidable _) rfl
theorem ET {α:Type}{a b:α}(h:Xq a b=true):a=b:= @BJ _ (Classical.propDecidable _) h
-- loop 0: (x0 : (List ByteArray)) (x1 : (List ByteArray)) (x5 : Int); out: ('ret',) (x4 : Bool); ('exit', 0)
-- loop 0: (x0 : (List Int)) (x1 : (List Int)) (x5 : Int); out: ('ret',) (x4 : Bool); ('exit', 0)
-- loop 0: (x0 : (List Certificate)) (x1 : (List Certificate)) (x5 : Int); out: ('ret',) (x4 : Bool); ('exit', 0)
-- loop 0: (x0 : (List Identity)) (x1 : (List Identity)) (x5 : Int); out: ('ret',) (x4 : Bool); ('exit', 0)
end
end Go.Proofs.YthlcobdnemhcdaaGreat.K
noncomputable section
namespace Go.Proofs.YthlcobdnemhcdaaGreat.K
open Go.RowKit
noncomputable section
-- loop 0: (x43 : Int) (x44 : Int) (y2 : Item) (y3 : Item); out: ('ret',) (x4 : Bool); ('exit', 0)
-- loop 0: (x35 : Int) (x36 : Int) (y2 : Estate) (y3 : Estate); out: ('ret',) (x4 : Bool); ('exit', 0) (y2 : Estate) (y3 : Estate)
-- loop 1: (x54 : Int) (x55 : Int) (y2 : Estate) (y3 : Estate); out: ('ret',) (x4 : Bool); ('exit', 2) (y2 : Estate) (y3 : Estate)
-- loop 2: (x72 : Int) (x73 : Int) (y2 : Estate) (y3 : Estate); out: ('ret',) (x4 : Bool); ('exit', 4)
end
end Go.Proofs.YthlcobdnemhcdaaGreat.K
noncomputable section
namespace Go.Proofs.YthlcobdnemhcdaaGreat.K
open Go.RowKit Go.Conc
def zE:Estate:=([],([],([],())))
def zY:Policy:=([],([],()))
def zJ:Job:=(0,(((0,(0,())),(0,())),()))
def zEv:Value:= .agg #[.slice none 0 0,.slice none 0 0,.slice none 0 0]
def zYv:Value:= .agg #[.slice none 0 0,.slice none 0 0]
def zJv:Value:= .agg #[.int .i64 0,.int .i64 0,.int .i64 0,.int .i64 0]
theorem Oc {X:Nat->Nat->Prop}{w:World}{σ:Pl}:C X w σ (D.sl 0 []) (.slice none 0 0):=by
 simp only [C]
 exact ⟨none,0,rfl,Bw _,B3 _,fun _=>trivial,fun h=>absurd h (BX _)⟩
theorem Qg4 {X:Nat->Nat->Prop}{w:World}:Rd X w Qr zE zEv:=by
 unfold Rd
 simp only [V.d]
 rw [Ty.d_row Qr _ rfl]
 simp only [C]
 exact ⟨_,rfl,_,_,rfl,Oc,_,_,rfl,Oc,_,_,rfl,Oc,rfl⟩
theorem Qg5 {X:Nat->Nat->Prop}{w:World}:Rd X w QE zY zYv:=by
 unfold Rd
 simp only [V.d]
 rw [Ty.d_row QE _ rfl]
 simp only [C]
 exact ⟨_,rfl,_,_,rfl,Oc,_,_,rfl,Oc,rfl⟩
theorem rd_zJ {X:Nat->Nat->Prop}{w:World}:Rd X w Zq zJ zJv:=by
 unfold Rd
 simp only [V.d]
 rw [Ty.d_row Zq _ rfl]
 simp only [C]
 exact ⟨[.int .i64 0,.int .i64 0,.int .i64 0,.int .i64 0],rfl,_,_,rfl,⟨rfl,rfl⟩,_,_,rfl,⟨rfl,rfl⟩,_,_,rfl,⟨rfl,rfl⟩,_,_,rfl,⟨rfl,rfl⟩,rfl⟩
theorem due_0 (w:World):Calls Tryz.prog 19 #[zEv,zYv] w fun en w'=> ∃ A c,en= .returned (.tuple #[.slice A 0 c,.int .i64 0])/\Below w.heap.size w w':=by
 have hF:Qq Qcp [.t Qr zE,.t QE zY] []=some (.tu [.t (.sl tI) [],.t tI 0],[]):=by kernel_rfl
 refine (WX (by decide) (QiT.2 _ _ _ _ hF (fun _ _=>False) w QT [zEv,zYv] (fun _ _ h=>h.elim) Qd7 ⟨zEv,_,rfl,Qg4,zYv,_,rfl,Qg5,rfl⟩)).mono ?_
 rintro en w' ⟨r,X',σ',rfl,h1,h2⟩
 have h1:C X' w' σ' (.tu [(V.t (.sl tI) []).d,.v (.int .i64 0)]) r:=h1
 simp only [C,Cs] at h1
 obtain ⟨vs,rfl,u1,us,rfl,c1,u2,us2,rfl,⟨rfl,_⟩,rfl⟩:=h1
 have c1:C X' w' σ' (D.sl 0 []) u1:=c1
 simp only [C] at c1
 obtain ⟨A,c,rfl,_⟩:=c1
 exact ⟨A,c,rfl,Qd8 h2⟩
theorem QBp (w:World):Calls Tryz.prog 15 #[zEv,zYv,zJv] w fun en w'=>en= .returned (.int .i64 52)/\Below w.heap.size w w':=by
 have hF:Qq Qsf [.t Qr zE,.t QE zY,.t Zq zJ] []=some (.t tI 52,[]):=by kernel_rfl
 refine (WX (by decide) (ms_f15 _ _ _ _ hF (fun _ _=>False) w QT [zEv,zYv,zJv] (fun _ _ h=>h.elim) Qd7 ⟨zEv,_,rfl,Qg4,zYv,_,rfl,Qg5,zJv,_,rfl,rd_zJ,rfl⟩)).mono ?_
 rintro en w' ⟨r,X',σ',rfl,h1,h2⟩
 have h1:C X' w' σ' (.v (.int .i64 52)) r:=h1
 simp only [C] at h1
 obtain ⟨rfl,_⟩:=h1
 exact ⟨rfl,Qd8 h2⟩
def Od:Array Value:=madeCells #[.int .i64 0,.int .i64 0,.int .i64 0,.int .i64 0] 244
def FW:List Job:=List.replicate 61 zJ
theorem QpI: ∀ n:Nat,cJ (List.replicate n zJ)=List.replicate (n*4) (.int .i64 0)
 |0=>rfl
 |n+1=>by
  rw [List.replicate_succ,show (n+1)*4=n*4+1+1+1+1 by omega]
  show Value.int .i64 0::Value.int .i64 0::Value.int .i64 0::Value.int .i64 0::cJ (List.replicate n zJ)=_
  rw [QpI n]
  rfl
theorem cJ_z {j:Nat}{v:Value}(h:(cJ FW)[j]? = some v):Od[j]? = some v:=by
 unfold FW at h
 rw [QpI] at h
 obtain ⟨hj,h⟩:=BD.1 h
 rw [List.getElem_replicate] at h
 rw [List.length_replicate] at hj
 subst h
 have h4:j % 4=0∨j % 4=1∨j % 4=2∨j % 4=3:=by omega
 have h5:(#[Value.int .i64 0,.int .i64 0,.int .i64 0,.int .i64 0]:Array Value)[j % 4]! = Value.int .i64 0:=by
  rcases h4 with h4|h4|h4|h4<;>rw [h4]<;>rfl
 have hj:j<244:=hj
 have hr:(Array.range 244)[j]? = some j:=by simp [hj]
 unfold Od madeCells
 rw [Array.getElem?_map,hr]
 exact congrArg some h5
theorem QpJ:FW.length=61:=List.length_replicate
theorem make_z (W:World):(Instr.makeSlice 34 (.int .i64 61) (.int .i64 61)).run Tryz.prog W= .ok (.slice (some ⟨W.heap.size,0,none⟩) 61 61) (W.alloc (.cells Od 47)):=by
 have hi:(Tryz.prog.info? 47).map (fun i=>(i.zero,i.size,decide (i.bytes<=1000)))=some (some (.agg #[.int .i64 0,.int .i64 0,.int .i64 0,.int .i64 0]),4,true):=by kernel_rfl
 obtain ⟨inf,hi,hq⟩:=Bf.1 hi
 simp only [Bo,Ba] at hq
 have h:=run_makeSlice (P:=Tryz.prog) (w:=W) 34 47 inf _ (by kernel_rfl) hi hq.1 .i64 .i64 61 61 (by decide) (by decide) (by rw [hq.2.1];decide) (by omega) (by decide)
 rw [hq.2.1] at h
 exact h
theorem all_z:We zE zY FW=(zE,0,3):=by
 unfold We
 rw [show igt (Qc FW) 60=true from Be (by simp only [Qc,QpJ];decide)]
 rfl
set_option maxRecDepth 20000 in
theorem QBq (w:World):Calls Tryz.prog 9 #[] w fun en w'=>en= .returned (.bool true)/\Below w.heap.size w w':=by
 refine WN.calls Tryz.func9 rfl ?_
 simp only [Tryz.ntmps9,Dz,Bq,BG,Nat.reduceAdd,Nat.reduceSub,Array.replicate_succ,
   Array.replicate_zero,List.push_toArray,List.append_toArray,BS,Dm]
 refine WN.seq (WN.of ?_)
 go_wp2_with fail
 refine WN.seq (WN.of ?_)
 go_wp2_with fail
 refine (due_0 _).mono ?_
 rintro en w1 ⟨A,c,rfl,b1⟩
 go_wp2_with fail
 have hmk:=make_z
 refine WN.seq (WN.of ?_)
 go_wp2_with fail
 refine (QIn (X0:=fun _ _=>False) (l:=FW) (e:=zE) (y:=zY) QpJ (by decide) (fun _ _ h=>h.elim) Qg4 Qg5 rfl rfl rfl rfl rfl (fun _=>⟨_,0,rfl,by rw [World.size_alloc];omega,fun j v hj=> ?_⟩) (by kernel_rfl)).mono ?_
 ·rw [DW]
  exact ((Go.Proofs.YthlcobdnemhcdaaGreat.Blk.new w1 47 Od).cell j).trans (cJ_z hj)
 rintro en w2 ⟨v,rfl,hv,b2⟩
 rw [all_z] at hv ⊢
 obtain ⟨x0,x1,x2,rfl,ox0,ox1,ox2⟩:=Qj8 hv
 have sx0:=fun a m W=>run_store Tryz.prog W a x0 m ox0
 have sx1:=fun a m W=>run_store Tryz.prog W a x1 m ox1
 have sx2:=fun a m W=>run_store Tryz.prog W a x2 m ox2
 clear hmk
 go_wp2_with fail
 clear sx0 sx1 sx2
 refine WN.seq (WN.of ?_)
 go_wp2_with fail
 refine (QBp _).mono ?_
 rintro en w3 ⟨rfl,b3⟩
 go_wp2_with fail
 have c1:=b1.alloc b1.size (.cells Od 47)
 have c2:=UQ c1 b2 c1.size
 have c3:=c2.alloc c2.size (.cells #[x0,x1,x2] 29)
 have c4:=UQ c3 b3 c3.size
 refine WN.of ?_
 go_wp2_with fail
 go_ret
 exact ⟨rfl,c4⟩
def Oe:Bool:=true
def Qbm:Ent:=Qo .nil (fun x=>true) (fun x=>(.t .bool Oe))
theorem en_f9:Q6 Tryz.prog 9:= .inr ⟨by decide,_,Tryz.func9,by kernel_rfl,by kernel_rfl⟩
theorem ms_f9:Qp Tryz.prog 9 (Qq Qbm):=by
 unfold Qbm
 refine Qil (fun z hok X w σ vs hfin hc=> ?_)
 have hc:Cs X w σ [] vs:=hc
 simp only [Cs] at hc
 subst hc
 refine (QBq w).mono ?_
 rintro en w' ⟨rfl,hb⟩
 refine ⟨_,rfl, ?_,hb⟩
 show C X w' σ (.v (.bool true)) _
 simp only [C]
 exact ⟨trivial,rfl⟩
end Go.Proofs.YthlcobdnemhcdaaGreat.K
noncomputable section
namespace Go.Proofs.YthlcobdnemhcdaaGreat.K.SO
open Go.RowKit
noncomputable section
theorem QpA: ∀ (n:Nat) (day:Int) (d:Dice),(ZW n day d).1.length=n
 |0,_,_=>rfl
 |n+1,day,d=>by
  have:=QpA n (Qh .i64 (Qh .i64 day 1) (dof (Qe d 6) [5,30,0,100])) (Qu (Qe d 6) [5,30,0,100])
  simp only [ZW,Bq,this]
theorem QgS (d:Dice)(s:ByteArray):1<=(XU d s).2.2.2.1.length/\(XU d s).2.2.2.1.length<=3:=by
 have hv:=JC (d:=Qe (Qe (Qe d 2) 4) 20) (n:=3) (by omega)
 have e:(XU d s).2.2.2.1.length=(Qh .i64 1 (Ql (Qe (Qe (Qe d 2) 4) 20) 3)).toNat:=QpA _ _ _
 rw [e,JU (by omega)]
 omega
theorem QgT: ∀ (n:Nat) (d:Dice) (i:Item),i∈(itZ n d).1->1<=i.2.2.2.1.length/\i.2.2.2.1.length<=3
 |0,_,i,h=>by cases h
 |n+1,d,i,h=>by
  simp only [itZ,BB] at h
  rcases h with rfl|h
  ·exact QgS _ _
  ·exact QgT n _ i h
theorem QBe (n:Nat)(d:Dice):(itZ n d).1.all UA=true:=Bh.2 fun i hi=>Be (by have:=QgT n d i hi;omega)
def Qbd:List Keep:=[(3,(0,())),(4,(0,())),(2,(0,())),(17,(256,()))]
def jbD (n:Int)(d:Dice):Job:=(Ql d n,(((lgt Qi Qbd (Ql (Qe d n) 4).toNat).1,((lgt Qi Qbd (Ql (Qe d n) 4).toNat).2.1,())),(Ql (Qe (Qe d n) 4) 250,())),())
def jbN (n:Int)(d:Dice):Dice:=Qe (Qe (Qe d n) 4) 250
def jbZ (n:Int):Nat->Dice->List Job×Dice
 |0,d=>([],d)
 |k+1,d=>(jbD n d::(jbZ n k (jbN n d)).1,(jbZ n k (jbN n d)).2)
def jD1 (d:Dice):Dice:=Qe (ZO d) 3
def ZL (d:Dice):List Item×Dice:=itZ (Qh .i64 1 (Ql (ZO d) 3)).toNat (jD1 d)
def jE (d:Dice):Estate:=((JB d).1,((JB d).2.1,((ZL d).1,())))
def jD2 (d:Dice):Dice:=Fp (ZL d).2
def jB (d:Dice):Bool:=ieq (Ql (jD2 d) 2) 0
def jD3 (d:Dice):Dice:=Qu (Qu (Qe (jD2 d) 2) [2,1,5]) [30,60,200]
def jR (d:Dice):Rule:=(false,(dof (Qe (jD2 d) 2) [2,1,5],(0,(0,(dof (Qu (Qe (jD2 d) 2) [2,1,5]) [30,60,200],(40001,()))))))
def jP (d:Dice):Policy:=(bif jB d then (ZG (ZL d).2).1++[jR d] else (ZG (ZL d).2).1,((ZG (ZL d).2).2.1,()))
def jD4 (d:Dice):Dice:=bif jB d then jD3 d else Qe (jD2 d) 2
def jL (d:Dice):List Job×Dice:=jbZ (Qc (ZL d).1) (Ql (jD4 d) 4).toNat (Qe (jD4 d) 4)
def ZM (d:Dice):Estate×Policy×List Job:=(jE d,jP d,(jL d).1)
def Qbe (d:Dice):Dice:=(jL d).2
abbrev Qbf:Sh:=⟨[(0,.ptr 50000 0),(2,.ptr 2 0),(3,.ptr 3 0),(5,.ptr 5 0),(6,.ty tI)],[(2,.box Qr),(3,.box QE),(5,.bag [.ms 11,.ty (.sl Qi),.ms 20502]),(11,.arr 111 QJ),(28,.no),(31,.no),(45,.no),(5011,.arr 62 Qm),(5031,.no),(10011,.no),(10031,.no),(15011,.no),(15031,.no),(20502,.arr 62 Qm),(50000,.box QF)]⟩
abbrev QBf:Sh:=⟨[(0,.ptr 50000 0),(2,.ptr 2 0),(3,.ptr 3 0),(5,.ptr 5 0)],[(2,.box Qr),(3,.box QE),(5,.bag [.ms 11,.ty (.sl Qi),.ms 20502]),(11,.arr 111 QJ),(28,.no),(31,.no),(45,.no),(5011,.arr 62 Qm),(5031,.no),(10011,.no),(10031,.no),(15011,.no),(15031,.no),(20502,.arr 62 Qm),(50000,.box QF)]⟩
abbrev Qbg:Sh:=⟨[(0,.ptr 50000 0),(2,.ptr 2 0),(3,.ptr 3 0),(5,.ptr 5 0),(7,.ptr 7 0),(8,.ms 8),(9,.ty tI)],[(2,.box Qr),(3,.box QE),(5,.bag [.ty (.sl QJ),.ty (.sl Qi),.ms 20502]),(7,.bag [.ms 31,.ty (.sl Qi)]),(8,.arr 47 Zq),(11,.no),(28,.no),(31,.arr 66 QU),(45,.no),(73,.no),(5011,.no),(5031,.no),(10011,.no),(10031,.no),(15011,.no),(15031,.no),(20502,.arr 62 Qm),(50000,.box QF)]⟩
abbrev QBg:Sh:=⟨[(2,.ptr 2 0),(3,.ptr 3 0),(5,.ptr 5 0),(7,.ptr 7 0),(8,.ms 8)],[(2,.box Qr),(3,.box QE),(5,.bag [.ty (.sl QJ),.ty (.sl Qi),.ms 20502]),(7,.bag [.ms 31,.ty (.sl Qi)]),(8,.arr 47 Zq),(11,.no),(28,.no),(31,.arr 66 QU),(45,.no),(73,.no),(5011,.no),(5031,.no),(10011,.no),(10031,.no),(15011,.no),(15031,.no),(20502,.arr 62 Qm),(50000,.box QF)]⟩
def QgU:Fg:=Qbf.f
def QgV:Fg:=Qbg.f
def QgW:TC:=aF Tryz.f10 [(122,.nf 5 2 62 20502),(122,pL 0 QgU),(1955,.fg ⟨[(0,none),(2,none),(3,none),(5,none)],[(2,some Qr),(3,some QE),(5,some Qr),(11,none),(28,none),(31,none),(45,none),(5011,none),(5031,none),(10011,none),(10031,none),(15011,none),(15031,none),(20502,none),(50000,some QF)]⟩),(1956,pD [(0,[5,11,28,5011,10011,15011,20502]),(1,[5,11,28,5011,10011,15011,20502]),(2,[50000]),(3,[50000]),(4,[]),(5,[25,5025,10025,15025,50000]),(6,[26,5026,10026,15026,50000]),(7,[]),(8,[2,5,11,28,5011,5028,10011,10028,15011,15028,20502]),(9,[5,11,28,5011,10011,15011,20502]),(10,[2,5,11,28,5011,10011,15011,20502])] (.of [0,1,2,3,4,5,6,7,8,9,10])),(506,pD [(0,[7,31,45,5031,10031,15031]),(1,[7,31,45,5031,10031,15031]),(2,[50000]),(3,[]),(4,[39,5039,10039,15039,50000]),(5,[50000]),(6,[]),(7,[42,5042,10042,15042,50000]),(8,[]),(9,[]),(10,[3,7,31,45,5031,5045,10031,10045,15031,15045]),(11,[7,31,45,5031,10031,15031]),(12,[3,7,31,45,5031,10031,15031])] (.of [0,1,2,3,5,6,4,7,8,9,10,11,12])),(2042,.fz [11,5011,5031]),(2042,.nw 8 47),(2042,pL 1 QgV),(32675,.fg ⟨[(2,none),(3,none),(5,none),(7,none),(8,none)],[(2,some Qr),(3,some QE),(5,some Qr),(7,some QE),(8,none),(11,none),(28,none),(31,none),(45,none),(73,none),(5011,none),(5031,none),(10011,none),(10031,none),(15011,none),(15031,none),(20502,none),(50000,some QF)]⟩),(32676,pD [(0,[8,73]),(1,[50000]),(2,[5,11,28,5011,10011,15011,20502]),(3,[5,11,28,5011,10011,15011,20502]),(4,[11,28,5011,10011,15011,20502]),(5,[58,5058,10058,15058,50000]),(6,[]),(7,[]),(8,[]),(9,[]),(10,[]),(11,[50000]),(12,[65,5065,10065,15065,50000]),(13,[]),(14,[]),(15,[50000]),(16,[69,5069,10069,15069,50000]),(17,[]),(18,[]),(19,[]),(20,[8,73,5073,10073,15073]),(21,[8,73])] (.of [0,1,2,3,4,6,7,8,9,10,11,15,5,12,13,14,16,17,18,19,20,21])),(1022,pD [(0,[5,11,28,5011,10011,15011,20502]),(1,[7,31,45,5031,10031,15031]),(2,[8,73]),(3,[2,5,11,28,5011,10011,15011,20502]),(4,[3,7,31,45,5031,10031,15031]),(5,[8,73])] (.of [0,1,2,3,4,5]))]
def QpB:TC:=lb 0 QgW
def QpC:TC:=lb 1 QgW
def QpD (x6:Int)(y2:Estate)(y3:Policy)(y5_1:List Keep)(y11:List Endpoint)(ZI QS:List Item)(Qa:Dice):VS:=Qbf.st ((),(),(),(),x6,()) (y2,y3,((),y5_1,(),()),y11,(),(),(),ZI,(),(),(),(),(),QS,Qa,())
def QgX (y2:Estate)(y3:Policy)(y5_1:List Keep)(y11:List Endpoint)(ZI QS:List Item)(Qa:Dice):VS:=QBf.st ((),(),(),(),()) (y2,y3,((),y5_1,(),()),y11,(),(),(),ZI,(),(),(),(),(),QS,Qa,())
def QpE (x9:Int)(y2:Estate)(y3:Policy)(y5_0:List Endpoint)(y5_1 y7_1:List Keep)(y8:List Job)(y31:List Rule)(QS:List Item)(Qa:Dice):VS:=Qbg.st ((),(),(),(),(),(),x9,()) (y2,y3,(y5_0,y5_1,(),()),((),y7_1,()),y8,(),(),y31,(),(),(),(),(),(),(),(),QS,Qa,())
def QgY (y2:Estate)(y3:Policy)(y5_0:List Endpoint)(y5_1 y7_1:List Keep)(y8:List Job)(y31:List Rule)(QS:List Item)(Qa:Dice):VS:=QBg.st ((),(),(),(),(),()) (y2,y3,(y5_0,y5_1,(),()),((),y7_1,()),y8,(),(),y31,(),(),(),(),(),(),(),(),QS,Qa,())
def QBh:VS->Option (Bool×List (Bool×Exit×VS)):=mkL Qbf (fun x y=>(dOk y.2.2.2.2.2.2.2.2.2.2.2.2.2.2.1&&decide (0<=x.2.2.2.2.1/\x.2.2.2.2.1<=3/\y.2.2.2.2.2.2.2.2.2.2.2.2.2.1.length+x.2.2.2.2.1.toNat<=100))) (fun x y=>[(true,.exit 0,QgX (y.1) (y.2.1) (y.2.2.1.2.1) (y.2.2.2.1) (y.2.2.2.2.2.2.2.1) (y.2.2.2.2.2.2.2.2.2.2.2.2.2.1++(itZ x.2.2.2.2.1.toNat y.2.2.2.2.2.2.2.2.2.2.2.2.2.2.1).1) ((itZ x.2.2.2.2.1.toNat y.2.2.2.2.2.2.2.2.2.2.2.2.2.2.1).2))])
def QBi:VS->Option (Bool×List (Bool×Exit×VS)):=mkL Qbg (fun x y=>(dOk y.2.2.2.2.2.2.2.2.2.2.2.2.2.2.2.2.2.1&&decide (1<=y.2.2.2.2.2.2.2.2.2.2.2.2.2.2.2.2.1.length/\y.2.2.2.2.2.2.2.2.2.2.2.2.2.2.2.2.1.length<=100/\0<=x.2.2.2.2.2.2.1/\x.2.2.2.2.2.2.1<=3/\y.2.2.2.2.1.length+x.2.2.2.2.2.2.1.toNat<=100))) (fun x y=>[(true,.exit 2,QgY (y.1) (y.2.1) (y.2.2.1.1) (y.2.2.1.2.1) (y.2.2.2.1.2.1) (y.2.2.2.2.1++(jbZ (Qc y.2.2.2.2.2.2.2.2.2.2.2.2.2.2.2.2.1) x.2.2.2.2.2.2.1.toNat y.2.2.2.2.2.2.2.2.2.2.2.2.2.2.2.2.2.1).1) (y.2.2.2.2.2.2.2.1) (y.2.2.2.2.2.2.2.2.2.2.2.2.2.2.2.2.1) ((jbZ (Qc y.2.2.2.2.2.2.2.2.2.2.2.2.2.2.2.2.1) x.2.2.2.2.2.2.1.toNat y.2.2.2.2.2.2.2.2.2.2.2.2.2.2.2.2.2.1).2))])
def I9:G:=gG 77 [(31,QpV),(32,U1),(47,QcI),(48,QaS),(49,Qd6),(50,IA)] (Ls [QBh,QBi])
def Qbh (x6:Int)(y2:Estate)(y3:Policy)(y5_1:List Keep)(y11:List Endpoint)(ZI QS:List Item)(Qa:Dice):OX:=QA (QC I9 QgU QpB) (QpD x6 y2 y3 y5_1 y11 ZI QS Qa)
def Oa (kk:Int->Estate->Policy->List Keep->List Endpoint->List Item->List Item->Dice->OX)(x6:Int)(y2:Estate)(y3:Policy)(y5_1:List Keep)(y11:List Endpoint)(ZI QS:List Item)(Qa:Dice):OX:=
 let a2:=(ByteArray.mk #[98,97,99,107,117,112])
 let a3:=(ByteArray.mk #[100,101,101,100])
 let a5:=(Y7 Qa ([a2,a3]))
 let a6:=(ZH Qa ([a2,a3]))
 let a1:=XU a5 a6
 let a4:=((a1.2).1,(((a1.2).2).1,((((a1.2).2).2).1,(((((a1.2).2).2).2).1,()))))
 br (igt x6 0) (br (Xv Qa ([a2,a3])) (br (Ue a5 a6) (br (Qx QS ([(a1.1,a4)]) 64) (kk (Qs .i64 x6 1) y2 y3 y5_1 y11 ZI (QS++([(a1.1,a4)])) (Wv a5 a6)) none) none) none) (some (.exit 0,QgX y2 y3 y5_1 y11 ZI QS Qa))
def Qbi (x6:Int)(y2:Estate)(y3:Policy)(y5_1:List Keep)(y11:List Endpoint)(ZI QS:List Item)(Qa:Dice):OX:=some (.exit 0,QgX (y2) (y3) (y5_1) (y11) (ZI) (QS++(itZ x6.toNat Qa).1) ((itZ x6.toNat Qa).2))
theorem QpF (x6:Int)(y2:Estate)(y3:Policy)(y5_1:List Keep)(y11:List Endpoint)(ZI QS:List Item)(Qa:Dice):Qbh x6 y2 y3 y5_1 y11 ZI QS Qa=Oa Qbh x6 y2 y3 y5_1 y11 ZI QS Qa:=lnT (x:=Oa (fun x6 y2 y3 y5_1 y11 ZI QS Qa=>some (.normal,QpD x6 y2 y3 y5_1 y11 ZI QS Qa)) x6 y2 y3 y5_1 y11 ZI QS Qa) (by simp only [Oa,nxA];rfl)
def Qbj (x9:Int)(y2:Estate)(y3:Policy)(y5_0:List Endpoint)(y5_1 y7_1:List Keep)(y8:List Job)(y31:List Rule)(QS:List Item)(Qa:Dice):OX:=QA (QC I9 QgV QpC) (QpE x9 y2 y3 y5_0 y5_1 y7_1 y8 y31 QS Qa)
def Ob (kk:Int->Estate->Policy->List Endpoint->List Keep->List Keep->List Job->List Rule->List Item->Dice->OX)(x9:Int)(y2:Estate)(y3:Policy)(y5_0:List Endpoint)(y5_1 y7_1:List Keep)(y8:List Job)(y31:List Rule)(QS:List Item)(Qa:Dice):OX:=
 let a2:=Qe Qa (Qc QS)
 let a1:=(lgt Qi ([(3,(0,())),(4,(0,())),(2,(0,())),(17,(256,()))]) (Int.toNat (Ql a2 4)))
 let a3:=((Ql Qa (Qc QS)),(((a1.1,((a1.2).1,())),((Ql (Qe a2 4) 250),())),()))
 br (igt x9 0) (br (QG Qa (Qc QS)) (br (QG a2 4) (br (cIx ([(3,(0,())),(4,(0,())),(2,(0,())),(17,(256,()))]) (Ql a2 4)) (br (QG (Qe a2 4) 250) (br (Qx y8 ([a3]) 32) (kk (Qs .i64 x9 1) y2 y3 y5_0 y5_1 y7_1 (y8++([a3])) y31 QS (Qe (Qe a2 4) 250)) none) none) none) none) none) (some (.exit 2,QgY y2 y3 y5_0 y5_1 y7_1 y8 y31 QS Qa))
def Qbk (x9:Int)(y2:Estate)(y3:Policy)(y5_0:List Endpoint)(y5_1 y7_1:List Keep)(y8:List Job)(y31:List Rule)(QS:List Item)(Qa:Dice):OX:=
 let a1:=jbZ (Qc QS) x9.toNat Qa
 some (.exit 2,QgY (y2) (y3) (y5_0) (y5_1) (y7_1) (y8++a1.1) (y31) (QS) (a1.2))
theorem QpG (x9:Int)(y2:Estate)(y3:Policy)(y5_0:List Endpoint)(y5_1 y7_1:List Keep)(y8:List Job)(y31:List Rule)(QS:List Item)(Qa:Dice):Qbj x9 y2 y3 y5_0 y5_1 y7_1 y8 y31 QS Qa=Ob Qbj x9 y2 y3 y5_0 y5_1 y7_1 y8 y31 QS Qa:=lnT (x:=Ob (fun x9 y2 y3 y5_0 y5_1 y7_1 y8 y31 QS Qa=>some (.normal,QpE x9 y2 y3 y5_0 y5_1 y7_1 y8 y31 QS Qa)) x9 y2 y3 y5_0 y5_1 y7_1 y8 y31 QS Qa) (by simp only [Ob,nxA];rfl)
def r_f10 (d0:Dice):OV:=
 let a5:=Qh .i64 1 (Ql (ZO d0) 3)
 let a1:=itZ a5.toNat (Qe (ZO d0) 3)
 let a3:=Qe (Fp (a1.2)) 2
 let a2:=(Qu (Qu a3 ([2,1,5])) ([30,60,200]))
 let a4:=(Qc (([]:List Item)++a1.1))
 let a6:=(dof (Qu a3 ([2,1,5])) ([30,60,200]))
 let a7:=jbZ a4 (Ql a2 4).toNat (Qe a2 4)
 let a8:=jbZ a4 (Ql a3 4).toNat (Qe a3 4)
 let a9:=((ZG (a1.2)).1)
 br (dOk d0) (br (QG (ZO d0) 3) (br (dOk (Qe (ZO d0) 3)&&decide (0<=a5/\a5<=3/\([]:List Item).length+a5.toNat<=100)) (br (dOk (a1.2)) (br (QG (Fp (a1.2)) 2) (br (ieq (Ql (Fp (a1.2)) 2) 0) (br (Jc a3 ([2,1,5])) (br (Jc (Qu a3 ([2,1,5])) ([30,60,200])) (br (Qx a9 ([(false,((dof a3 ([2,1,5])),(0,(0,(a6,(40001,()))))))]) 48) (br (QG a2 4) (br (dOk (Qe a2 4)&&decide (1<=(([]:List Item)++a1.1).length/\(([]:List Item)++a1.1).length<=100/\0<=(Ql a2 4)/\(Ql a2 4)<=3/\([]:List Job).length+(Ql a2 4).toNat<=100)) (some (.tu [(.ag [(.t (.sl QJ) ((JB d0).1)),(.t (.sl Qi) (((JB d0).2).1)),(.ms 50001)]),(.ag [(.ms 50002),(.t (.sl Qi) (((ZG (a1.2)).2).1))]),(.ms 50003)],[.box (.t QF (a7.2)),.arr 62 Qm (([]:List Item)++a1.1),.arr 66 QU (a9++([(false,((dof a3 ([2,1,5])),(0,(0,(a6,(40001,()))))))])),.arr 47 Zq (([]:List Job)++a7.1)])) none) none) none) none) none) (br (QG a3 4) (br (dOk (Qe a3 4)&&decide (1<=(([]:List Item)++a1.1).length/\(([]:List Item)++a1.1).length<=100/\0<=(Ql a3 4)/\(Ql a3 4)<=3/\([]:List Job).length+(Ql a3 4).toNat<=100)) (some (.tu [(.ag [(.t (.sl QJ) ((JB d0).1)),(.t (.sl Qi) (((JB d0).2).1)),(.ms 50001)]),(.ag [(.ms 50002),(.t (.sl Qi) (((ZG (a1.2)).2).1))]),(.ms 50003)],[.box (.t QF (a8.2)),.arr 62 Qm (([]:List Item)++a1.1),.arr 66 QU a9,.arr 47 Zq (([]:List Job)++a8.1)])) none) none)) none) none) none) none) none
theorem QBj (x6:Int)(y2:Estate)(y3:Policy)(y5_1:List Keep)(y11:List Endpoint)(ZI QS:List Item)(Qa:Dice)(h:(dOk Qa&&decide (0<=x6/\x6<=3/\QS.length+x6.toNat<=100))=true):Qbh x6 y2 y3 y5_1 y11 ZI QS Qa=Qbi x6 y2 y3 y5_1 y11 ZI QS Qa:=by
 simp only [Bb,Ba] at h
 obtain ⟨hd,h0,h1,hl⟩:=h
 obtain ⟨n,rfl⟩:=Bu h0
 rw [Bd] at hl
 have key: ∀ (n:Nat) (QS:List Item) (Qa:Dice),dOk Qa=true->QS.length+n<=100->Qbh (n:Int) y2 y3 y5_1 y11 ZI QS Qa=Qbi (n:Int) y2 y3 y5_1 y11 ZI QS Qa:=by
  intro n
  induction n with
  |zero=>
   intro QS Qa _ _
   rw [QpF]
   simp only [Oa,Qbi,show igt ((0:Nat):Int) 0=false from rfl,Qj,Bd,itZ,BP]
  |succ n ih=>
   intro QS Qa hd hl
   rw [QpF]
   have e2:Qs .i64 ((n+1:Nat):Int) 1=(n:Int):=(J5 (by omega)).trans (by omega)
   have c1:Xv Qa sIt=true:=by simp [Xv,hd]
   have c2:Ue (Y7 Qa sIt) (ZH Qa sIt)=true:=Ff hd
   have c3: ∀ v,Qx QS [v] 64=true:=fun v=>JE (by omega) (by simp only [Bk];omega)
   simp only [Oa,show igt ((n+1:Nat):Int) 0=true from Be (by omega),Qf,e2,c1,c2,c3]
   refine Eq.trans (ih _ _ (QaQ (s:=ZH Qa sIt) (Ff hd)) (by simp only [Bl,Bk];omega)) ?_
   simp only [Qbi,Bd,itZ,BN,BM]
 exact key n QS Qa hd (by omega)
theorem QBk (x9:Int)(y2:Estate)(y3:Policy)(y5_0:List Endpoint)(y5_1 y7_1:List Keep)(y8:List Job)(y31:List Rule)(QS:List Item)(Qa:Dice)(h:(dOk Qa&&decide (1<=QS.length/\QS.length<=100/\0<=x9/\x9<=3/\y8.length+x9.toNat<=100))=true):Qbj x9 y2 y3 y5_0 y5_1 y7_1 y8 y31 QS Qa=Qbk x9 y2 y3 y5_0 y5_1 y7_1 y8 y31 QS Qa:=by
 simp only [Bb,Ba] at h
 obtain ⟨hd,i1,i2,h0,h1,hl⟩:=h
 obtain ⟨n,rfl⟩:=Bu h0
 rw [Bd] at hl
 have key: ∀ (n:Nat) (y8:List Job) (Qa:Dice),dOk Qa=true->y8.length+n<=100->Qbj (n:Int) y2 y3 y5_0 y5_1 y7_1 y8 y31 QS Qa=Qbk (n:Int) y2 y3 y5_0 y5_1 y7_1 y8 y31 QS Qa:=by
  intro n
  induction n with
  |zero=>
   intro y8 Qa _ _
   rw [QpG]
   simp only [Ob,Qbk,show igt ((0:Nat):Int) 0=false from rfl,Qj,Bd,jbZ,BP]
  |succ n ih=>
   intro y8 Qa hd hl
   rw [QpG]
   have e2:Qs .i64 ((n+1:Nat):Int) 1=(n:Int):=(J5 (by omega)).trans (by omega)
   have k2:=Q1 (n:=Qc QS) hd
   have c1:QG Qa (Qc QS)=true:=YF hd (by simp only [Qc];omega)
   have c2:QG (Qe Qa (Qc QS)) 4=true:=YF k2 (by omega)
   have hv:=JC (d:=Qe Qa (Qc QS)) (n:=4) (by omega)
   have c3:cIx Qbd (Ql (Qe Qa (Qc QS)) 4)=true:=by
    have:Qbd.length=4:=rfl
    simp only [cIx,Ba]
    omega
   have k3:=Q1 (n:=4) k2
   have c4:QG (Qe (Qe Qa (Qc QS)) 4) 250=true:=YF k3 (by omega)
   have c5: ∀ v,Qx y8 [v] 32=true:=fun v=>JE (by omega) (by simp only [Bk];omega)
   simp only [Ob,show igt ((n+1:Nat):Int) 0=true from Be (by omega),Qf,e2,c1,c2,c4,c5]
   refine brY c3 ?_
   refine Eq.trans (ih _ _ (Q1 k3) (by simp only [Bl,Bk];omega)) ?_
   simp only [Qbk,Bd,jbZ,BN,BM]
   rfl
 exact key n y8 Qa hd (by omega)
theorem QBl:LO I9 QgU QpB 0:=QN (s:=Qbf) fun x y h _ q=>by simp only [QK,QL] at q;exact (QBj x.2.2.2.2.1 y.1 y.2.1 y.2.2.1.2.1 y.2.2.2.1 y.2.2.2.2.2.2.2.1 y.2.2.2.2.2.2.2.2.2.2.2.2.2.1 y.2.2.2.2.2.2.2.2.2.2.2.2.2.2.1 h).trans q
theorem QBm:LO I9 QgV QpC 1:=QN (s:=Qbg) fun x y h _ q=>by simp only [QK,QL] at q;exact (QBk x.2.2.2.2.2.2.1 y.1 y.2.1 y.2.2.1.1 y.2.2.1.2.1 y.2.2.2.1.2.1 y.2.2.2.2.1 y.2.2.2.2.2.2.2.1 y.2.2.2.2.2.2.2.2.2.2.2.2.2.2.2.2.1 y.2.2.2.2.2.2.2.2.2.2.2.2.2.2.2.2.2.1 h).trans q
theorem QgZ: ∀ (n:Nat) (d:Dice),dOk d=true->dOk (itZ n d).2=true
 |0,_,h=>h
 |n+1,d,h=>QgZ n _ (QaQ (s:=ZH d sIt) (Ff h))
theorem QBn {d:Dice}(hd:dOk d=true):dOk (ZO d)=true:=QgZ _ _ (Q1 (QcF (Jo d).length (Jo d).length 0 [] _ (QcE (Jo d) 0 (Qe d 2) (Q1 (n:=2) hd)) (B3 _)).1)
theorem Qg0 (d:Dice):1<=(Qh .i64 1 (Ql (ZO d) 3)).toNat/\(Qh .i64 1 (Ql (ZO d) 3)).toNat<=3/\0<=Qh .i64 1 (Ql (ZO d) 3)/\Qh .i64 1 (Ql (ZO d) 3)<=3:=by
 have hv:=JC (d:=ZO d) (n:=3) (by omega)
 rw [JU (by omega)]
 omega
theorem Qg1 (d:Dice):(ZL d).1.length=(Qh .i64 1 (Ql (ZO d) 3)).toNat:=(Qai _ _).2.2
theorem Qbl (d:Dice):(ZG d).1.length<=6/\(ZG d).2.1.length<=2:=by
 have h1:=JC (d:=d) (n:=7) (by omega)
 have h2:=JC (d:=(UP d).2) (n:=3) (by omega)
 constructor
 ·rw [show (ZG d).1.length=(Ql d 7).toNat from (Qda _ _).1];omega
 ·rw [show (ZG d).2.1.length=(Ql (UP d).2 3).toNat from (Qdb _ _).1];omega
theorem s_f10 (d:Dice)(h:dOk d=true):r_f10 d=some (.tu [.ag [.t (.sl QJ) (jE d).1,.t (.sl Qi) (jE d).2.1,.ms 50001],.ag [.ms 50002,.t (.sl Qi) (jP d).2.1],.ms 50003],[.box (.t QF (Qbe d)),.arr 62 Qm (jE d).2.2.1,.arr 66 QU (jP d).1,.arr 47 Zq (jL d).1]):=by
 have k1:=QBn h
 have c1:QG (ZO d) 3=true:=YF k1 (by omega)
 have k2:dOk (jD1 d)=true:=Q1 k1
 have k3:dOk (ZL d).2=true:=QgZ _ _ k2
 have hn:=Qg0 d
 have hm:=Qg1 d
 have hp:=Qbl (ZL d).2
 have k4:dOk (jD2 d)=true:=QFM k3
 have k5:=Q1 (n:=2) k4
 have k6:=XF (l:=[2,1,5]) k5
 have k7:dOk (jD3 d)=true:=XF (l:=[30,60,200]) k6
 have hv: ∀ x,0<=Ql x 4/\Ql x 4<4:=fun x=>JC (d:=x) (n:=4) (by omega)
 have cl: ∀ x,dOk x=true->(dOk (Qe x 4)&&decide (1<=(ZL d).1.length/\(ZL d).1.length<=100/\0<=Ql x 4/\Ql x 4<=3/\([]:List Job).length+(Ql x 4).toNat<=100))=true:=fun x hx=>by
  have:=hv x
  rw [Q1 hx,Be (by simp only [BG];omega)]
  rfl
 simp only [r_f10,BS]
 refine brY h (brY c1 (brY ?_ (brY k3 (brY (YF k4 (by omega)) ?_))))
 ·refine Bg.2 ⟨k2,Be ⟨hn.2.2.1,hn.2.2.2, ?_⟩⟩
  simp only [BG]
  omega
 ·show br (jB d) _ _=_
  cases hb:jB d with
  |true=>
   rw [Qf]
   refine brY (Qe8 k5 (by decide) (by decide)) (brY (Qe8 k6 (by decide) (by decide)) (brY ?_ (brY (YF k7 (by omega)) (brY (cl _ k7) ?_))))
   ·exact JE (by omega) (by simp only [Bk];show (ZG (ZL d).2).1.length+1<=_;omega)
   ·unfold Qbe jP jL jD4
    rw [hb]
    rfl
  |false=>
   rw [Qj]
   refine brY (YF k5 (by omega)) (brY (cl _ k5) ?_)
   unfold Qbe jP jL jD4
   rw [hb]
   rfl
def Qg2:Ent:=XD [.ptr 50000 0] [.box QF] (fun x y=>(dOk y.1)) (fun x y=>(.tu [(.ag [(.t (.sl QJ) (((ZM y.1).1).1)),(.t (.sl Qi) ((((ZM y.1).1).2).1)),(.ms 50001)]),(.ag [(.ms 50002),(.t (.sl Qi) (((((ZM y.1).2).1).2).1))]),(.ms 50003)])) (fun x y=>[.box (.t QF (Qbe y.1)),.arr 62 Qm (((((ZM y.1).1).2).2).1),.arr 66 QU ((((ZM y.1).2).1).1),.arr 47 Zq (((ZM y.1).2).2)])
theorem QpH:EM 10 Qg2:=mS (lk:=lkL (lkc QBl (lkc QBm lkn))) I9 QgW [((.c 2 true 3),none),((.c 3 true 2),none),((.t 4),none)] true (gB (gD ms_f31 (gD GT (gC Qs9 Qta (gD Qgg (gD Qlh (gD Qaf gN))))))) fun m=>XX m fun x y hok=>kT (s_f10 y.1 hok)
theorem Qg3 (d:Dice):Yx (jE d)=true:=by
 have h:=(QyT d).2
 have hi:=Qai (Qh .i64 1 (Ql (ZO d) 3)).toNat (jD1 d)
 have hn:=Qg0 d
 simp only [YE,Bb] at h
 refine Bg.2 ⟨?_,QBe _ _⟩
 unfold YE
 refine Bg.2 ⟨h.1,Bg.2 ⟨h.2.1, ?_⟩⟩
 refine Bg.2 ⟨Be ?_,hi.2.1⟩
 show (ZL d).1.length<=100000
 rw [Qg1]
 omega
theorem jP_len (d:Dice):Jl (jP d)=true:=by
 have hp:=Qbl (ZL d).2
 unfold Jl Q2 jP
 refine Bg.2 ⟨Be ?_,Be ?_⟩
 ·cases jB d with
  |true=>simp only [Da,Bl,Bk];omega
  |false=>simp only [B0];omega
 ·show (ZG (ZL d).2).2.1.length<=100000
  omega
theorem QBo (d:Dice)(l:List Job):QiX (jE d) (jP d) l=true:=Bg.2 ⟨Qg3 d,jP_len d⟩
end
end Go.Proofs.YthlcobdnemhcdaaGreat.K.SO
noncomputable section
namespace Go.Proofs.YthlcobdnemhcdaaGreat.K.SO
open Go.RowKit
noncomputable section
theorem ap_cpy {e:Estate}{y:Policy}{j:Job}(hc:Yx e=true)(h0:apE e y j=0)(hl:Js e y=true):Yx (apF e y j).1=true:=by
 have h1:=QiW hl h0
 obtain ⟨g1,g2,g3,g4,g5,g6⟩:=Qkp h0
 refine Bg.2 ⟨(Bg.1 h1).1, ?_⟩
 rw [g6]
 have ho:=(E0 g1).1
 have hk:j.1.toNat<(QM e).length:=by omega
 refine Bh.2 fun z hz=> ?_
 have hz:z∈(QM e).set j.1.toNat (Q8 (Qw e j.1.toNat) j.2.1.1 j.2.1.2.1):=hz
 rcases DU hz with hz|rfl
 ·exact Bh.1 (Bg.1 hc).2 z hz
 ·have hi:=Jn.1 (Qdt ho (Vx hk))
  have h8:=hi.2.2.2.1.2
  refine Be ?_
  simp only [Q8,Bl,Bk]
  omega
-- loop 0: (x5 : (List Job)) (x7 : Int) (x8 : Int) (x34 : (List Job)) (x35 : Int) (x36 : Int) (y4 : Policy) (y6 : Estate) (y9 : Estate); out: ('ret',) (x2 : Bool); ('exit', 0) (x5 : (List Job)) (x7 : Int) (x8 : Int) (y6 : Estate) (y9 : Estate)
end
end Go.Proofs.YthlcobdnemhcdaaGreat.K.SO
namespace Go.Proofs.YthlcobdnemhcdaaGreat.K
open Go.RowKit SO
end Go.Proofs.YthlcobdnemhcdaaGreat.K
