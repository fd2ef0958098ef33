import Derived.Test.YtckcgijklnloiaaGreatQ2
import Derived.WalkKit
import Derived.ProofKit
import Derived.OpenShut
import Derived.ShutString
import Derived.ChangeOld
import Derived.Below
import Derived.Deep.Slices
import Derived.Deep.Fields
import Derived.Laws.BytesString
import Derived.Sort.OwnSortedInts
import Derived.Lib.SlicesCompact
import Derived.Test.YtckcgijklnloiaaGreatProg
import Derived.KernelRfl
import Derived.IntWalk
import Derived.Shelf.Sort.Plain
import Derived.Ground.NamesProg
import Derived.Ground.Names2Prog
import Derived.Shelf.Slices.In.SortNone
import Derived.Shelf.Slices.CompactI
set_option linter.unusedSimpArgs false
set_option linter.unusedVariables false
/-
 A run through a function's text:what it makes,the program's function makes.
-/
namespace Go.Proofs.YtckcgijklnloiaaGreat.K
open Go.RowKit
section
variable {P:Program}{B:Base}{X X':Nat→Nat→Prop}{w w':World}{σ σ':Pl}{n:Nat}{S:VS}{us:List Value}
theorem QOM {g:G}(hg:GOk P g)(hm:P.follows .mixedOrders=true): ∀ (tc:TC) {B:Base} {ro:Option Nat} {β:Type} {S:VS} {K:Exit→VS→Option β} {r:β},ro=none∨tc.nrf=true→tc.lok g→ev g tc S K=some r→JV P B g.n ro (fun e S'=>K e S'=some r) tc.er S:=by
 intro tc
 induction tc with
 | sk=>
  intro B ro β S K r hro lk h c hc nn X w σ us ms ha
  cases c with
  | skip=>exact wpIn_skip ⟨S,X,σ,us,ms,ha,rfl,h⟩
  | region id ops d=>cases d <;> simp [trC,TC.er] at hc
  | cond x a b=>simp only [trC,TC.er] at hc; split at hc <;> cases hc
  | rangeFunc x p a b=>simp only [trC,TC.er] at hc; split at hc <;> cases hc
  | _=>simp [trC,TC.er] at hc
 | rt=>
  intro B ro β S K r hro lk h c hc nn X w σ us ms ha
  cases c with
  | ret=>exact wpIn_ret ⟨S,X,σ,us,ms,ha,rfl,h⟩
  | region id ops d=>cases d <;> simp [trC,TC.er] at hc
  | cond x a b=>simp only [trC,TC.er] at hc; split at hc <;> cases hc
  | rangeFunc x p a b=>simp only [trC,TC.er] at hc; split at hc <;> cases hc
  | _=>simp [trC,TC.er] at hc
 | ex id=>
  intro B ro β S K r hro lk h c hc nn X w σ us ms ha
  cases c with
  | exit i=>
   simp only [trC,TC.er,AC.ex.injEq] at hc
   subst hc
   exact wpIn_exit ⟨S,X,σ,us,ms,ha,rfl,h⟩
  | region id ops d=>cases d <;> simp [trC,TC.er] at hc
  | cond x a b=>simp only [trC,TC.er] at hc; split at hc <;> cases hc
  | rangeFunc x p a b=>simp only [trC,TC.er] at hc; split at hc <;> cases hc
  | _=>simp [trC,TC.er] at hc
 | reg rs=>
  intro B ro β S K r hro lk h c hc nn X w σ us ms ha
  cases c with
  | region id ops d=>
   cases d with
   | true=>simp [trC,TC.er] at hc
   | false=>
    simp only [trC,TC.er,AC.reg.injEq] at hc
    refine wpIn_region_list ?_
    exact Qq9 hg h hc ha fun S' X' w' σ' us' ha' hk=>⟨S',X',σ',us',ms,ha',rfl,hk⟩
  | cond x a b=>simp only [trC,TC.er] at hc; split at hc <;> cases hc
  | rangeFunc x p a b=>simp only [trC,TC.er] at hc; split at hc <;> cases hc
  | _=>simp [trC,TC.er] at hc
 | dr ds os t=>
  intro B ro β S K r _ _ h
  exact QMi hg hm h fun S' hk=>hk
 | sq a b iha ihb=>
  intro B ro β S K r hro lk h c hc nn X w σ us ms ha
  cases c with
  | seq x y=>
   simp only [trC,TC.er,AC.sq.injEq] at hc
   refine wpIn_seq (wpIn_mono (iha (hro.imp_right fun q=>(Bool.and_eq_true_iff.1 q).1) lk.1 h x hc.1 nn X w σ us ms ha) ?_)
   rintro e a' w' ⟨S',X',σ',us',ms',h1,rfl,h4⟩
   cases e with
   | normal=>exact ihb (hro.imp_right fun q=>(Bool.and_eq_true_iff.1 q).2) lk.2 h4 y hc.2 nn X' w' σ' us' ms' h1
   | _=>exact ⟨S',X',σ',us',ms',h1,rfl,h4⟩
  | region id ops d=>cases d <;> simp [trC,TC.er] at hc
  | cond x a b=>simp only [trC,TC.er] at hc; split at hc <;> cases hc
  | rangeFunc x p a b=>simp only [trC,TC.er] at hc; split at hc <;> cases hc
  | _=>simp [trC,TC.er] at hc
 | cd x a b iha ihb=>
  intro B ro β S K r hro lk h c hc nn X w σ us ms ha
  cases c with
  | cond o p q=>
   simp only [trC,TC.er] at hc
   split at hc
   ·rename_i x' hx
    simp only [AC.cd.injEq] at hc
    obtain ⟨rfl,h2,h3⟩:=hc
    simp only [ev] at h
    split at h
    ·rename_i t ht
     have hu:=QaM hx (by rw [ht]; rfl) ha.rel
     rw [ht] at hu
     have hu:=(C.v hu).1
     rcases Qfc h with ⟨rfl,h⟩ | ⟨rfl,h⟩
     ·exact wpIn_cond_true hu (iha (hro.imp_right fun q=>(Bool.and_eq_true_iff.1 q).1) lk.1 h p h2 nn X w σ us ms ha)
     ·exact wpIn_cond_false hu (ihb (hro.imp_right fun q=>(Bool.and_eq_true_iff.1 q).2) lk.2 h q h3 nn X w σ us ms ha)
    ·cases h
   ·cases hc
  | region id ops d=>cases d <;> simp [trC,TC.er] at hc
  | rangeFunc x p a b=>simp only [trC,TC.er] at hc; split at hc <;> cases hc
  | _=>simp [trC,TC.er] at hc
 | bk id a iha=>
  intro B ro β S K r hro lk h c hc nn X w σ us ms ha
  cases c with
  | block i x=>
   simp only [trC,TC.er,AC.bk.injEq] at hc
   obtain ⟨rfl,hc⟩:=hc
   refine wpIn_block (wpIn_mono (iha hro lk h x hc nn X w σ us ms ha) ?_)
   rintro e a' w' ⟨S',X',σ',us',ms',h1,rfl,h4⟩
   cases e with
   | exit j=>
    simp only [Exit.inBlock]
    simp only at h4
    split at h4
    ·rename_i hj
     rw [if_pos hj]
     exact ⟨S',X',σ',us',ms',h1,rfl,h4⟩
    ·rename_i hj
     rw [if_neg hj]
     exact ⟨S',X',σ',us',ms',h1,rfl,h4⟩
   | _=>exact ⟨S',X',σ',us',ms',h1,rfl,h4⟩
  | region id ops d=>cases d <;> simp [trC,TC.er] at hc
  | cond x a b=>simp only [trC,TC.er] at hc; split at hc <;> cases hc
  | rangeFunc x p a b=>simp only [trC,TC.er] at hc; split at hc <;> cases hc
  | _=>simp [trC,TC.er] at hc
 | lp j f a iha=>
  intro B ro β S K r hro lk h c hc nn X w σ us ms ha
  cases c with
  | loop x=>
   simp only [trC,TC.er,AC.lp.injEq] at hc
   simp only [ev] at h
   split at h
   ·rename_i q l hL
    obtain ⟨rfl,h⟩:=QaW h
    obtain ⟨e1,S1,hp,h⟩:=Qlk h
    have hl:=lk.1 S l (e1,S1) hL hp
    obtain ⟨m,hn⟩:=Qcd.1 hl
    refine wpIn_mono (Q:=lift B g.n (fun e S'=>(e,S')=(e1,S1))) ?_ ?_
    ·refine QuX (fun m a' w'=> ∃ S X' σ' us' ms',a'=⟨us'.toArray,mks ms'⟩∧At (B.mk' ms') X' w' σ' g.n S us'∧loopN (Qai g f a) m S=some (e1,S1)) ?_ m _ _ ⟨S,X,σ,us,ms,rfl,ha,hn⟩
     rintro m a' w' ⟨S0,X',σ',us',ms',rfl,ha',hm'⟩
     cases m with
     | zero=>cases hm'
     | succ m=>
      simp only [loopN] at hm'
      split at hm'
      ·rename_i S2 hb
       refine wpIn_mono (iha hro lk.2 hb x hc nn X' w' σ' us' ms' (ha'.fgt f)) ?_
       rintro e a2 w2 ⟨S3,X2,σ2,us2,ms2,k1,rfl,k3⟩
       cases e with
       | normal=>
        simp only [Qv9,Option.some.injEq,Prod.mk.injEq,true_and] at k3
        subst k3
        exact ⟨m,by omega,_,X2,σ2,us2,ms2,rfl,k1.fgt f,hm'⟩
       | _=>simp [Qv9] at k3
      ·rename_i hne
       refine wpIn_mono (iha hro lk.2 hm' x hc nn X' w' σ' us' ms' (ha'.fgt f)) ?_
       rintro e a2 w2 ⟨S3,X2,σ2,us2,ms2,k1,rfl,k3⟩
       cases e with
       | normal=>
        simp only [Qv9,Option.some.injEq,Prod.mk.injEq] at k3
        obtain ⟨rfl,rfl⟩:=k3
        exact absurd hm' (hne _)
       | _=>
        simp only [Qv9,Option.some.injEq,Prod.mk.injEq] at k3
        obtain ⟨rfl,rfl⟩:=k3
        exact ⟨S3,X2,σ2,us2,ms2,k1,rfl,rfl⟩
    ·rintro e a' w' ⟨S',X',σ',us',ms',h1,rfl,h3⟩
     injection h3 with h4 h5
     subst h4 h5
     exact ⟨S',X',σ',us',ms',h1,rfl,h⟩
   ·cases h
  | region id ops d=>cases d <;> simp [trC,TC.er] at hc
  | cond x a b=>simp only [trC,TC.er] at hc; split at hc <;> cases hc
  | rangeFunc x p a b=>simp only [trC,TC.er] at hc; split at hc <;> cases hc
  | _=>simp [trC,TC.er] at hc
 | fg f a iha=>
  intro B ro β S K r hro lk h c hc nn X w σ us ms ha
  exact iha hro lk h c hc nn X w σ us ms (ha.fgt f)
 | nw s e a iha=>
  intro B ro β S K r hro lk h c hc nn X w σ us ms ha
  obtain ⟨S',σ',h1,h2⟩:=QKl h ha
  exact iha hro lk h1 c hc nn X w σ' us ms h2
 | nf j i e k a iha=>
  intro B ro β S K r hro lk h c hc nn X w σ us ms ha
  obtain ⟨S',σ',h1,h2⟩:=QKo h ha
  exact iha hro lk h1 c hc nn X w σ' us ms h2
 | fz ks a iha=>
  intro B ro β S K r hro lk h c hc nn X w σ us ms ha
  obtain ⟨X',h1,_⟩:=ha.fzs ks
  exact iha hro lk h c hc nn X' w σ us ms h1
 | ad l a iha=>
  intro B ro β S K r hro lk h c hc nn X w σ us ms ha
  obtain ⟨σ',h1⟩:=ha.mvks l
  exact iha hro lk h c hc nn X w σ' us ms h1
 | mv l a iha=>
  intro B ro β S K r hro lk h c hc nn X w σ us ms ha
  refine wpIn_mono (iha hro lk h c hc nn X w σ us ms ha) ?_
  rintro e a' w' ⟨S',X',σ',us',ms',h1,rfl,h4⟩
  cases e with
  | normal=>
   obtain ⟨X2,S2,σ2,h4,h2⟩:=QKr h4 h1
   exact ⟨S2,X2,σ2,us',ms',h2,rfl,h4⟩
  | _=>exact ⟨S',X',σ',us',ms',h1,rfl,h4⟩
 | rg j f f2 a iha=>
  intro B ro β S K r hro lk h c hc nn X w σ us ms ha
  simp only [ev] at h
  split at h
  ·rename_i q l hL
   obtain ⟨rfl,h⟩:=QaW h
   obtain ⟨e1,S1,hp,h⟩:=Qlk h
   have hl:=lk.1 S l (e1,S1) hL hp
   refine wpIn_mono (iha hro lk.2 hl c hc nn X w σ us ms (ha.fgt f)) ?_
   rintro e a' w' ⟨S',X',σ',us',ms',h1,rfl,h3⟩
   simp only [Option.some.injEq,Prod.mk.injEq] at h3
   obtain ⟨rfl,rfl⟩:=h3
   exact ⟨_,X',σ',us',ms',h1.fgt f2,rfl,h⟩
  ·cases h
 | rf j f x yr ps pr a b iha ihb=>
  intro B ro β S K r hro lk h c hc nn X w σ us ms ha
  rcases hro with rfl | hro
  ·exact QPb hg iha ihb lk h c hc nn X w σ us ms ha
  ·cases hro
end
inductive RV where
 | t (i:Nat)
 | c (i:Nat) (agg:Bool) (n:Nat)
def trV (P:Program):ResultVar→Option RV
 | .tmp t=>some (.t t)
 | .cell a t=>match P.underlying t,P.info? t with
  | some d,some inf=>some (.c a (isRow d) inf.size)
  | _,_=>none
def trVs (P:Program):List ResultVar→Option (List RV)
 | []=>some []
 | r::l=>match trV P r,trVs P l with
  | some a,some b=>some (a::b)
  | _,_=>none
section
variable {β:Type}
def RV.run (S:VS)(K:V→Option β):RV→Option β
 | .t i=>nz (S.ts i) K
 | .c i agg n=>match S.ts i with
  | .ptr j o=>match S.st j with
   | .box z=>match z.sub true o n agg with
    | some v=>nz v K
    | none=>none
   | _=>none
  | _=>none
def castR (t:Option Ty)(v:V)(K:V→Option β):Option β:=
 match t with
 | none=>K v
 | some y=>match v.as y with
  | some x=>K (.t y x)
  | none=>none
def resR (S:VS):List (RV×Option Ty)→(List V→Option β)→Option β
 | [],K=>K []
 | r::l,K=>r.1.run S fun v=>castR r.2 v fun v=>resR S l fun vs=>K (v::vs)
end
def resV:List V→V
 | [v]=>v
 | vs=> .tu vs
def exs (vs:List V):List Nat:=((V.refss vs).filter fun k=>decide (k<50000)).eraseDups
def exr (es:List Nat)(m k:Nat):Nat:=if 50000≤k then k else 50000+m+es.idxOf k
def retOk (S:VS)(m:Nat)(es:List Nat)(vs:List V):Bool:=
 decide es.Nodup&&(((V.refss vs).all fun k=>decide (50000≤k∧k<50000+m)||es.contains k)&&((es.all fun k=>decide (k<50000)&&((match S.st k with | .no=>false | _=>true)&&(S.st k).refs.isEmpty))&&
  (List.range m).all fun j=>(S.st (50000+j)).refs.all fun k=>decide (50000≤k∧k<50000+m)))
def retS (S:VS)(m:Nat)(es:List Nat)(vs:List V):Option (V×List VO):=
 if retOk S m es vs=true then some ((resV vs).ren (exr es m),((List.range m).map fun j=>S.st (50000+j))++es.map fun k=>S.st k) else none
def retR (rv:List (RV×Option Ty))(ro:Bool)(m:Nat)(S:VS):Option (V×List VO):=
 resR S (rv.map fun r=>(r.1,none)) fun vs=>if ro=true then retS S m (exs vs) vs else resR (S.fzs (V.msss vs)) rv fun vs'=>retS (S.fzs (V.msss vs)) m (exs vs') vs'
def argL:Nat→List V→List (Nat×V)
 | _,[]=>[]
 | i,v::r=>(i,v)::argL (i+1) r
def objL:Nat→List VO→List (Nat×VO)
 | _,[]=>[]
 | i,v::r=>(i,v)::objL (i+1) r
def inS (args:List V)(objs:List VO):VS:=⟨look (argL 0 args),lookO (objL 50000 objs),(objL 50000 objs).map Prod.fst⟩
noncomputable def runF (g:G)(tc:TC)(rv:List (RV×Option Ty))(ro:Bool):Fun:=fun args objs=>
 if args.length≤g.n then ev g tc (inS args objs) fun e S=>match e with
  | .ret=>retR rv ro objs.length S
  | .normal=>retR rv ro objs.length S
  | _=>none
 else none
section
variable {P:Program}{B:Base}{X X':Nat→Nat→Prop}{w w':World}{σ σ':Pl}{n:Nat}{S:VS}{us:List Value}
def rvRun (us:List Value):ResultVar→Sem Value
 | .tmp t=>pure (us.toArray.getD t undef)
 | .cell a t=>do loadVar t (← asAddr (us.toArray.getD a undef))
theorem QO9 {β:Type}{K:V→Option β}{x:β}{r:ResultVar}{rv:RV}(ht:trV P r=some rv)(he:rv.run S K=some x): ∃ v,K v=some x∧ ∀ {B:Base} {X:Nat→Nat→Prop} {w:World} {σ:Pl} {n:Nat} {us:List Value},At B X w σ n S us→ ∃ u,C X w σ v.d u∧(rvRun us r).run P w= .ok u w:=by
 cases r with
 | tmp t=>
  simp only [trV,Option.some.injEq] at ht
  subst ht
  obtain ⟨h1,h2⟩:=Qe9 he
  refine ⟨_,h2,fun {B X w σ n us} ha=>⟨_,QaM (o:= .tmp t) (x:= .t t) rfl h1 ha.rel, ?_⟩⟩
  simp [Act.eval,rvRun]
 | cell a t=>
  simp only [trV] at ht
  split at ht
  ·rename_i dd inf hd hin
   simp only [Option.some.injEq] at ht
   subst ht
   simp only [RV.run] at he
   split at he
   ·rename_i j o hx
    split at he
    ·rename_i c hst
     split at he
     ·rename_i v hs
      obtain ⟨h1,h2⟩:=Qe9 he
      refine ⟨v,h2,fun {B X w σ n us} ha=> ?_⟩
      have k1:=QaM (o:= .tmp a) (x:= .t a) rfl (by simp only [AX.xv,hx]; rfl) ha.rel
      simp only [AX.xv,hx,V.d,C] at k1
      obtain ⟨b,e1,e2⟩:=k1
      have hat:=ha.ti.obj j
      rw [hst] at hat
      obtain ⟨b',ty,vs,g1,g2,g3,g4⟩:=hat
      rw [g1] at e1
      injection e1 with e1
      subst e1
      obtain ⟨s1,s2⟩:=V.sub_spec hs
      have hl:=g3.len
      obtain ⟨u,q1,q2⟩:=QKZ (P:=P) (b:=b') (off:=o) (vs:=vs.drop o) (ds:=c.d.cells.drop o) (d:=v.d) hd hin (g3.drop_ _) (fun i u hu=>by
       rw [List.getElem?_drop] at hu
       rw [cell_of_row w b' (o+i) vs.toArray ty (0,0) g2]
       simpa using hu) (fun ha=>by
        obtain ⟨t1,t2⟩:=s1 ha
        exact ⟨t1,by rw [List.length_drop]; omega⟩) (fun ha=>by
        rw [List.getElem?_drop]
        exact s2 ha)
      refine ⟨u,q2, ?_⟩
      simp only [Act.eval] at e2
      simp only [rvRun,Sem.run_bind,e2,asAddr,Sem.run_pure,Result.andThen_ok,q1]
     ·cases he
    ·cases he
   ·cases he
  ·cases ht
theorem QpX {β:Type}{x:β}: ∀ {rs:List ResultVar} {rv:List (RV×Option Ty)} {K:List V→Option β},trVs P rs=some (rv.map Prod.fst)→resR S rv K=some x→ ∃ vs,K vs=some x∧ ∀ {B:Base} {X:Nat→Nat→Prop} {w:World} {σ:Pl} {n:Nat} {us:List Value},At B X w σ n S us→
  ∃ xs,Cs X w σ (V.ds vs) xs∧(rs.mapM (rvRun us)).run P w= .ok xs w
 | [],rv,K,ht,he=>by
  simp only [trVs,Option.some.injEq] at ht
  have:rv=[]:=List.map_eq_nil_iff.1 ht.symm
  subst this
  exact ⟨[],he,fun _=>⟨[],by simp [V.ds,Cs],by simp⟩⟩
 | r::rs,rv,K,ht,he=>by
  simp only [trVs] at ht
  split at ht
  ·rename_i a b ha hb
   simp only [Option.some.injEq] at ht
   cases rv with
   | nil=>cases ht
   | cons q rv=>
    simp only [List.map_cons,List.cons.injEq] at ht
    obtain ⟨rfl,rfl⟩:=ht
    simp only [resR] at he
    obtain ⟨v0,h0,h2⟩:=QO9 ha he
    have hcast: ∃ v,resR S rv (fun vs=>K (v::vs))=some x∧ ∀ {X:Nat→Nat→Prop} {w:World} {σ:Pl} {u:Value},C X w σ v0.d u→C X w σ v.d u:=by
     unfold castR at h0
     split at h0
     ·exact ⟨v0,h0,fun h=>h⟩
     ·split at h0
      ·rename_i y z hz
       exact ⟨_,h0,fun h=>C.up _ _ (V.as_spec hz h)⟩
      ·cases h0
    obtain ⟨v,h1,hcv⟩:=hcast
    obtain ⟨vs,h3,h4⟩:=QpX hb h1
    refine ⟨v::vs,h3,fun {B X w σ n us} hat=> ?_⟩
    obtain ⟨u,q1,q2⟩:=h2 hat
    obtain ⟨xs,q3,q4⟩:=h4 hat
    refine ⟨u::xs,by simp only [V.ds]; exact Cs.cons (hcv q1) q3, ?_⟩
    rw [List.mapM_cons]
    simp only [Sem.run_bind,q2,q4,Result.andThen_ok,Sem.run_pure]
  ·cases ht
theorem QjK {fn:Func}{vs:List V}{xs:List Value}(hc:Cs X w σ (V.ds vs) xs)(h:(fn.results.toList.mapM (rvRun us)).run P w= .ok xs w): ∃ u,C X w σ (resV vs).d u∧(results fn us.toArray).run P w= .ok u w:=by
 have hm:(fn.results.mapM (rvRun us)).run P w= .ok xs.toArray w:=by
  rw [Array.mapM_eq_mapM_toList]
  rw [map_eq_pure_bind,Sem.run_bind,h]
  rfl
 have hf:results fn us.toArray=(do let vs ← fn.results.mapM (rvRun us); pure (if h:vs.size=1 then vs[0] else .tuple vs)):=by
  unfold results
  congr 1
 rw [hf,Sem.run_bind,hm]
 have hlen:=hc.len
 rw [V.ds_eq,List.length_map] at hlen
 unfold resV
 split
 ·rename_i v
  simp only [V.ds] at hc
  obtain ⟨u,rfl,hu⟩:=hc.one
  exact ⟨u,hu,by simp⟩
 ·rename_i hne
  have h0:xs.toArray.size≠1:=by
   intro h
   rcases vs with _ | ⟨d,_ | ⟨d2,r⟩⟩
   ·simp at hlen; simp [hlen] at h
   ·exact hne d rfl
   ·simp at hlen h; omega
  refine ⟨.tuple xs.toArray,by simp only [V.d,C]; exact ⟨xs,rfl,hc⟩, ?_⟩
  simp only [Result.andThen_ok,dif_neg h0,Sem.run_pure]
theorem OAt.pl {k k':Nat}{o:VO}(h:OAt X w σ k o)(hk:σ' k'=σ k)(hr: ∀ r ∈ o.refs,σ' r=σ r):OAt X w σ' k' o:=by
 cases o with
 | no=>trivial
 | box v=>
  obtain ⟨b,ty,vs,h1,h2,h3,h4⟩:=h
  exact ⟨b,ty,vs,hk.trans h1,h2,Cs.ext (Ext.refl X w) _ _ (fun r hr'=>hr r (by rw [V.refs_dcells] at hr'; exact hr')) h3,h4⟩
 | arr e y l=>
  obtain ⟨u,xs,h1,h2⟩:=h
  exact ⟨u,xs,hk.trans h1,h2⟩
theorem QI4 (vs:List V):(resV vs).refs=V.refss vs:=by
 unfold resV
 split
 ·simp [V.refss]
 ·rfl
theorem Qsb {σ0:Pl}{m:Nat}{es:List Nat}{vs:List V}{rv:V}{os:List VO}{u:Value}{X0 X1:Nat→Nat→Prop}{w0 w1:World}(h:retS S m es vs=some (rv,os))(ha:At ⟨X0,w0,lentB σ0 m,σ0,[],X1,w1⟩ X w σ n S us)(hu:C X w σ (resV vs).d u):
  ∃ σ',C X w σ' rv.d u∧Ends X0 w0 σ0 m X w σ' os:=by
 unfold retS at h
 split at h
 ·rename_i hok
  simp only [Option.some.injEq,Prod.mk.injEq] at h
  obtain ⟨rfl,rfl⟩:=h
  simp only [retOk,Bool.and_eq_true,decide_eq_true_eq,List.all_eq_true,Bool.or_eq_true,List.contains_iff_mem,List.isEmpty_iff,List.mem_range] at hok
  obtain ⟨k1,k2,k3,k4⟩:=hok
  let τ:Pl:=fun k=>if 50000+m≤k∧k - 50000 - m<es.length then σ (es.getD (k - 50000 - m) 0) else σ k
  have τ0: ∀ k,k<50000+m→τ k=σ k:=fun k hk=>if_neg (by omega)
  have τ1: ∀ (i:Nat) k,es[i]? = some k→τ (50000+m+i)=σ k:=by
   intro i k hi
   have hlt:=(List.getElem?_eq_some_iff.1 hi).1
   have e1:50000+m+i - 50000 - m=i:=by omega
   simp only [τ,e1]
   rw [if_pos ⟨by omega,hlt⟩,List.getD_eq_getElem?_getD,hi]
   rfl
  have live1: ∀ k ∈ es,S.st k≠ .no:=fun k hk hn=>by have:=(k3 k hk).2.1; rw [hn] at this; cases this
  have hlen:(((List.range m).map fun j=>S.st (50000+j))++es.map fun k=>S.st k).length=m+es.length:=by simp
  -- the number of a thing that is handed out
  have src: ∀ j,j<m+es.length→ ∃ k,(((List.range m).map fun j=>S.st (50000+j))++es.map fun k=>S.st k)[j]? = some (S.st k)∧τ (50000+j)=σ k∧(m≤j→S.st k≠ .no)∧(j<m→k=50000+j)∧(m≤j→es[j - m]? = some k):=by
   intro j hj
   rcases Nat.lt_or_ge j m with hlt | hge
   ·exact ⟨50000+j,by rw [List.getElem?_append_left (by simpa using hlt),List.getElem?_map,List.getElem?_range hlt]; rfl,τ0 _ (by omega),fun h=>by omega,fun _=>rfl,fun h=>by omega⟩
   ·have hl:j - m<es.length:=by omega
    refine ⟨es[j - m],by rw [List.getElem?_append_right (by simpa using hge),List.getElem?_map]; simp [List.getElem?_eq_getElem hl], ?_,fun _=>live1 _ (List.getElem_mem hl),fun h=>by omega,fun _=>List.getElem?_eq_getElem hl⟩
    have:=τ1 (j - m) _ (List.getElem?_eq_getElem hl)
    rw [← this]
    congr 1
    omega
  refine ⟨τ,ren_c _ u (fun k hk=> ?_) hu,⟨ha.ti.fin,fun j o hj=> ?_,fun i j b hij hi hj ni nj hb hb'=> ?_,by rw [hlen]; omega,fun j hj=> ?_,fun j b hj hj2 hb=> ?_,ha.ti.fr,fun b q hb=>(ha.ti.old b q hb).1,fun b q hb hu hx=> ?_⟩⟩
  ·rw [QI4] at hk
   rcases k2 k hk with hk' | hk'
   ·rw [exr,if_pos hk'.1]
    exact τ0 k hk'.2
   ·have hlt:=(k3 k hk').1
    rw [exr,if_neg (by omega)]
    obtain ⟨i,hi⟩:=List.mem_iff_getElem?.1 hk'
    rw [Qbh k1 hi]
    exact τ1 i k hi
  ·have hjl:j<m+es.length:=by rw [← hlen]; exact (List.getElem?_eq_some_iff.1 hj).1
   obtain ⟨k,q1,q2,q3,q4,q5⟩:=src j hjl
   rw [q1] at hj
   injection hj with hj
   subst hj
   refine ⟨(ha.ti.obj k).pl q2 (fun r hr=> ?_),q3⟩
   rcases Nat.lt_or_ge j m with hlt | hge
   ·have:=k4 j hlt r (by rw [← q4 hlt]; exact hr)
    exact τ0 r this.2
   ·have:=(k3 k (List.mem_of_getElem? (q5 hge))).2.2
    rw [this] at hr
    cases hr
  ·rw [hlen] at hi hj
   obtain ⟨k,q1,q2,_,q4,q5⟩:=src i hi
   obtain ⟨k',p1,p2,_,p4,p5⟩:=src j hj
   rw [q2] at hb
   rw [p2] at hb'
   have q3:S.st k≠ .no:=fun he=>ni (by rw [q1,he])
   have p3:S.st k'≠ .no:=fun he=>nj (by rw [p1,he])
   refine ha.ti.apart k k' b (fun he=> ?_) q3 p3 hb hb'
   subst he
   rcases Nat.lt_or_ge i m with h1 | h1
   ·rcases Nat.lt_or_ge j m with h2 | h2
    ·have:=q4 h1; have:=p4 h2; omega
    ·have e1:=q4 h1
     have:=(k3 k (List.mem_of_getElem? (p5 h2))).1
     omega
   ·rcases Nat.lt_or_ge j m with h2 | h2
    ·have e1:=p4 h2
     have:=(k3 k (List.mem_of_getElem? (q5 h1))).1
     omega
    ·have e1:=Qbh k1 (q5 h1)
     have e2:=Qbh k1 (p5 h2)
     omega
  ·rw [τ0 _ (by omega)]
   exact ha.ti.lnt _ (by simp only [lentK]; omega)
  ·rw [hlen] at hj2
   obtain ⟨k,_,q2,q3,_,q5⟩:=src j hj2
   have q3:=q3 hj
   rw [q2] at hb
   rcases ha.ti.own k b q3 hb with h1 | h1
   ·right
    simp only [lentB,List.mem_filterMap,List.mem_range] at h1
    obtain ⟨i,hi,hib⟩:=h1
    refine ⟨i,hi, ?_,hib⟩
    obtain ⟨k',p1,p2,_,p4,_⟩:=src i (by omega)
    rw [p1]
    by_cases hn:S.st k'= .no
    ·rw [hn]
    ·refine absurd hb (ha.ti.apart k' k b (fun he=> ?_) hn q3 ?_)
     ·have:=(k3 k (List.mem_of_getElem? (q5 hj))).1
      have:=p4 hi
      omega
     ·rw [p4 hi,ha.ti.lnt _ (by simp only [lentK]; omega)]
      exact hib
   ·exact .inl h1
  ·by_cases hl:b ∈ lentB σ0 m
   ·simp only [lentB,List.mem_filterMap,List.mem_range] at hl
    obtain ⟨i,hi,hib⟩:=hl
    obtain ⟨k',p1,p2,_,p4,_⟩:=src i (by omega)
    by_cases hn:S.st k'= .no
    ·exact absurd hib (hu i hi (by rw [p1,hn]))
    ·refine (ha.ti.obj k').all hn ?_ q
     rw [p4 hi,ha.ti.lnt _ (by simp only [lentK]; omega)]
     exact hib
   ·exact (ha.ti.old b q hb).2 hl hx
 ·cases h
theorem Qxp: ∀ (args:List V) (i j:Nat),look (argL i args) (i+j)=args.getD j .un
 | [],i,j=>rfl
 | v::r,i,0=>by simp [argL,look]
 | v::r,i,j+1=>by
  simp only [argL,look]
  rw [if_neg (by omega)]
  have:=Qxp r (i+1) j
  rw [show i+(j+1)=i+1+j from by omega,this]
  simp
theorem QuT: ∀ (args:List V) (i k:Nat),i+args.length≤k→look (argL i args) k= .un
 | [],i,k,_=>rfl
 | v::r,i,k,h=>by
  simp only [List.length_cons] at h
  simp only [argL,look]
  rw [if_neg (by omega)]
  exact QuT r (i+1) k (by omega)
theorem Qwi: ∀ (objs:List VO) (i j:Nat),lookO (objL i objs) (i+j)=objs.getD j .no
 | [],i,j=>rfl
 | v::r,i,0=>by simp [objL,lookO]
 | v::r,i,j+1=>by
  simp only [objL,lookO]
  rw [if_neg (by omega)]
  have:=Qwi r (i+1) j
  rw [show i+(j+1)=i+1+j from by omega,this]
  simp
theorem QBx: ∀ (objs:List VO) (i k:Nat),k<i→lookO (objL i objs) k= .no
 | [],i,k,_=>rfl
 | v::r,i,k,h=>by
  simp only [objL,lookO]
  rw [if_neg (by omega)]
  exact QBx r (i+1) k (by omega)
theorem QBy: ∀ (objs:List VO) (i k:Nat),lookO (objL i objs) k≠ .no→k ∈ (objL i objs).map Prod.fst
 | [],i,k,h=>absurd rfl h
 | v::r,i,k,h=>by
  simp only [objL,lookO] at h
  simp only [objL,List.map_cons]
  split at h
  ·rename_i hk; rw [hk]; exact List.mem_cons_self
  ·exact List.mem_cons_of_mem _ (QBy r (i+1) k h)
theorem QPx {g:G}{f:FuncId}{fn:Func}{c:Code}{tc:TC}{rv:List (RV×Option Ty)}{ro:Bool}(hlt:f<1000000)(hf:P.funcs[f]? = some fn)(hb:fn.body=some c)(hc:trC P c=tc.er)(hn:fn.ntmps=g.n)(hr:trVs P fn.results.toList=some (rv.map Prod.fst))(hg:GOk P g)(hl:tc.lok g)(hm:P.follows .mixedOrders=true):
  Meets P f (runF g tc rv ro):=by
 intro args objs r os h X w σ vs hfin hlent hargs
 unfold runF at h
 split at h
 ·rename_i hle
  have hal:=hargs.len
  rw [V.ds_eq,List.length_map] at hal
  have obj0: ∀ k,lookO (objL 50000 objs) k= .no∨ ∃ j,k=50000+j∧objs[j]? = some (lookO (objL 50000 objs) k):=by
   intro k
   rcases Nat.lt_or_ge k 50000 with hlt | hge
   ·exact .inl (QBx objs 50000 k hlt)
   ·obtain ⟨j,rfl⟩: ∃ j,k=50000+j:=⟨k - 50000,by omega⟩
    rw [Qwi]
    rcases Nat.lt_or_ge j objs.length with hj | hj
    ·exact .inr ⟨j,rfl,by rw [List.getD_eq_getElem?_getD,List.getElem?_eq_getElem hj]; rfl⟩
    ·left
     rw [List.getD_eq_getElem?_getD,List.getElem?_eq_none hj]
     rfl
  have hat:At ⟨X,w,lentB σ objs.length,σ,[],X,w⟩ X w σ g.n (inS args objs) (vs++List.replicate (g.n - vs.length) undef):=by
   refine ⟨⟨hfin,fun k=> ?_,fun i j b hij hi hj hbi hbj=> ?_,fun k b hk hbk=> ?_,Fr.refl _ _,fun _ _ _=>⟨fun h=>h,fun _ h=>h⟩,fun _ _=>rfl,(fun p hp=>by cases hp),⟨List.nodup_nil,fun p hp=>by cases hp⟩,Ext0.refl X w⟩,⟨by simp; omega,fun i u hu=> ?_,fun i hi=> ?_⟩,fun j hj=>QBy objs 50000 j hj⟩
   ·simp only [inS]
    rcases obj0 k with h0 | ⟨j,rfl,h0⟩
    ·rw [h0]; trivial
    ·exact (hlent.at_ j _ h0).1
   ·simp only [inS] at hi hj
    rcases obj0 i with h0 | ⟨i',rfl,h0⟩
    ·exact absurd h0 hi
    ·rcases obj0 j with h1 | ⟨j',rfl,h1⟩
     ·exact absurd h1 hj
     ·exact hlent.apart i' j' b (by omega) (List.getElem?_eq_some_iff.1 h0).1 (List.getElem?_eq_some_iff.1 h1).1 hbi hbj
   ·simp only [inS] at hk
    rcases obj0 k with h0 | ⟨j,rfl,h0⟩
    ·exact absurd h0 hk
    ·refine .inl ?_
     simp only [lentB,List.mem_filterMap,List.mem_range]
     exact ⟨j,(List.getElem?_eq_some_iff.1 h0).1,hbk⟩
   ·simp only [inS]
    rcases Nat.lt_or_ge i vs.length with hi | hi
    ·rw [List.getElem?_append_left hi] at hu
     have ha:args[i]? = some args[i]:=List.getElem?_eq_getElem (by omega)
     have hl:=Qxp args 0 i
     rw [Nat.zero_add,List.getD_eq_getElem?_getD,ha] at hl
     rw [hl]
     obtain ⟨u',hu',hc'⟩:=hargs.at_ (i:=i) (d:=args[i].d) (by rw [V.ds_eq,List.getElem?_map,ha]; rfl)
     rw [hu] at hu'
     injection hu' with hu'
     subst hu'
     exact hc'
    ·rw [QuT args 0 i (by omega)]
     exact C.any_ u
   ·simp only [inS]
    exact QuT args 0 i (by omega)
  have hw:=QOM (B:=⟨X,w,lentB σ objs.length,σ,[],X,w⟩) hg hm tc (.inl rfl) hl h c hc 9 X w σ _ [] hat
  refine QuH hlt (callsIn_wide.1 (callsIn_of_wp_marks (F:=Fw none) (n:=9) hf hb trivial ?_))
  have he:(vs.toArray++Array.replicate (fn.ntmps - vs.toArray.size) undef)=(vs++List.replicate (g.n - vs.length) undef).toArray:=by
   apply Array.ext'
   simp [hn]
  rw [he]
  refine wpIn_mono hw ?_
  rintro e a w1 ⟨S,X',σ',us',ms',h0,rfl,h3⟩
  obtain ⟨w',h1,hleave⟩:=Qwm h0
  have hret:retR rv ro objs.length S=some (r,os)→ ∃ u,(results fn us'.toArray).run P w'= .ok u w'∧ ∃ X1 σ1,C X1 w' σ1 r.d u∧Ends X w σ objs.length X1 w' σ1 os:=by
   intro hret
   unfold retR at hret
   obtain ⟨vs1,q1,q2⟩:=QpX (rv:=rv.map fun r=>(r.1,none)) (by rw [hr,List.map_map]; rfl) hret
   split at q1
   ·obtain ⟨xs,q3,q4⟩:=q2 h1
    obtain ⟨u,q5,q6⟩:=QjK q3 q4
    obtain ⟨σ1,q7,q8⟩:=Qsb q1 h1 q5
    exact ⟨u,q6,X',σ1,q7,q8⟩
   ·obtain ⟨X2,h2,_⟩:=h1.fzs (V.msss vs1)
    obtain ⟨vs2,q3,q4⟩:=QpX hr q1
    obtain ⟨xs,q5,q6⟩:=q4 h2
    obtain ⟨u,q7,q8⟩:=QjK q5 q6
    obtain ⟨σ1,q9,q10⟩:=Qsb q3 h2 q7
    exact ⟨u,q8,X2,σ1,q9,q10⟩
  cases e with
  | ret=>
   obtain ⟨u,p1,X1,σ1,p2,p3⟩:=hret h3
   exact hleave ⟨u,p1,u,X1,σ1,rfl,p2,p3⟩
  | normal=>
   obtain ⟨u,p1,X1,σ1,p2,p3⟩:=hret h3
   exact hleave ⟨u,p1,u,X1,σ1,rfl,p2,p3⟩
  | _=>cases h3
 ·cases h
end
end Go.Proofs.YtckcgijklnloiaaGreat.K
/-
 What is said of functions and of loops in types,and how it serves in the runs of others.
-/
namespace Go.Proofs.YtckcgijklnloiaaGreat.K
open Go.RowKit
def Ty.args:(y:Ty)→List V→Option y.T
 | .pr f r,v::vs=>match v.as f,r.args vs with
  | some x,some z=>some (x,z)
  | _,_=>none
 | .nil,[]=>some ()
 | _,_=>none
abbrev Ent:=List V→List VO→Option (Bool×V×List VO)
def spec (a:Ty)(ok:a.T→Bool)(F:a.T→V):Ent:=fun args objs=>
 match objs with
 | []=>match a.args args with
  | some x=>some (ok x,F x,[])
  | none=>none
 | _=>none
def specP (b a:Ty)(ok:b.T→a.T→Bool)(F:b.T→a.T→V)(H:b.T→a.T→b.T):Ent:=fun args objs=>
 match args,objs with
 | .ptr 50000 0::args,[.box c]=>match c.as b,a.args args with
  | some d,some x=>some (ok d x,F d x,[.box (.t b (H d x))])
  | _,_=>none
 | _,_=>none
def specN (b a:Ty)(ok:a.T→Bool)(H:a.T→b.T):Ent:=fun args objs=>
 match objs with
 | []=>match a.args args with
  | some x=>some (ok x, .ptr 50000 0,[.box (.t b (H x))])
  | none=>none
 | _=>none
def specO (a:Ty)(ok:a.T→Bool)(F:a.T→V)(O:a.T→List VO):Ent:=fun args objs=>
 match objs with
 | []=>match a.args args with
  | some x=>some (ok x,F x,O x)
  | none=>none
 | _=>none
class Fuel where
 n:Nat
abbrev fuel [f:Fuel]:Nat:=f.n
def strip (F:Ent):Fun:=fun args objs=>
 match F args objs with
 | some (true,r,os)=>some (r,os)
 | _=>none
def EL:List (Nat×Ent)→Nat→Ent
 | [],_=>fun _ _=>none
 |(g,F)::r,f=>if f=g then fun args objs=>match F args objs with
   | some x=>some x
   | none=>EL r f args objs
  else EL r f
theorem QDR: ∀ {l:List (Nat×Ent)} {f:Nat} {args:List V} {objs:List VO} {x:Bool×V×List VO},EL l f args objs=some x→ ∃ F,(f,F) ∈ l∧F args objs=some x
 |(g,F)::r,f,args,objs,x,h=>by
  simp only [EL] at h
  split at h
  ·rename_i hfg
   subst hfg
   simp only at h
   split at h
   ·rename_i y hy
    simp only [Option.some.injEq] at h
    subst h
    exact ⟨F,List.mem_cons_self,hy⟩
   ·obtain ⟨F',h1,h2⟩:=QDR h
    exact ⟨F',List.mem_cons_of_mem _ h1,h2⟩
  ·obtain ⟨F',h1,h2⟩:=QDR h
   exact ⟨F',List.mem_cons_of_mem _ h1,h2⟩
def IL (li:List (Nat×Itr))(f:Nat):Itr:=match li.lookup f with
 | some F=>F
 | none=>fun _ _=>none
def RL (l:List ((yr:Ty)×(VS→List yr.T→Option (Bool×List (Bool×Exit×VS)))))(j:Nat)(S:VS)(yr:Ty)(rows:List yr.T):Option (Bool×List (Bool×Exit×VS)):=
 match l[j]? with
 | some ⟨y,F⟩=>if h:yr=y then F S (h▸rows) else none
 | none=>none
section
variable {P:Program}{X:Nat→Nat→Prop}{w:World}{σ:Pl}
theorem Qsh {α:Type}: ∀ {l:List (Nat×α)} {f:Nat} {x:α},l.lookup f=some x→(f,x) ∈ l
 |(k,y)::l,f,x,h=>by
  rw [List.lookup_cons] at h
  split at h
  ·rename_i hk
   have hk:f=k:=by simpa using hk
   simp only [Option.some.injEq] at h
   rw [hk,h]
   exact List.mem_cons_self
  ·exact List.mem_cons_of_mem _ (Qsh h)
theorem Qak {TY:Nat→Option Ty}{own:List Nat}{n:Nat}{keep:List Nat}{L:Nat→VS→Option (Bool×List (Bool×Exit×VS))}{R:Nat→VS→(yr:Ty)→List yr.T→Option (Bool×List (Bool×Exit×VS))}(l:List (Nat×Ent))(h: ∀ p ∈ l,Qag P p.1∧Meets P p.1 (strip p.2))(li:List (Nat×Itr):=[])(hi: ∀ p ∈ li,Iters P p.1 p.2:=by intro p hp; cases hp):GOk P ⟨TY,own,n,EL l,keep,L,IL li,R⟩:=by
 refine ⟨?_,fun f caps objs x hx=> ?_⟩
 rotate_left
 ·simp only [IL] at hx ⊢
  cases hl:li.lookup f with
  | none=>rw [hl] at hx; cases hx
  | some F=>exact hi _ (Qsh hl)
 intro f args objs x hx
 simp only at hx ⊢
 obtain ⟨F,hF,_⟩:=QDR hx
 refine ⟨(h _ hF).1, ?_⟩
 intro args' objs' r os hr
 simp only at hr
 split at hr
 ·rename_i r' os' hq
  simp only [Option.some.injEq,Prod.mk.injEq] at hr
  obtain ⟨rfl,rfl⟩:=hr
  obtain ⟨F2,h1,h2⟩:=QDR hq
  exact (h _ h1).2 args' objs' r' os' (by simp only [strip,h2])
 ·cases hr
theorem Qdz: ∀ {a:Ty} {args:List V} {x:a.T} {vs:List Value},a.args args=some x→Cs X w σ (V.ds args) vs→Cs X w σ (V.ds (a.canon x)) vs
 | .pr f r,v::args,x,vs,h,hc=>by
  simp only [Ty.args] at h
  split at h
  ·rename_i x1 z1 h1 h2
   simp only [Option.some.injEq] at h
   subst h
   simp only [V.ds,Cs] at hc
   obtain ⟨u,us,rfl,q1,q2⟩:=hc
   simp only [Ty.canon,V.ds]
   exact Cs.cons (C.up _ _ (V.as_spec h1 q1)) (Qdz h2 q2)
  ·cases h
 | .nil,[],x,vs,h,hc=>hc
 | .pr f r,[],_,_,h,_=>by cases h
 | .nil,_::_,_,_,h,_=>by cases h
 | .int _,_,_,_,h,_=>by simp only [Ty.args] at h; cases h
 | .bool,_,_,_,h,_=>by simp only [Ty.args] at h; cases h
 | .str,_,_,_,h,_=>by simp only [Ty.args] at h; cases h
 | .sl _,_,_,_,h,_=>by simp only [Ty.args] at h; cases h
 | .rv,_,_,_,h,_=>by simp only [Ty.args] at h; cases h
 | .rb,_,_,_,h,_=>by simp only [Ty.args] at h; cases h
theorem Qaf {f:FuncId}{R:Fun}{a:Ty}{ok:a.T→Bool}{F:a.T→V}(hM:Meets P f R)(h: ∀ x,ok x=true→R (a.canon x) []=some (F x,[])):Meets P f (strip (spec a ok F)):=by
 intro args objs r os hF X w σ vs hfin hl hc
 unfold strip spec at hF
 cases objs with
 | cons o os'=>simp at hF
 | nil=>
  simp only at hF
  cases ha:a.args args with
  | none=>rw [ha] at hF; cases hF
  | some x=>
   rw [ha] at hF
   simp only at hF
   split at hF
   ·rename_i r' os' hq
    simp only [Option.some.injEq,Prod.mk.injEq] at hF hq
    obtain ⟨rfl,rfl⟩:=hF
    obtain ⟨h1,rfl,rfl⟩:=hq
    exact hM _ [] _ _ (h x h1) X w σ vs hfin hl (Qdz ha hc)
   ·cases hF
theorem Qcb {f:FuncId}{a:Ty}{ok:a.T→Bool}{F:a.T→V}(h: ∀ x,ok x=false):Meets P f (strip (spec a ok F)):=by
 intro args objs r os hF
 unfold strip spec at hF
 cases objs with
 | cons o os'=>simp at hF
 | nil=>
  simp only at hF
  cases ha:a.args args with
  | none=>rw [ha] at hF; cases hF
  | some x=>
   rw [ha] at hF
   simp only [h] at hF
   cases hF
theorem Qcc {f:FuncId}{a:Ty}{okN:Nat→a.T→Bool}{ok:a.T→Bool}{F:a.T→V}(hN: ∀ N,Meets P f (strip (spec a (okN N) F)))(h: ∀ x,ok x=true→ ∃ N,okN N x=true):Meets P f (strip (spec a ok F)):=by
 intro args objs r os hF
 have hF0:=hF
 unfold strip spec at hF
 cases objs with
 | cons o os'=>simp at hF
 | nil=>
  simp only at hF
  cases ha:a.args args with
  | none=>rw [ha] at hF; cases hF
  | some x=>
   rw [ha] at hF
   cases hx:ok x with
   | false=>simp only [hx] at hF; cases hF
   | true=>
    obtain ⟨N,hok⟩:=h x hx
    refine hN N args [] r os ?_
    simp only [hx] at hF
    unfold strip spec
    simp only [ha,hok]
    exact hF
theorem QiV {f:FuncId}{R:Fun}{a:Ty}{ok:a.T→Bool}{F:a.T→V}{O:a.T→List VO}(hM:Meets P f R)(h: ∀ x,ok x=true→R (a.canon x) []=some (F x,O x)):Meets P f (strip (specO a ok F O)):=by
 intro args objs r os hF X w σ vs hfin hl hc
 unfold strip specO at hF
 cases objs with
 | cons o os'=>simp at hF
 | nil=>
  simp only at hF
  cases ha:a.args args with
  | none=>rw [ha] at hF; cases hF
  | some x=>
   rw [ha] at hF
   simp only at hF
   split at hF
   ·rename_i r' os' hq
    simp only [Option.some.injEq,Prod.mk.injEq] at hF hq
    obtain ⟨rfl,rfl⟩:=hF
    obtain ⟨h1,rfl,rfl⟩:=hq
    exact hM _ [] _ _ (h x h1) X w σ vs hfin hl (Qdz ha hc)
   ·cases hF
theorem QzU {f:FuncId}{R:Fun}{b a:Ty}{ok:a.T→Bool}{H:a.T→b.T}(hM:Meets P f R)(hb:b.row=true)(h: ∀ x,ok x=true→ ∃ c,R (a.canon x) []=some (.ptr 50000 0,[.box c])∧c.as b=some (H x)):Meets P f (strip (specN b a ok H)):=by
 intro args objs r os hF X w σ vs hfin hl hc
 unfold strip specN at hF
 cases objs with
 | cons o os'=>simp at hF
 | nil=>
  simp only at hF
  cases ha:a.args args with
  | none=>rw [ha] at hF; cases hF
  | some x=>
   rw [ha] at hF
   simp only at hF
   split at hF
   ·rename_i r' os' hq
    simp only [Option.some.injEq,Prod.mk.injEq] at hF hq
    obtain ⟨rfl,rfl⟩:=hF
    obtain ⟨h1,rfl,rfl⟩:=hq
    obtain ⟨c,h2,h3⟩:=h x h1
    refine (hM _ [] _ _ h2 X w σ vs hfin hl (Qdz ha hc)).mono ?_
    rintro e w' ⟨u,X',σ',e1,e2,e3⟩
    refine ⟨u,X',σ',e1,e2,e3.fin,fun j o hj=> ?_,fun i j bb hij hi hj=>by simp at hi hj; omega,e3.le,e3.same,fun j bb hj hl hb=> .inl ((e3.new j bb hj hl hb).resolve_right fun ⟨i,hi,_⟩=>absurd hi (Nat.not_lt_zero _)),e3.fr,e3.sub,fun b q hb _ hx=>e3.old b q hb (fun i hi=>absurd hi (Nat.not_lt_zero _)) hx⟩
    cases j with
    | zero=>
     simp only [List.getElem?_cons_zero,Option.some.injEq] at hj
     subst hj
     exact ⟨Qxo hb h3 (e3.at_ 0 _ rfl).1,fun _=>by simp⟩
    | succ j=>simp at hj
   ·cases hF
theorem Qa7 {f:FuncId}{R:Fun}{b a:Ty}{ok:b.T→a.T→Bool}{F:b.T→a.T→V}{H:b.T→a.T→b.T}(hM:Meets P f R)(hb:b.row=true)
  (h: ∀ d x,ok d x=true→R (.ptr 50000 0::a.canon x) [.box (.t b d)]=some (F d x,[.box (.t b (H d x))])):Meets P f (strip (specP b a ok F H)):=by
 intro args objs r os hF X w σ vs hfin hl hc
 unfold strip specP at hF
 split at hF
 ·rename_i r0 os0 hq
  split at hq
  ·rename_i args' c
   split at hq
   ·rename_i d x hd hx
    simp only [Option.some.injEq,Prod.mk.injEq] at hF hq
    obtain ⟨h1,h2⟩:=hF
    obtain ⟨h3,h4,h5⟩:=hq
    subst h1 h2 h4 h5
    refine hM _ [.box (.t b d)] _ _ (h d x h3) X w σ vs hfin ⟨fun j o hj=> ?_,fun i j bb hij hi hj=>hl.apart i j bb hij hi hj⟩ ?_
    ·cases j with
     | zero=>
      simp only [List.getElem?_cons_zero,Option.some.injEq] at hj
      subst hj
      exact ⟨Qxo hb hd (hl.at_ 0 _ rfl).1,by simp⟩
     | succ j=>simp at hj
    ·simp only [V.ds,Cs] at hc ⊢
     obtain ⟨u,us,rfl,q1,q2⟩:=hc
     exact ⟨u,us,rfl,q1,Qdz hx q2⟩
   ·cases hq
  ·cases hq
 ·cases hF
end
inductive SV where
 | ty (t:Ty)
 | ptr (k o:Nat)
 | ms (k:Nat)
 | cf (f:Nat)
 | fn (f:Nat) (ks:List (Nat×Nat))
 | nl
 | ni
 | bf (f:Nat) (t:Ty)
inductive SO where
 | box (t:Ty)
 | bag (l:List SV)
 | arr (e:Nat) (t:Ty)
 | no
 | bc (f:Nat)
 | bm (k:Nat)
@[reducible] def SV.T:SV→Type
 | .ty t=>t.T
 | .ptr _ _=>Unit
 | .ms _=>Unit
 | .cf _=>Unit
 | .fn _ _=>Unit
 | .nl=>Unit
 | .ni=>Unit
 | .bf _ t=>t.T
@[reducible] def SVt:List SV→Type
 | []=>Unit
 | s::r=>s.T×SVt r
@[reducible] def SO.T:SO→Type
 | .box t=>t.T
 | .bag l=>SVt l
 | .arr _ t=>List t.T
 | .no=>Unit
 | .bc _=>Unit
 | .bm _=>Unit
def SV.mk:(s:SV)→s.T→V
 | .ty t,x=> .t t x
 | .ptr k o,_=> .ptr k o
 | .ms k,_=> .ms k
 | .cf f,_=> .c (.func (.func f) ⟨[]⟩ ⟨[]⟩)
 | .fn f ks,_=> .fn f (ks.map fun p=> .ptr p.1 p.2)
 | .nl,_=> .c (.slice none 0 0)
 | .ni,_=> .c .nilIface
 | .bf f t,x=> .fn (f+1000000) [.t t x]
def niOf:Value→Bool
 | .nilIface=>true
 | _=>false
theorem QU7 {x:Value}(h:niOf x=true):x= .nilIface:=by
 unfold niOf at h
 split at h
 ·rfl
 ·cases h
def nlOf:Value→Bool
 | .slice none 0 0=>true
 | _=>false
theorem QU6 {x:Value}(h:nlOf x=true):x= .slice none 0 0:=by
 unfold nlOf at h
 split at h
 ·rfl
 ·cases h
def cfOf:Value→Option Nat
 | .func (.func g) ⟨[]⟩ ⟨[]⟩=>some g
 | _=>none
theorem QNu {x:Value}{f:Nat}(h:cfOf x=some f):x= .func (.func f) ⟨[]⟩ ⟨[]⟩:=by
 unfold cfOf at h
 split at h
 ·simp only [Option.some.injEq] at h
  rw [h]
 ·cases h
def Qse:List V→Option (List (Nat×Nat))
 | []=>some []
 | .ptr k o::r=>match Qse r with
  | some l=>some ((k,o)::l)
  | none=>none
 | _=>none
theorem Qwc: ∀ {vs:List V} {ks:List (Nat×Nat)},Qse vs=some ks→vs=ks.map fun p=> .ptr p.1 p.2
 | [],ks,h=>by
  simp only [Qse,Option.some.injEq] at h
  subst h
  rfl
 | v::r,ks,h=>by
  cases v with
  | ptr k o=>
   simp only [Qse] at h
   split at h
   ·rename_i l hl
    simp only [Option.some.injEq] at h
    subst h
    rw [Qwc hl]
    rfl
   ·cases h
  | _=>simp only [Qse] at h; cases h
def mkVt:(l:List SV)→SVt l→List V
 | [],_=>[]
 | s::r,x=>s.mk x.1::mkVt r x.2
def SO.mk:(s:SO)→s.T→VO
 | .box t,x=> .box (.t t x)
 | .bag l,x=> .box (.ag (mkVt l x))
 | .arr e t,l=> .arr e t l
 | .no,_=> .no
 | .bc f,_=> .box (.c (.func (.func f) ⟨[]⟩ ⟨[]⟩))
 | .bm k,_=> .box (.ms k)
def bfOf (t:Ty):List V→Option t.T
 | [.t t' x]=>if h:t'=t then some (h▸x) else none
 | _=>none
theorem Q0w {t:Ty}{vs:List V}{x:t.T}(h:bfOf t vs=some x):vs=[.t t x]:=by
 unfold bfOf at h
 split at h
 ·split at h
  ·rename_i ht
   subst ht
   simp only [Option.some.injEq] at h
   rw [h]
  ·cases h
 ·cases h
def SV.rd:(s:SV)→V→Option s.T
 | .ty t, .t t' x=>if h:t'=t then some (h▸x) else none
 | .ptr k o, .ptr k' o'=>if k'=k∧o'=o then some () else none
 | .ms k, .ms k'=>if k'=k then some () else none
 | .cf f, .c x=>if cfOf x=some f then some () else none
 | .fn f ks, .fn g vs=>if g=f∧Qse vs=some ks then some () else none
 | .nl, .c x=>if nlOf x=true then some () else none
 | .ni, .c x=>if niOf x=true then some () else none
 | .bf f t, .fn g vs=>if g=f+1000000 then bfOf t vs else none
 | _,_=>none
def rdVt:(l:List SV)→List V→Option (SVt l)
 | [],[]=>some ()
 | s::r,v::vs=>match s.rd v,rdVt r vs with
  | some x,some y=>some (x,y)
  | _,_=>none
 | _,_=>none
def SO.rd:(s:SO)→VO→Option s.T
 | .box t, .box v=>(SV.ty t).rd v
 | .bag l, .box (.ag vs)=>rdVt l vs
 | .arr e t, .arr e' t' l=>if h:t'=t then (if e'=e then some (h▸l) else none) else none
 | .no, .no=>some ()
 | .bc f, .box (.c x)=>if cfOf x=some f then some () else none
 | .bm k, .box (.ms j)=>if j=k then some () else none
 | _,_=>none
theorem SV.rd_mk {s:SV}{v:V}{x:s.T}(h:s.rd v=some x):v=s.mk x:=by
 cases s with
 | ty t=>
  cases v with
  | t t' y=>
   simp only [SV.rd] at h
   split at h
   ·rename_i ht
    subst ht
    simp only [Option.some.injEq] at h
    subst h
    rfl
   ·cases h
  | _=>simp only [SV.rd] at h; cases h
 | ptr k o=>
  cases v with
  | ptr k' o'=>
   simp only [SV.rd] at h
   split at h
   ·rename_i hk
    rw [hk.1,hk.2]
    rfl
   ·cases h
  | _=>simp only [SV.rd] at h; cases h
 | ms k=>
  cases v with
  | ms k'=>
   simp only [SV.rd] at h
   split at h
   ·rename_i hk
    rw [hk]
    rfl
   ·cases h
  | _=>simp only [SV.rd] at h; cases h
 | cf f=>
  cases v with
  | c x=>
   simp only [SV.rd] at h
   split at h
   ·rename_i hk
    rw [QNu hk]
    rfl
   ·cases h
  | _=>simp only [SV.rd] at h; cases h
 | fn f ks=>
  cases v with
  | fn g vs=>
   simp only [SV.rd] at h
   split at h
   ·rename_i hk
    rw [hk.1,Qwc hk.2]
    rfl
   ·cases h
  | _=>simp only [SV.rd] at h; cases h
 | nl=>
  cases v with
  | c x=>
   simp only [SV.rd] at h
   split at h
   ·rename_i hk
    rw [QU6 hk]
    rfl
   ·cases h
  | _=>simp only [SV.rd] at h; cases h
 | ni=>
  cases v with
  | c x=>
   simp only [SV.rd] at h
   split at h
   ·rename_i hk
    rw [QU7 hk]
    rfl
   ·cases h
  | _=>simp only [SV.rd] at h; cases h
 | bf f t=>
  cases v with
  | fn g vs=>
   simp only [SV.rd] at h
   split at h
   ·rename_i hk
    rw [hk,Q0w h]
    rfl
   ·cases h
  | _=>simp only [SV.rd] at h; cases h
theorem QlA: ∀ {l:List SV} {vs:List V} {x:SVt l},rdVt l vs=some x→vs=mkVt l x
 | [],[],_,_=>rfl
 | [],_::_,_,h=>by cases h
 | _::_,[],_,h=>by cases h
 | s::r,v::vs,x,h=>by
  simp only [rdVt] at h
  split at h
  ·rename_i x1 y1 h1 h2
   simp only [Option.some.injEq] at h
   subst h
   rw [SV.rd_mk h1,QlA h2]
   rfl
  ·cases h
theorem SO.rd_mk {s:SO}{v:VO}{x:s.T}(h:s.rd v=some x):v=s.mk x:=by
 cases s with
 | box t=>
  cases v with
  | box v=>
   simp only [SO.rd] at h
   have:=SV.rd_mk h
   rw [this]
   rfl
  | _=>simp only [SO.rd] at h; cases h
 | bag l=>
  cases v with
  | box v=>
   cases v with
   | ag vs=>
    simp only [SO.rd] at h
    rw [QlA h]
    rfl
   | _=>simp only [SO.rd] at h; cases h
  | _=>simp only [SO.rd] at h; cases h
 | arr e t=>
  cases v with
  | arr e' t' l=>
   simp only [SO.rd] at h
   split at h
   ·rename_i ht
    subst ht
    split at h
    ·rename_i he
     simp only [Option.some.injEq] at h
     subst h
     rw [he]
     rfl
    ·cases h
   ·cases h
  | _=>simp only [SO.rd] at h; cases h
 | no=>
  cases v with
  | no=>rfl
  | _=>simp only [SO.rd] at h; cases h
 | bc f=>
  cases v with
  | box c=>
   cases c with
   | c x=>
    simp only [SO.rd] at h
    split at h
    ·rename_i hk
     rw [QNu hk]
     rfl
    ·cases h
   | _=>simp only [SO.rd] at h; cases h
  | _=>simp only [SO.rd] at h; cases h
 | bm k=>
  cases v with
  | box c=>
   cases c with
   | ms j=>
    simp only [SO.rd] at h
    split at h
    ·rename_i hk
     rw [hk]
     rfl
    ·cases h
   | _=>simp only [SO.rd] at h; cases h
  | _=>simp only [SO.rd] at h; cases h
@[reducible] def SVs:List (Nat×SV)→Type
 | []=>Unit
 |(_,s)::r=>s.T×SVs r
@[reducible] def SOs:List (Nat×SO)→Type
 | []=>Unit
 |(_,s)::r=>s.T×SOs r
def mkVs:(l:List (Nat×SV))→SVs l→List (Nat×V)
 | [],_=>[]
 |(i,s)::r,x=>(i,s.mk x.1)::mkVs r x.2
def mkOs:(l:List (Nat×SO))→SOs l→List (Nat×VO)
 | [],_=>[]
 |(i,s)::r,x=>(i,s.mk x.1)::mkOs r x.2
def rdVs (f:Nat→V):(l:List (Nat×SV))→Option (SVs l)
 | []=>some ()
 |(i,s)::r=>match s.rd (f i),rdVs f r with
  | some x,some y=>some (x,y)
  | _,_=>none
def rdOs (f:Nat→VO):(l:List (Nat×SO))→Option (SOs l)
 | []=>some ()
 |(i,s)::r=>match s.rd (f i),rdOs f r with
  | some x,some y=>some (x,y)
  | _,_=>none
structure Sh where
 vs:List (Nat×SV)
 os:List (Nat×SO)
def SV.t? : SV→Option Ty
 | .ty t=>some t
 | _=>none
def SO.t? : SO→Option Ty
 | .box t=>some t
 | _=>none
def Sh.f (s:Sh):Fg:=⟨s.vs.map fun p=>(p.1,p.2.t?),s.os.map fun p=>(p.1,p.2.t?)⟩
def Sh.st (s:Sh)(x:SVs s.vs)(y:SOs s.os):VS:=⟨look (mkVs s.vs x),lookO (mkOs s.os y),s.os.map Prod.fst⟩
theorem nrm_mk {s:SV}{x:s.T}:nrmV s.t? (s.mk x)=s.mk x:=by
 cases s with
 | ty t=>simp only [SV.t?, SV.mk,nrmV,V.as,dite_true]
 | _=>rfl
theorem QU4 {s:SO}{x:s.T}:nrmO s.t? (s.mk x)=s.mk x:=by
 cases s with
 | box t=>
  simp only [SO.t?, SO.mk,nrmO,nrmV,V.as,dite_true]
  split <;> rfl
 | _=>rfl
theorem Qzr {f:Nat→V}: ∀ {l:List (Nat×SV)} {x:SVs l},rdVs f l=some x→(l.map fun p=>(p.1,p.2.t?)).map (fun p=>(p.1,nrmV p.2 (f p.1)))=mkVs l x
 | [],_,_=>rfl
 |(i,s)::r,x,h=>by
  simp only [rdVs] at h
  split at h
  ·rename_i x1 y1 h1 h2
   simp only [Option.some.injEq] at h
   subst h
   simp only [List.map_cons,mkVs,SV.rd_mk h1,nrm_mk,Qzr h2]
  ·cases h
theorem Qzt {f:Nat→VO}: ∀ {l:List (Nat×SO)} {x:SOs l},rdOs f l=some x→(l.map fun p=>(p.1,p.2.t?)).map (fun p=>(p.1,nrmO p.2 (f p.1)))=mkOs l x
 | [],_,_=>rfl
 |(i,s)::r,x,h=>by
  simp only [rdOs] at h
  split at h
  ·rename_i x1 y1 h1 h2
   simp only [Option.some.injEq] at h
   subst h
   simp only [List.map_cons,mkOs,SO.rd_mk h1,QU4,Qzt h2]
  ·cases h
def mkL (s:Sh)(ok:SVs s.vs→SOs s.os→Bool)(alts:SVs s.vs→SOs s.os→List (Bool×Exit×VS))(S:VS):Option (Bool×List (Bool×Exit×VS)):=
 match rdVs S.ts s.vs,rdOs S.st s.os with
 | some x,some y=>some (ok x y,alts x y)
 | _,_=>none
theorem QaB {g:G}{s:Sh}{f:Fg}{a:TC}{ok:SVs s.vs→SOs s.os→Bool}{alts:SVs s.vs→SOs s.os→List (Bool×Exit×VS)}(hok:f.ok)(hf:f=s.f)(h: ∀ x y,ok x y=true→ ∀ p,pickA (alts x y)=some p→loopF (Qai g f a) (s.st x y)=some p):
  ∀ S l p,mkL s ok alts (fgt f S)=some (true,l)→pickA l=some p→loopF (Qai g f a) S=some p:=by
 intro S l p hL hp
 unfold mkL at hL
 split at hL
 ·rename_i x y hx hy
  simp only [Option.some.injEq,Prod.mk.injEq] at hL
  obtain ⟨h1,rfl⟩:=hL
  rw [QKX hok]
  have e1:=Qzr hx
  have e2:=Qzt hy
  have:fgt f S=s.st x y:=by
   rw [← QAv hok S]
   have e3:(fgt f S).ts=(fgt f S).ts:=rfl
   generalize fgt f S=T at e1 e2
   subst hf
   unfold fgt Sh.st
   simp only [Sh.f]
   rw [e1,e2]
   simp only [List.map_map]
   rfl
  rw [this]
  exact h x y h1 p hp
 ·cases hL
def mkR {yr:Ty}(s:Sh)(ok:List yr.T→SVs s.vs→SOs s.os→Bool)(alts:List yr.T→SVs s.vs→SOs s.os→List (Bool×Exit×VS))(S:VS)(rows:List yr.T):Option (Bool×List (Bool×Exit×VS)):=
 match rdVs S.ts s.vs,rdOs S.st s.os with
 | some x,some y=>some (ok rows x y,alts rows x y)
 | _,_=>none
theorem Qz0 {g:G}{s:Sh}{f:Fg}{yr:Ty}{ps:List Nat}{a b:TC}{ok:List yr.T→SVs s.vs→SOs s.os→Bool}{alts:List yr.T→SVs s.vs→SOs s.os→List (Bool×Exit×VS)}(hok:f.ok)(hf:f=s.f)
  (h: ∀ rows x y,ok rows x y=true→ ∀ p,pickA (alts rows x y)=some p→Qdh (QeI g f yr ps a b) rows (s.st x y)=some p):
  ∀ S rows l p,mkR s ok alts (fgt f S) rows=some (true,l)→pickA l=some p→Qdh (QeI g f yr ps a b) rows (fgt f S)=some p:=by
 intro S rows l p hL hp
 unfold mkR at hL
 split at hL
 ·rename_i x y hx hy
  simp only [Option.some.injEq,Prod.mk.injEq] at hL
  obtain ⟨h1,rfl⟩:=hL
  have e1:=Qzr hx
  have e2:=Qzt hy
  have:fgt f S=s.st x y:=by
   rw [← QAv hok S]
   generalize fgt f S=T at e1 e2
   subst hf
   unfold fgt Sh.st
   simp only [Sh.f]
   rw [e1,e2]
   simp only [List.map_map]
   rfl
  rw [this]
  exact h rows x y h1 p hp
 ·cases hL
theorem RL_at {l:List ((yr:Ty)×(VS→List yr.T→Option (Bool×List (Bool×Exit×VS))))}{j:Nat}{y:Ty}{F:VS→List y.T→Option (Bool×List (Bool×Exit×VS))}(h:l[j]? = some ⟨y,F⟩)(S:VS)(rows:List y.T):RL l j S y rows=F S rows:=by
 unfold RL
 rw [h]
 simp only [dite_true]
def Ls (l:List (VS→Option (Bool×List (Bool×Exit×VS))))(j:Nat)(S:VS):Option (Bool×List (Bool×Exit×VS)):=
 match l[j]? with
 | some F=>F S
 | none=>none
def nxt (f:VS→Option (Exit×VS)):Option (Exit×VS)→Option (Exit×VS)
 | some (.normal,S)=>f S
 | x=>x
theorem Qan (b:VS→Option (Exit×VS))(S:VS):loopF b S=nxt (loopF b) (b S):=by
 rw [QPA]
 cases b S with
 | none=>rfl
 | some x=>
  obtain ⟨e,S'⟩:=x
  cases e <;> rfl
theorem QiS {α:Type}(rd:α→VS→Option (Exit×VS))(z:α)(zs:List α)(S:VS):Qdh rd (z::zs) S=nxt (Qdh rd zs) (rd z S):=by
 simp only [Qdh]
 cases rd z S with
 | none=>rfl
 | some x=>
  obtain ⟨e,S'⟩:=x
  cases e <;> rfl
theorem QaA {f:VS→Option (Exit×VS)}{q:Bool}{a b:Option (Exit×VS)}:nxt f (br q a b)=br q (nxt f a) (nxt f b):=by cases q <;> rfl
theorem nxt_n {f:VS→Option (Exit×VS)}{S:VS}:nxt f (some (.normal,S))=f S:=rfl
theorem nxt_r {f:VS→Option (Exit×VS)}{S:VS}:nxt f (some (.ret,S))=some (.ret,S):=rfl
theorem nxt_e {f:VS→Option (Exit×VS)}{S:VS}{i:Nat}:nxt f (some (.exit i,S))=some (.exit i,S):=rfl
theorem nxt_0 {f:VS→Option (Exit×VS)}:nxt f none=none:=rfl
theorem Qap {q q2:Bool}{e e2:Exit}{S S2:VS}{l:List (Bool×Exit×VS)}:pickA ((q,e,S)::(q2,e2,S2)::l)=br q (some (e,S)) (pickA ((q2,e2,S2)::l)):=by cases q <;> rfl
theorem Qam {q:Bool}{e:Exit}{S:VS}:pickA [(q,e,S)]=some (e,S):=rfl
theorem Qab {β:Type}{a b:Option β}:br true a b=a:=rfl
theorem Qae {β:Type}{a b:Option β}:br false a b=b:=rfl
abbrev iadd (k:IntKind)(a b:Int):Int:=k.wrap (a+b)
abbrev isub (k:IntKind)(a b:Int):Int:=k.wrap (a - b)
abbrev imul (k:IntKind)(a b:Int):Int:=k.wrap (a * b)
abbrev iquo (k:IntKind)(a b:Int):Int:=k.wrap (a.tdiv b)
abbrev irem (a b:Int):Int:=a.tmod b
abbrev icv (k:IntKind)(a:Int):Int:=k.wrap a
abbrev imx (a b:Int):Int:=if b > a then b else a
abbrev imn (a b:Int):Int:=if b<a then b else a
abbrev ieq (a b:Int):Bool:=a == b
abbrev ine (a b:Int):Bool:=a != b
abbrev ilt (a b:Int):Bool:=decide (a<b)
abbrev ile (a b:Int):Bool:=decide (a≤b)
abbrev igt (a b:Int):Bool:=decide (a > b)
abbrev ige (a b:Int):Bool:=decide (a≥b)
abbrev seq (a b:ByteArray):Bool:=a.toList == b.toList
abbrev sne (a b:ByteArray):Bool:= !(a.toList == b.toList)
abbrev bneq (a b:Bool):Bool:= !(a == b)
abbrev cNz (b:Int):Bool:=decide (b≠0)
abbrev cIx {α:Type}(l:List α)(j:Int):Bool:=decide (0≤j∧j<(l.length:Nat))
abbrev cSx (z:ByteArray)(j:Int):Bool:=decide (0≤j∧j<(z.size:Nat))
abbrev cWn {α:Type}(l:List α)(a h:Int):Bool:=decide (0≤a∧a≤h∧h≤(l.length:Nat))
abbrev cSl {α:Type}(l:List α)(a h m:Int):Bool:=decide (0≤a∧a≤h∧h≤m∧m≤(l.length:Nat))
abbrev cApp {α:Type}(l l2:List α)(bytes:Nat):Bool:=decide ((l.length+l2.length) * (bytes+1)≤140737488355328)
abbrev cLd {α:Type}(l:List α)(i:Nat):Bool:=decide (i<l.length)
abbrev cCat (a b:ByteArray):Bool:=decide (((a.size+b.size:Nat):Int)≤9223372036854775807)
abbrev lgt (y:Ty)(l:List y.T)(j:Nat):y.T:=l.getD j y.zero
abbrev lsl {α:Type}(l:List α)(a h:Int):List α:=(l.drop a.toNat).take (h.toNat - a.toNat)
abbrev llen {α:Type}(l:List α):Int:=((l.length:Nat):Int)
abbrev slen (z:ByteArray):Int:=((z.size:Nat):Int)
abbrev sgt (z:ByteArray)(j:Int):Int:=(((z.data.toList.getD j.toNat 0).toNat:Nat):Int)
abbrev scat (a b:ByteArray):ByteArray:=a++b
abbrev boxT (bs:List Ty):Type:=SVt (bs.map SV.ty)
def asBox (b:Ty)(c:V):Option b.T:=if b.row=true then c.as b else (SV.ty b).rd c
def Qbx:(bs:List Ty)→List VO→Option (boxT bs)
 | [],[]=>some ()
 | b::bs, .box c::os=>match asBox b c,Qbx bs os with
  | some x,some y=>some (x,y)
  | _,_=>none
 | _,_=>none
def Qfa:(bs:List Ty)→boxT bs→List VO
 | [],_=>[]
 | b::bs,x=> .box (.t b x.1)::Qfa bs x.2
def specH (l:List SV)(bs:List Ty)(ok:SVt l→boxT bs→Bool)(F:SVt l→boxT bs→V):Ent:=fun args objs=>
 match rdVt l args,Qbx bs objs with
 | some x,some d=>some (ok x d,F x d,Qfa bs d)
 | _,_=>none
section
variable {P:Program}{X:Nat→Nat→Prop}{w:World}{σ:Pl}
theorem QRW {b:Ty}{c:V}{d:b.T}{k:Nat}(h:asBox b c=some d)(hat:OAt X w σ k (.box c)):OAt X w σ k (.box (.t b d)):=by
 unfold asBox at h
 split at h
 ·rename_i hb
  exact Qxo hb h hat
 ·have:=SV.rd_mk h
  rw [this] at hat
  exact hat
theorem Ql2: ∀ {bs:List Ty} {os:List VO} {d:boxT bs},Qbx bs os=some d→(Qfa bs d).length=os.length∧ ∀ (j k:Nat) (o:VO),(Qfa bs d)[j]? = some o→o≠ .no∧ ∃ o',os[j]? = some o'∧(OAt X w σ k o'→OAt X w σ k o)
 | [],[],d,_=>⟨rfl,fun j k o h=>by simp [Qfa] at h⟩
 | [],_::_,d,h=>by simp [Qbx] at h
 | _::_,[],d,h=>by simp [Qbx] at h
 | b::bs,o::os,d,h=>by
  cases o with
  | box c=>
   simp only [Qbx] at h
   split at h
   ·rename_i x y hx hy
    simp only [Option.some.injEq] at h
    subst h
    obtain ⟨h1,h2⟩:=Ql2 hy
    refine ⟨by simp only [Qfa,List.length_cons,h1],fun j k o hj=> ?_⟩
    cases j with
    | zero=>
     simp only [Qfa,List.getElem?_cons_zero,Option.some.injEq] at hj
     subst hj
     exact ⟨by simp,_,rfl,QRW hx⟩
    | succ j=>
     simp only [Qfa,List.getElem?_cons_succ] at hj
     obtain ⟨q1,o',q2,q3⟩:=h2 j k o hj
     exact ⟨q1,o',by simpa using q2,q3⟩
   ·cases h
  | no=>simp [Qbx] at h
  | arr e t l=>simp [Qbx] at h
theorem QaO {f:FuncId}{R:Fun}{l:List SV}{bs:List Ty}{ok:SVt l→boxT bs→Bool}{F:SVt l→boxT bs→V}(hM:Meets P f R)(h: ∀ x d,ok x d=true→R (mkVt l x) (Qfa bs d)=some (F x d,Qfa bs d)):Meets P f (strip (specH l bs ok F)):=by
 intro args objs r os hF X w σ vs hfin hl hc
 unfold strip specH at hF
 split at hF
 ·rename_i r' os' hq
  split at hq
  ·rename_i x d hx hd
   simp only [Option.some.injEq,Prod.mk.injEq] at hF hq
   obtain ⟨rfl,rfl⟩:=hF
   obtain ⟨h1,rfl,rfl⟩:=hq
   have ha:=QlA hx
   subst ha
   have hb:=fun j k o=>(Ql2 (X:=X) (w:=w) (σ:=σ) hd).2 j k o
   have hlen:=(Ql2 (X:=X) (w:=w) (σ:=σ) hd).1
   have:=hM _ _ _ _ (h x d h1) X w σ vs hfin ⟨fun j o hj=>by
    obtain ⟨q1,o',q2,q3⟩:=hb j (50000+j) o hj
    exact ⟨q3 (hl.at_ j o' q2).1,q1⟩,fun i j b hij hi hj=>hl.apart i j b hij (by omega) (by omega)⟩ hc
   rw [hlen] at this
   exact this
  ·cases hq
 ·cases hF
end
def oK (d:Nat)(k:RK):RO:=⟨some d,none,k⟩
def oM (d:Nat)(m:MO):RO:=⟨some d,none, .m m⟩
def oP (d:Nat)(a:AO):RO:=⟨some d,none, .m (.pu a)⟩
def oV (d i:Nat):RO:=⟨some d,none, .m (.pu (.mv (.t i)))⟩
def oL (d i:Nat):RO:=⟨some d,none, .m (.ld false 1 (.t i))⟩
def oC (d f:Nat)(l:List AX):RO:=⟨some d,none, .call f l⟩
def oG (d j:Nat)(b:Bool)(k:RK):RO:=⟨some d,some (j,b),k⟩
def oQ (d j:Nat)(b:Bool)(a:AO):RO:=⟨some d,some (j,b), .m (.pu a)⟩
def cI (n:Int):AX:= .c (.v (.int .i64 n))
def cB (b:Bool):AX:= .c (.v (.bool b))
end Go.Proofs.YtckcgijklnloiaaGreat.K
/-
 From a contract of calls to what is said in types,and from there to a law's row.
-/
namespace Go.Proofs.YtckcgijklnloiaaGreat.K
open Go.RowKit
section
variable {P:Program}{X:Nat→Nat→Prop}{w:World}{σ:Pl}
theorem QCT {w w':World}(h:Below w.heap.size w w'):Fr [] w w':=⟨h.os,h.tape,h.output,h.size,fun b hb _=>h.block b hb⟩
theorem Qra {w w':World}{m:Nat}(hm:m=0)(hfin: ∀ b q,X b q→b<w.heap.size)(h:Below w.heap.size w w'):Ends X w σ m X w' σ []:=by
 subst hm
 exact ⟨fun b q hq=>Nat.lt_of_lt_of_le (hfin b q hq) h.size,fun j o hj=>by simp at hj,fun i j b _ hi=>by simp at hi,by simp,fun _ _=>rfl,fun j b _ hj=>by simp at hj,QCT h,fun _ _ _ h=>h,fun _ _ _ _ h=>h⟩
theorem QzX {f:FuncId}{a:Ty}{ok:a.T→Bool}{F:a.T→V}(h: ∀ x,ok x=true→ ∀ X w σ vs,(∀ b q,X b q→b<w.heap.size)→Cs X w σ (V.ds (a.canon x)) vs→
  Calls P f vs.toArray w fun e w'=> ∃ u,e= .returned u∧C X w' σ (F x).d u∧Below w.heap.size w w') (hlt:f<1000000:=by decide):Meets P f (strip (spec a ok F)):=by
 intro args objs r os hF X w σ vs hfin hl hc
 unfold strip spec at hF
 cases objs with
 | cons o os'=>simp at hF
 | nil=>
  simp only at hF
  cases ha:a.args args with
  | none=>rw [ha] at hF; cases hF
  | some x=>
   rw [ha] at hF
   simp only at hF
   split at hF
   ·rename_i r' os' hq
    simp only [Option.some.injEq,Prod.mk.injEq] at hF hq
    obtain ⟨rfl,rfl⟩:=hF
    obtain ⟨h1,rfl,rfl⟩:=hq
    refine (QuH hlt (h x h1 X w σ vs hfin (Qdz ha hc))).mono ?_
    rintro e w' ⟨u,e1,e2,e3⟩
    exact ⟨u,X,σ,e1,e2,Qra rfl hfin e3⟩
   ·cases hF
theorem QE0 {f:FuncId}{F:Fun}(hlt:f<1000000)(h:Meets P f F){args:List V}(hF:F args []=some (.t .bool true,[])){W:World}{vs:List Value}(hc:Cs (fun _ _=>False) W (fun _=> .no) (V.ds args) vs):
  Calls P f vs.toArray W fun r w'=>r= .returned (.bool true)∧Below W.heap.size W w':=by
 refine (Qqk hlt (h args [] _ _ hF (fun _ _=>False) W (fun _=> .no) vs (fun _ _ h=>h.elim) ⟨fun j o hj=>by simp at hj,fun i j b _ hi=>by simp at hi⟩ hc)).mono ?_
 rintro e w' ⟨u,X',σ',rfl,h1,h2⟩
 simp only [V.d,Ty.d,C] at h1
 rw [h1.1]
 exact ⟨rfl,h2.fr.os,h2.fr.tape,h2.fr.output,h2.fr.size,fun b hb=>h2.fr.keep b hb (by simp [lentB])⟩
theorem QLX {k:IntKind}: ∀ (zs:List Int),Cs X w σ (zs.flatMap (Ty.int k).cells) (zs.map (Value.int k))
 | []=>by simp [Cs]
 | z::zs=>by
  simp only [List.flatMap_cons,Ty.cells,List.singleton_append,List.map_cons,Cs]
  exact ⟨_,_,rfl,⟨rfl,rfl⟩,QLX zs⟩
theorem introw_c {k:IntKind}{W:World}{a:Option Addr}{len cap:Nat}{zs:List Int}(hr:IsRow k W a len cap zs):C (fun _ _=>False) W σ (V.t (.sl (.int k)) (zs.take len)).d (.slice a len cap):=by
 rcases hr with ⟨rfl,rfl,rfl,rfl⟩ | ⟨x,rfl,h1,h2,h3,h4,h5⟩
 ·simp only [V.d,Ty.d,C,List.take_nil,List.length_nil]
  exact ⟨none,0,rfl,Nat.le_refl _,by simp [maxLen],fun _=>rfl,fun h=>absurd h (by omega)⟩
 ·have hlen:(zs.take len).length=len:=by rw [List.length_take]; omega
  simp only [V.d,Ty.d,C,hlen]
  refine ⟨some x,cap,rfl,h1,h2,fun h=>by subst h; simp,fun h=> ?_⟩
  obtain ⟨b,off,sp⟩:=x
  have h0:=h4 0 (by omega)
  have hsp:sp=none:=by
   simp only [World.cell?, Addr.add] at h0
   cases sp with
   | none=>rfl
   | some s=>split at h0 <;> simp at h0
  subst hsp
  refine ⟨b,off,_,rfl,QLX _, ?_,fun j _ h=>h,fun j u hu=> ?_,fun u hu=> ?_⟩
  ·rcases Nat.lt_or_ge b W.heap.size with hlt | hge
   ·exact hlt
   ·simp [World.cell?, Addr.add,Array.getElem?_eq_none hge] at h0
  ·rw [List.getElem?_map] at hu
   have hj:j<len:=by
    rcases Nat.lt_or_ge j len with hlt | hge
    ·exact hlt
    ·rw [List.getElem?_eq_none (by omega)] at hu; cases hu
   have:=h4 j (by omega)
   rw [List.getElem?_take_of_lt hj,List.getElem?_eq_getElem (by omega)] at hu
   rw [List.getD_eq_getElem?_getD,List.getElem?_eq_getElem (by omega)] at this
   simp only [Option.map_some,Option.some.injEq] at hu
   subst hu
   have ha:(Addr.mk b off none).add j=⟨b,off+j,none⟩:=by by_cases h0:j=0 <;> simp [Addr.add,h0]
   rw [ha] at this
   simpa using this
  ·simp only [List.mem_map] at hu
   obtain ⟨z,_,rfl⟩:=hu
   rfl
theorem QD1 {a:Ty}{ok:a.T→Bool}{F:a.T→V}{args:List V}{x:a.T}(h:a.args args=some x)(hok:ok x=true):strip (spec a ok F) args []=some (F x,[]):=by
 simp [strip,spec,h,hok]
end
end Go.Proofs.YtckcgijklnloiaaGreat.K
/-
 What is handed to a law,whatever its types of plain data:the datum that is read is a typed value.
-/
namespace Go.Proofs.YtckcgijklnloiaaGreat.K
open Go.RowKit Go.ChangeShapes Go.WideShapes Go.Deep
def Ty.wf:(y:Ty)→y.T→Prop
 | .int k,n=>(Lit.int k n).wf=true
 | .bool,_=>True
 | .str,s=>s.size≤maxLen
 | .sl e,l=>List.length l≤maxLen∧ ∀ x ∈ l,e.wf x
 | .nil,_=>True
 | .pr f r,x=>f.wf x.1∧r.wf x.2
 | .rv,_=>True
 | .rb,_=>True
def Qib (P:Program)(T:TypeId→Ty→Bool):List Field→Nat→Ty→Bool
 | [],_, .nil=>true
 | f::r,o, .pr a b=>decide (f.offset=o)&&decide (P.cellsOf f.type=a.sz)&&T f.type a&&Qib P T r (o+a.sz) b
 | _,_,_=>false
def tyIs (P:Program):Nat→TypeId→Ty→Bool
 | 0,_,_=>false
 | n+1,t,y=>match P.underlying t with
  | some (.int k)=>decide (y= .int k)
  | some .bool=>decide (y= .bool)
  | some .string=>decide (y= .str)
  | some (.slice e)=>match y with
   | .sl z=>tyIs P n e z&&decide (P.cellsOf e=z.sz)&&decide (0<z.sz)
   | _=>false
  | some (.struct fs)=>y.row&&decide (P.cellsOf t=y.sz)&&Qib P (tyIs P n) fs.toList 0 y
  | _=>false
abbrev noX:Nat→Nat→Prop:=fun _ _=>False
section
variable {H:Type}{enc:TypeId×Value→H}{P:Program}{w:World}{base:Nat}{sp:Nat→Bool}{held:Bool}{σ:Pl}
theorem Qll {X:Nat→Nat→Prop}: ∀ (y:Ty) (x:y.T) (vs:List Value),Cs X w σ (y.cells x) vs→vs.length=y.sz∧ ∀ v ∈ vs,v.oneCell'=true
 | .int k,n,vs,h=>by
  simp only [Ty.cells,Cs] at h
  obtain ⟨u,us,rfl,h1,rfl⟩:=h
  simp only [C] at h1
  exact ⟨rfl,fun v hv=>by simp at hv; subst hv; rw [h1.1]; exact h1.2⟩
 | .bool,n,vs,h=>by
  simp only [Ty.cells,Cs] at h
  obtain ⟨u,us,rfl,h1,rfl⟩:=h
  simp only [C] at h1
  exact ⟨rfl,fun v hv=>by simp at hv; subst hv; rw [h1.1]; exact h1.2⟩
 | .str,n,vs,h=>by
  simp only [Ty.cells,Cs] at h
  obtain ⟨u,us,rfl,h1,rfl⟩:=h
  simp only [C] at h1
  exact ⟨rfl,fun v hv=>by simp at hv; subst hv; rw [h1.1]; exact h1.2⟩
 | .sl e,l,vs,h=>by
  simp only [Ty.cells,Cs] at h
  obtain ⟨u,us,rfl,h1,rfl⟩:=h
  simp only [C] at h1
  obtain ⟨A,c,rfl,_⟩:=h1
  exact ⟨rfl,fun v hv=>by simp at hv; subst hv; rfl⟩
 | .rv,l,vs,h=>by
  simp only [Ty.cells,Cs] at h
  obtain ⟨u,us,rfl,h1,rfl⟩:=h
  simp only [C] at h1
  obtain ⟨A,c,rfl,_⟩:=h1
  exact ⟨rfl,fun v hv=>by simp at hv; subst hv; rfl⟩
 | .rb,l,vs,h=>by
  simp only [Ty.cells,Cs] at h
  obtain ⟨u,us,rfl,h1,rfl⟩:=h
  simp only [C] at h1
  obtain ⟨A,c,rfl,_⟩:=h1
  exact ⟨rfl,fun v hv=>by simp at hv; subst hv; rfl⟩
 | .nil,_,vs,h=>by
  simp only [Ty.cells,Cs] at h
  subst h
  exact ⟨rfl,fun v hv=>by cases hv⟩
 | .pr f r,x,vs,h=>by
  simp only [Ty.cells] at h
  obtain ⟨v1,v2,rfl,h1,h2⟩:=Cs.split h
  obtain ⟨a1,a2⟩:=Qll f x.1 v1 h1
  obtain ⟨b1,b2⟩:=Qll r x.2 v2 h2
  refine ⟨by simp only [List.length_append,Ty.sz,a1,b1],fun v hv=> ?_⟩
  rcases List.mem_append.1 hv with hv | hv
  ·exact a2 v hv
  ·exact b2 v hv
theorem QBm {X:Nat→Nat→Prop}{z:Ty}: ∀ (l:List z.T) (vs:List Value),Cs X w σ (l.flatMap z.cells) vs→ ∀ v ∈ vs,v.oneCell'=true
 | [],vs,h=>by
  simp only [List.flatMap_nil,Cs] at h
  subst h
  intro v hv
  cases hv
 | x::l,vs,h=>by
  rw [List.flatMap_cons] at h
  obtain ⟨v1,v2,rfl,h1,h2⟩:=Cs.split h
  intro v hv
  rcases List.mem_append.1 hv with hv | hv
  ·exact (Qll z x v1 h1).2 v hv
  ·exact QBm l v2 h2 v hv
theorem Qq6 {T:TypeId→Ty→Bool}{n:Nat}{cs:List Value}(hT: ∀ t y cs x,T t y=true→DataW.trod enc P w base sp held n t cs=some x→ ∃ z:y.T,Cs noX w σ (y.cells z) cs∧y.wf z):
  ∀ (fs:List Field) (o:Nat) (y:Ty),Qib P T fs o y=true→(∀ (i:Nat) (f:Field),fs[i]? = some f→ ∃ x,DataW.trod enc P w base sp held n f.type ((cs.drop f.offset).take (P.cellsOf f.type))=some x)→o+y.sz=cs.length→
   ∃ z:y.T,Cs noX w σ (y.cells z) (cs.drop o)∧y.wf z
 | [],o,y,h,_,hl=>by
  cases y <;> simp only [Qib,Bool.false_eq_true] at h
  refine ⟨(), ?_,trivial⟩
  simp only [Ty.sz] at hl
  rw [List.drop_eq_nil_of_le (by omega)]
  simp only [Ty.cells,Cs]
 | f::r,o,y,h,hf,hl=>by
  cases y with
  | pr a b=>
   simp only [Qib,Bool.and_eq_true,decide_eq_true_eq] at h
   obtain ⟨⟨⟨h1,h2⟩,h3⟩,h4⟩:=h
   obtain ⟨x,hx⟩:=hf 0 f rfl
   rw [h1,h2] at hx
   obtain ⟨z1,c1,w1⟩:=hT _ _ _ _ h3 hx
   simp only [Ty.sz] at hl
   obtain ⟨z2,c2,w2⟩:=Qq6 hT r (o+a.sz) b h4 (fun i f' hi=>hf (i+1) f' (by simpa using hi)) (by omega)
   refine ⟨(z1,z2), ?_,w1,w2⟩
   have:=c1.app c2
   rw [← List.drop_drop,List.take_append_drop] at this
   exact this
  | _=>simp only [Qib,Bool.false_eq_true] at h
theorem Qv8 {z:Ty}{a:Addr}: ∀ (len:Nat),(∀ i,i<len→ ∃ cs',w.cells? base (a.add (i * z.sz)) z.sz=some cs'∧ ∃ z1:z.T,Cs noX w nowhere (z.cells z1) cs'∧z.wf z1)→
  ∃ (l:List z.T) (vs:List Value),l.length=len∧Cs noX w nowhere (l.flatMap z.cells) vs∧vs.length=len * z.sz∧(∀ j,j<len * z.sz→w.cell? (a.add j)=vs[j]?)∧ ∀ x ∈ l,z.wf x
 | 0,_=>⟨[],[],rfl,by simp [Cs],by simp,fun j hj=>by omega,fun x hx=>by cases hx⟩
 | k+1,h=>by
  obtain ⟨l,vs,h1,h2,h3,h4,h5⟩:=Qv8 k fun i hi=>h i (by omega)
  obtain ⟨cs',hc,z1,c1,w1⟩:=h k (by omega)
  obtain ⟨_,hl,hat⟩:=World.cells?_some hc
  have e:(k+1) * z.sz=k * z.sz+z.sz:=Nat.succ_mul k z.sz
  refine ⟨l++[z1],vs++cs',by simp [h1], ?_,by rw [List.length_append,h3,hl,e],fun j hj=> ?_,fun x hx=> ?_⟩
  ·rw [List.flatMap_append]
   exact h2.app (by simpa using c1)
  ·by_cases hj2:j<k * z.sz
   ·rw [List.getElem?_append_left (by omega)]
    exact h4 j hj2
   ·obtain ⟨i,rfl⟩: ∃ i,j=k * z.sz+i:=⟨j - k * z.sz,by omega⟩
    rw [List.getElem?_append_right (by omega),h3,Nat.add_sub_cancel_left, ← hat i (by omega),Go.Deep.add_add]
  ·rcases List.mem_append.1 hx with hx | hx
   ·exact h5 x hx
   ·simp at hx
    subst hx
    exact w1
theorem Qon: ∀ (n:Nat) (t:TypeId) (y:Ty) (fuel:Nat) (cs:List Value) (x:DataW H×List MemPlace) (σ:Pl),tyIs P n t y=true→DataW.trod enc P w base sp held fuel t cs=some x→
  ∃ z:y.T,Cs noX w σ (y.cells z) cs∧y.wf z
 | 0,t,y,_,_,_,_,h,_=>by simp [tyIs] at h
 | n+1,t,y,fuel,cs,x,σ,h,hx=>by
  simp only [tyIs] at h
  cases hu:P.underlying t with
  | none=>rw [hu] at h; cases h
  | some d=>
   rw [hu] at h
   cases d <;> simp only [Bool.false_eq_true] at h
   case int k=>
    simp only [decide_eq_true_eq] at h
    subst h
    obtain ⟨m,rfl,_,hw⟩:=DataW.trod_int hu hx
    exact ⟨m,by simp only [Ty.cells]; exact Cs.mk1 (show _∧_ from ⟨rfl,rfl⟩),hw⟩
   case bool=>
    simp only [decide_eq_true_eq] at h
    subst h
    obtain ⟨m,rfl,_⟩:=DataW.trod_bool hu hx
    exact ⟨m,by simp only [Ty.cells]; exact Cs.mk1 (show _∧_ from ⟨rfl,rfl⟩),trivial⟩
   case string=>
    simp only [decide_eq_true_eq] at h
    subst h
    obtain ⟨m,rfl,_,hw⟩:=DataW.trod_string hu hx
    exact ⟨m,by simp only [Ty.cells]; exact Cs.mk1 (show _∧_ from ⟨rfl,rfl⟩),hw⟩
   case slice e=>
    cases y <;> simp only [Bool.false_eq_true] at h
    case sl z=>
     simp only [Bool.and_eq_true,decide_eq_true_eq] at h
     obtain ⟨⟨h1,h2⟩,h3⟩:=h
     rcases open_slice hu hx with ⟨rfl,_⟩ | ⟨a,len,cap,m,f2,D,Pl,rfl,_,hl,hm,hmm,_,hi⟩
     ·refine ⟨[], ?_,by simp [maxLen],fun x hx=>by cases hx⟩
      simp only [Ty.cells]
      refine Cs.mk1 ?_
      simp only [C,List.length_nil]
      exact ⟨none,0,rfl,Nat.le_refl _,by simp [maxLen],fun _=>rfl,fun h=>absurd h (by omega)⟩
     ·have hle:len≤m:=by rw [hmm]; split <;> omega
      obtain ⟨l,vs,q1,q2,q3,q4,q5⟩:=Qv8 (w:=w) (base:=base) (z:=z) (a:=a) len fun i hil=>by
       obtain ⟨cs',g1,g2⟩:=hi i (by omega)
       rw [h2] at g1
       exact ⟨cs',g1,Qon n e z f2 cs' _ nowhere h1 g2⟩
      refine ⟨l, ?_,⟨by omega,q5⟩⟩
      simp only [Ty.cells]
      refine Cs.mk1 ?_
      simp only [C]
      refine ⟨some a,cap,by rw [q1],by omega,hm,fun h0=>by have:l=[]:=List.eq_nil_of_length_eq_zero h0; subst this; rfl,fun hp=> ?_⟩
      rw [q1] at hp
      obtain ⟨v0,hv0⟩: ∃ v,vs[0]? = some v:=by
       have:0<vs.length:=by rw [q3]; exact Nat.mul_pos hp h3
       exact ⟨_,List.getElem?_eq_getElem this⟩
      have h0:=q4 0 (Nat.mul_pos hp h3)
      rw [hv0] at h0
      obtain ⟨b,off,spot⟩:=a
      have hsp:spot=none:=by
       simp only [World.cell?, Addr.add] at h0
       cases spot with
       | none=>rfl
       | some s=>split at h0 <;> simp at h0
      subst hsp
      refine ⟨b,off,vs,rfl,q2, ?_,fun j _ h=>h,fun j u hu'=> ?_,fun u hu'=> ?_⟩
      ·rcases Nat.lt_or_ge b w.heap.size with hlt | hge
       ·exact hlt
       ·simp [World.cell?, Addr.add,Array.getElem?_eq_none hge] at h0
      ·have hj:j<len * z.sz:=by rw [← q3]; exact (List.getElem?_eq_some_iff.1 hu').1
       have:=q4 j hj
       have ha:(Addr.mk b off none).add j=⟨b,off+j,none⟩:=by by_cases h0:j=0 <;> simp [Addr.add,h0]
       rw [ha,hu'] at this
       exact this
      ·exact (QBm l vs q2) u hu'
   case struct fs=>
    simp only [Bool.and_eq_true,decide_eq_true_eq] at h
    obtain ⟨⟨_,h2⟩,h3⟩:=h
    obtain ⟨xs,m,_,_,hlen,hxl,hf⟩:=DataW.trod_struct hu hx
    have:=Qq6 (n:=m) (cs:=cs) (σ:=σ) (fun t y cs x=>Qon n t y m cs x σ) fs.toList 0 y h3 (fun i f hi=>by
     have hi':fs[i]? = some f:=by simpa using hi
     have hlt:=(Array.getElem?_eq_some_iff.1 hi').1
     exact ⟨xs[i]'(by omega),(hf i f hi').trans (List.getElem?_eq_getElem _)⟩) (by omega)
    simpa using this
theorem QDP {n:Nat}{t:TypeId}{y:Ty}{v:Value}{r:Reach}{b0:Nat}{d:DataW H}{ps:List MemPlace}(h:tyIs P (n+1) t y=true)(hval:Value.okWide P w r b0 t v)(hd:DataW.Trod enc P w base sp held t v d ps):
  ∃ z:y.T,C noX w σ (V.t y z).d v∧y.wf z:=by
 have h':=h
 obtain ⟨fuel,hf⟩:=hd
 obtain ⟨z,hz,hw⟩:=Qon (n+1) t y fuel _ _ σ h hf
 refine ⟨z, ?_,hw⟩
 simp only [tyIs] at h
 simp only [V.d]
 cases hu:P.underlying t with
 | none=>rw [hu] at h; cases h
 | some dsc=>
  rw [hu] at h
  cases dsc <;> simp only [Bool.false_eq_true] at h
  case int k=>
   simp only [decide_eq_true_eq] at h
   subst h
   obtain ⟨m,rfl,_⟩:=open_int hu hval ⟨fuel,hf⟩
   simp only [Ty.cells,Value.cells] at hz
   obtain ⟨u,e,hc⟩:=hz.one
   simp at e
   subst e
   exact hc
  case bool=>
   simp only [decide_eq_true_eq] at h
   subst h
   obtain ⟨m,rfl,_⟩:=open_bool hu hval ⟨fuel,hf⟩
   simp only [Ty.cells,Value.cells] at hz
   obtain ⟨u,e,hc⟩:=hz.one
   simp at e
   subst e
   exact hc
  case string=>
   simp only [decide_eq_true_eq] at h
   subst h
   obtain ⟨m,rfl,_⟩:=Go.ChangeMaps.open_string hu hval ⟨fuel,hf⟩
   simp only [Ty.cells,Value.cells] at hz
   obtain ⟨u,e,hc⟩:=hz.one
   simp at e
   subst e
   exact hc
  case slice e=>
   cases y <;> simp only [Bool.false_eq_true] at h
   case sl z'=>
    obtain ⟨a,len,cap,rfl⟩:=okWide_slice hu hval
    simp only [Ty.cells,Value.cells] at hz
    obtain ⟨u,e,hc⟩:=hz.one
    simp at e
    subst e
    exact hc
  case struct fs=>
   simp only [Bool.and_eq_true] at h
   obtain ⟨cs,rfl,_⟩:=okWide_struct hu hval
   rw [y.d_row z h.1.1]
   simp only [C]
   exact ⟨cs.toList,by simp,by simpa [Value.cells] using hz⟩
end
end Go.Proofs.YtckcgijklnloiaaGreat.K
/-
 Operations that are taken like calls:what they make.
-/
namespace Go.Proofs.YtckcgijklnloiaaGreat.K
open Go.RowKit
def tyR (y:Ty):Nat→Ty
 | 0=> .nil
 | n+1=> .pr y (tyR y n)
def Qsx (y:Ty):(n:Nat)→(tyR y n).T→Nat→y.T
 | 0,_,_=>y.zero
 | n+1,x,0=>(show y.T×(tyR y n).T from x).1
 | n+1,x,j+1=>Qsx y n (show y.T×(tyR y n).T from x).2 j
theorem QUI (y:Ty)(n:Nat):(tyR y n).row=true:=by cases n <;> rfl
theorem Qu0 (y:Ty): ∀ (n:Nat) (x:(tyR y n).T) (j:Nat),j<n→(((tyR y n).cells x).drop (j * y.sz)).take y.sz=y.cells (Qsx y n x j)∧j * y.sz+y.sz≤((tyR y n).cells x).length
 | 0,_,j,h=>by omega
 | n+1,x,0,_=>by
  have e:(tyR y (n+1)).cells x=y.cells (show y.T×(tyR y n).T from x).1++(tyR y n).cells (show y.T×(tyR y n).T from x).2:=rfl
  have hl:=y.cells_len (show y.T×(tyR y n).T from x).1
  rw [e,Nat.zero_mul,List.drop_zero,List.take_left' hl]
  exact ⟨rfl,by rw [List.length_append]; omega⟩
 | n+1,x,j+1,h=>by
  have e:(tyR y (n+1)).cells x=y.cells (show y.T×(tyR y n).T from x).1++(tyR y n).cells (show y.T×(tyR y n).T from x).2:=rfl
  have hl:=y.cells_len (show y.T×(tyR y n).T from x).1
  obtain ⟨h1,h2⟩:=Qu0 y n (show y.T×(tyR y n).T from x).2 j (by omega)
  have e2:(j+1) * y.sz=y.sz+j * y.sz:=by rw [Nat.succ_mul,Nat.add_comm]
  rw [e,e2]
  refine ⟨?_,by rw [List.length_append]; omega⟩
  rw [← List.drop_drop,List.drop_left' hl]
  exact h1
section
variable {P:Program}
theorem QPw {f:FuncId}{a:Ty}{ok:a.T→Bool}{F:a.T→V}{g:List Value→Sem Value}(hg:bRun f=some g)
  (h: ∀ x,ok x=true→ ∀ (X:Nat→Nat→Prop) (w:World) (σ:Pl) vs,Cs X w σ (V.ds (a.canon x)) vs→ ∃ u,(g vs).run P w= .ok u w∧C X w σ (F x).d u):Meets P f (strip (spec a ok F)):=by
 intro args objs r os hF X w σ vs hfin hl hc
 unfold strip spec at hF
 cases objs with
 | cons o os'=>simp at hF
 | nil=>
  simp only at hF
  cases ha:a.args args with
  | none=>rw [ha] at hF; cases hF
  | some x=>
   rw [ha] at hF
   simp only at hF
   split at hF
   ·rename_i r' os' hq
    simp only [Option.some.injEq,Prod.mk.injEq] at hF hq
    obtain ⟨rfl,rfl⟩:=hF
    obtain ⟨h1,rfl,rfl⟩:=hq
    obtain ⟨u,e1,e2⟩:=h x h1 X w σ vs (Qdz ha hc)
    unfold Does
    rw [hg]
    exact ⟨u,w,e1,u,X,σ,rfl,e2,Qra rfl hfin (Below.refl _ _)⟩
   ·cases hF
theorem QIY {t e n:Nat}{k:IntKind}{y:Ty}{d:TypeDesc}{inf:TypeInfo}(ht:P.underlying t=some (.array n e))(he:P.underlying e=some d)(hr:isRow d=y.row)(hi:P.info? e=some inf)(hsz:inf.size=y.sz)
  (arr:(tyR y n).T) (i:Int) (hok:0≤i∧i<(n:Int)) (X:Nat→Nat→Prop) (w:World) (σ:Pl) (vs:List Value) (hc:Cs X w σ (V.ds [.t (tyR y n) arr, .t (.int k) i]) vs):
  ∃ u,(match vs with | [x,y]=>Instr.index t x y | _=>stuck "operands").run P w= .ok u w∧C X w σ (V.t y (Qsx y n arr i.toNat)).d u:=by
  simp only [Ty.canon,V.ds,Cs] at hc
  obtain ⟨u,us,rfl,h1,u2,us2,rfl,h2,rfl⟩:=hc
  simp only [V.d] at h1
  rw [Ty.d_row _ _ (QUI y n)] at h1
  simp only [C] at h1
  obtain ⟨cs,rfl,hcs⟩:=h1
  simp only [V.d,Ty.d,C] at h2
  rw [h2.1]
  obtain ⟨q1,q2⟩:=Qu0 y n arr i.toNat (by omega)
  have hlen:=hcs.len
  have hcs2:=(hcs.drop_ (i.toNat * y.sz)).take_ y.sz
  rw [q1] at hcs2
  cases hrow:y.row with
  | true=>
   refine ⟨.agg ((cs.drop (i.toNat * y.sz)).take y.sz).toArray, ?_, ?_⟩
   ·rw [hrow] at hr
    simp [Instr.index,asIntOf,run_underlying ht,hok.1,hok.2,sizeOf,typeInfo,hi,hsz,part,Qbr he,hr,List.take_drop]
   ·simp only [V.d]
    rw [Ty.d_row _ _ hrow]
    simp only [C]
    exact ⟨_,rfl,hcs2⟩
  | false=>
   have hd:=y.d_one (Qsx y n arr i.toNat) hrow
   have h1:y.sz=1:=by have:=y.cells_len (Qsx y n arr i.toNat); rw [hd] at this; exact this.symm
   rw [hd] at hcs2
   obtain ⟨v,hv,hcv⟩:=hcs2.one
   have hv0:cs[i.toNat * y.sz]? = some v:=by
    have:((cs.drop (i.toNat * y.sz)).take y.sz)[0]? = some v:=by rw [hv]; rfl
    rw [List.getElem?_take_of_lt (by omega),List.getElem?_drop,Nat.add_zero] at this
    exact this
   refine ⟨v, ?_,hcv⟩
   rw [hrow] at hr
   simp [Instr.index,asIntOf,run_underlying ht,hok.1,hok.2,sizeOf,typeInfo,hi,hsz,part,Qbr he,hr,hv0]
def QbA (y:Ty)(n:Nat)(x:(tyR y n).T)(i:Int):y.T:=Qsx y n x i.toNat
def arrOk (y:Ty)(n:Nat)(_x:(tyR y n).T)(i:Int):Bool:=decide ((0:Int)≤i∧i<(n:Int))
theorem QfW {t e n:Nat}{k:IntKind}{y:Ty}(ht:P.underlying t=some (.array n e))(hr:(P.underlying e).map isRow=some y.row)(hi:(P.info? e).map TypeInfo.size=some y.sz)(hlt:t<10000):
  Meets P (bCode 2 t 0) (strip (spec (.pr (tyR y n) (.pr (.int k) .nil)) (fun x=>arrOk y n x.1 x.2.1) (fun x=> .t y (QbA y n x.1 x.2.1)))):=by
 obtain ⟨d,he,hr⟩:=Option.map_eq_some_iff.1 hr
 obtain ⟨inf,hi,hsz⟩:=Option.map_eq_some_iff.1 hi
 exact QPw (QOw hlt) fun x hok X w σ vs hc=>QIY ht he hr hi hsz x.1 x.2.1 (of_decide_eq_true hok) X w σ vs hc
theorem QDg {X:Nat→Nat→Prop}{w:World}{σ:Pl}: ∀ (l:List UInt8),Cs X w σ (List.flatMap (Ty.int .u8).cells (l.map fun b=>(b.toNat:Int))) (l.map fun b=>Value.int .u8 (b.toNat:Int))
 | []=>by simp [Cs]
 | b::l=>by
  simp only [List.map_cons,List.flatMap_cons,Ty.cells,List.singleton_append,Cs,C]
  exact ⟨_,_,rfl,⟨rfl,rfl⟩,QDg l⟩
def Qbi (s:ByteArray):Bool:=decide (s.size≤9223372036854775807)
theorem QzY {a b e:Nat}(ha:P.underlying a=some .string)(hb:P.underlying b=some (.slice e))(he:P.underlying e=some (.int .u8))(hlt:a<10000):
  Meets P (bCode 0 a b) (strip (spec (.pr .str .nil) (fun x=>Qbi x.1) (fun x=> .t (.sl (.int .u8)) (QaI x.1)))):=by
 intro args objs r os hF X w σ vs hfin hl hc
 unfold strip spec at hF
 cases objs with
 | cons o os'=>simp at hF
 | nil=>
  simp only at hF
  cases ha':(Ty.pr .str .nil).args args with
  | none=>rw [ha'] at hF; cases hF
  | some x=>
   rw [ha'] at hF
   simp only at hF
   split at hF
   ·rename_i r' os' hq
    simp only [Option.some.injEq,Prod.mk.injEq] at hF hq
    obtain ⟨rfl,rfl⟩:=hF
    obtain ⟨h1,rfl,rfl⟩:=hq
    have hc2:=Qdz ha' hc
    obtain ⟨s,u0⟩:=x
    have h1:s.size≤9223372036854775807:=of_decide_eq_true h1
    simp only [Ty.canon,V.ds,V.d,Ty.d,Cs,C] at hc2
    obtain ⟨u,us,rfl,⟨rfl,_⟩,rfl⟩:=hc2
    have hr:=run_bytes_of_string (P:=P) w a b e s ha hb he
    have hge:=grownCap_ge w s.size 0 e
    have hle:=grownCap_le_maxLen w s.size 0 e (by simp [maxLen]; omega)
    generalize grownCap w s.size 0 e=cap at hr hge hle
    have hbel:Below w.heap.size w (w.drew.alloc (.cells (bytesRow s cap) e ((bytesRow s cap).size,(bytesRow s cap).size+1))):=((Below.refl _ _).drew).alloc (Nat.le_refl _) _
    have hblk:(w.drew.alloc (.cells (bytesRow s cap) e ((bytesRow s cap).size,(bytesRow s cap).size+1))).heap[w.heap.size]? = some (.cells (bytesRow s cap) e ((bytesRow s cap).size,(bytesRow s cap).size+1)):=heap_alloc_new _ _
    have hlen:(QaI s).length=s.size:=by simp [QaI]
    unfold Does
    rw [QOx hlt]
    refine ⟨_,_,hr,_,X,σ,rfl, ?_,Qra rfl hfin hbel⟩
    simp only [V.d,Ty.d,C]
    refine ⟨some ⟨w.heap.size,0,none⟩,cap,by rw [hlen],by rw [hlen]; exact hge,hle,fun h0=>by rw [List.eq_nil_of_length_eq_zero h0]; rfl,fun _=>⟨w.heap.size,0,s.data.toList.map fun b=>Value.int .u8 (b.toNat:Int),rfl,QDg _, ?_,fun j _ hx=> ?_,fun j v hj=> ?_,fun v hv=> ?_⟩⟩
    ·exact (Array.getElem?_eq_some_iff.1 hblk).1
    ·exact absurd (hfin _ _ hx) (Nat.lt_irrefl _)
    ·have hjl:=(List.getElem?_eq_some_iff.1 hj).1
     rw [List.length_map] at hjl
     have:(bytesRow s cap)[j]? = some v:=by
      unfold bytesRow
      rw [Array.getElem?_append_left (by simpa using hjl)]
      rw [List.getElem?_map] at hj
      simpa using hj
     simp only [World.cell?, hblk,Nat.zero_add]
     exact this
    ·simp only [List.mem_map] at hv
     obtain ⟨b,_,rfl⟩:=hv
     rfl
   ·cases hF
end
end Go.Proofs.YtckcgijklnloiaaGreat.K
/-
 Own slices that are handed to a function:it writes them,or uses them up.
-/
namespace Go.Proofs.YtckcgijklnloiaaGreat.K
open Go.RowKit Go.Sort
@[reducible] def SOt:List SO→Type
 | []=>Unit
 | s::r=>s.T×SOt r
def mkOt:(l:List SO)→SOt l→List VO
 | [],_=>[]
 | s::r,x=>s.mk x.1::mkOt r x.2
def VO.wk (s:SO)(o:VO):VO:=
 match s,o with
 | .arr e _, .arr e' t l=>if e=e'+1000000∧e'<1000000 then .arr e t l else o
 | _,_=>o
def rdOt:(l:List SO)→List VO→Option (SOt l)
 | [],[]=>some ()
 | s::r,o::os=>match s.rd (o.wk s),rdOt r os with
  | some x,some y=>some (x,y)
  | _,_=>none
 | _,_=>none
theorem wk_at {X:Nat→Nat→Prop}{w:World}{σ:Pl}{k:Nat}{s:SO}{o:VO}(h:OAt X w σ k o)(hn:o≠ .no):OAt X w σ k (o.wk s)∧o.wk s≠ .no:=by
 unfold VO.wk
 split
 ·split
  ·rename_i hc
   obtain ⟨u,xs,h1,h2,h3⟩:=h
   exact ⟨⟨u,xs,h1,by rw [hc.1]; exact h2.weak hc.2,h3⟩,by simp⟩
  ·exact ⟨h,hn⟩
 ·exact ⟨h,hn⟩
theorem Qzs: ∀ {l:List SO} {os:List VO} {x:SOt l},rdOt l os=some x→(mkOt l x).length=os.length∧ ∀ (j:Nat) o,(mkOt l x)[j]? = some o→ ∃ s o',os[j]? = some o'∧o=o'.wk s
 | [],[],_,_=>⟨rfl,fun j o h=>by simp [mkOt] at h⟩
 | [],_::_,_,h=>by cases h
 | _::_,[],_,h=>by cases h
 | s::r,v::vs,x,h=>by
  simp only [rdOt] at h
  split at h
  ·rename_i x1 y1 h1 h2
   simp only [Option.some.injEq] at h
   subst h
   obtain ⟨q1,q2⟩:=Qzs h2
   refine ⟨by simp only [mkOt,List.length_cons,q1],fun j o hj=> ?_⟩
   cases j with
   | zero=>
    simp only [mkOt,List.getElem?_cons_zero,Option.some.injEq] at hj
    exact ⟨s,v,rfl,by rw [← hj, ← SO.rd_mk h1]⟩
   | succ j=>
    simp only [mkOt,List.getElem?_cons_succ] at hj ⊢
    exact q2 j o hj
  ·cases h
theorem QJa {X:Nat→Nat→Prop}{w:World}{σ:Pl}{l:List SO}{os:List VO}{x:SOt l}(h:rdOt l os=some x)(hl:Lent X w σ os):Lent X w σ (mkOt l x):=by
 obtain ⟨h1,h2⟩:=Qzs h
 refine ⟨fun j o hj=> ?_,fun i j b hij hi hj=>hl.apart i j b hij (by omega) (by omega)⟩
 obtain ⟨s,o',q1,rfl⟩:=h2 j o hj
 obtain ⟨a,b⟩:=hl.at_ j o' q1
 exact wk_at a b
def specS (l:List SV)(os:List SO)(ok:SVt l→SOt os→Bool)(F:SVt l→SOt os→V)(O:SVt l→SOt os→List VO):Ent:=fun args objs=>
 match rdVt l args,rdOt os objs with
 | some x,some y=>some (ok x y,F x y,O x y)
 | _,_=>none
def coeV:SV→V→V
 | .ty t,v=>if t.row=true then (match v.as t with | some x=> .t t x | none=>v) else v
 | .bf _ t, .fn g [v]=>if t.row=true then (match v.as t with | some x=> .fn g [.t t x] | none=> .fn g [v]) else .fn g [v]
 | _,v=>v
def coeVs:List SV→List V→List V
 | s::r,v::vs=>coeV s v::coeVs r vs
 | _,vs=>vs
def specB (l:List SV)(os:List SO)(ok:SVt l→SOt os→Bool)(F:SVt l→SOt os→V)(O:SVt l→SOt os→List VO):Ent:=fun args objs=>specS l os ok F O (coeVs l args) objs
theorem as_cs {X:Nat→Nat→Prop}{w:World}{σ:Pl}{t:Ty}{v:V}{x:t.T}{u:Value}(h:v.as t=some x)(hc:C X w σ v.d u):C X w σ (V.t t x).d u:=
 C.up _ _ (V.as_spec h hc)
theorem coeV_c {X:Nat→Nat→Prop}{w:World}{σ:Pl}{u:Value}(s:SV)(v:V)(hc:C X w σ v.d u):C X w σ (coeV s v).d u:=by
 unfold coeV
 split
 ·split
  ·split
   ·rename_i x h
    exact as_cs h hc
   ·exact hc
  ·exact hc
 ·split
  ·split
   ·rename_i x h
    simp only [V.d,V.ds,C,Cs] at hc ⊢
    obtain ⟨vs,h1,u1,us,h2,h3,h4⟩:=hc
    exact ⟨vs,h1,u1,us,h2,as_cs h h3,h4⟩
   ·exact hc
  ·exact hc
 ·exact hc
theorem QDd {X:Nat→Nat→Prop}{w:World}{σ:Pl}: ∀ (l:List SV) (vs:List V) (us:List Value),Cs X w σ (V.ds vs) us→Cs X w σ (V.ds (coeVs l vs)) us
 | [],vs,us,h=>h
 | s::r,[],us,h=>h
 | s::r,v::vs,us,h=>by
  simp only [coeVs,V.ds,Cs] at h ⊢
  obtain ⟨u,us',rfl,h2,h3⟩:=h
  exact ⟨u,us',rfl,coeV_c s v h2,QDd r vs us' h3⟩
section
variable {P:Program}
theorem QcM {f:FuncId}{l:List SV}{os:List SO}{ok:SVt l→SOt os→Bool}{F:SVt l→SOt os→V}{O:SVt l→SOt os→List VO}(hM:Meets P f (strip (specS l os ok F O))):Meets P f (strip (specB l os ok F O)):=
 fun args objs r os' hF X w σ vs hfin hl hc=>hM (coeVs l args) objs r os' hF X w σ vs hfin hl (QDd l args vs hc)
theorem QKU {f:FuncId}{l:List SV}{os:List SO}{ok:SVt l→SOt os→Bool}{F:SVt l→SOt os→V}{O:SVt l→SOt os→List VO}
  (h: ∀ x y,ok x y=true→ ∀ X w σ vs,(∀ b q,X b q→b<w.heap.size)→Lent X w σ (mkOt os y)→Cs X w σ (V.ds (mkVt l x)) vs→
   Does P f vs.toArray w fun e w'=> ∃ u X' σ',e= .returned u∧C X' w' σ' (F x y).d u∧Ends X w σ (mkOt os y).length X' w' σ' (O x y)):Meets P f (strip (specS l os ok F O)):=by
 intro args objs r os' hF X w σ vs hfin hl hc
 unfold strip specS at hF
 split at hF
 ·rename_i r' os'' hq
  split at hq
  ·rename_i x y hx hy
   simp only [Option.some.injEq,Prod.mk.injEq] at hF hq
   obtain ⟨rfl,rfl⟩:=hF
   obtain ⟨h1,rfl,rfl⟩:=hq
   have ha:=QlA hx
   subst ha
   have:=h x y h1 X w σ vs hfin (QJa hy hl) hc
   rw [(Qzs hy).1] at this
   exact this
  ·cases hq
 ·cases hF
theorem QaN {f:FuncId}{R:Fun}{l:List SV}{os:List SO}{ok:SVt l→SOt os→Bool}{F:SVt l→SOt os→V}{O:SVt l→SOt os→List VO}(hM:Meets P f R)
  (h: ∀ x y,ok x y=true→R (mkVt l x) (mkOt os y)=some (F x y,O x y)):Meets P f (strip (specS l os ok F O)):=
 QKU fun x y hok X w σ vs hfin hl hc=>hM _ _ _ _ (h x y hok) X w σ vs hfin hl hc
variable {X:Nat→Nat→Prop}{w w':World}{σ:Pl}
theorem QCZ {o o':VO}{row:Option Nat}(hfin: ∀ b q,X b q→b<w.heap.size)(hat:OAt X w' σ 50000 o')(hg:w.grownBy w' row)(hr:row=none∨row=(σ 50000).blk):Ends X w σ [o].length X w' σ [o']:=by
 refine ⟨fun b q hq=>Nat.lt_of_lt_of_le (hfin b q hq) hg.size,fun j o hj=> ?_,fun i j b hij hi hj=>by simp at hi hj; omega,by simp,fun _ _=>rfl,fun j b hj hl=>by simp at hj hl; omega,⟨hg.os,hg.tape,hg.output,hg.size,fun b hb hm=>hg.block b hb fun he=>hm ?_⟩,fun _ _ _ h=>h,fun _ _ _ _ h=>h⟩
 ·cases j with
  | zero=>
   simp only [List.getElem?_cons_zero,Option.some.injEq] at hj
   subst hj
   exact ⟨hat,fun h=>absurd h (by simp)⟩
  | succ j=>simp at hj
 ·rcases hr with hr | hr
  ·rw [hr] at he; cases he
  ·simp only [lentB,List.length_singleton,List.mem_filterMap,List.mem_range]
   exact ⟨0,by omega,by rw [← hr]; exact he.symm⟩
theorem QB0 {k:IntKind}: ∀ (l:List Int) (vs:List Value),Cs X w σ (List.flatMap (Ty.int k).cells l) vs→vs=l.map (Value.int k)
 | [],vs,h=>by simpa [Cs] using h
 | z::zs,vs,h=>by
  simp only [List.flatMap_cons,Ty.cells,List.singleton_append,Cs] at h
  obtain ⟨u,us,rfl,h1,h2⟩:=h
  simp only [C] at h1
  rw [h1.1,QB0 zs us h2]
  rfl
theorem QB1 {k:IntKind}: ∀ (l:List Int),Cs X w σ (List.flatMap (Ty.int k).cells l) (l.map (Value.int k))
 | []=>by simp [Cs]
 | z::zs=>by
  simp only [List.flatMap_cons,Ty.cells,List.singleton_append,Cs,C,List.map_cons]
  exact ⟨_,_,rfl,⟨rfl,rfl⟩,QB1 zs⟩
def lenOk {α:Type}(l:List α):Bool:=decide (l.length<4611686018427387904)
def sortI (l:List Int):List Int:=l.mergeSort fun x y=>decide (x≤y)
theorem QU0 {e:Nat}{k:IntKind}{l:List Int}{vs:List Value}(hl:Lent X w σ [.arr e (.int k) l])(hc:Cs X w σ (V.ds [.ms 50000]) vs)(he:e<1000000):
  ∃ u,vs=[u]∧σ 50000= .arr u∧w.ownsRow 0 e 1 u l.length (l.map (Value.int k))∧ ∀ b,u.ownBlock=some b→ ∀ o,X b o:=by
 obtain ⟨⟨u,xs,h1,h2,h3,h4,h5⟩,_⟩:=hl.at_ 0 _ rfl
 simp only [V.ds,V.d,Cs,C] at hc
 obtain ⟨u',us,rfl,⟨g1,_⟩,rfl⟩:=hc
 rw [h1] at g1
 injection g1 with g1
 subst g1
 have:=QB0 l xs h3
 subst this
 exact ⟨u,rfl,h1,h2.own he,h5⟩
theorem QzV {f:FuncId}{e:Nat}(hlt:f<1000000)
  (hs: ∀ (blk off cap:Nat) (zs:List Int) (w:World),Holds (Value.int .i64) w blk off zs.toArray→blk<w.heap.size→zs.length<4611686018427387904→
   Calls P f #[.slice (some ⟨blk,off,none⟩) zs.length cap] w fun e w'=>e= .returned (.tuple #[])∧ ∃ n os,w'=grow (putRow (Value.int .i64) (Sort.ahead w n) blk off (zs.mergeSort fun x y=>decide (x≤y)).toArray) os)
  (h0: ∀ (p:Option Addr) (cap:Nat) (w:World),Calls P f #[.slice p 0 cap] w fun e w'=>e= .returned (.tuple #[])∧w'=w) (he:e<1000000:=by decide):
  Meets P f (strip (specS [.ms 50000] [.arr e (.int .i64)] (fun _ y=>lenOk y.1) (fun _ _=> .tu []) (fun _ y=>[.arr e (.int .i64) (sortI y.1)]))):=by
 refine QKU fun x y hok X w σ vs hfin hl hc=> ?_
 obtain ⟨l,u0⟩:=y
 obtain ⟨u,rfl,h1,h2,h3⟩:=QU0 hl hc he
 have hok:l.length<4611686018427387904:=of_decide_eq_true hok
 have htu: ∀ (w':World),C X w' σ (V.tu []).d (.tuple #[]):=fun w'=>by
  simp only [V.d,V.ds,C,Cs]
  exact ⟨[],rfl,rfl⟩
 have hlen:(sortI l).length=l.length:=List.length_mergeSort _
 refine QuH hlt ?_
 have none_case: ∀ (p:Option Addr) cap,l=[]→u= .slice p 0 cap→Calls P f [u].toArray w fun e' w'=> ∃ u X' σ',e'= .returned u∧C X' w' σ' (V.tu []).d u∧Ends X w σ (mkOt [.arr e (.int .i64)] (l,u0)).length X' w' σ' [.arr e (.int .i64) (sortI l)]:=by
  intro p cap hl0 hu
  subst hl0 hu
  refine (h0 p cap w).mono ?_
  rintro _ _ ⟨rfl,rfl⟩
  refine ⟨_,X,σ,rfl,htu _,QCZ (row:=none) hfin ?_ ⟨rfl,rfl,rfl,Nat.le_refl _,fun _ _ _=>rfl⟩ (.inl rfl)⟩
  have h9:=(hl.at_ 0 _ rfl).1
  have e0:sortI []=[]:=by simp [sortI]
  rw [e0]
  exact h9
 rcases h2.2 with ⟨q1,q2⟩ | ⟨g,cap,cur,rfl,q2,q3,q4,q5,q6,q7⟩
 ·exact none_case none 0 (List.eq_nil_of_length_eq_zero q2) q1
 ·by_cases hz:l=[]
  ·exact none_case _ _ hz (by subst hz; rfl)
  ·have ht:cur.toList.take l.length=l.map (Value.int .i64):=by rw [Nat.mul_one] at q7; exact q7
   have hb:g<w.heap.size:=(Array.getElem?_eq_some_iff.1 q3).1
   refine (hs g 0 cap l w (holds_of_blockI q3 ht) hb hok).mono ?_
   rintro _ _ ⟨rfl,n,os,rfl⟩
   refine ⟨_,X,σ,rfl,htu _,QCZ (row:=some g) hfin ?_ (grownBy_sortedI _) (.inr (by rw [h1]; rfl))⟩
   have hown:=ownsRow_sortedI (n:=n) (os:=os) (ss:=l) (ts:=sortI l) hlen (Nat.zero_le g) q3 q4 q5 q6
   refine ⟨_,(sortI l).map (Value.int .i64),h1,by rw [hlen]; exact .of hown,QB1 _,fun x hx=> ?_,h3⟩
   obtain ⟨z,_,rfl⟩:=List.mem_map.1 hx
   rfl
end
end Go.Proofs.YtckcgijklnloiaaGreat.K
/-
 Interfaces:values that are put into them,methods that are called through them; functions of which there is more than one word.
-/
namespace Go.Proofs.YtckcgijklnloiaaGreat.K
open Go.RowKit
section
variable {P:Program}
end
end Go.Proofs.YtckcgijklnloiaaGreat.K
namespace Go.Proofs.YtckcgijklnloiaaGreat.K
open Go.RowKit
def cregs:Code→List (Array Oper)
 | .region _ ops _=>[ops]
 | .seq a b=>cregs a++cregs b
 | .cond _ a b=>cregs a++cregs b
 | .rangeFunc _ _ a b=>cregs a++cregs b
 | .block _ c=>cregs c
 | .loop c=>cregs c
 | _=>[]
noncomputable def opsT (f:Func)(i:Nat):Array Oper:=match f.body with
 | some c=>(cregs c).getD i #[]
 | none=> #[]
noncomputable def rT (f:Func)(i:Nat):List RO:=(opsT f i).toList.map (trR Tryz.prog (opsT f i))
noncomputable def dT (f:Func)(i:Nat):List DO:=(opsT f i).toList.map (trD Tryz.prog (opsT f i))
abbrev tI:Ty:= .int .i64
abbrev Qi3:Ty:=(.pr tI (.pr tI (.pr .bool (.pr (.int .u8) .nil))))
abbrev Qdf:Ty:=(.pr .str (.pr (.int .u64) .nil))
abbrev Qah:Ty:=(.pr tI (.pr tI .nil))
abbrev Keep:Type:=Int×(Int×Unit)
abbrev Qac:Ty:=(.pr tI (.pr .str (.pr .str (.pr Qah (.pr tI (.pr Qah (.pr tI (.pr tI (.pr .bool (.pr tI (.pr (.sl .str) (.pr Qah .nil))))))))))))
abbrev Qaa:Type:=Int×(ByteArray×(ByteArray×(Keep×(Int×(Keep×(Int×(Int×(Bool×(Int×((List ByteArray)×(Keep×Unit)))))))))))
abbrev Qaw:Ty:=(.pr Qah (.pr tI (.pr (.sl Qac) .nil)))
abbrev Qao:Type:=Keep×(Int×((List Qaa)×Unit))
abbrev Qad:Ty:=(.pr .str (.pr tI (.pr tI (.pr (.sl tI) (.pr .bool (.pr (.sl Qaw) (.pr (.sl tI) (.pr (.sl tI) (.pr .bool .nil)))))))))
abbrev Endpoint:Type:=ByteArray×(Int×(Int×((List Int)×(Bool×((List Qao)×((List Int)×((List Int)×(Bool×Unit))))))))
abbrev QbD:Ty:=(.pr Qah (.pr tI .nil))
abbrev Link:Type:=Keep×(Int×Unit)
abbrev QaU:Ty:=(.pr .str (.pr tI (.pr tI (.pr (.sl QbD) (.pr tI .nil)))))
abbrev Item:Type:=ByteArray×(Int×(Int×((List Link)×(Int×Unit))))
abbrev Qau:Ty:=(.pr (.sl Qad) (.pr (.sl Qah) (.pr (.sl QaU) .nil)))
abbrev Estate:Type:=(List Endpoint)×((List Keep)×((List Item)×Unit))
abbrev Qaq:Ty:=(.pr (.sl tI) (.pr tI .nil))
abbrev Dice:Type:=(List Int)×(Int×Unit)
abbrev QsC:Ty:=(.pr tI (.pr tI (.pr tI (.pr tI (.pr Qaw .nil)))))
abbrev Qay:Ty:=(.pr tI (.pr .str (.pr Qah (.pr Qah (.pr Qah (.pr Qah (.pr tI (.pr tI .nil))))))))
abbrev Suite:Type:=Int×(ByteArray×(Keep×(Keep×(Keep×(Keep×(Int×(Int×Unit)))))))
abbrev Qfe:Ty:=(.pr Qad (.pr tI (.pr (.sl tI) .nil)))
abbrev Talk:Type:=Endpoint×(Int×((List Int)×Unit))
abbrev Qdk:Ty:=(.pr .str (.pr tI .nil))
abbrev tyRow:Ty:=(.pr .str (.pr tI (.pr tI (.pr (.sl tI) (.pr (.sl tI) .nil)))))
abbrev Row:Type:=ByteArray×(Int×(Int×((List Int)×((List Int)×Unit))))
def TYl:List (Nat×Ty):=[(2,tI),(3,tI),(4, .bool),(5,(.int .u8)),(6,(.int .u8)),(7,Qi3),(8,Qi3),(9, .str),(10, .str),(11, .str),(12,(.int .u64)),(13,Qdf),(14,Qdf),(21,(.int .i32)),(22,(.sl tI)),(25,(.sl Qad)),(26,(.sl Qah)),(27,(.sl QaU)),(28,Qau),(29,Qau),(34,(.sl Qah)),(35,tI),(38,Qah),(39,Qah),(45,Qah),(46,Qah),(47,(.sl Qaw)),(48,Qad),(49,Qad),(55,(.int .u16)),(59,(.sl QsC)),(63,(.sl tI)),(65,(.sl Qau)),(66,Qah),(67,(.sl Qah)),(74,(.sl .str)),(77,(.sl QbD)),(78,QaU),(79,QaU),(82,Qaq),(83,Qaq),(94,(.sl (.sl tI))),(95,Qah),(96,Qah),(97,(.sl Qac)),(98,Qaw),(99,Qaw),(102,(.sl Qah)),(115,QsC),(116,QsC),(127,QbD),(128,QbD),(135,Qah),(136,Qah),(137,Qac),(138,Qac),(141,Qay),(142,Qay),(151,Qfe),(152,Qfe),(160,Qah),(162,(.pr tI (.pr tI (.pr tI .nil)))),(168,(.sl tI)),(170,Qdk),(171,Qdk),(172,(.sl Qdk)),(182,(.sl (.int .u8))),(186,(.sl Qay)),(200,(.sl Qaj)),(201,(.pr tI (.pr (.sl (.int .u8)) (.pr .bool (.pr (.sl Qaj) .nil))))),(202,Qaj),(204,(.int .u32)),(209,(.int .u64)),(221,tyRow),(222,tyRow),(234,tI),(243,(.int .u64)),(247,(.pr tyRow (.pr tyRow (.pr tyRow (.pr tyRow (.pr tyRow (.pr tyRow (.pr tyRow (.pr tyRow (.pr tyRow (.pr tyRow (.pr tyRow (.pr tyRow (.pr tyRow (.pr tyRow (.pr tyRow (.pr tyRow (.pr tyRow (.pr tyRow (.pr tyRow (.pr tyRow (.pr tyRow (.pr tyRow (.pr tyRow .nil)))))))))))))))))))))))),(249,(.pr Qah (.pr Qah (.pr Qah (.pr Qah (.pr Qah .nil)))))),(252,(.int .u64)),(274,(.int .u8)),(275,(.int .u8)),(278,(.int .i32)),(279,(.int .i32))]
def TYs (e:Nat):Option Ty:=TYl.lookup e
def keeps:List Nat:=[135]
theorem mixed:Tryz.prog.follows .mixedOrders=true:=by kernel_rfl
def Qgz:Ent:=spec (.pr Qah (.pr tI .nil)) (fun x=>(arrOk tI 2 x.1 x.2.1)) (fun x=>(.t tI (QbA tI 2 x.1 x.2.1)))
theorem Qrg:Qag Tryz.prog 1002562:= .inl (by kernel_rfl)
theorem Qqq:Meets Tryz.prog 1002562 (strip Qgz):=QfW (t:=160) (e:=35) (n:=2) (y:=tI) (k:= .i64) (by kernel_rfl) (by kernel_rfl) (by kernel_rfl) (by decide)
def Qgy:Ent:=spec (.pr (.pr tI (.pr tI (.pr tI .nil))) (.pr tI .nil)) (fun x=>(arrOk tI 3 x.1 x.2.1)) (fun x=>(.t tI (QbA tI 3 x.1 x.2.1)))
theorem Qrf:Qag Tryz.prog 1002594:= .inl (by kernel_rfl)
theorem Qqp:Meets Tryz.prog 1002594 (strip Qgy):=QfW (t:=162) (e:=35) (n:=3) (y:=tI) (k:= .i64) (by kernel_rfl) (by kernel_rfl) (by kernel_rfl) (by decide)
def Qgx:Ent:=spec (.pr (.pr tyRow (.pr tyRow (.pr tyRow (.pr tyRow (.pr tyRow (.pr tyRow (.pr tyRow (.pr tyRow (.pr tyRow (.pr tyRow (.pr tyRow (.pr tyRow (.pr tyRow (.pr tyRow (.pr tyRow (.pr tyRow (.pr tyRow (.pr tyRow (.pr tyRow (.pr tyRow (.pr tyRow (.pr tyRow (.pr tyRow .nil))))))))))))))))))))))) (.pr tI .nil)) (fun x=>(arrOk tyRow 23 x.1 x.2.1)) (fun x=>(.t tyRow (QbA tyRow 23 x.1 x.2.1)))
theorem Qre:Qag Tryz.prog 1003954:= .inl (by kernel_rfl)
theorem Qqo:Meets Tryz.prog 1003954 (strip Qgx):=QfW (t:=247) (e:=222) (n:=23) (y:=tyRow) (k:= .i64) (by kernel_rfl) (by kernel_rfl) (by kernel_rfl) (by decide)
def Qgw:Ent:=spec (.pr (.pr Qah (.pr Qah (.pr Qah (.pr Qah (.pr Qah .nil))))) (.pr tI .nil)) (fun x=>(arrOk Qah 5 x.1 x.2.1)) (fun x=>(.t Qah (QbA Qah 5 x.1 x.2.1)))
theorem Qrd:Qag Tryz.prog 1003986:= .inl (by kernel_rfl)
theorem Qqn:Meets Tryz.prog 1003986 (strip Qgw):=QfW (t:=249) (e:=66) (n:=5) (y:=Qah) (k:= .i64) (by kernel_rfl) (by kernel_rfl) (by kernel_rfl) (by decide)
def Qa6:Ent:=spec (.pr .str .nil) (fun x=>(Qbi x.1)) (fun x=>(.t (.sl (.int .u8)) (QaI x.1)))
theorem Qbw:Qag Tryz.prog 30120144:= .inl (by kernel_rfl)
theorem Qbu:Meets Tryz.prog 30120144 (strip Qa6):=QzY (a:=9) (b:=182) (e:=5) (by kernel_rfl) (by kernel_rfl) (by kernel_rfl) (by decide)
theorem mG {g:G}{f:FuncId}{fn:Func}{tc:TC}{rv:List (RV×Option Ty)}{ro:Bool}(hf:Tryz.prog.funcs[f]? = some fn)(ok:Option.map (trC Tryz.prog) fn.body=some tc.er)(hn:fn.ntmps=g.n)(hr:trVs Tryz.prog fn.results.toList=some (rv.map Prod.fst))(hg:GOk Tryz.prog g)(hl:tc.lok g)(hlt:f<1000000:=by decide):Meets Tryz.prog f (runF g tc rv ro):=by
 obtain ⟨c,hc,hi⟩:=Option.map_eq_some_iff.1 ok
 exact QPx hlt hf hc hi hn hr hg hl mixed
def AllE:List (Nat×Ent)→Prop
 | []=>True
 | p::l=>(Qag Tryz.prog p.1∧Meets Tryz.prog p.1 (strip p.2))∧AllE l
theorem gA: ∀ {l:List (Nat×Ent)},AllE l→ ∀ p ∈ l,Qag Tryz.prog p.1∧Meets Tryz.prog p.1 (strip p.2)
 | [],_,p,hp=>by cases hp
 | q::l,h,p,hp=>by
  rcases List.mem_cons.1 hp with rfl | hp
  ·exact h.1
  ·exact gA h.2 p hp
theorem gC {k:Nat}{e:Ent}{l:List (Nat×Ent)}(h1:Qag Tryz.prog k)(h2:Meets Tryz.prog k (strip e))(h:AllE l):AllE ((k,e)::l):=⟨⟨h1,h2⟩,h⟩
theorem gN:AllE []:=trivial
end Go.Proofs.YtckcgijklnloiaaGreat.K
namespace Go.Proofs.YtckcgijklnloiaaGreat.K
open Go.RowKit
theorem QaC {y:Ty}{l:List y.T}{j:Nat}(h:j<l.length):lgt y l j=l[j]:=by
 unfold lgt
 rw [List.getD_eq_getElem?_getD,List.getElem?_eq_getElem h]
 rfl
theorem add1 {k:Nat}(h:k<4611686018427387904):iadd .i64 (k:Int) 1=((k+1:Nat):Int):=by
 unfold iadd
 rw [Go.IntWalk.i64_in _ (by omega)]
 rfl
theorem QaV {a b:Int}(h: -9223372036854775808≤a+b∧a+b≤9223372036854775807):iadd .i64 a b=a+b:=Go.IntWalk.i64_in _ h
theorem Qbg {a b:Int}(h: -9223372036854775808≤a - b∧a - b≤9223372036854775807):isub .i64 a b=a - b:=Go.IntWalk.i64_in _ h
theorem QX0 {a b:Int}(h: -9223372036854775808≤a * b∧a * b≤9223372036854775807):imul .i64 a b=a * b:=Go.IntWalk.i64_in _ h
theorem Qax {α:Type}{l:List α}{k:Nat}:cIx l (k:Int)=decide (k<l.length):=by
 unfold cIx
 congr 1
 exact propext ⟨fun h=>by omega,fun h=>by omega⟩
theorem Qar {a b:Nat}:ilt (a:Int) (b:Int)=decide (a<b):=by
 unfold ilt
 congr 1
 exact propext ⟨fun h=>by omega,fun h=>by omega⟩
theorem Qlg {p:Prop}[Decidable p](h:p):decide p=true:=by simp [h]
theorem QNl {p:Prop}[Decidable p](h: ¬ p):decide p=false:=by simp [h]
theorem Qat {α:Type}(l:List α)(P:Nat→Prop)(h0:P l.length)(hs: ∀ k,k<l.length→P (k+1)→P k): ∀ k,k≤l.length→P k:=by
 intro k hk
 induction hn:l.length - k generalizing k with
 | zero=>
  have:k=l.length:=by omega
  subst this
  exact h0
 | succ n ih=>exact hs k (by omega) (ih (k+1) (by omega) (by omega))
theorem QSy (N:Nat)(P:Nat→Prop)(h0:P N)(hs: ∀ k,k<N→P (k+1)→P k): ∀ k,k≤N→P k:=by
 intro k hk
 induction hn:N - k generalizing k with
 | zero=>
  have:k=N:=by omega
  subst this
  exact h0
 | succ n ih=>exact hs k (by omega) (ih (k+1) (by omega) (by omega))
def idxOk {α:Type}(l:List α)(i:Int):Bool:=decide (0≤i∧i≤l.length∧l.length≤100000)
def rngOk {α:Type}(l:List α)(n i:Int):Bool:=decide (n=l.length∧0≤i∧i≤n∧l.length≤100000)
theorem rng_k {α:Type}{l:List α}{n i:Int}(h:rngOk l n i=true):n=l.length∧l.length≤100000∧ ∃ k:Nat,i=k∧k≤l.length:=by
 simp only [rngOk,decide_eq_true_eq] at h
 obtain ⟨h1,h2,h3,h4⟩:=h
 exact ⟨h1,h4,i.toNat,by omega,by omega⟩
theorem rng_0 {α:Type}{l:List α}(h:l.length≤100000):rngOk l (llen l) 0=true:=by
 simp only [rngOk,decide_eq_true_eq,llen]
 exact ⟨trivial,by omega,by omega,h⟩
theorem Q0r {α:Type}{l l2:List α}{b:Nat}(h:l.length+l2.length≤1000000)(hb:b≤1000):cApp l l2 b=true:=by
 unfold cApp
 rw [decide_eq_true_eq]
 calc (l.length+l2.length) * (b+1)≤1000000 * 1001:=Nat.mul_le_mul h (by omega)
  _≤140737488355328:=by decide
theorem Qvi {x y:Bool}{l:List VO}(h:x=y):some (V.t .bool x,l)=some (V.t .bool y,l):=by rw [h]
theorem Qdb {a b:Int}:ieq a b=decide (a=b):=by
 unfold ieq
 rw [Bool.beq_eq_decide_eq]
def light (l:List Int):Bool:=decide (l.length≤400)
noncomputable def tc_f9:TC:=(.sq (.reg (rT Tryz.f9 0)) (.sq (.reg (rT Tryz.f9 1)) .rt))
def rv_f9:List (RV×Option Ty):=[((.t 2),some .bool)]
def g_f9:G:=⟨TYs,[],6,EL [],keeps,(fun _ _=>none),IL [],RL []⟩
def r_f9 (p0:List Int):Option (V×List VO):=some (.t .bool (ile (llen p0) 400),[])
theorem e_f9 (p0:List Int):runF g_f9 tc_f9 rv_f9 false [.t (.sl tI) p0] []=r_f9 p0:=by kernel_rfl
theorem en_f9:Qag Tryz.prog 9:= .inr ⟨by decide,_,Tryz.func9,by kernel_rfl,by kernel_rfl⟩
theorem gk_f9:GOk Tryz.prog g_f9:=Qak _ (fun p hp=>by cases hp)
theorem lk_f9:tc_f9.lok g_f9:=by repeat (first | exact trivial | refine ⟨?_, ?_⟩)
theorem s_f9 (l:List Int):r_f9 l=some (.t .bool (light l),[]):=by
 simp only [r_f9,light]
 congr 3
 unfold ile llen
 congr 1
 exact propext ⟨fun h=>by omega,fun h=>by omega⟩
def sp_f9:Ent:=spec (.pr (.sl tI) .nil) (fun x=>true) (fun x=>(.t .bool (light x.1)))
theorem ms_f9:Meets Tryz.prog 9 (strip sp_f9):=Qaf (R:=runF g_f9 tc_f9 rv_f9 false) (mG Tryz.func9 (by kernel_rfl) Tryz.ntmps9 (by kernel_rfl) gk_f9 lk_f9) fun x _=>(e_f9 x.1).trans (s_f9 x.1)
def dmod (n k:Int):Int:=if k<1 then 0 else n % k
def Qsp (_n k:Int):Bool:=decide (k.toNat<4611686018427387904)
noncomputable def QF5:TC:=(.sq (.reg (rT Tryz.f13 0)) (.sq (.sq (.reg (rT Tryz.f13 1)) (.cd (.t 6) (.sq (.reg (rT Tryz.f13 2)) .rt) .sk)) (.sq (.reg (rT Tryz.f13 3)) .rt)))
def QTI:List (RV×Option Ty):=[((.t 4),some tI)]
def g_f13:G:=⟨TYs,[],14,EL [],keeps,(fun _ _=>none),IL [],RL []⟩
def r_f13 (p0 p1:Int):Option (V×List VO):=br (ilt p1 1) (some (.t tI 0,[])) (br (cNz p1) (br (cNz p1) (some (.t tI (irem (iadd .i64 (irem p0 p1) p1) p1),[])) none) none)
theorem e_f13 (p0 p1:Int):runF g_f13 QF5 QTI false [.t tI p0, .t tI p1] []=r_f13 p0 p1:=by kernel_rfl
theorem QUz:Qag Tryz.prog 13:= .inr ⟨by decide,_,Tryz.func13,by kernel_rfl,by kernel_rfl⟩
theorem gk_f13:GOk Tryz.prog g_f13:=Qak _ (fun p hp=>by cases hp)
theorem lk_f13:QF5.lok g_f13:=by repeat (first | exact trivial | refine ⟨?_, ?_⟩)
theorem s_f13 (n k:Int)(h:Qsp n k=true):r_f13 n k=some (.t tI (dmod n k),[]):=by
 simp only [Qsp,decide_eq_true_eq] at h
 simp only [r_f13]
 refine QaE (fun h1=> ?_) (fun h1=> ?_)
 ·have h1:k<1:=by simpa [ilt] using h1
  simp [dmod,h1]
 ·have h1: ¬ k<1:=by simpa [ilt] using h1
  have hk:cNz k=true:=by simp [cNz]; omega
  simp only [hk,Qab]
  have h3: -k<n.tmod k:=by
   have:=Int.lt_tmod_of_pos n (show 0<k by omega)
   exact this
  have h4:n.tmod k<k:=Int.tmod_lt_of_pos n (by omega)
  have e1:iadd .i64 (irem n k) k=n.tmod k+k:=QaV (by unfold irem; omega)
  rw [e1]
  have e2:irem (n.tmod k+k) k=n % k:=by
   unfold irem
   rw [Int.tmod_eq_emod_of_nonneg (by omega),Int.add_emod_right,Int.tmod_def]
   exact Int.sub_mul_emod_self_left n k _
  rw [e2]
  simp [dmod,h1]
def QHe:Ent:=spec (.pr tI (.pr tI .nil)) (fun x=>(Qsp x.1 x.2.1)) (fun x=>(.t tI (dmod x.1 x.2.1)))
theorem QUg:Meets Tryz.prog 13 (strip QHe):=Qaf (R:=runF g_f13 QF5 QTI false) (mG Tryz.func13 (by kernel_rfl) Tryz.ntmps13 (by kernel_rfl) gk_f13 lk_f13) fun x hok=>(e_f13 x.1 x.2.1).trans (s_f13 x.1 x.2.1 hok)
def roll (l:List Int):Dice:=(l,0,())
noncomputable def QF6:TC:=(.sq (.reg (rT Tryz.f12 0)) (.sq (.reg (rT Tryz.f12 1)) .rt))
def QTJ:List (RV×Option Ty):=[((.t 2),none)]
def g_f12:G:=⟨TYs,[],6,EL [],keeps,(fun _ _=>none),IL [],RL []⟩
def r_f12 (p0:List Int):Option (V×List VO):=some (.ptr 50000 0,[.box (.ag [(.t (.sl tI) p0),(.t tI 0)])])
theorem e_f12 (p0:List Int):runF g_f12 QF6 QTJ false [.t (.sl tI) p0] []=r_f12 p0:=by kernel_rfl
theorem en_f12:Qag Tryz.prog 12:= .inr ⟨by decide,_,Tryz.func12,by kernel_rfl,by kernel_rfl⟩
theorem gk_f12:GOk Tryz.prog g_f12:=Qak _ (fun p hp=>by cases hp)
theorem lk_f12:QF6.lok g_f12:=by repeat (first | exact trivial | refine ⟨?_, ?_⟩)
theorem s_f12 (l:List Int): ∃ c,r_f12 l=some (.ptr 50000 0,[.box c])∧c.as Qaq=some (roll l):=⟨_,rfl,rfl⟩
def QSZ:Ent:=specN Qaq (.pr (.sl tI) .nil) (fun x=>true) (fun x=>(roll x.1))
theorem ms_f12:Meets Tryz.prog 12 (strip QSZ):=QzU (R:=runF g_f12 QF6 QTJ false) (mG Tryz.func12 (by kernel_rfl) Tryz.ntmps12 (by kernel_rfl) gk_f12 lk_f12) rfl fun x _=>(s_f12 x.1).imp fun c h=>⟨(e_f12 x.1).trans h.1,h.2⟩
def dval (d:Dice)(n:Int):Int:=if d.2.1≥d.1.length then 0 else dmod (d.1.getD d.2.1.toNat 0) n
def dnext (d:Dice)(_n:Int):Dice:=if d.2.1≥d.1.length then d else (d.1,d.2.1+1,())
def dOk (d:Dice):Bool:=decide (0≤d.2.1∧d.1.length≤400)
def Qav (d:Dice)(n:Int):Bool:=dOk d&&decide (n<4611686018427387904)
noncomputable def QRq:List DO:=dT Tryz.f35 1
noncomputable def QRp:List DO:=dT Tryz.f35 4
noncomputable def QF0:TC:=(.sq (.reg (rT Tryz.f35 0)) (.sq (.sq (.dr QRq [(0,[50000]),(1,[50000]),(2,[50000]),(3,[50000]),(4,[50000]),(5,[50000]),(6,[50000]),(7,[50000]),(8,[]),(9,[])] (.of [0,1,2,3,4,5,6,7,8,9])) (.cd (.t 14) (.sq (.reg (rT Tryz.f35 2)) .rt) .sk)) (.sq (.reg (rT Tryz.f35 3)) (.sq (.dr QRp [(0,[50000]),(1,[50000]),(2,[50000]),(3,[50000]),(4,[50000]),(5,[50000]),(6,[50000]),(7,[50000]),(8,[]),(9,[]),(10,[]),(11,[]),(12,[]),(13,[])] (.of [0,1,2,3,4,5,6,7,8,9,10,11,12,13])) .rt))))
def QTD:List (RV×Option Ty):=[((.t 4),some tI)]
def g_f35:G:=⟨TYs,[],35,EL [(13,QHe)],keeps,(fun _ _=>none),IL [],RL []⟩
def r_f35 (d0:Dice)(p1:Int):Option (V×List VO):=
 let a1:=isub .i64 (iadd .i64 d0.2.1 1) 1
 let a2:=lgt tI d0.1 (Int.toNat a1)
 br (ige d0.2.1 (llen d0.1)) (some (.t tI 0,[.box (.t Qaq d0)])) (br (cIx d0.1 a1) (br (Qsp a2 p1) (some (.t tI (dmod a2 p1),[.box (.t Qaq (d0.1,((iadd .i64 d0.2.1 1),d0.2.2)))])) none) none)
theorem e_f35 (d0:Dice)(p1:Int):runF g_f35 QF0 QTD false [.ptr 50000 0, .t tI p1] [.box (.t Qaq d0)]=r_f35 d0 p1:=by kernel_rfl
theorem Qiy:Qag Tryz.prog 35:= .inr ⟨by decide,_,Tryz.func35,by kernel_rfl,by kernel_rfl⟩
theorem gk_f35:GOk Tryz.prog g_f35:=Qak _ (gA (gC QUz QUg gN))
theorem lk_f35:QF0.lok g_f35:=by repeat (first | exact trivial | refine ⟨?_, ?_⟩)
theorem s_f35 (d:Dice)(n:Int)(h:Qav d n=true):r_f35 d n=some (.t tI (dval d n),[.box (.t Qaq (dnext d n))]):=by
 simp only [Qav,dOk,Bool.and_eq_true,decide_eq_true_eq] at h
 obtain ⟨⟨h1,h2⟩,h3⟩:=h
 obtain ⟨l,at_,_⟩:=d
 simp only at h1 h2
 obtain ⟨k,rfl⟩: ∃ k:Nat,at_=k:=⟨at_.toNat,by omega⟩
 simp only [r_f35]
 refine QaE (fun h4=> ?_) (fun h4=> ?_)
 ·have h4:l.length≤k:=by simp [ige,llen] at h4; omega
  have h5:(k:Int)≥l.length:=by omega
  simp [dval,dnext,h5]
 ·have h4:k<l.length:=by simp [ige,llen] at h4; omega
  have h5: ¬ (k:Int)≥l.length:=by omega
  have e1:iadd .i64 (k:Int) 1=((k+1:Nat):Int):=add1 (by omega)
  have e2:isub .i64 ((k+1:Nat):Int) 1=(k:Int):=by rw [Qbg (by omega)]; omega
  rw [e1,e2,Qax,Qlg h4,Qab]
  have e3:Qsp (lgt tI l (Int.toNat (k:Int))) n=true:=decide_eq_true (by omega)
  rw [e3,Qab]
  simp only [dval,dnext,h5,if_false]
  rfl
def QgA:Ent:=specP Qaq (.pr tI .nil) (fun d x=>(Qav d x.1)) (fun d x=>(.t tI (dval d x.1))) (fun d x=>(dnext d x.1))
theorem Qiu:Meets Tryz.prog 35 (strip QgA):=Qa7 (R:=runF g_f35 QF0 QTD false) (mG Tryz.func35 (by kernel_rfl) Tryz.ntmps35 (by kernel_rfl) gk_f35 lk_f35) rfl fun d x hok=>(e_f35 d x.1).trans (s_f35 d x.1 hok)
def done (d:Dice)(n:Int):Bool:=dval d n == n - 1
def oneOk (d:Dice)(n:Int):Bool:=Qav d n&&decide (0≤n)
noncomputable def QFQ:TC:=(.sq (.reg (rT Tryz.f46 0)) (.sq (.reg (rT Tryz.f46 1)) .rt))
def QTt:List (RV×Option Ty):=[((.t 4),some .bool)]
def g_f46:G:=⟨TYs,[],11,EL [(35,QgA)],keeps,(fun _ _=>none),IL [],RL []⟩
def r_f46 (d0:Dice)(p1:Int):Option (V×List VO):=br (Qav d0 p1) (some (.t .bool (ieq (dval d0 p1) (isub .i64 p1 1)),[.box (.t Qaq (dnext d0 p1))])) none
theorem e_f46 (d0:Dice)(p1:Int):runF g_f46 QFQ QTt false [.ptr 50000 0, .t tI p1] [.box (.t Qaq d0)]=r_f46 d0 p1:=by kernel_rfl
theorem QC4:Qag Tryz.prog 46:= .inr ⟨by decide,_,Tryz.func46,by kernel_rfl,by kernel_rfl⟩
theorem gk_f46:GOk Tryz.prog g_f46:=Qak _ (gA (gC Qiy Qiu gN))
theorem lk_f46:QFQ.lok g_f46:=by repeat (first | exact trivial | refine ⟨?_, ?_⟩)
theorem s_f46 (d:Dice)(n:Int)(h:oneOk d n=true):r_f46 d n=some (.t .bool (done d n),[.box (.t Qaq (dnext d n))]):=by
 simp only [oneOk,Bool.and_eq_true,decide_eq_true_eq] at h
 simp only [r_f46]
 rw [h.1,Qab]
 have h2:=h.1
 simp only [Qav,Bool.and_eq_true,decide_eq_true_eq] at h2
 rw [Qbg (by omega)]
 rfl
def Qvf:Ent:=specP Qaq (.pr tI .nil) (fun d x=>(oneOk d x.1)) (fun d x=>(.t .bool (done d x.1))) (fun d x=>(dnext d x.1))
theorem QBB:Meets Tryz.prog 46 (strip Qvf):=Qa7 (R:=runF g_f46 QFQ QTt false) (mG Tryz.func46 (by kernel_rfl) Tryz.ntmps46 (by kernel_rfl) gk_f46 lk_f46) rfl fun d x hok=>(e_f46 d x.1).trans (s_f46 d x.1 hok)
def dof (d:Dice)(l:List Int):Int:=l.getD (dval d l.length).toNat 0
def dofN (d:Dice)(l:List Int):Dice:=dnext d l.length
def ofOk (d:Dice)(l:List Int):Bool:=dOk d&&decide (0<l.length∧l.length<4611686018427387904)
noncomputable def QFR:TC:=(.sq (.reg (rT Tryz.f45 0)) (.sq (.reg (rT Tryz.f45 1)) .rt))
def QTu:List (RV×Option Ty):=[((.t 4),some tI)]
def g_f45:G:=⟨TYs,[],12,EL [(35,QgA)],keeps,(fun _ _=>none),IL [],RL []⟩
def r_f45 (d0:Dice)(p1:List Int):Option (V×List VO):=br (Qav d0 (llen p1)) (br (cIx p1 (dval d0 (llen p1))) (some (.t tI (lgt tI p1 (Int.toNat (dval d0 (llen p1)))),[.box (.t Qaq (dnext d0 (llen p1)))])) none) none
theorem e_f45 (d0:Dice)(p1:List Int):runF g_f45 QFR QTu false [.ptr 50000 0, .t (.sl tI) p1] [.box (.t Qaq d0)]=r_f45 d0 p1:=by kernel_rfl
theorem Qrh:Qag Tryz.prog 45:= .inr ⟨by decide,_,Tryz.func45,by kernel_rfl,by kernel_rfl⟩
theorem gk_f45:GOk Tryz.prog g_f45:=Qak _ (gA (gC Qiy Qiu gN))
theorem lk_f45:QFR.lok g_f45:=by repeat (first | exact trivial | refine ⟨?_, ?_⟩)
theorem QaP {d:Dice}{n:Int}(h:0<n):0≤dval d n∧dval d n<n:=by
 unfold dval
 split
 ·omega
 ·unfold dmod
  rw [if_neg (by omega)]
  exact ⟨Int.emod_nonneg _ (by omega),Int.emod_lt_of_pos _ (by omega)⟩
theorem s_f45 (d:Dice)(l:List Int)(h:ofOk d l=true):r_f45 d l=some (.t tI (dof d l),[.box (.t Qaq (dofN d l))]):=by
 simp only [ofOk,Bool.and_eq_true,decide_eq_true_eq] at h
 obtain ⟨h1,h2,h3⟩:=h
 simp only [r_f45]
 have e1:Qav d (llen l)=true:=by simp only [Qav,h1,llen,Bool.true_and,decide_eq_true_eq]; omega
 rw [e1,Qab]
 have h4:=QaP (d:=d) (n:=llen l) (by unfold llen; omega)
 have e2:cIx l (dval d (llen l))=true:=by simp only [cIx,decide_eq_true_eq]; exact h4
 rw [e2,Qab]
 rfl
def Ql4:Ent:=specP Qaq (.pr (.sl tI) .nil) (fun d x=>(ofOk d x.1)) (fun d x=>(.t tI (dof d x.1))) (fun d x=>(dofN d x.1))
theorem Qqr:Meets Tryz.prog 45 (strip Ql4):=Qa7 (R:=runF g_f45 QFR QTu false) (mG Tryz.func45 (by kernel_rfl) Tryz.ntmps45 (by kernel_rfl) gk_f45 lk_f45) rfl fun d x hok=>(e_f45 d x.1).trans (s_f45 d x.1 hok)
theorem Qal {d:Dice}{n:Int}(h:dOk d=true):dOk (dnext d n)=true:=by
 simp only [dOk,decide_eq_true_eq] at h ⊢
 unfold dnext
 split
 ·exact h
 ·exact ⟨by simp only; omega,h.2⟩
theorem QRv {l:List Int}(h:light l=true):dOk (roll l)=true:=by
 simp only [light,decide_eq_true_eq] at h
 simp [dOk,roll,h]
end Go.Proofs.YtckcgijklnloiaaGreat.K
namespace Go.Proofs
open Go.Shelf
def Tryz.lays189_ren:Go.Shelf.Ren:=⟨fun | 189=>135 | 125=>162 | 257=>161 | 128=>199 | 129=>200 | 294=>190 | 295=>191 | 296=>192 | 297=>193 | 298=>194 | 299=>195 | 216=>196 | 300=>197 | 301=>198 | 328=>213 | 329=>214 | 330=>215 | 331=>216 | 332=>217 | 215=>218 | 343=>230 | n=>n,fun | 28=>22 | 3=>3 | 46=>209 | 0=>0 | 51=>204 | 53=>243 | 4=>4 | 183=>235 | 182=>234 | 131=>110 | 5=>5 | 9=>9 | 218=>252 | 222=>256 | 228=>261 | 229=>216 | n=>n,fun | n=>n⟩
theorem Tryz.lays189:Go.Proofs.Lays.n189 Tryz.prog Tryz.lays189_ren:={
 mixed:=by kernel_rfl
 f125:=Tryz.func162.trans (congrArg some (by kernel_rfl))
 f128:=Tryz.func199.trans (congrArg some (by kernel_rfl))
 f129:=Tryz.func200.trans (congrArg some (by kernel_rfl))
 f189:=Tryz.func135.trans (congrArg some (by kernel_rfl))
 f215:=Tryz.func218.trans (congrArg some (by kernel_rfl))
 f216:=Tryz.func196.trans (congrArg some (by kernel_rfl))
 f257:=Tryz.func161.trans (congrArg some (by kernel_rfl))
 f294:=Tryz.func190.trans (congrArg some (by kernel_rfl))
 f295:=Tryz.func191.trans (congrArg some (by kernel_rfl))
 f296:=Tryz.func192.trans (congrArg some (by kernel_rfl))
 f297:=Tryz.func193.trans (congrArg some (by kernel_rfl))
 f298:=Tryz.func194.trans (congrArg some (by kernel_rfl))
 f299:=Tryz.func195.trans (congrArg some (by kernel_rfl))
 f300:=Tryz.func197.trans (congrArg some (by kernel_rfl))
 f301:=Tryz.func198.trans (congrArg some (by kernel_rfl))
 f328:=Tryz.func213.trans (congrArg some (by kernel_rfl))
 f329:=Tryz.func214.trans (congrArg some (by kernel_rfl))
 f330:=Tryz.func215.trans (congrArg some (by kernel_rfl))
 f331:=Tryz.func216.trans (congrArg some (by kernel_rfl))
 f332:=Tryz.func217.trans (congrArg some (by kernel_rfl))
 f343:=Tryz.func230.trans (congrArg some (by kernel_rfl))
 t0:=Tryz.underlying0
 a0:=Tryz.isAgg0
 z0:=Tryz.sizeOf0
 v0:=Tryz.zeroValue0
 t3:=Tryz.underlying3
 a3:=Tryz.isAgg3
 z3:=Tryz.sizeOf3
 v3:=Tryz.zeroValue3
 t4:=Tryz.underlying4
 a4:=Tryz.isAgg4
 z4:=Tryz.sizeOf4
 v4:=Tryz.zeroValue4
 t5:=Tryz.underlying5
 a5:=Tryz.isAgg5
 z5:=Tryz.sizeOf5
 v5:=Tryz.zeroValue5
 t9:=Tryz.underlying9
 a9:=Tryz.isAgg9
 z9:=Tryz.sizeOf9
 v9:=Tryz.zeroValue9
 t28:=Tryz.underlying22
 a28:=Tryz.isAgg22
 z28:=Tryz.sizeOf22
 v28:=Tryz.zeroValue22
 t46:=Tryz.underlying209
 a46:=Tryz.isAgg209
 z46:=Tryz.sizeOf209
 v46:=Tryz.zeroValue209
 t51:=Tryz.underlying204
 a51:=Tryz.isAgg204
 z51:=Tryz.sizeOf204
 v51:=Tryz.zeroValue204
 t53:=Tryz.underlying243
 a53:=Tryz.isAgg243
 z53:=Tryz.sizeOf243
 v53:=Tryz.zeroValue243
 t131:=Tryz.underlying110
 a131:=Tryz.isAgg110
 z131:=Tryz.sizeOf110
 v131:=Tryz.zeroValue110
 t182:=Tryz.underlying234
 a182:=Tryz.isAgg234
 z182:=Tryz.sizeOf234
 v182:=Tryz.zeroValue234
 t183:=Tryz.underlying235
 a183:=Tryz.isAgg235
 z183:=Tryz.sizeOf235
 v183:=Tryz.zeroValue235
 t218:=Tryz.underlying252
 a218:=Tryz.isAgg252
 z218:=Tryz.sizeOf252
 v218:=Tryz.zeroValue252
 t222:=Tryz.underlying256
 a222:=Tryz.isAgg256
 z222:=Tryz.sizeOf256
 v222:=Tryz.zeroValue256
 t228:=Tryz.underlying261
 a228:=Tryz.isAgg261
 z228:=Tryz.sizeOf261
 v228:=Tryz.zeroValue261
 t229:=Tryz.underlying216
 a229:=Tryz.isAgg216
 z229:=Tryz.sizeOf216
 v229:=Tryz.zeroValue216}
end Go.Proofs
namespace Go.Proofs.YtckcgijklnloiaaGreat.K
open Go.RowKit Go.Shelf
def QHa:Ent:=specS [.ms 50000] [.arr 3 tI] (fun _ y=>(lenOk y.1)) (fun _ _=> .tu []) (fun _ y=>[.arr 3 tI (sortI y.1)])
theorem QZ0:Qag Tryz.prog 135:= .inr ⟨by decide,_,Tryz.func135,by kernel_rfl,by kernel_rfl⟩
theorem QVU:Meets Tryz.prog 135 (strip QHa):=
 QzV (by decide) (Any.slices_Sort_int Tryz.lays189) (Any.slices_Sort_int_none Tryz.lays189)
end Go.Proofs.YtckcgijklnloiaaGreat.K
