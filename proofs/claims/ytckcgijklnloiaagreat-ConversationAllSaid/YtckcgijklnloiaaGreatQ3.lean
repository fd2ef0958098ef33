import Derived.Test.YtckcgijklnloiaaGreatQ2
import Derived.WalkKit
import Derived.ProofKit
import Derived.OpenShut
import Derived.ShutString
import Derived.ChangeOld
import Derived.Below
import Derived.Deep.Slices
import Derived.Deep.Fields
import Derived.Laws.BytesString
import Derived.Sort.OwnSortedInts
import Derived.Lib.SlicesCompact
import Derived.Test.YtckcgijklnloiaaGreatProg
import Derived.KernelRfl
import Derived.IntWalk
import Derived.Shelf.Sort.Plain
import Derived.Ground.NamesProg
import Derived.Ground.Names2Prog
import Derived.Shelf.Slices.In.SortNone
import Derived.Shelf.Slices.CompactI
set_option linter.unusedSimpArgs false
set_option linter.unusedVariables false
noncomputable section
/-
 A run through a function's text:what it makes,the program's function makes.
-/
namespace Go.Proofs.YtckcgijklnloiaaGreat.K
open Go.RowKit
section
variable {P:Program}{B:Base}{X X':Nat->Nat->Prop}{w w':World}{σ σ':Pl}{n:Nat}{S:VS}{us:List Value}
theorem QMZ {g:G}(hg:GOk P g)(hm:P.follows .mixedOrders=true): ∀ (tc:TC) {B:Base} {ro:Option Nat} {β:Type} {S:VS} {K:Exit->VS->Option β} {r:β},ro=none∨tc.nrf=true->tc.lok g->ev g tc S K=some r->JV P B g.n ro (fun e S'=>K e S'=some r) tc.er S:=by
 intro tc
 induction tc with
 |sk=>
  intro B ro β S K r hro lk h c hc nn X w σ us ms ha
  cases c with
  |skip=>exact wpIn_skip ⟨S,X,σ,us,ms,ha,rfl,h⟩
  |region id ops d=>cases d<;>simp [trC,TC.er] at hc
  |cond x a b=>simp only [trC,TC.er] at hc;split at hc<;>cases hc
  |rangeFunc x p a b=>simp only [trC,TC.er] at hc;split at hc<;>cases hc
  |_=>simp [trC,TC.er] at hc
 |rt=>
  intro B ro β S K r hro lk h c hc nn X w σ us ms ha
  cases c with
  |ret=>exact wpIn_ret ⟨S,X,σ,us,ms,ha,rfl,h⟩
  |region id ops d=>cases d<;>simp [trC,TC.er] at hc
  |cond x a b=>simp only [trC,TC.er] at hc;split at hc<;>cases hc
  |rangeFunc x p a b=>simp only [trC,TC.er] at hc;split at hc<;>cases hc
  |_=>simp [trC,TC.er] at hc
 |ex id=>
  intro B ro β S K r hro lk h c hc nn X w σ us ms ha
  cases c with
  |exit i=>
   simp only [trC,TC.er,AC.ex.injEq] at hc
   subst hc
   exact wpIn_exit ⟨S,X,σ,us,ms,ha,rfl,h⟩
  |region id ops d=>cases d<;>simp [trC,TC.er] at hc
  |cond x a b=>simp only [trC,TC.er] at hc;split at hc<;>cases hc
  |rangeFunc x p a b=>simp only [trC,TC.er] at hc;split at hc<;>cases hc
  |_=>simp [trC,TC.er] at hc
 |reg rs=>
  intro B ro β S K r hro lk h c hc nn X w σ us ms ha
  cases c with
  |region id ops d=>
   cases d with
   |true=>simp [trC,TC.er] at hc
   |false=>
    simp only [trC,TC.er,AC.reg.injEq] at hc
    refine wpIn_region_list ?_
    exact QsS hg h hc ha fun S' X' w' σ' us' ha' hk=>⟨S',X',σ',us',ms,ha',rfl,hk⟩
  |cond x a b=>simp only [trC,TC.er] at hc;split at hc<;>cases hc
  |rangeFunc x p a b=>simp only [trC,TC.er] at hc;split at hc<;>cases hc
  |_=>simp [trC,TC.er] at hc
 |dr ds os t=>
  intro B ro β S K r _ _ h
  exact QWI hg hm h fun S' hk=>hk
 |sq a b iha ihb=>
  intro B ro β S K r hro lk h c hc nn X w σ us ms ha
  cases c with
  |seq x y=>
   simp only [trC,TC.er,AC.sq.injEq] at hc
   refine wpIn_seq (wpIn_mono (iha (hro.imp_right fun q=>(Bf.1 q).1) lk.1 h x hc.1 nn X w σ us ms ha) ?_)
   rintro e a' w' ⟨S',X',σ',us',ms',h1,rfl,h4⟩
   cases e with
   |normal=>exact ihb (hro.imp_right fun q=>(Bf.1 q).2) lk.2 h4 y hc.2 nn X' w' σ' us' ms' h1
   |_=>exact ⟨S',X',σ',us',ms',h1,rfl,h4⟩
  |region id ops d=>cases d<;>simp [trC,TC.er] at hc
  |cond x a b=>simp only [trC,TC.er] at hc;split at hc<;>cases hc
  |rangeFunc x p a b=>simp only [trC,TC.er] at hc;split at hc<;>cases hc
  |_=>simp [trC,TC.er] at hc
 |cd x a b iha ihb=>
  intro B ro β S K r hro lk h c hc nn X w σ us ms ha
  cases c with
  |cond o p q=>
   simp only [trC,TC.er] at hc
   split at hc
   ·rename_i x' hx
    simp only [AC.cd.injEq] at hc
    obtain ⟨rfl,h2,h3⟩:=hc
    simp only [ev] at h
    split at h
    ·rename_i t ht
     have hu:=Zk hx (by rw [ht];rfl) ha.rel
     rw [ht] at hu
     have hu:=(C.v hu).1
     rcases Gs h with ⟨rfl,h⟩|⟨rfl,h⟩
     ·exact wpIn_cond_true hu (iha (hro.imp_right fun q=>(Bf.1 q).1) lk.1 h p h2 nn X w σ us ms ha)
     ·exact wpIn_cond_false hu (ihb (hro.imp_right fun q=>(Bf.1 q).2) lk.2 h q h3 nn X w σ us ms ha)
    ·cases h
   ·cases hc
  |region id ops d=>cases d<;>simp [trC,TC.er] at hc
  |rangeFunc x p a b=>simp only [trC,TC.er] at hc;split at hc<;>cases hc
  |_=>simp [trC,TC.er] at hc
 |bk id a iha=>
  intro B ro β S K r hro lk h c hc nn X w σ us ms ha
  cases c with
  |block i x=>
   simp only [trC,TC.er,AC.bk.injEq] at hc
   obtain ⟨rfl,hc⟩:=hc
   refine wpIn_block (wpIn_mono (iha hro lk h x hc nn X w σ us ms ha) ?_)
   rintro e a' w' ⟨S',X',σ',us',ms',h1,rfl,h4⟩
   cases e with
   |exit j=>
    simp only [Exit.inBlock]
    simp only at h4
    split at h4
    ·rename_i hj
     rw [if_pos hj]
     exact ⟨S',X',σ',us',ms',h1,rfl,h4⟩
    ·rename_i hj
     rw [if_neg hj]
     exact ⟨S',X',σ',us',ms',h1,rfl,h4⟩
   |_=>exact ⟨S',X',σ',us',ms',h1,rfl,h4⟩
  |region id ops d=>cases d<;>simp [trC,TC.er] at hc
  |cond x a b=>simp only [trC,TC.er] at hc;split at hc<;>cases hc
  |rangeFunc x p a b=>simp only [trC,TC.er] at hc;split at hc<;>cases hc
  |_=>simp [trC,TC.er] at hc
 |lp j f a iha=>
  intro B ro β S K r hro lk h c hc nn X w σ us ms ha
  cases c with
  |loop x=>
   simp only [trC,TC.er,AC.lp.injEq] at hc
   simp only [ev] at h
   split at h
   ·rename_i q l hL
    obtain ⟨rfl,h⟩:=Zj h
    obtain ⟨e1,S1,hp,h⟩:=Qj4 h
    have hl:=lk.1 S l (e1,S1) hL hp
    obtain ⟨m,hn⟩:=F4.1 hl
    refine wpIn_mono (Q:=QsP B g.n (fun e S'=>(e,S')=(e1,S1))) ?_ ?_
    ·refine QWa (fun m a' w'=> ∃ S X' σ' us' ms',a'=⟨us'.toArray,mks ms'⟩/\At (B.mk' ms') X' w' σ' g.n S us'/\XS (QD g f a) m S=some (e1,S1)) ?_ m _ _ ⟨S,X,σ,us,ms,rfl,ha,hn⟩
     rintro m a' w' ⟨S0,X',σ',us',ms',rfl,ha',hm'⟩
     cases m with
     |zero=>cases hm'
     |succ m=>
      simp only [XS] at hm'
      split at hm'
      ·rename_i S2 hb
       refine wpIn_mono (iha hro lk.2 hb x hc nn X' w' σ' us' ms' (ha'.fgt f)) ?_
       rintro e a2 w2 ⟨S3,X2,σ2,us2,ms2,k1,rfl,k3⟩
       cases e with
       |normal=>
        simp only [Qdo,Be,Br,true_and] at k3
        subst k3
        exact ⟨m,by omega,_,X2,σ2,us2,ms2,rfl,k1.fgt f,hm'⟩
       |_=>simp [Qdo] at k3
      ·rename_i hne
       refine wpIn_mono (iha hro lk.2 hm' x hc nn X' w' σ' us' ms' (ha'.fgt f)) ?_
       rintro e a2 w2 ⟨S3,X2,σ2,us2,ms2,k1,rfl,k3⟩
       cases e with
       |normal=>
        simp only [Qdo,Be,Br] at k3
        obtain ⟨rfl,rfl⟩:=k3
        exact absurd hm' (hne _)
       |_=>
        simp only [Qdo,Be,Br] at k3
        obtain ⟨rfl,rfl⟩:=k3
        exact ⟨S3,X2,σ2,us2,ms2,k1,rfl,rfl⟩
    ·rintro e a' w' ⟨S',X',σ',us',ms',h1,rfl,h3⟩
     injection h3 with h4 h5
     subst h4 h5
     exact ⟨S',X',σ',us',ms',h1,rfl,h⟩
   ·cases h
  |region id ops d=>cases d<;>simp [trC,TC.er] at hc
  |cond x a b=>simp only [trC,TC.er] at hc;split at hc<;>cases hc
  |rangeFunc x p a b=>simp only [trC,TC.er] at hc;split at hc<;>cases hc
  |_=>simp [trC,TC.er] at hc
 |fg f a iha=>
  intro B ro β S K r hro lk h c hc nn X w σ us ms ha
  exact iha hro lk h c hc nn X w σ us ms (ha.fgt f)
 |nw s e a iha=>
  intro B ro β S K r hro lk h c hc nn X w σ us ms ha
  obtain ⟨S',σ',h1,h2⟩:=QWd h ha
  exact iha hro lk h1 c hc nn X w σ' us ms h2
 |nf j i e k a iha=>
  intro B ro β S K r hro lk h c hc nn X w σ us ms ha
  obtain ⟨S',σ',h1,h2⟩:=QWg h ha
  exact iha hro lk h1 c hc nn X w σ' us ms h2
 |fz ks a iha=>
  intro B ro β S K r hro lk h c hc nn X w σ us ms ha
  obtain ⟨X',h1,_⟩:=ha.fzs ks
  exact iha hro lk h c hc nn X' w σ us ms h1
 |ad l a iha=>
  intro B ro β S K r hro lk h c hc nn X w σ us ms ha
  obtain ⟨σ',h1⟩:=ha.mvks l
  exact iha hro lk h c hc nn X w σ' us ms h1
 |mv l a iha=>
  intro B ro β S K r hro lk h c hc nn X w σ us ms ha
  refine wpIn_mono (iha hro lk h c hc nn X w σ us ms ha) ?_
  rintro e a' w' ⟨S',X',σ',us',ms',h1,rfl,h4⟩
  cases e with
  |normal=>
   obtain ⟨X2,S2,σ2,h4,h2⟩:=QWf h4 h1
   exact ⟨S2,X2,σ2,us',ms',h2,rfl,h4⟩
  |_=>exact ⟨S',X',σ',us',ms',h1,rfl,h4⟩
 |rg j f f2 a iha=>
  intro B ro β S K r hro lk h c hc nn X w σ us ms ha
  simp only [ev] at h
  split at h
  ·rename_i q l hL
   obtain ⟨rfl,h⟩:=Zj h
   obtain ⟨e1,S1,hp,h⟩:=Qj4 h
   have hl:=lk.1 S l (e1,S1) hL hp
   refine wpIn_mono (iha hro lk.2 hl c hc nn X w σ us ms (ha.fgt f)) ?_
   rintro e a' w' ⟨S',X',σ',us',ms',h1,rfl,h3⟩
   simp only [Be,Br] at h3
   obtain ⟨rfl,rfl⟩:=h3
   exact ⟨_,X',σ',us',ms',h1.fgt f2,rfl,h⟩
  ·cases h
 |rf j f x yr ps pr a b iha ihb=>
  intro B ro β S K r hro lk h c hc nn X w σ us ms ha
  rcases hro with rfl|hro
  ·exact QWR hg iha ihb lk h c hc nn X w σ us ms ha
  ·cases hro
end
inductive RV where
 |t (i:Nat)
 |c (i:Nat) (agg:Bool) (n:Nat)
def trV (P:Program):ResultVar->Option RV
 |.tmp t=>some (.t t)
 |.cell a t=>match P.underlying t,P.info? t with
  |some d,some inf=>some (.c a (isRow d) inf.size)
  |_,_=>none
def GE (P:Program):List ResultVar->Option (List RV)
 | []=>some []
 |r::l=>match trV P r,GE P l with
  |some a,some b=>some (a::b)
  |_,_=>none
section
variable {β:Type}
def RV.run (S:VS)(K:V->Option β):RV->Option β
 |.t i=>nz (S.ts i) K
 |.c i agg n=>match S.ts i with
  |.ptr j o=>match S.st j with
   |.box z=>match z.sub true o n agg with
    |some v=>nz v K
    |none=>none
   |_=>none
  |_=>none
def castR (t:Option Ty)(v:V)(K:V->Option β):Option β:=
 match t with
 |none=>K v
 |some y=>match v.as y with
  |some x=>K (.t y x)
  |none=>none
def I0 (S:VS):List (RV×Option Ty)->(List V->Option β)->Option β
 | [],K=>K []
 |r::l,K=>r.1.run S fun v=>castR r.2 v fun v=>I0 S l fun vs=>K (v::vs)
end
def I1:List V->V
 | [v]=>v
 |vs=> .tu vs
def exs (vs:List V):List Nat:=((V.refss vs).filter fun k=>decide (k<50000)).eraseDups
def exr (es:List Nat)(m k:Nat):Nat:=if 50000<=k then k else 50000+m+es.idxOf k
def retOk (S:VS)(m:Nat)(es:List Nat)(vs:List V):Bool:=
 decide es.Nodup&&(((V.refss vs).all fun k=>decide (50000<=k/\k<50000+m)||es.contains k)&&((es.all fun k=>decide (k<50000)&&((match S.st k with|.no=>false|_=>true)&&(S.st k).refs.isEmpty))&&
  (List.range m).all fun j=>(S.st (50000+j)).refs.all fun k=>decide (50000<=k/\k<50000+m)))
def Qe1 (S:VS)(m:Nat)(es:List Nat)(vs:List V):Option (V×List VO):=
 if retOk S m es vs=true then some ((I1 vs).ren (exr es m),((List.range m).map fun j=>S.st (50000+j))++es.map fun k=>S.st k) else none
def Qe2 (rv:List (RV×Option Ty))(ro:Bool)(m:Nat)(S:VS):Option (V×List VO):=
 I0 S (rv.map fun r=>(r.1,none)) fun vs=>if ro=true then Qe1 S m (exs vs) vs else I0 (S.fzs (V.msss vs)) rv fun vs'=>Qe1 (S.fzs (V.msss vs)) m (exs vs') vs'
def Eu:Nat->List V->List (Nat×V)
 |_,[]=>[]
 |i,v::r=>(i,v)::Eu (i+1) r
def X5:Nat->List VO->List (Nat×VO)
 |_,[]=>[]
 |i,v::r=>(i,v)::X5 (i+1) r
def inS (args:List V)(objs:List VO):VS:=⟨Xs (Eu 0 args),Yx (X5 50000 objs),(X5 50000 objs).map Prod.fst⟩
def JR (g:G)(tc:TC)(rv:List (RV×Option Ty))(ro:Bool):Fun:=fun args objs=>
 if args.length<=g.n then ev g tc (inS args objs) fun e S=>match e with
  |.ret=>Qe2 rv ro objs.length S
  |.normal=>Qe2 rv ro objs.length S
  |_=>none
 else none
section
variable {P:Program}{B:Base}{X X':Nat->Nat->Prop}{w w':World}{σ σ':Pl}{n:Nat}{S:VS}{us:List Value}
def Ev (us:List Value):ResultVar->Sem Value
 |.tmp t=>pure (us.toArray.getD t undef)
 |.cell a t=>do loadVar t (←asAddr (us.toArray.getD a undef))
theorem QM0 {β:Type}{K:V->Option β}{x:β}{r:ResultVar}{rv:RV}(ht:trV P r=some rv)(he:rv.run S K=some x): ∃ v,K v=some x∧ ∀ {B:Base} {X:Nat->Nat->Prop} {w:World} {σ:Pl} {n:Nat} {us:List Value},At B X w σ n S us→ ∃ u,C X w σ v.d u/\(Ev us r).run P w= .ok u w:=by
 cases r with
 |tmp t=>
  simp only [trV,Be] at ht
  subst ht
  obtain ⟨h1,h2⟩:=Gw he
  refine ⟨_,h2,fun {B X w σ n us} ha=>⟨_,Zk (o:= .tmp t) (x:= .t t) rfl h1 ha.rel, ?_⟩⟩
  simp [Act.eval,Ev]
 |cell a t=>
  simp only [trV] at ht
  split at ht
  ·rename_i dd inf hd hin
   simp only [Be] at ht
   subst ht
   simp only [RV.run] at he
   split at he
   ·rename_i j o hx
    split at he
    ·rename_i c hst
     split at he
     ·rename_i v hs
      obtain ⟨h1,h2⟩:=Gw he
      refine ⟨v,h2,fun {B X w σ n us} ha=> ?_⟩
      have k1:=Zk (o:= .tmp a) (x:= .t a) rfl (by simp only [AX.xv,hx];rfl) ha.rel
      simp only [AX.xv,hx,V.d,C] at k1
      obtain ⟨b,e1,e2⟩:=k1
      have hat:=ha.ti.obj j
      rw [hst] at hat
      obtain ⟨b',ty,vs,g1,g2,g3,g4⟩:=hat
      rw [g1] at e1
      injection e1 with e1
      subst e1
      obtain ⟨s1,s2⟩:=V.sub_spec hs
      have hl:=g3.len
      obtain ⟨u,q1,q2⟩:=QKq (P:=P) (b:=b') (off:=o) (vs:=vs.drop o) (ds:=c.d.cells.drop o) (d:=v.d) hd hin (g3.drop_ _) (fun i u hu=>by
       rw [Df] at hu
       rw [cell_of_row w b' (o+i) vs.toArray ty (0,0) g2]
       simpa using hu) (fun ha=>by
        obtain ⟨t1,t2⟩:=s1 ha
        exact ⟨t1,by rw [Dk];omega⟩) (fun ha=>by
        rw [Df]
        exact s2 ha)
      refine ⟨u,q2, ?_⟩
      simp only [Act.eval] at e2
      simp only [Ev,Sem.run_bind,e2,asAddr,Sem.run_pure,Result.andThen_ok,q1]
     ·cases he
    ·cases he
   ·cases he
  ·cases ht
theorem QmB {β:Type}{x:β}: ∀ {rs:List ResultVar} {rv:List (RV×Option Ty)} {K:List V->Option β},GE P rs=some (rv.map Prod.fst)->I0 S rv K=some x→ ∃ vs,K vs=some x∧ ∀ {B:Base} {X:Nat->Nat->Prop} {w:World} {σ:Pl} {n:Nat} {us:List Value},At B X w σ n S us→
  ∃ xs,Cs X w σ (V.ds vs) xs/\(rs.mapM (Ev us)).run P w= .ok xs w
 | [],rv,K,ht,he=>by
  simp only [GE,Be] at ht
  have:rv=[]:=List.map_eq_nil_iff.1 ht.symm
  subst this
  exact ⟨[],he,fun _=>⟨[],by simp [V.ds,Cs],by simp⟩⟩
 |r::rs,rv,K,ht,he=>by
  simp only [GE] at ht
  split at ht
  ·rename_i a b ha hb
   simp only [Be] at ht
   cases rv with
   |nil=>cases ht
   |cons q rv=>
    simp only [BJ,List.cons.injEq] at ht
    obtain ⟨rfl,rfl⟩:=ht
    simp only [I0] at he
    obtain ⟨v0,h0,h2⟩:=QM0 ha he
    have hcast: ∃ v,I0 S rv (fun vs=>K (v::vs))=some x∧ ∀ {X:Nat->Nat->Prop} {w:World} {σ:Pl} {u:Value},C X w σ v0.d u->C X w σ v.d u:=by
     unfold castR at h0
     split at h0
     ·exact ⟨v0,h0,fun h=>h⟩
     ·split at h0
      ·rename_i y z hz
       exact ⟨_,h0,fun h=>C.up _ _ (V.as_spec hz h)⟩
      ·cases h0
    obtain ⟨v,h1,hcv⟩:=hcast
    obtain ⟨vs,h3,h4⟩:=QmB hb h1
    refine ⟨v::vs,h3,fun {B X w σ n us} hat=> ?_⟩
    obtain ⟨u,q1,q2⟩:=h2 hat
    obtain ⟨xs,q3,q4⟩:=h4 hat
    refine ⟨u::xs,by simp only [V.ds];exact Cs.cons (hcv q1) q3, ?_⟩
    rw [List.mapM_cons]
    simp only [Sem.run_bind,q2,q4,Result.andThen_ok,Sem.run_pure]
  ·cases ht
theorem QwO {fn:Func}{vs:List V}{xs:List Value}(hc:Cs X w σ (V.ds vs) xs)(h:(fn.results.toList.mapM (Ev us)).run P w= .ok xs w): ∃ u,C X w σ (I1 vs).d u/\(results fn us.toArray).run P w= .ok u w:=by
 have hm:(fn.results.mapM (Ev us)).run P w= .ok xs.toArray w:=by
  rw [Array.mapM_eq_mapM_toList]
  rw [map_eq_pure_bind,Sem.run_bind,h]
  rfl
 have hf:results fn us.toArray=(do let vs ← fn.results.mapM (Ev us);pure (if h:vs.size=1 then vs[0] else .tuple vs)):=by
  unfold results
  congr 1
 rw [hf,Sem.run_bind,hm]
 have hlen:=hc.len
 rw [V.ds_eq,BP] at hlen
 unfold I1
 split
 ·rename_i v
  simp only [V.ds] at hc
  obtain ⟨u,rfl,hu⟩:=hc.one
  exact ⟨u,hu,by simp⟩
 ·rename_i hne
  have h0:xs.toArray.size≠1:=by
   intro h
   rcases vs with _|⟨d,_|⟨d2,r⟩⟩
   ·simp at hlen;simp [hlen] at h
   ·exact hne d rfl
   ·simp at hlen h;omega
  refine ⟨.tuple xs.toArray,by simp only [V.d,C];exact ⟨xs,rfl,hc⟩, ?_⟩
  simp only [Result.andThen_ok,dif_neg h0,Sem.run_pure]
theorem OAt.pl {k k':Nat}{o:VO}(h:OAt X w σ k o)(hk:σ' k'=σ k)(hr: ∀ r∈o.refs,σ' r=σ r):OAt X w σ' k' o:=by
 cases o with
 |no=>trivial
 |box v=>
  obtain ⟨b,ty,vs,h1,h2,h3,h4⟩:=h
  exact ⟨b,ty,vs,hk.trans h1,h2,Cs.ext (Ext.refl X w) _ _ (fun r hr'=>hr r (by rw [V.refs_dcells] at hr';exact hr')) h3,h4⟩
 |arr e y l=>
  obtain ⟨u,xs,h1,h2⟩:=h
  exact ⟨u,xs,hk.trans h1,h2⟩
theorem QM1 (vs:List V):(I1 vs).refs=V.refss vs:=by
 unfold I1
 split
 ·simp [V.refss]
 ·rfl
theorem QwP {σ0:Pl}{m:Nat}{es:List Nat}{vs:List V}{rv:V}{os:List VO}{u:Value}{X0 X1:Nat->Nat->Prop}{w0 w1:World}(h:Qe1 S m es vs=some (rv,os))(ha:At ⟨X0,w0,WP σ0 m,σ0,[],X1,w1⟩ X w σ n S us)(hu:C X w σ (I1 vs).d u):
  ∃ σ',C X w σ' rv.d u/\Ends X0 w0 σ0 m X w σ' os:=by
 unfold Qe1 at h
 split at h
 ·rename_i hok
  simp only [Be,Br] at h
  obtain ⟨rfl,rfl⟩:=h
  simp only [retOk,Bc,Ba,Bg,Dm,BN,DV,Dg] at hok
  obtain ⟨k1,k2,k3,k4⟩:=hok
  let τ:Pl:=fun k=>if 50000+m<=k/\k-50000-m<es.length then σ (es.getD (k-50000-m) 0) else σ k
  have τ0: ∀ k,k<50000+m->τ k=σ k:=fun k hk=>if_neg (by omega)
  have τ1: ∀ (i:Nat) k,es[i]? = some k->τ (50000+m+i)=σ k:=by
   intro i k hi
   have hlt:=(BL.1 hi).1
   have e1:50000+m+i-50000-m=i:=by omega
   simp only [τ,e1]
   rw [if_pos ⟨by omega,hlt⟩,Bo,hi]
   rfl
  have live1: ∀ k∈es,S.st k≠ .no:=fun k hk hn=>by have:=(k3 k hk).2.1;rw [hn] at this;cases this
  have hlen:(((List.range m).map fun j=>S.st (50000+j))++es.map fun k=>S.st k).length=m+es.length:=by simp
  -- the number of a thing that is handed out
  have src: ∀ j,j<m+es.length→ ∃ k,(((List.range m).map fun j=>S.st (50000+j))++es.map fun k=>S.st k)[j]? = some (S.st k)/\τ (50000+j)=σ k/\(m<=j->S.st k≠ .no)/\(j<m->k=50000+j)/\(m<=j->es[j-m]? = some k):=by
   intro j hj
   rcases Dj j m with hlt|hge
   ·exact ⟨50000+j,by rw [DB (by simpa using hlt),De,List.getElem?_range hlt];rfl,τ0 _ (by omega),fun h=>by omega,fun _=>rfl,fun h=>by omega⟩
   ·have hl:j-m<es.length:=by omega
    refine ⟨es[j-m],by rw [List.getElem?_append_right (by simpa using hge),De];simp [Bl hl], ?_,fun _=>live1 _ (BA hl),fun h=>by omega,fun _=>Bl hl⟩
    have:=τ1 (j-m) _ (Bl hl)
    rw [←this]
    congr 1
    omega
  refine ⟨τ,F3 _ u (fun k hk=> ?_) hu,⟨ha.ti.fin,fun j o hj=> ?_,fun i j b hij hi hj ni nj hb hb'=> ?_,by rw [hlen];omega,fun j hj=> ?_,fun j b hj hj2 hb=> ?_,ha.ti.fr,fun b q hb=>(ha.ti.old b q hb).1,fun b q hb hu hx=> ?_⟩⟩
  ·rw [QM1] at hk
   rcases k2 k hk with hk'|hk'
   ·rw [exr,if_pos hk'.1]
    exact τ0 k hk'.2
   ·have hlt:=(k3 k hk').1
    rw [exr,if_neg (by omega)]
    obtain ⟨i,hi⟩:=DC.1 hk'
    rw [Gm k1 hi]
    exact τ1 i k hi
  ·have hjl:j<m+es.length:=by rw [←hlen];exact (BL.1 hj).1
   obtain ⟨k,q1,q2,q3,q4,q5⟩:=src j hjl
   rw [q1] at hj
   injection hj with hj
   subst hj
   refine ⟨(ha.ti.obj k).pl q2 (fun r hr=> ?_),q3⟩
   rcases Dj j m with hlt|hge
   ·have:=k4 j hlt r (by rw [←q4 hlt];exact hr)
    exact τ0 r this.2
   ·have:=(k3 k (Dp (q5 hge))).2.2
    rw [this] at hr
    cases hr
  ·rw [hlen] at hi hj
   obtain ⟨k,q1,q2,_,q4,q5⟩:=src i hi
   obtain ⟨k',p1,p2,_,p4,p5⟩:=src j hj
   rw [q2] at hb
   rw [p2] at hb'
   have q3:S.st k≠ .no:=fun he=>ni (by rw [q1,he])
   have p3:S.st k'≠ .no:=fun he=>nj (by rw [p1,he])
   refine ha.ti.apart k k' b (fun he=> ?_) q3 p3 hb hb'
   subst he
   rcases Dj i m with h1|h1
   ·rcases Dj j m with h2|h2
    ·have:=q4 h1;have:=p4 h2;omega
    ·have e1:=q4 h1
     have:=(k3 k (Dp (p5 h2))).1
     omega
   ·rcases Dj j m with h2|h2
    ·have e1:=p4 h2
     have:=(k3 k (Dp (q5 h1))).1
     omega
    ·have e1:=Gm k1 (q5 h1)
     have e2:=Gm k1 (p5 h2)
     omega
  ·rw [τ0 _ (by omega)]
   exact ha.ti.lnt _ (by simp only [WX];omega)
  ·rw [hlen] at hj2
   obtain ⟨k,_,q2,q3,_,q5⟩:=src j hj2
   have q3:=q3 hj
   rw [q2] at hb
   rcases ha.ti.own k b q3 hb with h1|h1
   ·right
    simp only [WP,List.mem_filterMap,Dg] at h1
    obtain ⟨i,hi,hib⟩:=h1
    refine ⟨i,hi, ?_,hib⟩
    obtain ⟨k',p1,p2,_,p4,_⟩:=src i (by omega)
    rw [p1]
    by_cases hn:S.st k'= .no
    ·rw [hn]
    ·refine absurd hb (ha.ti.apart k' k b (fun he=> ?_) hn q3 ?_)
     ·have:=(k3 k (Dp (q5 hj))).1
      have:=p4 hi
      omega
     ·rw [p4 hi,ha.ti.lnt _ (by simp only [WX];omega)]
      exact hib
   ·exact .inl h1
  ·by_cases hl:b∈WP σ0 m
   ·simp only [WP,List.mem_filterMap,Dg] at hl
    obtain ⟨i,hi,hib⟩:=hl
    obtain ⟨k',p1,p2,_,p4,_⟩:=src i (by omega)
    by_cases hn:S.st k'= .no
    ·exact absurd hib (hu i hi (by rw [p1,hn]))
    ·refine (ha.ti.obj k').all hn ?_ q
     rw [p4 hi,ha.ti.lnt _ (by simp only [WX];omega)]
     exact hib
   ·exact (ha.ti.old b q hb).2 hl hx
 ·cases h
theorem QwQ: ∀ (args:List V) (i j:Nat),Xs (Eu i args) (i+j)=args.getD j .un
 | [],i,j=>rfl
 |v::r,i,0=>by simp [Eu,Xs]
 |v::r,i,j+1=>by
  simp only [Eu,Xs]
  rw [if_neg (by omega)]
  have:=QwQ r (i+1) j
  rw [show i+(j+1)=i+1+j from by omega,this]
  simp
theorem QmC: ∀ (args:List V) (i k:Nat),i+args.length<=k->Xs (Eu i args) k= .un
 | [],i,k,_=>rfl
 |v::r,i,k,h=>by
  simp only [Bp] at h
  simp only [Eu,Xs]
  rw [if_neg (by omega)]
  exact QmC r (i+1) k (by omega)
theorem QwR: ∀ (objs:List VO) (i j:Nat),Yx (X5 i objs) (i+j)=objs.getD j .no
 | [],i,j=>rfl
 |v::r,i,0=>by simp [X5,Yx]
 |v::r,i,j+1=>by
  simp only [X5,Yx]
  rw [if_neg (by omega)]
  have:=QwR r (i+1) j
  rw [show i+(j+1)=i+1+j from by omega,this]
  simp
theorem QwS: ∀ (objs:List VO) (i k:Nat),k<i->Yx (X5 i objs) k= .no
 | [],i,k,_=>rfl
 |v::r,i,k,h=>by
  simp only [X5,Yx]
  rw [if_neg (by omega)]
  exact QwS r (i+1) k (by omega)
theorem QwT: ∀ (objs:List VO) (i k:Nat),Yx (X5 i objs) k≠ .no->k∈(X5 i objs).map Prod.fst
 | [],i,k,h=>absurd rfl h
 |v::r,i,k,h=>by
  simp only [X5,Yx] at h
  simp only [X5,BJ]
  split at h
  ·rename_i hk;rw [hk];exact B7
  ·exact BU _ (QwT r (i+1) k h)
theorem QM2 {g:G}{f:FuncId}{fn:Func}{c:Code}{tc:TC}{rv:List (RV×Option Ty)}{ro:Bool}(hlt:f<1000000)(hf:P.funcs[f]? = some fn)(hb:fn.body=some c)(hc:trC P c=tc.er)(hn:fn.ntmps=g.n)(hr:GE P fn.results.toList=some (rv.map Prod.fst))(hg:GOk P g)(hl:tc.lok g)(hm:P.follows .mixedOrders=true):
  QQ P f (JR g tc rv ro):=by
 intro args objs r os h X w σ vs hfin hlent hargs
 unfold JR at h
 split at h
 ·rename_i hle
  have hal:=hargs.len
  rw [V.ds_eq,BP] at hal
  have obj0: ∀ k,Yx (X5 50000 objs) k= .no∨ ∃ j,k=50000+j/\objs[j]? = some (Yx (X5 50000 objs) k):=by
   intro k
   rcases Dj k 50000 with hlt|hge
   ·exact .inl (QwS objs 50000 k hlt)
   ·obtain ⟨j,rfl⟩: ∃ j,k=50000+j:=⟨k-50000,by omega⟩
    rw [QwR]
    rcases Dj j objs.length with hj|hj
    ·exact .inr ⟨j,rfl,by rw [Bo,Bl hj];rfl⟩
    ·left
     rw [Bo,DL hj]
     rfl
  have hat:At ⟨X,w,WP σ objs.length,σ,[],X,w⟩ X w σ g.n (inS args objs) (vs++List.replicate (g.n-vs.length) undef):=by
   refine ⟨⟨hfin,fun k=> ?_,fun i j b hij hi hj hbi hbj=> ?_,fun k b hk hbk=> ?_,Fr.refl _ _,fun _ _ _=>⟨fun h=>h,fun _ h=>h⟩,fun _ _=>rfl,(fun p hp=>by cases hp),⟨List.nodup_nil,fun p hp=>by cases hp⟩,Ext0.refl X w⟩,⟨by simp;omega,fun i u hu=> ?_,fun i hi=> ?_⟩,fun j hj=>QwT objs 50000 j hj⟩
   ·simp only [inS]
    rcases obj0 k with h0|⟨j,rfl,h0⟩
    ·rw [h0];trivial
    ·exact (hlent.at_ j _ h0).1
   ·simp only [inS] at hi hj
    rcases obj0 i with h0|⟨i',rfl,h0⟩
    ·exact absurd h0 hi
    ·rcases obj0 j with h1|⟨j',rfl,h1⟩
     ·exact absurd h1 hj
     ·exact hlent.apart i' j' b (by omega) (BL.1 h0).1 (BL.1 h1).1 hbi hbj
   ·simp only [inS] at hk
    rcases obj0 k with h0|⟨j,rfl,h0⟩
    ·exact absurd h0 hk
    ·refine .inl ?_
     simp only [WP,List.mem_filterMap,Dg]
     exact ⟨j,(BL.1 h0).1,hbk⟩
   ·simp only [inS]
    rcases Dj i vs.length with hi|hi
    ·rw [DB hi] at hu
     have ha:args[i]? = some args[i]:=Bl (by omega)
     have hl:=QwQ args 0 i
     rw [Nat.zero_add,Bo,ha] at hl
     rw [hl]
     obtain ⟨u',hu',hc'⟩:=hargs.at_ (i:=i) (d:=args[i].d) (by rw [V.ds_eq,De,ha];rfl)
     rw [hu] at hu'
     injection hu' with hu'
     subst hu'
     exact hc'
    ·rw [QmC args 0 i (by omega)]
     exact C.any_ u
   ·simp only [inS]
    exact QmC args 0 i (by omega)
  have hw:=QMZ (B:=⟨X,w,WP σ objs.length,σ,[],X,w⟩) hg hm tc (.inl rfl) hl h c hc 9 X w σ _ [] hat
  refine Qj1 hlt (callsIn_wide.1 (callsIn_of_wp_marks (F:=Fw none) (n:=9) hf hb trivial ?_))
  have he:(vs.toArray++Array.replicate (fn.ntmps-vs.toArray.size) undef)=(vs++List.replicate (g.n-vs.length) undef).toArray:=by
   apply Array.ext'
   simp [hn]
  rw [he]
  refine wpIn_mono hw ?_
  rintro e a w1 ⟨S,X',σ',us',ms',h0,rfl,h3⟩
  obtain ⟨w',h1,hleave⟩:=QIr h0
  have hret:Qe2 rv ro objs.length S=some (r,os)→ ∃ u,(results fn us'.toArray).run P w'= .ok u w'∧ ∃ X1 σ1,C X1 w' σ1 r.d u/\Ends X w σ objs.length X1 w' σ1 os:=by
   intro hret
   unfold Qe2 at hret
   obtain ⟨vs1,q1,q2⟩:=QmB (rv:=rv.map fun r=>(r.1,none)) (by rw [hr,DJ];rfl) hret
   split at q1
   ·obtain ⟨xs,q3,q4⟩:=q2 h1
    obtain ⟨u,q5,q6⟩:=QwO q3 q4
    obtain ⟨σ1,q7,q8⟩:=QwP q1 h1 q5
    exact ⟨u,q6,X',σ1,q7,q8⟩
   ·obtain ⟨X2,h2,_⟩:=h1.fzs (V.msss vs1)
    obtain ⟨vs2,q3,q4⟩:=QmB hr q1
    obtain ⟨xs,q5,q6⟩:=q4 h2
    obtain ⟨u,q7,q8⟩:=QwO q5 q6
    obtain ⟨σ1,q9,q10⟩:=QwP q3 h2 q7
    exact ⟨u,q8,X2,σ1,q9,q10⟩
  cases e with
  |ret=>
   obtain ⟨u,p1,X1,σ1,p2,p3⟩:=hret h3
   exact hleave ⟨u,p1,u,X1,σ1,rfl,p2,p3⟩
  |normal=>
   obtain ⟨u,p1,X1,σ1,p2,p3⟩:=hret h3
   exact hleave ⟨u,p1,u,X1,σ1,rfl,p2,p3⟩
  |_=>cases h3
 ·cases h
end
end Go.Proofs.YtckcgijklnloiaaGreat.K
/-
 What is said of functions and of loops in types,and how it serves in the runs of others.
-/
namespace Go.Proofs.YtckcgijklnloiaaGreat.K
open Go.RowKit
def Ty.args:(y:Ty)->List V->Option y.T
 |.pr f r,v::vs=>match v.as f,r.args vs with
  |some x,some z=>some (x,z)
  |_,_=>none
 |.nil,[]=>some ()
 |_,_=>none
abbrev Ent:=List V->List VO->Option (Bool×V×List VO)
def Qq (a:Ty)(ok:a.T->Bool)(F:a.T->V):Ent:=fun args objs=>
 match objs with
 | []=>match a.args args with
  |some x=>some (ok x,F x,[])
  |none=>none
 |_=>none
def Y8 (b a:Ty)(ok:b.T->a.T->Bool)(F:b.T->a.T->V)(H:b.T->a.T->b.T):Ent:=fun args objs=>
 match args,objs with
 |.ptr 50000 0::args,[.box c]=>match c.as b,a.args args with
  |some d,some x=>some (ok d x,F d x,[.box (.t b (H d x))])
  |_,_=>none
 |_,_=>none
def QmD (b a:Ty)(ok:a.T->Bool)(H:a.T->b.T):Ent:=fun args objs=>
 match objs with
 | []=>match a.args args with
  |some x=>some (ok x,.ptr 50000 0,[.box (.t b (H x))])
  |none=>none
 |_=>none
def U3 (a:Ty)(ok:a.T->Bool)(F:a.T->V)(O:a.T->List VO):Ent:=fun args objs=>
 match objs with
 | []=>match a.args args with
  |some x=>some (ok x,F x,O x)
  |none=>none
 |_=>none
class Fuel where
 n:Nat
abbrev Jo [f:Fuel]:Nat:=f.n
def QP (F:Ent):Fun:=fun args objs=>
 match F args objs with
 |some (true,r,os)=>some (r,os)
 |_=>none
def EL:List (Nat×Ent)->Nat->Ent
 | [],_=>fun _ _=>none
 |(g,F)::r,f=>if f=g then fun args objs=>match F args objs with
   |some x=>some x
   |none=>EL r f args objs
  else EL r f
theorem Qe3: ∀ {l:List (Nat×Ent)} {f:Nat} {args:List V} {objs:List VO} {x:Bool×V×List VO},EL l f args objs=some x→ ∃ F,(f,F)∈l/\F args objs=some x
 |(g,F)::r,f,args,objs,x,h=>by
  simp only [EL] at h
  split at h
  ·rename_i hfg
   subst hfg
   simp only at h
   split at h
   ·rename_i y hy
    simp only [Be] at h
    subst h
    exact ⟨F,B7,hy⟩
   ·obtain ⟨F',h1,h2⟩:=Qe3 h
    exact ⟨F',BU _ h1,h2⟩
  ·obtain ⟨F',h1,h2⟩:=Qe3 h
   exact ⟨F',BU _ h1,h2⟩
def IL (li:List (Nat×Itr))(f:Nat):Itr:=match li.lookup f with
 |some F=>F
 |none=>fun _ _=>none
def RL (l:List ((yr:Ty)×(VS->List yr.T->Option (Bool×List (Bool×Exit×VS)))))(j:Nat)(S:VS)(yr:Ty)(rows:List yr.T):Option (Bool×List (Bool×Exit×VS)):=
 match l[j]? with
 |some ⟨y,F⟩=>if h:yr=y then F S (h▸rows) else none
 |none=>none
section
variable {P:Program}{X:Nat->Nat->Prop}{w:World}{σ:Pl}
theorem QwU {α:Type}: ∀ {l:List (Nat×α)} {f:Nat} {x:α},l.lookup f=some x->(f,x)∈l
 |(k,y)::l,f,x,h=>by
  rw [List.lookup_cons] at h
  split at h
  ·rename_i hk
   have hk:f=k:=by simpa using hk
   simp only [Be] at h
   rw [hk,h]
   exact B7
  ·exact BU _ (QwU h)
theorem Zz {TY:Nat->Option Ty}{own:List Nat}{n:Nat}{keep:List Nat}{L:Nat->VS->Option (Bool×List (Bool×Exit×VS))}{R:Nat->VS->(yr:Ty)->List yr.T->Option (Bool×List (Bool×Exit×VS))}(l:List (Nat×Ent))(h: ∀ p∈l,JX P p.1/\QQ P p.1 (QP p.2))(li:List (Nat×Itr):=[])(hi: ∀ p∈li,Iters P p.1 p.2:=by intro p hp;cases hp):GOk P ⟨TY,own,n,EL l,keep,L,IL li,R⟩:=by
 refine ⟨?_,fun f caps objs x hx=> ?_⟩
 rotate_left
 ·simp only [IL] at hx ⊢
  cases hl:li.lookup f with
  |none=>rw [hl] at hx;cases hx
  |some F=>exact hi _ (QwU hl)
 intro f args objs x hx
 simp only at hx ⊢
 obtain ⟨F,hF,_⟩:=Qe3 hx
 refine ⟨(h _ hF).1, ?_⟩
 intro args' objs' r os hr
 simp only at hr
 split at hr
 ·rename_i r' os' hq
  simp only [Be,Br] at hr
  obtain ⟨rfl,rfl⟩:=hr
  obtain ⟨F2,h1,h2⟩:=Qe3 hq
  exact (h _ h1).2 args' objs' r' os' (by simp only [QP,h2])
 ·cases hr
theorem GF: ∀ {a:Ty} {args:List V} {x:a.T} {vs:List Value},a.args args=some x->Cs X w σ (V.ds args) vs->Cs X w σ (V.ds (a.canon x)) vs
 |.pr f r,v::args,x,vs,h,hc=>by
  simp only [Ty.args] at h
  split at h
  ·rename_i x1 z1 h1 h2
   simp only [Be] at h
   subst h
   simp only [V.ds,Cs] at hc
   obtain ⟨u,us,rfl,q1,q2⟩:=hc
   simp only [Ty.canon,V.ds]
   exact Cs.cons (C.up _ _ (V.as_spec h1 q1)) (GF h2 q2)
  ·cases h
 |.nil,[],x,vs,h,hc=>hc
 |.pr f r,[],_,_,h,_=>by cases h
 |.nil,_::_,_,_,h,_=>by cases h
 |.int _,_,_,_,h,_=>by simp only [Ty.args] at h;cases h
 |.bool,_,_,_,h,_=>by simp only [Ty.args] at h;cases h
 |.str,_,_,_,h,_=>by simp only [Ty.args] at h;cases h
 |.sl _,_,_,_,h,_=>by simp only [Ty.args] at h;cases h
 |.rv,_,_,_,h,_=>by simp only [Ty.args] at h;cases h
 |.rb,_,_,_,h,_=>by simp only [Ty.args] at h;cases h
theorem Qu {f:FuncId}{R:Fun}{a:Ty}{ok:a.T->Bool}{F:a.T->V}(hM:QQ P f R)(h: ∀ x,ok x=true->R (a.canon x) []=some (F x,[])):QQ P f (QP (Qq a ok F)):=by
 intro args objs r os hF X w σ vs hfin hl hc
 unfold QP Qq at hF
 cases objs with
 |cons o os'=>simp at hF
 |nil=>
  simp only at hF
  cases ha:a.args args with
  |none=>rw [ha] at hF;cases hF
  |some x=>
   rw [ha] at hF
   simp only at hF
   split at hF
   ·rename_i r' os' hq
    simp only [Be,Br] at hF hq
    obtain ⟨rfl,rfl⟩:=hF
    obtain ⟨h1,rfl,rfl⟩:=hq
    exact hM _ [] _ _ (h x h1) X w σ vs hfin hl (GF ha hc)
   ·cases hF
theorem Fq {f:FuncId}{a:Ty}{ok:a.T->Bool}{F:a.T->V}(h: ∀ x,ok x=false):QQ P f (QP (Qq a ok F)):=by
 intro args objs r os hF
 unfold QP Qq at hF
 cases objs with
 |cons o os'=>simp at hF
 |nil=>
  simp only at hF
  cases ha:a.args args with
  |none=>rw [ha] at hF;cases hF
  |some x=>
   rw [ha] at hF
   simp only [h] at hF
   cases hF
theorem Fs {f:FuncId}{a:Ty}{okN:Nat->a.T->Bool}{ok:a.T->Bool}{F:a.T->V}(hN: ∀ N,QQ P f (QP (Qq a (okN N) F)))(h: ∀ x,ok x=true→ ∃ N,okN N x=true):QQ P f (QP (Qq a ok F)):=by
 intro args objs r os hF
 have hF0:=hF
 unfold QP Qq at hF
 cases objs with
 |cons o os'=>simp at hF
 |nil=>
  simp only at hF
  cases ha:a.args args with
  |none=>rw [ha] at hF;cases hF
  |some x=>
   rw [ha] at hF
   cases hx:ok x with
   |false=>simp only [hx] at hF;cases hF
   |true=>
    obtain ⟨N,hok⟩:=h x hx
    refine hN N args [] r os ?_
    simp only [hx] at hF
    unfold QP Qq
    simp only [ha,hok]
    exact hF
theorem Qe4 {f:FuncId}{R:Fun}{a:Ty}{ok:a.T->Bool}{F:a.T->V}{O:a.T->List VO}(hM:QQ P f R)(h: ∀ x,ok x=true->R (a.canon x) []=some (F x,O x)):QQ P f (QP (U3 a ok F O)):=by
 intro args objs r os hF X w σ vs hfin hl hc
 unfold QP U3 at hF
 cases objs with
 |cons o os'=>simp at hF
 |nil=>
  simp only at hF
  cases ha:a.args args with
  |none=>rw [ha] at hF;cases hF
  |some x=>
   rw [ha] at hF
   simp only at hF
   split at hF
   ·rename_i r' os' hq
    simp only [Be,Br] at hF hq
    obtain ⟨rfl,rfl⟩:=hF
    obtain ⟨h1,rfl,rfl⟩:=hq
    exact hM _ [] _ _ (h x h1) X w σ vs hfin hl (GF ha hc)
   ·cases hF
theorem QM3 {f:FuncId}{R:Fun}{b a:Ty}{ok:a.T->Bool}{H:a.T->b.T}(hM:QQ P f R)(hb:b.row=true)(h: ∀ x,ok x=true→ ∃ c,R (a.canon x) []=some (.ptr 50000 0,[.box c])/\c.as b=some (H x)):QQ P f (QP (QmD b a ok H)):=by
 intro args objs r os hF X w σ vs hfin hl hc
 unfold QP QmD at hF
 cases objs with
 |cons o os'=>simp at hF
 |nil=>
  simp only at hF
  cases ha:a.args args with
  |none=>rw [ha] at hF;cases hF
  |some x=>
   rw [ha] at hF
   simp only at hF
   split at hF
   ·rename_i r' os' hq
    simp only [Be,Br] at hF hq
    obtain ⟨rfl,rfl⟩:=hF
    obtain ⟨h1,rfl,rfl⟩:=hq
    obtain ⟨c,h2,h3⟩:=h x h1
    refine (hM _ [] _ _ h2 X w σ vs hfin hl (GF ha hc)).mono ?_
    rintro e w' ⟨u,X',σ',e1,e2,e3⟩
    refine ⟨u,X',σ',e1,e2,e3.fin,fun j o hj=> ?_,fun i j bb hij hi hj=>by simp at hi hj;omega,e3.le,e3.same,fun j bb hj hl hb=> .inl ((e3.new j bb hj hl hb).resolve_right fun ⟨i,hi,_⟩=>absurd hi (Nat.not_lt_zero _)),e3.fr,e3.sub,fun b q hb _ hx=>e3.old b q hb (fun i hi=>absurd hi (Nat.not_lt_zero _)) hx⟩
    cases j with
    |zero=>
     simp only [Do,Be] at hj
     subst hj
     exact ⟨Qdp hb h3 (e3.at_ 0 _ rfl).1,fun _=>by simp⟩
    |succ j=>simp at hj
   ·cases hF
theorem X6 {f:FuncId}{R:Fun}{b a:Ty}{ok:b.T->a.T->Bool}{F:b.T->a.T->V}{H:b.T->a.T->b.T}(hM:QQ P f R)(hb:b.row=true)
  (h: ∀ d x,ok d x=true->R (.ptr 50000 0::a.canon x) [.box (.t b d)]=some (F d x,[.box (.t b (H d x))])):QQ P f (QP (Y8 b a ok F H)):=by
 intro args objs r os hF X w σ vs hfin hl hc
 unfold QP Y8 at hF
 split at hF
 ·rename_i r0 os0 hq
  split at hq
  ·rename_i args' c
   split at hq
   ·rename_i d x hd hx
    simp only [Be,Br] at hF hq
    obtain ⟨h1,h2⟩:=hF
    obtain ⟨h3,h4,h5⟩:=hq
    subst h1 h2 h4 h5
    refine hM _ [.box (.t b d)] _ _ (h d x h3) X w σ vs hfin ⟨fun j o hj=> ?_,fun i j bb hij hi hj=>hl.apart i j bb hij hi hj⟩ ?_
    ·cases j with
     |zero=>
      simp only [Do,Be] at hj
      subst hj
      exact ⟨Qdp hb hd (hl.at_ 0 _ rfl).1,by simp⟩
     |succ j=>simp at hj
    ·simp only [V.ds,Cs] at hc ⊢
     obtain ⟨u,us,rfl,q1,q2⟩:=hc
     exact ⟨u,us,rfl,q1,GF hx q2⟩
   ·cases hq
  ·cases hq
 ·cases hF
end
inductive SV where
 |ty (t:Ty)
 |ptr (k o:Nat)
 |ms (k:Nat)
 |cf (f:Nat)
 |fn (f:Nat) (ks:List (Nat×Nat))
 |nl
 |ni
 |bf (f:Nat) (t:Ty)
inductive SO where
 |box (t:Ty)
 |bag (l:List SV)
 |arr (e:Nat) (t:Ty)
 |no
 |bc (f:Nat)
 |bm (k:Nat)
@[reducible] def SV.T:SV->Type
 |.ty t=>t.T
 |.ptr _ _=>Unit
 |.ms _=>Unit
 |.cf _=>Unit
 |.fn _ _=>Unit
 |.nl=>Unit
 |.ni=>Unit
 |.bf _ t=>t.T
@[reducible] def SVt:List SV->Type
 | []=>Unit
 |s::r=>s.T×SVt r
@[reducible] def SO.T:SO->Type
 |.box t=>t.T
 |.bag l=>SVt l
 |.arr _ t=>List t.T
 |.no=>Unit
 |.bc _=>Unit
 |.bm _=>Unit
def SV.mk:(s:SV)->s.T->V
 |.ty t,x=> .t t x
 |.ptr k o,_=> .ptr k o
 |.ms k,_=> .ms k
 |.cf f,_=> .c (.func (.func f) ⟨[]⟩ ⟨[]⟩)
 |.fn f ks,_=> .fn f (ks.map fun p=> .ptr p.1 p.2)
 |.nl,_=> .c (.slice none 0 0)
 |.ni,_=> .c .nilIface
 |.bf f t,x=> .fn (f+1000000) [.t t x]
def QmE:Value->Bool
 |.nilIface=>true
 |_=>false
theorem QM4 {x:Value}(h:QmE x=true):x= .nilIface:=by
 unfold QmE at h
 split at h
 ·rfl
 ·cases h
def QmF:Value->Bool
 |.slice none 0 0=>true
 |_=>false
theorem QM5 {x:Value}(h:QmF x=true):x= .slice none 0 0:=by
 unfold QmF at h
 split at h
 ·rfl
 ·cases h
def Qe5:Value->Option Nat
 |.func (.func g) ⟨[]⟩ ⟨[]⟩=>some g
 |_=>none
theorem QwV {x:Value}{f:Nat}(h:Qe5 x=some f):x= .func (.func f) ⟨[]⟩ ⟨[]⟩:=by
 unfold Qe5 at h
 split at h
 ·simp only [Be] at h
  rw [h]
 ·cases h
def I2:List V->Option (List (Nat×Nat))
 | []=>some []
 |.ptr k o::r=>match I2 r with
  |some l=>some ((k,o)::l)
  |none=>none
 |_=>none
theorem QwW: ∀ {vs:List V} {ks:List (Nat×Nat)},I2 vs=some ks->vs=ks.map fun p=> .ptr p.1 p.2
 | [],ks,h=>by
  simp only [I2,Be] at h
  subst h
  rfl
 |v::r,ks,h=>by
  cases v with
  |ptr k o=>
   simp only [I2] at h
   split at h
   ·rename_i l hl
    simp only [Be] at h
    subst h
    rw [QwW hl]
    rfl
   ·cases h
  |_=>simp only [I2] at h;cases h
def Ft:(l:List SV)->SVt l->List V
 | [],_=>[]
 |s::r,x=>s.mk x.1::Ft r x.2
def SO.mk:(s:SO)->s.T->VO
 |.box t,x=> .box (.t t x)
 |.bag l,x=> .box (.ag (Ft l x))
 |.arr e t,l=> .arr e t l
 |.no,_=> .no
 |.bc f,_=> .box (.c (.func (.func f) ⟨[]⟩ ⟨[]⟩))
 |.bm k,_=> .box (.ms k)
def QmG (t:Ty):List V->Option t.T
 | [.t t' x]=>if h:t'=t then some (h▸x) else none
 |_=>none
theorem QM6 {t:Ty}{vs:List V}{x:t.T}(h:QmG t vs=some x):vs=[.t t x]:=by
 unfold QmG at h
 split at h
 ·split at h
  ·rename_i ht
   subst ht
   simp only [Be] at h
   rw [h]
  ·cases h
 ·cases h
def SV.rd:(s:SV)->V->Option s.T
 |.ty t,.t t' x=>if h:t'=t then some (h▸x) else none
 |.ptr k o,.ptr k' o'=>if k'=k/\o'=o then some () else none
 |.ms k,.ms k'=>if k'=k then some () else none
 |.cf f,.c x=>if Qe5 x=some f then some () else none
 |.fn f ks,.fn g vs=>if g=f/\I2 vs=some ks then some () else none
 |.nl,.c x=>if QmF x=true then some () else none
 |.ni,.c x=>if QmE x=true then some () else none
 |.bf f t,.fn g vs=>if g=f+1000000 then QmG t vs else none
 |_,_=>none
def Ew:(l:List SV)->List V->Option (SVt l)
 | [],[]=>some ()
 |s::r,v::vs=>match s.rd v,Ew r vs with
  |some x,some y=>some (x,y)
  |_,_=>none
 |_,_=>none
def SO.rd:(s:SO)->VO->Option s.T
 |.box t,.box v=>(SV.ty t).rd v
 |.bag l,.box (.ag vs)=>Ew l vs
 |.arr e t,.arr e' t' l=>if h:t'=t then (if e'=e then some (h▸l) else none) else none
 |.no,.no=>some ()
 |.bc f,.box (.c x)=>if Qe5 x=some f then some () else none
 |.bm k,.box (.ms j)=>if j=k then some () else none
 |_,_=>none
theorem SV.rd_mk {s:SV}{v:V}{x:s.T}(h:s.rd v=some x):v=s.mk x:=by
 cases s with
 |ty t=>
  cases v with
  |t t' y=>
   simp only [SV.rd] at h
   split at h
   ·rename_i ht
    subst ht
    simp only [Be] at h
    subst h
    rfl
   ·cases h
  |_=>simp only [SV.rd] at h;cases h
 |ptr k o=>
  cases v with
  |ptr k' o'=>
   simp only [SV.rd] at h
   split at h
   ·rename_i hk
    rw [hk.1,hk.2]
    rfl
   ·cases h
  |_=>simp only [SV.rd] at h;cases h
 |ms k=>
  cases v with
  |ms k'=>
   simp only [SV.rd] at h
   split at h
   ·rename_i hk
    rw [hk]
    rfl
   ·cases h
  |_=>simp only [SV.rd] at h;cases h
 |cf f=>
  cases v with
  |c x=>
   simp only [SV.rd] at h
   split at h
   ·rename_i hk
    rw [QwV hk]
    rfl
   ·cases h
  |_=>simp only [SV.rd] at h;cases h
 |fn f ks=>
  cases v with
  |fn g vs=>
   simp only [SV.rd] at h
   split at h
   ·rename_i hk
    rw [hk.1,QwW hk.2]
    rfl
   ·cases h
  |_=>simp only [SV.rd] at h;cases h
 |nl=>
  cases v with
  |c x=>
   simp only [SV.rd] at h
   split at h
   ·rename_i hk
    rw [QM5 hk]
    rfl
   ·cases h
  |_=>simp only [SV.rd] at h;cases h
 |ni=>
  cases v with
  |c x=>
   simp only [SV.rd] at h
   split at h
   ·rename_i hk
    rw [QM4 hk]
    rfl
   ·cases h
  |_=>simp only [SV.rd] at h;cases h
 |bf f t=>
  cases v with
  |fn g vs=>
   simp only [SV.rd] at h
   split at h
   ·rename_i hk
    rw [hk,QM6 h]
    rfl
   ·cases h
  |_=>simp only [SV.rd] at h;cases h
theorem I3: ∀ {l:List SV} {vs:List V} {x:SVt l},Ew l vs=some x->vs=Ft l x
 | [],[],_,_=>rfl
 | [],_::_,_,h=>by cases h
 |_::_,[],_,h=>by cases h
 |s::r,v::vs,x,h=>by
  simp only [Ew] at h
  split at h
  ·rename_i x1 y1 h1 h2
   simp only [Be] at h
   subst h
   rw [SV.rd_mk h1,I3 h2]
   rfl
  ·cases h
theorem SO.rd_mk {s:SO}{v:VO}{x:s.T}(h:s.rd v=some x):v=s.mk x:=by
 cases s with
 |box t=>
  cases v with
  |box v=>
   simp only [SO.rd] at h
   have:=SV.rd_mk h
   rw [this]
   rfl
  |_=>simp only [SO.rd] at h;cases h
 |bag l=>
  cases v with
  |box v=>
   cases v with
   |ag vs=>
    simp only [SO.rd] at h
    rw [I3 h]
    rfl
   |_=>simp only [SO.rd] at h;cases h
  |_=>simp only [SO.rd] at h;cases h
 |arr e t=>
  cases v with
  |arr e' t' l=>
   simp only [SO.rd] at h
   split at h
   ·rename_i ht
    subst ht
    split at h
    ·rename_i he
     simp only [Be] at h
     subst h
     rw [he]
     rfl
    ·cases h
   ·cases h
  |_=>simp only [SO.rd] at h;cases h
 |no=>
  cases v with
  |no=>rfl
  |_=>simp only [SO.rd] at h;cases h
 |bc f=>
  cases v with
  |box c=>
   cases c with
   |c x=>
    simp only [SO.rd] at h
    split at h
    ·rename_i hk
     rw [QwV hk]
     rfl
    ·cases h
   |_=>simp only [SO.rd] at h;cases h
  |_=>simp only [SO.rd] at h;cases h
 |bm k=>
  cases v with
  |box c=>
   cases c with
   |ms j=>
    simp only [SO.rd] at h
    split at h
    ·rename_i hk
     rw [hk]
     rfl
    ·cases h
   |_=>simp only [SO.rd] at h;cases h
  |_=>simp only [SO.rd] at h;cases h
@[reducible] def SVs:List (Nat×SV)->Type
 | []=>Unit
 |(_,s)::r=>s.T×SVs r
@[reducible] def SOs:List (Nat×SO)->Type
 | []=>Unit
 |(_,s)::r=>s.T×SOs r
def Qe6:(l:List (Nat×SV))->SVs l->List (Nat×V)
 | [],_=>[]
 |(i,s)::r,x=>(i,s.mk x.1)::Qe6 r x.2
def Qe7:(l:List (Nat×SO))->SOs l->List (Nat×VO)
 | [],_=>[]
 |(i,s)::r,x=>(i,s.mk x.1)::Qe7 r x.2
def QaN (f:Nat->V):(l:List (Nat×SV))->Option (SVs l)
 | []=>some ()
 |(i,s)::r=>match s.rd (f i),QaN f r with
  |some x,some y=>some (x,y)
  |_,_=>none
def QaO (f:Nat->VO):(l:List (Nat×SO))->Option (SOs l)
 | []=>some ()
 |(i,s)::r=>match s.rd (f i),QaO f r with
  |some x,some y=>some (x,y)
  |_,_=>none
structure Sh where
 vs:List (Nat×SV)
 os:List (Nat×SO)
def SV.t? : SV->Option Ty
 |.ty t=>some t
 |_=>none
def SO.t? : SO->Option Ty
 |.box t=>some t
 |_=>none
def Sh.f (s:Sh):Fg:=⟨s.vs.map fun p=>(p.1,p.2.t?),s.os.map fun p=>(p.1,p.2.t?)⟩
def Sh.st (s:Sh)(x:SVs s.vs)(y:SOs s.os):VS:=⟨Xs (Qe6 s.vs x),Yx (Qe7 s.os y),s.os.map Prod.fst⟩
theorem nrm_mk {s:SV}{x:s.T}:J9 s.t? (s.mk x)=s.mk x:=by
 cases s with
 |ty t=>simp only [SV.t?, SV.mk,J9,V.as,dite_true]
 |_=>rfl
theorem QM7 {s:SO}{x:s.T}:ZV s.t? (s.mk x)=s.mk x:=by
 cases s with
 |box t=>
  simp only [SO.t?, SO.mk,ZV,J9,V.as,dite_true]
  split<;>rfl
 |_=>rfl
theorem QmH {f:Nat->V}: ∀ {l:List (Nat×SV)} {x:SVs l},QaN f l=some x->(l.map fun p=>(p.1,p.2.t?)).map (fun p=>(p.1,J9 p.2 (f p.1)))=Qe6 l x
 | [],_,_=>rfl
 |(i,s)::r,x,h=>by
  simp only [QaN] at h
  split at h
  ·rename_i x1 y1 h1 h2
   simp only [Be] at h
   subst h
   simp only [BJ,Qe6,SV.rd_mk h1,nrm_mk,QmH h2]
  ·cases h
theorem QmI {f:Nat->VO}: ∀ {l:List (Nat×SO)} {x:SOs l},QaO f l=some x->(l.map fun p=>(p.1,p.2.t?)).map (fun p=>(p.1,ZV p.2 (f p.1)))=Qe7 l x
 | [],_,_=>rfl
 |(i,s)::r,x,h=>by
  simp only [QaO] at h
  split at h
  ·rename_i x1 y1 h1 h2
   simp only [Be] at h
   subst h
   simp only [BJ,Qe7,SO.rd_mk h1,QM7,QmI h2]
  ·cases h
def mkL (s:Sh)(ok:SVs s.vs->SOs s.os->Bool)(Yy:SVs s.vs->SOs s.os->List (Bool×Exit×VS))(S:VS):Option (Bool×List (Bool×Exit×VS)):=
 match QaN S.ts s.vs,QaO S.st s.os with
 |some x,some y=>some (ok x y,Yy x y)
 |_,_=>none
theorem lok_of {g:G}{s:Sh}{f:Fg}{a:TC}{ok:SVs s.vs->SOs s.os->Bool}{Yy:SVs s.vs->SOs s.os->List (Bool×Exit×VS)}(hok:f.ok)(hf:f=s.f)(h: ∀ x y,ok x y=true→ ∀ p,Yz (Yy x y)=some p->QB (QD g f a) (s.st x y)=some p):
  ∀ S l p,mkL s ok Yy (fgt f S)=some (true,l)->Yz l=some p->QB (QD g f a) S=some p:=by
 intro S l p hL hp
 unfold mkL at hL
 split at hL
 ·rename_i x y hx hy
  simp only [Be,Br] at hL
  obtain ⟨h1,rfl⟩:=hL
  rw [QV9 hok]
  have e1:=QmH hx
  have e2:=QmI hy
  have:fgt f S=s.st x y:=by
   rw [←QsO hok S]
   have e3:(fgt f S).ts=(fgt f S).ts:=rfl
   generalize fgt f S=T at e1 e2
   subst hf
   unfold fgt Sh.st
   simp only [Sh.f]
   rw [e1,e2]
   simp only [DJ]
   rfl
  rw [this]
  exact h x y h1 p hp
 ·cases hL
def mkR {yr:Ty}(s:Sh)(ok:List yr.T->SVs s.vs->SOs s.os->Bool)(Yy:List yr.T->SVs s.vs->SOs s.os->List (Bool×Exit×VS))(S:VS)(rows:List yr.T):Option (Bool×List (Bool×Exit×VS)):=
 match QaN S.ts s.vs,QaO S.st s.os with
 |some x,some y=>some (ok rows x y,Yy rows x y)
 |_,_=>none
theorem QmJ {g:G}{s:Sh}{f:Fg}{yr:Ty}{ps:List Nat}{a b:TC}{ok:List yr.T->SVs s.vs->SOs s.os->Bool}{Yy:List yr.T->SVs s.vs->SOs s.os->List (Bool×Exit×VS)}(hok:f.ok)(hf:f=s.f)
  (h: ∀ rows x y,ok rows x y=true→ ∀ p,Yz (Yy rows x y)=some p->Xt (Ws g f yr ps a b) rows (s.st x y)=some p):
  ∀ S rows l p,mkR s ok Yy (fgt f S) rows=some (true,l)->Yz l=some p->Xt (Ws g f yr ps a b) rows (fgt f S)=some p:=by
 intro S rows l p hL hp
 unfold mkR at hL
 split at hL
 ·rename_i x y hx hy
  simp only [Be,Br] at hL
  obtain ⟨h1,rfl⟩:=hL
  have e1:=QmH hx
  have e2:=QmI hy
  have:fgt f S=s.st x y:=by
   rw [←QsO hok S]
   generalize fgt f S=T at e1 e2
   subst hf
   unfold fgt Sh.st
   simp only [Sh.f]
   rw [e1,e2]
   simp only [DJ]
   rfl
  rw [this]
  exact h rows x y h1 p hp
 ·cases hL
theorem QmK {l:List ((yr:Ty)×(VS->List yr.T->Option (Bool×List (Bool×Exit×VS))))}{j:Nat}{y:Ty}{F:VS->List y.T->Option (Bool×List (Bool×Exit×VS))}(h:l[j]? = some ⟨y,F⟩)(S:VS)(rows:List y.T):RL l j S y rows=F S rows:=by
 unfold RL
 rw [h]
 simp only [dite_true]
def Ls (l:List (VS->Option (Bool×List (Bool×Exit×VS))))(j:Nat)(S:VS):Option (Bool×List (Bool×Exit×VS)):=
 match l[j]? with
 |some F=>F S
 |none=>none
def nxt (f:VS->Option (Exit×VS)):Option (Exit×VS)->Option (Exit×VS)
 |some (.normal,S)=>f S
 |x=>x
theorem QwX (b:VS->Option (Exit×VS))(S:VS):QB b S=nxt (QB b) (b S):=by
 rw [QV5]
 cases b S with
 |none=>rfl
 |some x=>
  obtain ⟨e,S'⟩:=x
  cases e<;>rfl
theorem QmL {α:Type}(rd:α->VS->Option (Exit×VS))(z:α)(zs:List α)(S:VS):Xt rd (z::zs) S=nxt (Xt rd zs) (rd z S):=by
 simp only [Xt]
 cases rd z S with
 |none=>rfl
 |some x=>
  obtain ⟨e,S'⟩:=x
  cases e<;>rfl
theorem Xy {f:VS->Option (Exit×VS)}{q:Bool}{a b:Option (Exit×VS)}:nxt f (br q a b)=br q (nxt f a) (nxt f b):=by cases q<;>rfl
theorem X7 {f:VS->Option (Exit×VS)}{S:VS}:nxt f (some (.normal,S))=f S:=rfl
theorem X8 {f:VS->Option (Exit×VS)}{S:VS}:nxt f (some (.ret,S))=some (.ret,S):=rfl
theorem X9 {f:VS->Option (Exit×VS)}{S:VS}{i:Nat}:nxt f (some (.exit i,S))=some (.exit i,S):=rfl
theorem Wa {f:VS->Option (Exit×VS)}:nxt f none=none:=rfl
theorem QJ {q q2:Bool}{e e2:Exit}{S S2:VS}{l:List (Bool×Exit×VS)}:Yz ((q,e,S)::(q2,e2,S2)::l)=br q (some (e,S)) (Yz ((q2,e2,S2)::l)):=by cases q<;>rfl
theorem QK {q:Bool}{e:Exit}{S:VS}:Yz [(q,e,S)]=some (e,S):=rfl
theorem Qe {β:Type}{a b:Option β}:br true a b=a:=rfl
theorem Qi {β:Type}{a b:Option β}:br false a b=b:=rfl
abbrev Qk (k:IntKind)(a b:Int):Int:=k.wrap (a+b)
abbrev QT (k:IntKind)(a b:Int):Int:=k.wrap (a-b)
abbrev Fu (k:IntKind)(a b:Int):Int:=k.wrap (a*b)
abbrev Ex (k:IntKind)(a b:Int):Int:=k.wrap (a.tdiv b)
abbrev Ua (a b:Int):Int:=a.tmod b
abbrev icv (k:IntKind)(a:Int):Int:=k.wrap a
abbrev imx (a b:Int):Int:=if b > a then b else a
abbrev imn (a b:Int):Int:=if b<a then b else a
abbrev ieq (a b:Int):Bool:=a==b
abbrev ine (a b:Int):Bool:=a != b
abbrev ilt (a b:Int):Bool:=decide (a<b)
abbrev ile (a b:Int):Bool:=decide (a<=b)
abbrev igt (a b:Int):Bool:=decide (a > b)
abbrev ige (a b:Int):Bool:=decide (a≥b)
abbrev seq (a b:ByteArray):Bool:=a.toList==b.toList
abbrev sne (a b:ByteArray):Bool:= !(a.toList==b.toList)
abbrev Qe8 (a b:Bool):Bool:=a==b
abbrev I4 (a b:Bool):Bool:= !(a==b)
abbrev cNz (b:Int):Bool:=decide (b≠0)
abbrev cIx {α:Type}(l:List α)(j:Int):Bool:=decide (0<=j/\j<(l.length:Nat))
abbrev cSx (z:ByteArray)(j:Int):Bool:=decide (0<=j/\j<(z.size:Nat))
abbrev cWn {α:Type}(l:List α)(a h:Int):Bool:=decide (0<=a/\a<=h/\h<=(l.length:Nat))
abbrev cSl {α:Type}(l:List α)(a h m:Int):Bool:=decide (0<=a/\a<=h/\h<=m/\m<=(l.length:Nat))
abbrev Qr {α:Type}(l l2:List α)(bytes:Nat):Bool:=decide ((l.length+l2.length)*(bytes+1)<=140737488355328)
abbrev cLd {α:Type}(l:List α)(i:Nat):Bool:=decide (i<l.length)
abbrev cCat (a b:ByteArray):Bool:=decide (((a.size+b.size:Nat):Int)<=9223372036854775807)
abbrev lgt (y:Ty)(l:List y.T)(j:Nat):y.T:=l.getD j y.zero
abbrev lsl {α:Type}(l:List α)(a h:Int):List α:=(l.drop a.toNat).take (h.toNat-a.toNat)
abbrev Qc {α:Type}(l:List α):Int:=((l.length:Nat):Int)
abbrev Zm (z:ByteArray):Int:=((z.size:Nat):Int)
abbrev sgt (z:ByteArray)(j:Int):Int:=(((z.data.toList.getD j.toNat 0).toNat:Nat):Int)
abbrev Fv (a b:ByteArray):ByteArray:=a++b
abbrev WC (bs:List Ty):Type:=SVt (bs.map SV.ty)
def Qe9 (b:Ty)(c:V):Option b.T:=if b.row=true then c.as b else (SV.ty b).rd c
def Yp:(bs:List Ty)->List VO->Option (WC bs)
 | [],[]=>some ()
 |b::bs,.box c::os=>match Qe9 b c,Yp bs os with
  |some x,some y=>some (x,y)
  |_,_=>none
 |_,_=>none
def U4:(bs:List Ty)->WC bs->List VO
 | [],_=>[]
 |b::bs,x=> .box (.t b x.1)::U4 bs x.2
def U5 (l:List SV)(bs:List Ty)(ok:SVt l->WC bs->Bool)(F:SVt l->WC bs->V):Ent:=fun args objs=>
 match Ew l args,Yp bs objs with
 |some x,some d=>some (ok x d,F x d,U4 bs d)
 |_,_=>none
section
variable {P:Program}{X:Nat->Nat->Prop}{w:World}{σ:Pl}
theorem QM8 {b:Ty}{c:V}{d:b.T}{k:Nat}(h:Qe9 b c=some d)(hat:OAt X w σ k (.box c)):OAt X w σ k (.box (.t b d)):=by
 unfold Qe9 at h
 split at h
 ·rename_i hb
  exact Qdp hb h hat
 ·have:=SV.rd_mk h
  rw [this] at hat
  exact hat
theorem QmM: ∀ {bs:List Ty} {os:List VO} {d:WC bs},Yp bs os=some d->(U4 bs d).length=os.length∧ ∀ (j k:Nat) (o:VO),(U4 bs d)[j]? = some o->o≠ .no∧ ∃ o',os[j]? = some o'/\(OAt X w σ k o'->OAt X w σ k o)
 | [],[],d,_=>⟨rfl,fun j k o h=>by simp [U4] at h⟩
 | [],_::_,d,h=>by simp [Yp] at h
 |_::_,[],d,h=>by simp [Yp] at h
 |b::bs,o::os,d,h=>by
  cases o with
  |box c=>
   simp only [Yp] at h
   split at h
   ·rename_i x y hx hy
    simp only [Be] at h
    subst h
    obtain ⟨h1,h2⟩:=QmM hy
    refine ⟨by simp only [U4,Bp,h1],fun j k o hj=> ?_⟩
    cases j with
    |zero=>
     simp only [U4,Do,Be] at hj
     subst hj
     exact ⟨by simp,_,rfl,QM8 hx⟩
    |succ j=>
     simp only [U4,DS] at hj
     obtain ⟨q1,o',q2,q3⟩:=h2 j k o hj
     exact ⟨q1,o',by simpa using q2,q3⟩
   ·cases h
  |no=>simp [Yp] at h
  |arr e t l=>simp [Yp] at h
theorem YQ {f:FuncId}{R:Fun}{l:List SV}{bs:List Ty}{ok:SVt l->WC bs->Bool}{F:SVt l->WC bs->V}(hM:QQ P f R)(h: ∀ x d,ok x d=true->R (Ft l x) (U4 bs d)=some (F x d,U4 bs d)):QQ P f (QP (U5 l bs ok F)):=by
 intro args objs r os hF X w σ vs hfin hl hc
 unfold QP U5 at hF
 split at hF
 ·rename_i r' os' hq
  split at hq
  ·rename_i x d hx hd
   simp only [Be,Br] at hF hq
   obtain ⟨rfl,rfl⟩:=hF
   obtain ⟨h1,rfl,rfl⟩:=hq
   have ha:=I3 hx
   subst ha
   have hb:=fun j k o=>(QmM (X:=X) (w:=w) (σ:=σ) hd).2 j k o
   have hlen:=(QmM (X:=X) (w:=w) (σ:=σ) hd).1
   have:=hM _ _ _ _ (h x d h1) X w σ vs hfin ⟨fun j o hj=>by
    obtain ⟨q1,o',q2,q3⟩:=hb j (50000+j) o hj
    exact ⟨q3 (hl.at_ j o' q2).1,q1⟩,fun i j b hij hi hj=>hl.apart i j b hij (by omega) (by omega)⟩ hc
   rw [hlen] at this
   exact this
  ·cases hq
 ·cases hF
end
def oK (d:Nat)(k:RK):RO:=⟨some d,none,k⟩
def oM (d:Nat)(m:MO):RO:=⟨some d,none,.m m⟩
def oP (d:Nat)(a:AO):RO:=⟨some d,none,.m (.pu a)⟩
def oV (d i:Nat):RO:=⟨some d,none,.m (.pu (.mv (.t i)))⟩
def oL (d i:Nat):RO:=⟨some d,none,.m (.ld false 1 (.t i))⟩
def oC (d f:Nat)(l:List AX):RO:=⟨some d,none,.call f l⟩
def oG (d j:Nat)(b:Bool)(k:RK):RO:=⟨some d,some (j,b),k⟩
def oQ (d j:Nat)(b:Bool)(a:AO):RO:=⟨some d,some (j,b),.m (.pu a)⟩
def cI (n:Int):AX:= .c (.v (.int .i64 n))
def cB (b:Bool):AX:= .c (.v (.bool b))
end Go.Proofs.YtckcgijklnloiaaGreat.K
/-
 From a contract of calls to what is said in types,and from there to a law's row.
-/
namespace Go.Proofs.YtckcgijklnloiaaGreat.K
open Go.RowKit
section
variable {P:Program}{X:Nat->Nat->Prop}{w:World}{σ:Pl}
theorem QwY {w w':World}(h:Below w.heap.size w w'):Fr [] w w':=⟨h.os,h.tape,h.output,h.size,fun b hb _=>h.block b hb⟩
theorem QmN {w w':World}{m:Nat}(hm:m=0)(hfin: ∀ b q,X b q->b<w.heap.size)(h:Below w.heap.size w w'):Ends X w σ m X w' σ []:=by
 subst hm
 exact ⟨fun b q hq=>B9 (hfin b q hq) h.size,fun j o hj=>by simp at hj,fun i j b _ hi=>by simp at hi,by simp,fun _ _=>rfl,fun j b _ hj=>by simp at hj,QwY h,fun _ _ _ h=>h,fun _ _ _ _ h=>h⟩
theorem QM9 {f:FuncId}{a:Ty}{ok:a.T->Bool}{F:a.T->V}(h: ∀ x,ok x=true→ ∀ X w σ vs,(∀ b q,X b q->b<w.heap.size)->Cs X w σ (V.ds (a.canon x)) vs→
  Calls P f vs.toArray w fun e w'=> ∃ u,e= .returned u/\C X w' σ (F x).d u/\Below w.heap.size w w') (hlt:f<1000000:=by decide):QQ P f (QP (Qq a ok F)):=by
 intro args objs r os hF X w σ vs hfin hl hc
 unfold QP Qq at hF
 cases objs with
 |cons o os'=>simp at hF
 |nil=>
  simp only at hF
  cases ha:a.args args with
  |none=>rw [ha] at hF;cases hF
  |some x=>
   rw [ha] at hF
   simp only at hF
   split at hF
   ·rename_i r' os' hq
    simp only [Be,Br] at hF hq
    obtain ⟨rfl,rfl⟩:=hF
    obtain ⟨h1,rfl,rfl⟩:=hq
    refine (Qj1 hlt (h x h1 X w σ vs hfin (GF ha hc))).mono ?_
    rintro e w' ⟨u,e1,e2,e3⟩
    exact ⟨u,X,σ,e1,e2,QmN rfl hfin e3⟩
   ·cases hF
theorem QNa {f:FuncId}{F:Fun}(hlt:f<1000000)(h:QQ P f F){args:List V}(hF:F args []=some (.t .bool true,[])){W:World}{vs:List Value}(hc:Cs (fun _ _=>False) W (fun _=> .no) (V.ds args) vs):
  Calls P f vs.toArray W fun r w'=>r= .returned (.bool true)/\Below W.heap.size W w':=by
 refine (Qdk hlt (h args [] _ _ hF (fun _ _=>False) W (fun _=> .no) vs (fun _ _ h=>h.elim) ⟨fun j o hj=>by simp at hj,fun i j b _ hi=>by simp at hi⟩ hc)).mono ?_
 rintro e w' ⟨u,X',σ',rfl,h1,h2⟩
 simp only [V.d,Ty.d,C] at h1
 rw [h1.1]
 exact ⟨rfl,h2.fr.os,h2.fr.tape,h2.fr.output,h2.fr.size,fun b hb=>h2.fr.keep b hb (by simp [WP])⟩
theorem QwZ {k:IntKind}: ∀ (zs:List Int),Cs X w σ (zs.flatMap (Ty.int k).cells) (zs.map (Value.int k))
 | []=>by simp [Cs]
 |z::zs=>by
  simp only [BY,Ty.cells,BD,BJ,Cs]
  exact ⟨_,_,rfl,⟨rfl,rfl⟩,QwZ zs⟩
theorem introw_c {k:IntKind}{W:World}{a:Option Addr}{len cap:Nat}{zs:List Int}(hr:IsRow k W a len cap zs):C (fun _ _=>False) W σ (V.t (.sl (.int k)) (zs.take len)).d (.slice a len cap):=by
 rcases hr with ⟨rfl,rfl,rfl,rfl⟩|⟨x,rfl,h1,h2,h3,h4,h5⟩
 ·simp only [V.d,Ty.d,C,List.take_nil,Bw]
  exact ⟨none,0,rfl,BS _,by simp [maxLen],fun _=>rfl,fun h=>absurd h (by omega)⟩
 ·have hlen:(zs.take len).length=len:=by rw [B5];omega
  simp only [V.d,Ty.d,C,hlen]
  refine ⟨some x,cap,rfl,h1,h2,fun h=>by subst h;simp,fun h=> ?_⟩
  obtain ⟨b,off,sp⟩:=x
  have h0:=h4 0 (by omega)
  have hsp:sp=none:=by
   simp only [World.cell?, Addr.add] at h0
   cases sp with
   |none=>rfl
   |some s=>split at h0<;>simp at h0
  subst hsp
  refine ⟨b,off,_,rfl,QwZ _, ?_,fun j _ h=>h,fun j u hu=> ?_,fun u hu=> ?_⟩
  ·rcases Dj b W.heap.size with hlt|hge
   ·exact hlt
   ·simp [World.cell?, Addr.add,Array.getElem?_eq_none hge] at h0
  ·rw [De] at hu
   have hj:j<len:=by
    rcases Dj j len with hlt|hge
    ·exact hlt
    ·rw [DL (by omega)] at hu;cases hu
   have:=h4 j (by omega)
   rw [List.getElem?_take_of_lt hj,Bl (by omega)] at hu
   rw [Bo,Bl (by omega)] at this
   simp only [B6,Be] at hu
   subst hu
   have ha:(Addr.mk b off none).add j=⟨b,off+j,none⟩:=by by_cases h0:j=0<;>simp [Addr.add,h0]
   rw [ha] at this
   simpa using this
  ·simp only [Dc] at hu
   obtain ⟨z,_,rfl⟩:=hu
   rfl
theorem QNb {a:Ty}{ok:a.T->Bool}{F:a.T->V}{args:List V}{x:a.T}(h:a.args args=some x)(hok:ok x=true):QP (Qq a ok F) args []=some (F x,[]):=by
 simp [QP,Qq,h,hok]
end
end Go.Proofs.YtckcgijklnloiaaGreat.K
/-
 What is handed to a law,whatever its types of plain data:the datum that is read is a typed value.
-/
namespace Go.Proofs.YtckcgijklnloiaaGreat.K
open Go.RowKit Go.ChangeShapes Go.WideShapes Go.Deep
def Ty.wf:(y:Ty)->y.T->Prop
 |.int k,n=>(Lit.int k n).wf=true
 |.bool,_=>True
 |.str,s=>s.size<=maxLen
 |.sl e,l=>List.length l<=maxLen∧ ∀ x∈l,e.wf x
 |.nil,_=>True
 |.pr f r,x=>f.wf x.1/\r.wf x.2
 |.rv,_=>True
 |.rb,_=>True
def I5 (P:Program)(T:TypeId->Ty->Bool):List Field->Nat->Ty->Bool
 | [],_,.nil=>true
 |f::r,o,.pr a b=>decide (f.offset=o)&&decide (P.cellsOf f.type=a.sz)&&T f.type a&&I5 P T r (o+a.sz) b
 |_,_,_=>false
def Ub (P:Program):Nat->TypeId->Ty->Bool
 |0,_,_=>false
 |n+1,t,y=>match P.underlying t with
  |some (.int k)=>decide (y= .int k)
  |some .bool=>decide (y= .bool)
  |some .string=>decide (y= .str)
  |some (.slice e)=>match y with
   |.sl z=>Ub P n e z&&decide (P.cellsOf e=z.sz)&&decide (0<z.sz)
   |_=>false
  |some (.struct fs)=>y.row&&decide (P.cellsOf t=y.sz)&&I5 P (Ub P n) fs.toList 0 y
  |_=>false
abbrev noX:Nat->Nat->Prop:=fun _ _=>False
section
variable {H:Type}{enc:TypeId×Value->H}{P:Program}{w:World}{base:Nat}{sp:Nat->Bool}{held:Bool}{σ:Pl}
theorem QmO {X:Nat->Nat->Prop}: ∀ (y:Ty) (x:y.T) (vs:List Value),Cs X w σ (y.cells x) vs->vs.length=y.sz∧ ∀ v∈vs,v.oneCell'=true
 |.int k,n,vs,h=>by
  simp only [Ty.cells,Cs] at h
  obtain ⟨u,us,rfl,h1,rfl⟩:=h
  simp only [C] at h1
  exact ⟨rfl,fun v hv=>by simp at hv;subst hv;rw [h1.1];exact h1.2⟩
 |.bool,n,vs,h=>by
  simp only [Ty.cells,Cs] at h
  obtain ⟨u,us,rfl,h1,rfl⟩:=h
  simp only [C] at h1
  exact ⟨rfl,fun v hv=>by simp at hv;subst hv;rw [h1.1];exact h1.2⟩
 |.str,n,vs,h=>by
  simp only [Ty.cells,Cs] at h
  obtain ⟨u,us,rfl,h1,rfl⟩:=h
  simp only [C] at h1
  exact ⟨rfl,fun v hv=>by simp at hv;subst hv;rw [h1.1];exact h1.2⟩
 |.sl e,l,vs,h=>by
  simp only [Ty.cells,Cs] at h
  obtain ⟨u,us,rfl,h1,rfl⟩:=h
  simp only [C] at h1
  obtain ⟨A,c,rfl,_⟩:=h1
  exact ⟨rfl,fun v hv=>by simp at hv;subst hv;rfl⟩
 |.rv,l,vs,h=>by
  simp only [Ty.cells,Cs] at h
  obtain ⟨u,us,rfl,h1,rfl⟩:=h
  simp only [C] at h1
  obtain ⟨A,c,rfl,_⟩:=h1
  exact ⟨rfl,fun v hv=>by simp at hv;subst hv;rfl⟩
 |.rb,l,vs,h=>by
  simp only [Ty.cells,Cs] at h
  obtain ⟨u,us,rfl,h1,rfl⟩:=h
  simp only [C] at h1
  obtain ⟨A,c,rfl,_⟩:=h1
  exact ⟨rfl,fun v hv=>by simp at hv;subst hv;rfl⟩
 |.nil,_,vs,h=>by
  simp only [Ty.cells,Cs] at h
  subst h
  exact ⟨rfl,fun v hv=>by cases hv⟩
 |.pr f r,x,vs,h=>by
  simp only [Ty.cells] at h
  obtain ⟨v1,v2,rfl,h1,h2⟩:=Cs.split h
  obtain ⟨a1,a2⟩:=QmO f x.1 v1 h1
  obtain ⟨b1,b2⟩:=QmO r x.2 v2 h2
  refine ⟨by simp only [Bj,Ty.sz,a1,b1],fun v hv=> ?_⟩
  rcases BH.1 hv with hv|hv
  ·exact a2 v hv
  ·exact b2 v hv
theorem Qw0 {X:Nat->Nat->Prop}{z:Ty}: ∀ (l:List z.T) (vs:List Value),Cs X w σ (l.flatMap z.cells) vs→ ∀ v∈vs,v.oneCell'=true
 | [],vs,h=>by
  simp only [List.flatMap_nil,Cs] at h
  subst h
  intro v hv
  cases hv
 |x::l,vs,h=>by
  rw [BY] at h
  obtain ⟨v1,v2,rfl,h1,h2⟩:=Cs.split h
  intro v hv
  rcases BH.1 hv with hv|hv
  ·exact (QmO z x v1 h1).2 v hv
  ·exact Qw0 l v2 h2 v hv
theorem Qw1 {T:TypeId->Ty->Bool}{n:Nat}{cs:List Value}(hT: ∀ t y cs x,T t y=true->DataW.trod enc P w base sp held n t cs=some x→ ∃ z:y.T,Cs noX w σ (y.cells z) cs/\y.wf z):
  ∀ (fs:List Field) (o:Nat) (y:Ty),I5 P T fs o y=true->(∀ (i:Nat) (f:Field),fs[i]? = some f→ ∃ x,DataW.trod enc P w base sp held n f.type ((cs.drop f.offset).take (P.cellsOf f.type))=some x)->o+y.sz=cs.length→
   ∃ z:y.T,Cs noX w σ (y.cells z) (cs.drop o)/\y.wf z
 | [],o,y,h,_,hl=>by
  cases y<;>simp only [I5,BW] at h
  refine ⟨(), ?_,trivial⟩
  simp only [Ty.sz] at hl
  rw [DX (by omega)]
  simp only [Ty.cells,Cs]
 |f::r,o,y,h,hf,hl=>by
  cases y with
  |pr a b=>
   simp only [I5,Bc,Ba] at h
   obtain ⟨⟨⟨h1,h2⟩,h3⟩,h4⟩:=h
   obtain ⟨x,hx⟩:=hf 0 f rfl
   rw [h1,h2] at hx
   obtain ⟨z1,c1,w1⟩:=hT _ _ _ _ h3 hx
   simp only [Ty.sz] at hl
   obtain ⟨z2,c2,w2⟩:=Qw1 hT r (o+a.sz) b h4 (fun i f' hi=>hf (i+1) f' (by simpa using hi)) (by omega)
   refine ⟨(z1,z2), ?_,w1,w2⟩
   have:=c1.app c2
   rw [←List.drop_drop,List.take_append_drop] at this
   exact this
  |_=>simp only [I5,BW] at h
theorem Qw2 {z:Ty}{a:Addr}: ∀ (len:Nat),(∀ i,i<len→ ∃ cs',w.cells? base (a.add (i*z.sz)) z.sz=some cs'∧ ∃ z1:z.T,Cs noX w Jl (z.cells z1) cs'/\z.wf z1)→
  ∃ (l:List z.T) (vs:List Value),l.length=len/\Cs noX w Jl (l.flatMap z.cells) vs/\vs.length=len*z.sz/\(∀ j,j<len*z.sz->w.cell? (a.add j)=vs[j]?)∧ ∀ x∈l,z.wf x
 |0,_=>⟨[],[],rfl,by simp [Cs],by simp,fun j hj=>by omega,fun x hx=>by cases hx⟩
 |k+1,h=>by
  obtain ⟨l,vs,h1,h2,h3,h4,h5⟩:=Qw2 k fun i hi=>h i (by omega)
  obtain ⟨cs',hc,z1,c1,w1⟩:=h k (by omega)
  obtain ⟨_,hl,hat⟩:=World.cells?_some hc
  have e:(k+1)*z.sz=k*z.sz+z.sz:=Nat.succ_mul k z.sz
  refine ⟨l++[z1],vs++cs',by simp [h1], ?_,by rw [Bj,h3,hl,e],fun j hj=> ?_,fun x hx=> ?_⟩
  ·rw [DT]
   exact h2.app (by simpa using c1)
  ·by_cases hj2:j<k*z.sz
   ·rw [DB (by omega)]
    exact h4 j hj2
   ·obtain ⟨i,rfl⟩: ∃ i,j=k*z.sz+i:=⟨j-k*z.sz,by omega⟩
    rw [List.getElem?_append_right (by omega),h3,Nat.add_sub_cancel_left, ← hat i (by omega),Go.Deep.add_add]
  ·rcases BH.1 hx with hx|hx
   ·exact h5 x hx
   ·simp at hx
    subst hx
    exact w1
theorem QmP: ∀ (n:Nat) (t:TypeId) (y:Ty) (Jo:Nat) (cs:List Value) (x:DataW H×List MemPlace) (σ:Pl),Ub P n t y=true->DataW.trod enc P w base sp held Jo t cs=some x→
  ∃ z:y.T,Cs noX w σ (y.cells z) cs/\y.wf z
 |0,t,y,_,_,_,_,h,_=>by simp [Ub] at h
 |n+1,t,y,Jo,cs,x,σ,h,hx=>by
  simp only [Ub] at h
  cases hu:P.underlying t with
  |none=>rw [hu] at h;cases h
  |some d=>
   rw [hu] at h
   cases d<;>simp only [BW] at h
   case int k=>
    simp only [Ba] at h
    subst h
    obtain ⟨m,rfl,_,hw⟩:=DataW.trod_int hu hx
    exact ⟨m,by simp only [Ty.cells];exact Cs.mk1 (show _/\_ from ⟨rfl,rfl⟩),hw⟩
   case bool=>
    simp only [Ba] at h
    subst h
    obtain ⟨m,rfl,_⟩:=DataW.trod_bool hu hx
    exact ⟨m,by simp only [Ty.cells];exact Cs.mk1 (show _/\_ from ⟨rfl,rfl⟩),trivial⟩
   case string=>
    simp only [Ba] at h
    subst h
    obtain ⟨m,rfl,_,hw⟩:=DataW.trod_string hu hx
    exact ⟨m,by simp only [Ty.cells];exact Cs.mk1 (show _/\_ from ⟨rfl,rfl⟩),hw⟩
   case slice e=>
    cases y<;>simp only [BW] at h
    case sl z=>
     simp only [Bc,Ba] at h
     obtain ⟨⟨h1,h2⟩,h3⟩:=h
     rcases open_slice hu hx with ⟨rfl,_⟩|⟨a,len,cap,m,f2,D,Pl,rfl,_,hl,hm,hmm,_,hi⟩
     ·refine ⟨[], ?_,by simp [maxLen],fun x hx=>by cases hx⟩
      simp only [Ty.cells]
      refine Cs.mk1 ?_
      simp only [C,Bw]
      exact ⟨none,0,rfl,BS _,by simp [maxLen],fun _=>rfl,fun h=>absurd h (by omega)⟩
     ·have hle:len<=m:=by rw [hmm];split<;>omega
      obtain ⟨l,vs,q1,q2,q3,q4,q5⟩:=Qw2 (w:=w) (base:=base) (z:=z) (a:=a) len fun i hil=>by
       obtain ⟨cs',g1,g2⟩:=hi i (by omega)
       rw [h2] at g1
       exact ⟨cs',g1,QmP n e z f2 cs' _ Jl h1 g2⟩
      refine ⟨l, ?_,⟨by omega,q5⟩⟩
      simp only [Ty.cells]
      refine Cs.mk1 ?_
      simp only [C]
      refine ⟨some a,cap,by rw [q1],by omega,hm,fun h0=>by have:l=[]:=BR h0;subst this;rfl,fun hp=> ?_⟩
      rw [q1] at hp
      obtain ⟨v0,hv0⟩: ∃ v,vs[0]? = some v:=by
       have:0<vs.length:=by rw [q3];exact Nat.mul_pos hp h3
       exact ⟨_,Bl this⟩
      have h0:=q4 0 (Nat.mul_pos hp h3)
      rw [hv0] at h0
      obtain ⟨b,off,spot⟩:=a
      have hsp:spot=none:=by
       simp only [World.cell?, Addr.add] at h0
       cases spot with
       |none=>rfl
       |some s=>split at h0<;>simp at h0
      subst hsp
      refine ⟨b,off,vs,rfl,q2, ?_,fun j _ h=>h,fun j u hu'=> ?_,fun u hu'=> ?_⟩
      ·rcases Dj b w.heap.size with hlt|hge
       ·exact hlt
       ·simp [World.cell?, Addr.add,Array.getElem?_eq_none hge] at h0
      ·have hj:j<len*z.sz:=by rw [←q3];exact (BL.1 hu').1
       have:=q4 j hj
       have ha:(Addr.mk b off none).add j=⟨b,off+j,none⟩:=by by_cases h0:j=0<;>simp [Addr.add,h0]
       rw [ha,hu'] at this
       exact this
      ·exact (Qw0 l vs q2) u hu'
   case struct fs=>
    simp only [Bc,Ba] at h
    obtain ⟨⟨_,h2⟩,h3⟩:=h
    obtain ⟨xs,m,_,_,hlen,hxl,hf⟩:=DataW.trod_struct hu hx
    have:=Qw1 (n:=m) (cs:=cs) (σ:=σ) (fun t y cs x=>QmP n t y m cs x σ) fs.toList 0 y h3 (fun i f hi=>by
     have hi':fs[i]? = some f:=by simpa using hi
     have hlt:=(Da.1 hi').1
     exact ⟨xs[i]'(by omega),(hf i f hi').trans (Bl _)⟩) (by omega)
    simpa using this
theorem QaP {n:Nat}{t:TypeId}{y:Ty}{v:Value}{r:Reach}{b0:Nat}{d:DataW H}{ps:List MemPlace}(h:Ub P (n+1) t y=true)(hval:Value.okWide P w r b0 t v)(hd:DataW.Trod enc P w base sp held t v d ps):
  ∃ z:y.T,C noX w σ (V.t y z).d v/\y.wf z:=by
 have h':=h
 obtain ⟨Jo,hf⟩:=hd
 obtain ⟨z,hz,hw⟩:=QmP (n+1) t y Jo _ _ σ h hf
 refine ⟨z, ?_,hw⟩
 simp only [Ub] at h
 simp only [V.d]
 cases hu:P.underlying t with
 |none=>rw [hu] at h;cases h
 |some dsc=>
  rw [hu] at h
  cases dsc<;>simp only [BW] at h
  case int k=>
   simp only [Ba] at h
   subst h
   obtain ⟨m,rfl,_⟩:=open_int hu hval ⟨Jo,hf⟩
   simp only [Ty.cells,Value.cells] at hz
   obtain ⟨u,e,hc⟩:=hz.one
   simp at e
   subst e
   exact hc
  case bool=>
   simp only [Ba] at h
   subst h
   obtain ⟨m,rfl,_⟩:=open_bool hu hval ⟨Jo,hf⟩
   simp only [Ty.cells,Value.cells] at hz
   obtain ⟨u,e,hc⟩:=hz.one
   simp at e
   subst e
   exact hc
  case string=>
   simp only [Ba] at h
   subst h
   obtain ⟨m,rfl,_⟩:=Go.ChangeMaps.open_string hu hval ⟨Jo,hf⟩
   simp only [Ty.cells,Value.cells] at hz
   obtain ⟨u,e,hc⟩:=hz.one
   simp at e
   subst e
   exact hc
  case slice e=>
   cases y<;>simp only [BW] at h
   case sl z'=>
    obtain ⟨a,len,cap,rfl⟩:=okWide_slice hu hval
    simp only [Ty.cells,Value.cells] at hz
    obtain ⟨u,e,hc⟩:=hz.one
    simp at e
    subst e
    exact hc
  case struct fs=>
   simp only [Bc] at h
   obtain ⟨cs,rfl,_⟩:=okWide_struct hu hval
   rw [y.d_row z h.1.1]
   simp only [C]
   exact ⟨cs.toList,by simp,by simpa [Value.cells] using hz⟩
end
end Go.Proofs.YtckcgijklnloiaaGreat.K
/-
 Operations that are taken like calls:what they make.
-/
namespace Go.Proofs.YtckcgijklnloiaaGreat.K
open Go.RowKit
def tyR (y:Ty):Nat->Ty
 |0=> .nil
 |n+1=> .pr y (tyR y n)
def I6 (y:Ty):(n:Nat)->(tyR y n).T->Nat->y.T
 |0,_,_=>y.zero
 |n+1,x,0=>(show y.T×(tyR y n).T from x).1
 |n+1,x,j+1=>I6 y n (show y.T×(tyR y n).T from x).2 j
theorem QNc (y:Ty)(n:Nat):(tyR y n).row=true:=by cases n<;>rfl
theorem Qw3 (y:Ty): ∀ (n:Nat) (x:(tyR y n).T) (j:Nat),j<n->(((tyR y n).cells x).drop (j*y.sz)).take y.sz=y.cells (I6 y n x j)/\j*y.sz+y.sz<=((tyR y n).cells x).length
 |0,_,j,h=>by omega
 |n+1,x,0,_=>by
  have e:(tyR y (n+1)).cells x=y.cells (show y.T×(tyR y n).T from x).1++(tyR y n).cells (show y.T×(tyR y n).T from x).2:=rfl
  have hl:=y.cells_len (show y.T×(tyR y n).T from x).1
  rw [e,Nat.zero_mul,Bx,List.take_left' hl]
  exact ⟨rfl,by rw [Bj];omega⟩
 |n+1,x,j+1,h=>by
  have e:(tyR y (n+1)).cells x=y.cells (show y.T×(tyR y n).T from x).1++(tyR y n).cells (show y.T×(tyR y n).T from x).2:=rfl
  have hl:=y.cells_len (show y.T×(tyR y n).T from x).1
  obtain ⟨h1,h2⟩:=Qw3 y n (show y.T×(tyR y n).T from x).2 j (by omega)
  have e2:(j+1)*y.sz=y.sz+j*y.sz:=by rw [Nat.succ_mul,Nat.add_comm]
  rw [e,e2]
  refine ⟨?_,by rw [Bj];omega⟩
  rw [←List.drop_drop,List.drop_left' hl]
  exact h1
section
variable {P:Program}
theorem QNd {f:FuncId}{a:Ty}{ok:a.T->Bool}{F:a.T->V}{g:List Value->Sem Value}(hg:Y2 f=some g)
  (h: ∀ x,ok x=true→ ∀ (X:Nat->Nat->Prop) (w:World) (σ:Pl) vs,Cs X w σ (V.ds (a.canon x)) vs→ ∃ u,(g vs).run P w= .ok u w/\C X w σ (F x).d u):QQ P f (QP (Qq a ok F)):=by
 intro args objs r os hF X w σ vs hfin hl hc
 unfold QP Qq at hF
 cases objs with
 |cons o os'=>simp at hF
 |nil=>
  simp only at hF
  cases ha:a.args args with
  |none=>rw [ha] at hF;cases hF
  |some x=>
   rw [ha] at hF
   simp only at hF
   split at hF
   ·rename_i r' os' hq
    simp only [Be,Br] at hF hq
    obtain ⟨rfl,rfl⟩:=hF
    obtain ⟨h1,rfl,rfl⟩:=hq
    obtain ⟨u,e1,e2⟩:=h x h1 X w σ vs (GF ha hc)
    unfold Does
    rw [hg]
    exact ⟨u,w,e1,u,X,σ,rfl,e2,QmN rfl hfin (Below.refl _ _)⟩
   ·cases hF
theorem QNe {t e n:Nat}{k:IntKind}{y:Ty}{d:TypeDesc}{inf:TypeInfo}(ht:P.underlying t=some (.array n e))(he:P.underlying e=some d)(hr:isRow d=y.row)(hi:P.info? e=some inf)(hsz:inf.size=y.sz)
  (arr:(tyR y n).T) (i:Int) (hok:0<=i/\i<(n:Int)) (X:Nat->Nat->Prop) (w:World) (σ:Pl) (vs:List Value) (hc:Cs X w σ (V.ds [.t (tyR y n) arr,.t (.int k) i]) vs):
  ∃ u,(match vs with|[x,y]=>Instr.index t x y|_=>stuck "operands").run P w= .ok u w/\C X w σ (V.t y (I6 y n arr i.toNat)).d u:=by
  simp only [Ty.canon,V.ds,Cs] at hc
  obtain ⟨u,us,rfl,h1,u2,us2,rfl,h2,rfl⟩:=hc
  simp only [V.d] at h1
  rw [Ty.d_row _ _ (QNc y n)] at h1
  simp only [C] at h1
  obtain ⟨cs,rfl,hcs⟩:=h1
  simp only [V.d,Ty.d,C] at h2
  rw [h2.1]
  obtain ⟨q1,q2⟩:=Qw3 y n arr i.toNat (by omega)
  have hlen:=hcs.len
  have hcs2:=(hcs.drop_ (i.toNat*y.sz)).take_ y.sz
  rw [q1] at hcs2
  cases hrow:y.row with
  |true=>
   refine ⟨.agg ((cs.drop (i.toNat*y.sz)).take y.sz).toArray, ?_, ?_⟩
   ·rw [hrow] at hr
    simp [Instr.index,asIntOf,run_underlying ht,hok.1,hok.2,sizeOf,typeInfo,hi,hsz,part,Eg he,hr,List.take_drop]
   ·simp only [V.d]
    rw [Ty.d_row _ _ hrow]
    simp only [C]
    exact ⟨_,rfl,hcs2⟩
  |false=>
   have hd:=y.d_one (I6 y n arr i.toNat) hrow
   have h1:y.sz=1:=by have:=y.cells_len (I6 y n arr i.toNat);rw [hd] at this;exact this.symm
   rw [hd] at hcs2
   obtain ⟨v,hv,hcv⟩:=hcs2.one
   have hv0:cs[i.toNat*y.sz]? = some v:=by
    have:((cs.drop (i.toNat*y.sz)).take y.sz)[0]? = some v:=by rw [hv];rfl
    rw [List.getElem?_take_of_lt (by omega),Df,DI] at this
    exact this
   refine ⟨v, ?_,hcv⟩
   rw [hrow] at hr
   simp [Instr.index,asIntOf,run_underlying ht,hok.1,hok.2,sizeOf,typeInfo,hi,hsz,part,Eg he,hr,hv0]
def Xz (y:Ty)(n:Nat)(x:(tyR y n).T)(i:Int):y.T:=I6 y n x i.toNat
def YE (y:Ty)(n:Nat)(_x:(tyR y n).T)(i:Int):Bool:=decide ((0:Int)<=i/\i<(n:Int))
theorem Qfa {t e n:Nat}{k:IntKind}{y:Ty}(ht:P.underlying t=some (.array n e))(hr:(P.underlying e).map isRow=some y.row)(hi:(P.info? e).map TypeInfo.size=some y.sz)(hlt:t<10000):
  QQ P (JG 2 t 0) (QP (Qq (.pr (tyR y n) (.pr (.int k) .nil)) (fun x=>YE y n x.1 x.2.1) (fun x=> .t y (Xz y n x.1 x.2.1)))):=by
 obtain ⟨d,he,hr⟩:=Bk.1 hr
 obtain ⟨inf,hi,hsz⟩:=Bk.1 hi
 exact QNd (QH6 hlt) fun x hok X w σ vs hc=>QNe ht he hr hi hsz x.1 x.2.1 (Bv hok) X w σ vs hc
theorem Qw4 {X:Nat->Nat->Prop}{w:World}{σ:Pl}: ∀ (l:List UInt8),Cs X w σ (List.flatMap (Ty.int .u8).cells (l.map fun b=>(b.toNat:Int))) (l.map fun b=>Value.int .u8 (b.toNat:Int))
 | []=>by simp [Cs]
 |b::l=>by
  simp only [BJ,BY,Ty.cells,BD,Cs,C]
  exact ⟨_,_,rfl,⟨rfl,rfl⟩,Qw4 l⟩
def Yq (s:ByteArray):Bool:=decide (s.size<=9223372036854775807)
theorem QNf {a b e:Nat}(ha:P.underlying a=some .string)(hb:P.underlying b=some (.slice e))(he:P.underlying e=some (.int .u8))(hlt:a<10000):
  QQ P (JG 0 a b) (QP (Qq (.pr .str .nil) (fun x=>Yq x.1) (fun x=> .t (.sl (.int .u8)) (Jd x.1)))):=by
 intro args objs r os hF X w σ vs hfin hl hc
 unfold QP Qq at hF
 cases objs with
 |cons o os'=>simp at hF
 |nil=>
  simp only at hF
  cases ha':(Ty.pr .str .nil).args args with
  |none=>rw [ha'] at hF;cases hF
  |some x=>
   rw [ha'] at hF
   simp only at hF
   split at hF
   ·rename_i r' os' hq
    simp only [Be,Br] at hF hq
    obtain ⟨rfl,rfl⟩:=hF
    obtain ⟨h1,rfl,rfl⟩:=hq
    have hc2:=GF ha' hc
    obtain ⟨s,u0⟩:=x
    have h1:s.size<=9223372036854775807:=Bv h1
    simp only [Ty.canon,V.ds,V.d,Ty.d,Cs,C] at hc2
    obtain ⟨u,us,rfl,⟨rfl,_⟩,rfl⟩:=hc2
    have hr:=run_bytes_of_string (P:=P) w a b e s ha hb he
    have hge:=grownCap_ge w s.size 0 e
    have hle:=grownCap_le_maxLen w s.size 0 e (by simp [maxLen];omega)
    generalize grownCap w s.size 0 e=cap at hr hge hle
    have hbel:Below w.heap.size w (w.drew.alloc (.cells (bytesRow s cap) e ((bytesRow s cap).size,(bytesRow s cap).size+1))):=((Below.refl _ _).drew).alloc (BS _) _
    have hblk:(w.drew.alloc (.cells (bytesRow s cap) e ((bytesRow s cap).size,(bytesRow s cap).size+1))).heap[w.heap.size]? = some (.cells (bytesRow s cap) e ((bytesRow s cap).size,(bytesRow s cap).size+1)):=heap_alloc_new _ _
    have hlen:(Jd s).length=s.size:=by simp [Jd]
    unfold Does
    rw [QH5 hlt]
    refine ⟨_,_,hr,_,X,σ,rfl, ?_,QmN rfl hfin hbel⟩
    simp only [V.d,Ty.d,C]
    refine ⟨some ⟨w.heap.size,0,none⟩,cap,by rw [hlen],by rw [hlen];exact hge,hle,fun h0=>by rw [BR h0];rfl,fun _=>⟨w.heap.size,0,s.data.toList.map fun b=>Value.int .u8 (b.toNat:Int),rfl,Qw4 _, ?_,fun j _ hx=> ?_,fun j v hj=> ?_,fun v hv=> ?_⟩⟩
    ·exact (Da.1 hblk).1
    ·exact absurd (hfin _ _ hx) (BI _)
    ·have hjl:=(BL.1 hj).1
     rw [BP] at hjl
     have:(bytesRow s cap)[j]? = some v:=by
      unfold bytesRow
      rw [Array.getElem?_append_left (by simpa using hjl)]
      rw [De] at hj
      simpa using hj
     simp only [World.cell?, hblk,Nat.zero_add]
     exact this
    ·simp only [Dc] at hv
     obtain ⟨b,_,rfl⟩:=hv
     rfl
   ·cases hF
end
end Go.Proofs.YtckcgijklnloiaaGreat.K
/-
 Own slices that are handed to a function:it writes them,or uses them up.
-/
namespace Go.Proofs.YtckcgijklnloiaaGreat.K
open Go.RowKit Go.Sort
@[reducible] def SOt:List SO->Type
 | []=>Unit
 |s::r=>s.T×SOt r
def Uc:(l:List SO)->SOt l->List VO
 | [],_=>[]
 |s::r,x=>s.mk x.1::Uc r x.2
def VO.wk (s:SO)(o:VO):VO:=
 match s,o with
 |.arr e _,.arr e' t l=>if e=e'+1000000/\e'<1000000 then .arr e t l else o
 |_,_=>o
def QaQ:(l:List SO)->List VO->Option (SOt l)
 | [],[]=>some ()
 |s::r,o::os=>match s.rd (o.wk s),QaQ r os with
  |some x,some y=>some (x,y)
  |_,_=>none
 |_,_=>none
theorem wk_at {X:Nat->Nat->Prop}{w:World}{σ:Pl}{k:Nat}{s:SO}{o:VO}(h:OAt X w σ k o)(hn:o≠ .no):OAt X w σ k (o.wk s)/\o.wk s≠ .no:=by
 unfold VO.wk
 split
 ·split
  ·rename_i hc
   obtain ⟨u,xs,h1,h2,h3⟩:=h
   exact ⟨⟨u,xs,h1,by rw [hc.1];exact h2.weak hc.2,h3⟩,by simp⟩
  ·exact ⟨h,hn⟩
 ·exact ⟨h,hn⟩
theorem QmQ: ∀ {l:List SO} {os:List VO} {x:SOt l},QaQ l os=some x->(Uc l x).length=os.length∧ ∀ (j:Nat) o,(Uc l x)[j]? = some o→ ∃ s o',os[j]? = some o'/\o=o'.wk s
 | [],[],_,_=>⟨rfl,fun j o h=>by simp [Uc] at h⟩
 | [],_::_,_,h=>by cases h
 |_::_,[],_,h=>by cases h
 |s::r,v::vs,x,h=>by
  simp only [QaQ] at h
  split at h
  ·rename_i x1 y1 h1 h2
   simp only [Be] at h
   subst h
   obtain ⟨q1,q2⟩:=QmQ h2
   refine ⟨by simp only [Uc,Bp,q1],fun j o hj=> ?_⟩
   cases j with
   |zero=>
    simp only [Uc,Do,Be] at hj
    exact ⟨s,v,rfl,by rw [←hj, ← SO.rd_mk h1]⟩
   |succ j=>
    simp only [Uc,DS] at hj ⊢
    exact q2 j o hj
  ·cases h
theorem QNg {X:Nat->Nat->Prop}{w:World}{σ:Pl}{l:List SO}{os:List VO}{x:SOt l}(h:QaQ l os=some x)(hl:Lent X w σ os):Lent X w σ (Uc l x):=by
 obtain ⟨h1,h2⟩:=QmQ h
 refine ⟨fun j o hj=> ?_,fun i j b hij hi hj=>hl.apart i j b hij (by omega) (by omega)⟩
 obtain ⟨s,o',q1,rfl⟩:=h2 j o hj
 obtain ⟨a,b⟩:=hl.at_ j o' q1
 exact wk_at a b
def UB (l:List SV)(os:List SO)(ok:SVt l->SOt os->Bool)(F:SVt l->SOt os->V)(O:SVt l->SOt os->List VO):Ent:=fun args objs=>
 match Ew l args,QaQ os objs with
 |some x,some y=>some (ok x y,F x y,O x y)
 |_,_=>none
def QmR:SV->V->V
 |.ty t,v=>if t.row=true then (match v.as t with|some x=> .t t x|none=>v) else v
 |.bf _ t,.fn g [v]=>if t.row=true then (match v.as t with|some x=> .fn g [.t t x]|none=> .fn g [v]) else .fn g [v]
 |_,v=>v
def QaR:List SV->List V->List V
 |s::r,v::vs=>QmR s v::QaR r vs
 |_,vs=>vs
def Wb (l:List SV)(os:List SO)(ok:SVt l->SOt os->Bool)(F:SVt l->SOt os->V)(O:SVt l->SOt os->List VO):Ent:=fun args objs=>UB l os ok F O (QaR l args) objs
theorem as_cs {X:Nat->Nat->Prop}{w:World}{σ:Pl}{t:Ty}{v:V}{x:t.T}{u:Value}(h:v.as t=some x)(hc:C X w σ v.d u):C X w σ (V.t t x).d u:=
 C.up _ _ (V.as_spec h hc)
theorem coeV_c {X:Nat->Nat->Prop}{w:World}{σ:Pl}{u:Value}(s:SV)(v:V)(hc:C X w σ v.d u):C X w σ (QmR s v).d u:=by
 unfold QmR
 split
 ·split
  ·split
   ·rename_i x h
    exact as_cs h hc
   ·exact hc
  ·exact hc
 ·split
  ·split
   ·rename_i x h
    simp only [V.d,V.ds,C,Cs] at hc ⊢
    obtain ⟨vs,h1,u1,us,h2,h3,h4⟩:=hc
    exact ⟨vs,h1,u1,us,h2,as_cs h h3,h4⟩
   ·exact hc
  ·exact hc
 ·exact hc
theorem Qw5 {X:Nat->Nat->Prop}{w:World}{σ:Pl}: ∀ (l:List SV) (vs:List V) (us:List Value),Cs X w σ (V.ds vs) us->Cs X w σ (V.ds (QaR l vs)) us
 | [],vs,us,h=>h
 |s::r,[],us,h=>h
 |s::r,v::vs,us,h=>by
  simp only [QaR,V.ds,Cs] at h ⊢
  obtain ⟨u,us',rfl,h2,h3⟩:=h
  exact ⟨u,us',rfl,coeV_c s v h2,Qw5 r vs us' h3⟩
section
variable {P:Program}
theorem WD {f:FuncId}{l:List SV}{os:List SO}{ok:SVt l->SOt os->Bool}{F:SVt l->SOt os->V}{O:SVt l->SOt os->List VO}(hM:QQ P f (QP (UB l os ok F O))):QQ P f (QP (Wb l os ok F O)):=
 fun args objs r os' hF X w σ vs hfin hl hc=>hM (QaR l args) objs r os' hF X w σ vs hfin hl (Qw5 l args vs hc)
theorem Qw6 {f:FuncId}{l:List SV}{os:List SO}{ok:SVt l->SOt os->Bool}{F:SVt l->SOt os->V}{O:SVt l->SOt os->List VO}
  (h: ∀ x y,ok x y=true→ ∀ X w σ vs,(∀ b q,X b q->b<w.heap.size)->Lent X w σ (Uc os y)->Cs X w σ (V.ds (Ft l x)) vs→
   Does P f vs.toArray w fun e w'=> ∃ u X' σ',e= .returned u/\C X' w' σ' (F x y).d u/\Ends X w σ (Uc os y).length X' w' σ' (O x y)):QQ P f (QP (UB l os ok F O)):=by
 intro args objs r os' hF X w σ vs hfin hl hc
 unfold QP UB at hF
 split at hF
 ·rename_i r' os'' hq
  split at hq
  ·rename_i x y hx hy
   simp only [Be,Br] at hF hq
   obtain ⟨rfl,rfl⟩:=hF
   obtain ⟨h1,rfl,rfl⟩:=hq
   have ha:=I3 hx
   subst ha
   have:=h x y h1 X w σ vs hfin (QNg hy hl) hc
   rw [(QmQ hy).1] at this
   exact this
  ·cases hq
 ·cases hF
theorem YR {f:FuncId}{R:Fun}{l:List SV}{os:List SO}{ok:SVt l->SOt os->Bool}{F:SVt l->SOt os->V}{O:SVt l->SOt os->List VO}(hM:QQ P f R)
  (h: ∀ x y,ok x y=true->R (Ft l x) (Uc os y)=some (F x y,O x y)):QQ P f (QP (UB l os ok F O)):=
 Qw6 fun x y hok X w σ vs hfin hl hc=>hM _ _ _ _ (h x y hok) X w σ vs hfin hl hc
variable {X:Nat->Nat->Prop}{w w':World}{σ:Pl}
theorem Qw7 {o o':VO}{row:Option Nat}(hfin: ∀ b q,X b q->b<w.heap.size)(hat:OAt X w' σ 50000 o')(hg:w.grownBy w' row)(hr:row=none∨row=(σ 50000).blk):Ends X w σ [o].length X w' σ [o']:=by
 refine ⟨fun b q hq=>B9 (hfin b q hq) hg.size,fun j o hj=> ?_,fun i j b hij hi hj=>by simp at hi hj;omega,by simp,fun _ _=>rfl,fun j b hj hl=>by simp at hj hl;omega,⟨hg.os,hg.tape,hg.output,hg.size,fun b hb hm=>hg.block b hb fun he=>hm ?_⟩,fun _ _ _ h=>h,fun _ _ _ _ h=>h⟩
 ·cases j with
  |zero=>
   simp only [Do,Be] at hj
   subst hj
   exact ⟨hat,fun h=>absurd h (by simp)⟩
  |succ j=>simp at hj
 ·rcases hr with hr|hr
  ·rw [hr] at he;cases he
  ·simp only [WP,Bh,List.mem_filterMap,Dg]
   exact ⟨0,by omega,by rw [←hr];exact he.symm⟩
theorem Qw8 {k:IntKind}: ∀ (l:List Int) (vs:List Value),Cs X w σ (List.flatMap (Ty.int k).cells l) vs->vs=l.map (Value.int k)
 | [],vs,h=>by simpa [Cs] using h
 |z::zs,vs,h=>by
  simp only [BY,Ty.cells,BD,Cs] at h
  obtain ⟨u,us,rfl,h1,h2⟩:=h
  simp only [C] at h1
  rw [h1.1,Qw8 zs us h2]
  rfl
theorem Qw9 {k:IntKind}: ∀ (l:List Int),Cs X w σ (List.flatMap (Ty.int k).cells l) (l.map (Value.int k))
 | []=>by simp [Cs]
 |z::zs=>by
  simp only [BY,Ty.cells,BD,Cs,C,BJ]
  exact ⟨_,_,rfl,⟨rfl,rfl⟩,Qw9 zs⟩
def Qfb {α:Type}(l:List α):Bool:=decide (l.length<4611686018427387904)
def YS (l:List Int):List Int:=l.mergeSort fun x y=>decide (x<=y)
theorem QNh {e:Nat}{k:IntKind}{l:List Int}{vs:List Value}(hl:Lent X w σ [.arr e (.int k) l])(hc:Cs X w σ (V.ds [.ms 50000]) vs)(he:e<1000000):
  ∃ u,vs=[u]/\σ 50000= .arr u/\w.ownsRow 0 e 1 u l.length (l.map (Value.int k))∧ ∀ b,u.ownBlock=some b→ ∀ o,X b o:=by
 obtain ⟨⟨u,xs,h1,h2,h3,h4,h5⟩,_⟩:=hl.at_ 0 _ rfl
 simp only [V.ds,V.d,Cs,C] at hc
 obtain ⟨u',us,rfl,⟨g1,_⟩,rfl⟩:=hc
 rw [h1] at g1
 injection g1 with g1
 subst g1
 have:=Qw8 l xs h3
 subst this
 exact ⟨u,rfl,h1,h2.own he,h5⟩
theorem QNi {f:FuncId}{e:Nat}(hlt:f<1000000)
  (hs: ∀ (blk off cap:Nat) (zs:List Int) (w:World),Holds (Value.int .i64) w blk off zs.toArray->blk<w.heap.size->zs.length<4611686018427387904→
   Calls P f #[.slice (some ⟨blk,off,none⟩) zs.length cap] w fun e w'=>e= .returned (.tuple #[])∧ ∃ n os,w'=grow (putRow (Value.int .i64) (Sort.ahead w n) blk off (zs.mergeSort fun x y=>decide (x<=y)).toArray) os)
  (h0: ∀ (p:Option Addr) (cap:Nat) (w:World),Calls P f #[.slice p 0 cap] w fun e w'=>e= .returned (.tuple #[])/\w'=w) (he:e<1000000:=by decide):
  QQ P f (QP (UB [.ms 50000] [.arr e (.int .i64)] (fun _ y=>Qfb y.1) (fun _ _=> .tu []) (fun _ y=>[.arr e (.int .i64) (YS y.1)]))):=by
 refine Qw6 fun x y hok X w σ vs hfin hl hc=> ?_
 obtain ⟨l,u0⟩:=y
 obtain ⟨u,rfl,h1,h2,h3⟩:=QNh hl hc he
 have hok:l.length<4611686018427387904:=Bv hok
 have htu: ∀ (w':World),C X w' σ (V.tu []).d (.tuple #[]):=fun w'=>by
  simp only [V.d,V.ds,C,Cs]
  exact ⟨[],rfl,rfl⟩
 have hlen:(YS l).length=l.length:=List.length_mergeSort _
 refine Qj1 hlt ?_
 have none_case: ∀ (p:Option Addr) cap,l=[]->u= .slice p 0 cap->Calls P f [u].toArray w fun e' w'=> ∃ u X' σ',e'= .returned u/\C X' w' σ' (V.tu []).d u/\Ends X w σ (Uc [.arr e (.int .i64)] (l,u0)).length X' w' σ' [.arr e (.int .i64) (YS l)]:=by
  intro p cap hl0 hu
  subst hl0 hu
  refine (h0 p cap w).mono ?_
  rintro _ _ ⟨rfl,rfl⟩
  refine ⟨_,X,σ,rfl,htu _,Qw7 (row:=none) hfin ?_ ⟨rfl,rfl,rfl,BS _,fun _ _ _=>rfl⟩ (.inl rfl)⟩
  have h9:=(hl.at_ 0 _ rfl).1
  have e0:YS []=[]:=by simp [YS]
  rw [e0]
  exact h9
 rcases h2.2 with ⟨q1,q2⟩|⟨g,cap,cur,rfl,q2,q3,q4,q5,q6,q7⟩
 ·exact none_case none 0 (BR q2) q1
 ·by_cases hz:l=[]
  ·exact none_case _ _ hz (by subst hz;rfl)
  ·have ht:cur.toList.take l.length=l.map (Value.int .i64):=by rw [Nat.mul_one] at q7;exact q7
   have hb:g<w.heap.size:=(Da.1 q3).1
   refine (hs g 0 cap l w (holds_of_blockI q3 ht) hb hok).mono ?_
   rintro _ _ ⟨rfl,n,os,rfl⟩
   refine ⟨_,X,σ,rfl,htu _,Qw7 (row:=some g) hfin ?_ (grownBy_sortedI _) (.inr (by rw [h1];rfl))⟩
   have hown:=ownsRow_sortedI (n:=n) (os:=os) (ss:=l) (ts:=YS l) hlen (B2 g) q3 q4 q5 q6
   refine ⟨_,(YS l).map (Value.int .i64),h1,by rw [hlen];exact .of hown,Qw9 _,fun x hx=> ?_,h3⟩
   obtain ⟨z,_,rfl⟩:=Dc.1 hx
   rfl
end
end Go.Proofs.YtckcgijklnloiaaGreat.K
/-
 Interfaces:values that are put into them,methods that are called through them;functions of which there is more than one word.
-/
namespace Go.Proofs.YtckcgijklnloiaaGreat.K
open Go.RowKit
section
variable {P:Program}
end
end Go.Proofs.YtckcgijklnloiaaGreat.K
noncomputable section
namespace Go.Proofs.YtckcgijklnloiaaGreat.K
open Go.RowKit
def Gx:Code->List (Array Oper)
 |.region _ ops _=>[ops]
 |.seq a b=>Gx a++Gx b
 |.cond _ a b=>Gx a++Gx b
 |.rangeFunc _ _ a b=>Gx a++Gx b
 |.block _ c=>Gx c
 |.loop c=>Gx c
 |_=>[]
noncomputable def QdW (f:Func)(i:Nat):Array Oper:=match f.body with
 |some c=>(Gx c).getD i #[]
 |none=> #[]
noncomputable def rT (f:Func)(i:Nat):List RO:=(QdW f i).toList.map (trR Tryz.prog (QdW f i))
noncomputable def dT (f:Func)(i:Nat):List DO:=(QdW f i).toList.map (trD Tryz.prog (QdW f i))
abbrev tI:Ty:= .int .i64
abbrev Quu:Ty:=(.pr tI (.pr tI (.pr .bool (.pr (.int .u8) .nil))))
abbrev Quv:Ty:=(.pr .str (.pr (.int .u64) .nil))
abbrev Qh:Ty:=(.pr tI (.pr tI .nil))
abbrev Qb:Type:=Int×(Int×Unit)
abbrev QE:Ty:=(.pr tI (.pr .str (.pr .str (.pr Qh (.pr tI (.pr Qh (.pr tI (.pr tI (.pr .bool (.pr tI (.pr (.sl .str) (.pr Qh .nil))))))))))))
abbrev Qf:Type:=Int×(ByteArray×(ByteArray×(Qb×(Int×(Qb×(Int×(Int×(Bool×(Int×((List ByteArray)×(Qb×Unit)))))))))))
abbrev Q1:Ty:=(.pr Qh (.pr tI (.pr (.sl QE) .nil)))
abbrev QA:Type:=Qb×(Int×((List Qf)×Unit))
abbrev Qj:Ty:=(.pr .str (.pr tI (.pr tI (.pr (.sl tI) (.pr .bool (.pr (.sl Q1) (.pr (.sl tI) (.pr (.sl tI) (.pr .bool .nil)))))))))
abbrev Endpoint:Type:=ByteArray×(Int×(Int×((List Int)×(Bool×((List QA)×((List Int)×((List Int)×(Bool×Unit))))))))
abbrev Zx:Ty:=(.pr Qh (.pr tI .nil))
abbrev J4:Type:=Qb×(Int×Unit)
abbrev Jm:Ty:=(.pr .str (.pr tI (.pr tI (.pr (.sl Zx) (.pr tI .nil)))))
abbrev Qs:Type:=ByteArray×(Int×(Int×((List J4)×(Int×Unit))))
abbrev QF:Ty:=(.pr (.sl Qj) (.pr (.sl Qh) (.pr (.sl Jm) .nil)))
abbrev Estate:Type:=(List Endpoint)×((List Qb)×((List Qs)×Unit))
abbrev QM:Ty:=(.pr (.sl tI) (.pr tI .nil))
abbrev Qd:Type:=(List Int)×(Int×Unit)
abbrev J5:Ty:=(.pr tI (.pr tI (.pr tI (.pr tI (.pr Q1 .nil)))))
abbrev Qy:Type:=Int×(Int×(Int×(Int×(QA×Unit))))
abbrev Jn:Ty:=(.pr tI (.pr .str (.pr Qh (.pr Qh (.pr Qh (.pr Qh (.pr tI (.pr tI .nil))))))))
abbrev JM:Type:=Int×(ByteArray×(Qb×(Qb×(Qb×(Qb×(Int×(Int×Unit)))))))
abbrev Fi:Ty:=(.pr Qj (.pr tI (.pr (.sl tI) .nil)))
abbrev JW:Type:=Endpoint×(Int×((List Int)×Unit))
abbrev Gy:Ty:=(.pr .str (.pr tI .nil))
abbrev Qv:Ty:=(.pr .str (.pr tI (.pr tI (.pr (.sl tI) (.pr (.sl tI) .nil)))))
abbrev Row:Type:=ByteArray×(Int×(Int×((List Int)×((List Int)×Unit))))
def TYl:List (Nat×Ty):=[(2,tI),(3,tI),(4,.bool),(5,(.int .u8)),(6,(.int .u8)),(7,Quu),(8,Quu),(9,.str),(10,.str),(11,.str),(12,(.int .u64)),(13,Quv),(14,Quv),(21,(.int .i32)),(22,(.sl tI)),(25,(.sl Qj)),(26,(.sl Qh)),(27,(.sl Jm)),(28,QF),(29,QF),(34,(.sl Qh)),(35,tI),(38,Qh),(39,Qh),(45,Qh),(46,Qh),(47,(.sl Q1)),(48,Qj),(49,Qj),(55,(.int .u16)),(59,(.sl J5)),(63,(.sl tI)),(65,(.sl QF)),(66,Qh),(67,(.sl Qh)),(74,(.sl .str)),(77,(.sl Zx)),(78,Jm),(79,Jm),(82,QM),(83,QM),(94,(.sl (.sl tI))),(95,Qh),(96,Qh),(97,(.sl QE)),(98,Q1),(99,Q1),(102,(.sl Qh)),(115,J5),(116,J5),(127,Zx),(128,Zx),(135,Qh),(136,Qh),(137,QE),(138,QE),(141,Jn),(142,Jn),(151,Fi),(152,Fi),(160,Qh),(162,(.pr tI (.pr tI (.pr tI .nil)))),(168,(.sl tI)),(170,Gy),(171,Gy),(172,(.sl Gy)),(182,(.sl (.int .u8))),(186,(.sl Jn)),(200,(.sl Qw)),(201,(.pr tI (.pr (.sl (.int .u8)) (.pr .bool (.pr (.sl Qw) .nil))))),(202,Qw),(204,(.int .u32)),(209,(.int .u64)),(221,Qv),(222,Qv),(234,tI),(243,(.int .u64)),(247,(.pr Qv (.pr Qv (.pr Qv (.pr Qv (.pr Qv (.pr Qv (.pr Qv (.pr Qv (.pr Qv (.pr Qv (.pr Qv (.pr Qv (.pr Qv (.pr Qv (.pr Qv (.pr Qv (.pr Qv (.pr Qv (.pr Qv (.pr Qv (.pr Qv (.pr Qv (.pr Qv .nil)))))))))))))))))))))))),(249,(.pr Qh (.pr Qh (.pr Qh (.pr Qh (.pr Qh .nil)))))),(252,(.int .u64)),(274,(.int .u8)),(275,(.int .u8)),(278,(.int .i32)),(279,(.int .i32))]
def TYs (e:Nat):Option Ty:=TYl.lookup e
def YD:List Nat:=[135]
theorem mixed:Tryz.prog.follows .mixedOrders=true:=by kernel_rfl
def Quw:Ent:=Qq (.pr Qh (.pr tI .nil)) (fun x=>(YE tI 2 x.1 x.2.1)) (fun x=>(.t tI (Xz tI 2 x.1 x.2.1)))
theorem QKQ:JX Tryz.prog 1002562:= .inl (by kernel_rfl)
theorem QKR:QQ Tryz.prog 1002562 (QP Quw):=Qfa (t:=160) (e:=35) (n:=2) (y:=tI) (k:= .i64) (by kernel_rfl) (by kernel_rfl) (by kernel_rfl) (by decide)
def Qux:Ent:=Qq (.pr (.pr tI (.pr tI (.pr tI .nil))) (.pr tI .nil)) (fun x=>(YE tI 3 x.1 x.2.1)) (fun x=>(.t tI (Xz tI 3 x.1 x.2.1)))
theorem QKS:JX Tryz.prog 1002594:= .inl (by kernel_rfl)
theorem QKT:QQ Tryz.prog 1002594 (QP Qux):=Qfa (t:=162) (e:=35) (n:=3) (y:=tI) (k:= .i64) (by kernel_rfl) (by kernel_rfl) (by kernel_rfl) (by decide)
def Quy:Ent:=Qq (.pr (.pr Qv (.pr Qv (.pr Qv (.pr Qv (.pr Qv (.pr Qv (.pr Qv (.pr Qv (.pr Qv (.pr Qv (.pr Qv (.pr Qv (.pr Qv (.pr Qv (.pr Qv (.pr Qv (.pr Qv (.pr Qv (.pr Qv (.pr Qv (.pr Qv (.pr Qv (.pr Qv .nil))))))))))))))))))))))) (.pr tI .nil)) (fun x=>(YE Qv 23 x.1 x.2.1)) (fun x=>(.t Qv (Xz Qv 23 x.1 x.2.1)))
theorem QKU:JX Tryz.prog 1003954:= .inl (by kernel_rfl)
theorem QKV:QQ Tryz.prog 1003954 (QP Quy):=Qfa (t:=247) (e:=222) (n:=23) (y:=Qv) (k:= .i64) (by kernel_rfl) (by kernel_rfl) (by kernel_rfl) (by decide)
def Quz:Ent:=Qq (.pr (.pr Qh (.pr Qh (.pr Qh (.pr Qh (.pr Qh .nil))))) (.pr tI .nil)) (fun x=>(YE Qh 5 x.1 x.2.1)) (fun x=>(.t Qh (Xz Qh 5 x.1 x.2.1)))
theorem QKW:JX Tryz.prog 1003986:= .inl (by kernel_rfl)
theorem QKX:QQ Tryz.prog 1003986 (QP Quz):=Qfa (t:=249) (e:=66) (n:=5) (y:=Qh) (k:= .i64) (by kernel_rfl) (by kernel_rfl) (by kernel_rfl) (by decide)
def Qac:Ent:=Qq (.pr .str .nil) (fun x=>(Yq x.1)) (fun x=>(.t (.sl (.int .u8)) (Jd x.1)))
theorem QdX:JX Tryz.prog 30120144:= .inl (by kernel_rfl)
theorem QdY:QQ Tryz.prog 30120144 (QP Qac):=QNf (a:=9) (b:=182) (e:=5) (by kernel_rfl) (by kernel_rfl) (by kernel_rfl) (by decide)
theorem mG {g:G}{f:FuncId}{fn:Func}{tc:TC}{rv:List (RV×Option Ty)}{ro:Bool}(hf:Tryz.prog.funcs[f]? = some fn)(ok:Option.map (trC Tryz.prog) fn.body=some tc.er)(hn:fn.ntmps=g.n)(hr:GE Tryz.prog fn.results.toList=some (rv.map Prod.fst))(hg:GOk Tryz.prog g)(hl:tc.lok g)(hlt:f<1000000:=by decide):QQ Tryz.prog f (JR g tc rv ro):=by
 obtain ⟨c,hc,hi⟩:=Bk.1 ok
 exact QM2 hlt hf hc hi hn hr hg hl mixed
def Fj:List (Nat×Ent)->Prop
 | []=>True
 |p::l=>(JX Tryz.prog p.1/\QQ Tryz.prog p.1 (QP p.2))/\Fj l
theorem gA: ∀ {l:List (Nat×Ent)},Fj l→ ∀ p∈l,JX Tryz.prog p.1/\QQ Tryz.prog p.1 (QP p.2)
 | [],_,p,hp=>by cases hp
 |q::l,h,p,hp=>by
  rcases BT.1 hp with rfl|hp
  ·exact h.1
  ·exact gA h.2 p hp
theorem gC {k:Nat}{e:Ent}{l:List (Nat×Ent)}(h1:JX Tryz.prog k)(h2:QQ Tryz.prog k (QP e))(h:Fj l):Fj ((k,e)::l):=⟨⟨h1,h2⟩,h⟩
theorem gN:Fj []:=trivial
abbrev OX:Type:=Option (Exit×VS)
abbrev OV:Type:=Option (V×List VO)
theorem nxA (f:VS->OX):(∀ q a b,nxt f (br q a b)=br q (nxt f a) (nxt f b))/\(∀ S,nxt f (some (.normal,S))=f S)/\(∀ S,nxt f (some (.ret,S))=some (.ret,S))/\(∀ i S,nxt f (some (.exit i,S))=some (.exit i,S))/\nxt f none=none:=⟨fun _ _ _=>Xy,fun _=>rfl,fun _=>rfl,fun _ _=>rfl,rfl⟩
theorem lnT {b:VS->OX}{S:VS}{x y:OX}(k:nxt (QB b) x=y)(h:b S=x:=by kernel_rfl):QB b S=y:=(QwX b S).trans (by rw [h];exact k)
theorem kT {α:Type}{a b c:α}(k:b=c)(h:a=b:=by kernel_rfl):a=c:=h.trans k
abbrev LO (g:G)(fg:Fg)(tb:TC)(j:Nat):Prop:= ∀ S l p,g.L j (fgt fg S)=some (true,l)->Yz l=some p->QB (QD g fg tb) S=some p
def gG (n:Nat)(e:List (Nat×Ent))(L:Nat->VS->Option (Bool×List (Bool×Exit×VS))):G:=⟨TYs,[],n,EL e,YD,L,IL [],RL []⟩
theorem QN {g:G}{s:Sh}{a:TC}{ok:SVs s.vs->SOs s.os->Bool}{Yy:SVs s.vs->SOs s.os->List (Bool×Exit×VS)}(h: ∀ x y,ok x y=true→ ∀ p,Yz (Yy x y)=some p->QB (QD g s.f a) (s.st x y)=some p)(hok:s.f.ok:=by exact ⟨by decide,by decide⟩):
 ∀ S l p,mkL s ok Yy (fgt s.f S)=some (true,l)->Yz l=some p->QB (QD g s.f a) S=some p:=lok_of (s:=s) hok rfl h
def ap:List (Nat×(TC->TC))->Nat->TC->TC
 | [],_,t=>t
 |(k,f)::r,n,t=>if k==n then f (ap r n t) else ap r n t
def aA (l:List (Nat×(TC->TC))):AC->Nat->TC
 |.sk,n=>ap l n .sk
 |.reg rs,n=>ap l n (.reg rs)
 |.dr ds,n=>ap l n (.dr ds [] .nil)
 |.sq a b,n=>ap l n (.sq (aA l a (2*n)) (aA l b (2*n+1)))
 |.cd x a b,n=>ap l n (.cd x (aA l a (2*n)) (aA l b (2*n+1)))
 |.bk i a,n=>ap l n (.bk i (aA l a (2*n)))
 |.lp a,n=>ap l n (.lp 0 ⟨[],[]⟩ (aA l a (2*n)))
 |.ex i,n=>ap l n (.ex i)
 |.rt,n=>ap l n .rt
 |_,_=> .sk
def pL (j:Nat)(f:Fg):TC->TC
 |.lp _ _ a=> .lp j f a
 |t=>t
def pD (o:List (Nat×List Nat))(p:PT):TC->TC
 |.dr ds _ _=> .dr ds o p
 |t=>t
noncomputable def aF (f:Func)(l:List (Nat×(TC->TC))):TC:=match f.body with
 |some c=>aA l (trC Tryz.prog c) 1
 |none=> .sk
def lbO (j:Nat):TC->Option TC
 |.lp i _ a=>if i==j then some a else lbO j a
 |.sq a b|.cd _ a b=>match lbO j a with
  |some x=>some x
  |none=>lbO j b
 |.bk _ a|.fg _ a|.nw _ _ a|.nf _ _ _ _ a|.fz _ a|.ad _ a|.mv _ a=>lbO j a
 |_=>none
def lb (j:Nat)(t:TC):TC:=(lbO j t).getD .sk
def lps:TC->Option (List (Nat×Fg×TC))
 |.lp j f a=>(lps a).map fun l=>(j,f,a)::l
 |.sq a b|.cd _ a b=>match lps a,lps b with
  |some x,some y=>some (x++y)
  |_,_=>none
 |.bk _ a|.fg _ a|.nw _ _ a|.nf _ _ _ _ a|.fz _ a|.ad _ a|.mv _ a=>lps a
 |.rg _ _ _ _|.rf _ _ _ _ _ _ _ _=>none
 |_=>some []
def WY (g:G):List (Nat×Fg×TC)->Prop
 | []=>True
 |x::l=>LO g x.2.1 x.2.2 x.1/\WY g l
theorem QdZ {g:G}: ∀ {a b:List (Nat×Fg×TC)},WY g (a++b)->WY g a/\WY g b
 | [],_,h=>⟨trivial,h⟩
 |_::_,_,h=>⟨⟨h.1,(QdZ h.2).1⟩,(QdZ h.2).2⟩
theorem lok2 {g:G}{a b:TC}{l:List (Nat×Fg×TC)}(ia: ∀ l,lps a=some l->WY g l->a.lok g)(ib: ∀ l,lps b=some l->WY g l->b.lok g)
  (h:(match lps a,lps b with|some x,some y=>some (x++y)|_,_=>none)=some l) (k:WY g l):a.lok g/\b.lok g:=by
 split at h
 · rename_i x y h1 h2
   simp only [Be] at h
   subst h
   exact ⟨ia _ h1 (QdZ k).1,ib _ h2 (QdZ k).2⟩
 · cases h
theorem En {g:G}: ∀ (t:TC) (l:List (Nat×Fg×TC)),lps t=some l->WY g l->t.lok g
 |.lp j f a,l,h,k=>by
  unfold lps at h
  obtain ⟨l',h1,rfl⟩:=Bk.1 h
  exact ⟨k.1,En a l' h1 k.2⟩
 |.sq a b,l,h,k=>lok2 (En a) (En b) h k
 |.cd _ a b,l,h,k=>lok2 (En a) (En b) h k
 |.bk _ a,l,h,k|.fg _ a,l,h,k|.nw _ _ a,l,h,k|.nf _ _ _ _ a,l,h,k|.fz _ a,l,h,k|.ad _ a,l,h,k|.mv _ a,l,h,k=>En a l h k
 |.rg _ _ _ _,l,h,k=>by cases h
 |.rf _ _ _ _ _ _ _ _,l,h,k=>by cases h
 |.sk,_,_,_|.reg _,_,_,_|.dr _ _ _,_,_,_|.ex _,_,_,_|.rt,_,_,_=>trivial
theorem lkL {g:G}{t:TC}{l:List (Nat×Fg×TC)}(k:WY g l)(h:lps t=some l:=by kernel_rfl):t.lok g:=En t l h k
theorem lkn {g:G}:WY g []:=trivial
theorem lkc {g:G}{f:Fg}{a:TC}{j:Nat}{l:List (Nat×Fg×TC)}(h:LO g f a j)(k:WY g l):WY g ((j,f,a)::l):=⟨h,k⟩
def EM (f:FuncId)(e:Ent):Prop:=JX Tryz.prog f/\QQ Tryz.prog f (QP e)
theorem gD {k:Nat}{e:Ent}{l:List (Nat×Ent)}(h:EM k e)(t:Fj l):Fj ((k,e)::l):=⟨h,t⟩
theorem gB {n:Nat}{e:List (Nat×Ent)}{L:Nat->VS->Option (Bool×List (Bool×Exit×VS))}(h:Fj e):GOk Tryz.prog (gG n e L):=Zz _ (gA h)
theorem mS {k:FuncId}{e:Ent}(g:G)(tc:TC)(rv:List (RV×Option Ty))(ro:Bool)(gk:GOk Tryz.prog g)(hs:QQ Tryz.prog k (JR g tc rv ro)->QQ Tryz.prog k (QP e))(lk:tc.lok g:=by exact lkL lkn)
  (hc:Tryz.prog.funcs[k]?.map (fun fn=>(Option.map (trC Tryz.prog) fn.body,GE Tryz.prog fn.results.toList,fn.name== "runtime.NumGoroutine", fn.ntmps))=some (some tc.er,some (rv.map Prod.fst),false,g.n):=by kernel_rfl) (hlt:k<1000000:=by decide):EM k e:=by
 obtain ⟨fn,hf,hc⟩:=Bk.1 hc
 simp only [Br] at hc
 refine ⟨.inr ⟨hlt,fn,hf, ?_,hc.2.2.1⟩,hs (mG hf hc.1 hc.2.2.2 hc.2.1 gk lk hlt)⟩
 cases hb:fn.body with
 |none=>rw [hb] at hc;cases hc.1
 |some c=>rfl
end Go.Proofs.YtckcgijklnloiaaGreat.K
noncomputable section
namespace Go.Proofs.YtckcgijklnloiaaGreat.K
open Go.RowKit
theorem QX {y:Ty}{l:List y.T}{j:Nat}(h:j<l.length):lgt y l j=l[j]:=by
 unfold lgt
 rw [Bo,Bl h]
 rfl
theorem QU {k:Nat}(h:k<4611686018427387904):Qk .i64 (k:Int) 1=((k+1:Nat):Int):=by
 unfold Qk
 rw [Go.IntWalk.i64_in _ (by omega)]
 rfl
theorem JK {a b:Int}(h: -9223372036854775808<=a+b/\a+b<=9223372036854775807):Qk .i64 a b=a+b:=Go.IntWalk.i64_in _ h
theorem Zu {a b:Int}(h: -9223372036854775808<=a-b/\a-b<=9223372036854775807):QT .i64 a b=a-b:=Go.IntWalk.i64_in _ h
theorem QPt {a b:Int}(h: -9223372036854775808<=a*b/\a*b<=9223372036854775807):Fu .i64 a b=a*b:=Go.IntWalk.i64_in _ h
theorem QS {α:Type}{l:List α}{k:Nat}:cIx l (k:Int)=decide (k<l.length):=by
 unfold cIx
 congr 1
 exact propext ⟨fun h=>by omega,fun h=>by omega⟩
theorem QC {a b:Nat}:ilt (a:Int) (b:Int)=decide (a<b):=by
 unfold ilt
 congr 1
 exact propext ⟨fun h=>by omega,fun h=>by omega⟩
theorem Oy {p:Prop}[Decidable p](h:p):decide p=true:=by simp [h]
theorem QPu {p:Prop}[Decidable p](h: ¬ p):decide p=false:=by simp [h]
theorem QW {α:Type}(l:List α)(P:Nat->Prop)(h0:P l.length)(hs: ∀ k,k<l.length->P (k+1)->P k): ∀ k,k<=l.length->P k:=by
 intro k hk
 induction hn:l.length-k generalizing k with
 |zero=>
  have:k=l.length:=by omega
  subst this
  exact h0
 |succ n ih=>exact hs k (by omega) (ih (k+1) (by omega) (by omega))
theorem Qz0 (N:Nat)(P:Nat->Prop)(h0:P N)(hs: ∀ k,k<N->P (k+1)->P k): ∀ k,k<=N->P k:=by
 intro k hk
 induction hn:N-k generalizing k with
 |zero=>
  have:k=N:=by omega
  subst this
  exact h0
 |succ n ih=>exact hs k (by omega) (ih (k+1) (by omega) (by omega))
def XE {α:Type}(l:List α)(i:Int):Bool:=decide (0<=i/\i<=l.length/\l.length<=100000)
def Qz {α:Type}(l:List α)(n i:Int):Bool:=decide (n=l.length/\0<=i/\i<=n/\l.length<=100000)
theorem Js {α:Type}{l:List α}{n i:Int}(h:Qz l n i=true):n=l.length/\l.length<=100000∧ ∃ k:Nat,i=k/\k<=l.length:=by
 simp only [Qz,Ba] at h
 obtain ⟨h1,h2,h3,h4⟩:=h
 exact ⟨h1,h4,i.toNat,by omega,by omega⟩
theorem Jy {α:Type}{l:List α}(h:l.length<=100000):Qz l (Qc l) 0=true:=by
 simp only [Qz,Ba,Qc]
 exact ⟨trivial,by omega,by omega,h⟩
theorem QPv {α:Type}{l l2:List α}{b:Nat}(h:l.length+l2.length<=1000000)(hb:b<=1000):Qr l l2 b=true:=by
 unfold Qr
 rw [Ba]
 calc (l.length+l2.length)*(b+1)<=1000000*1001:=Nat.mul_le_mul h (by omega)
  _<=140737488355328:=by decide
theorem Qbp {x y:Bool}{l:List VO}(h:x=y):some (V.t .bool x,l)=some (V.t .bool y,l):=by rw [h]
theorem XF {a b:Int}:ieq a b=decide (a=b):=by
 unfold ieq
 rw [Bool.beq_eq_decide_eq]
def EI (l:List Int):Bool:=decide (l.length<=400)
def tc_f9:TC:=aF Tryz.f9 []
def g_f9:G:=gG 6 [] (fun _ _=>none)
def r_f9 (p0:List Int):OV:=some (.t .bool (ile (Qc p0) 400),[])
theorem s_f9 (l:List Int):r_f9 l=some (.t .bool (EI l),[]):=by
 simp only [r_f9,EI]
 congr 3
 unfold ile Qc
 congr 1
 exact propext ⟨fun h=>by omega,fun h=>by omega⟩
def sp_f9:Ent:=Qq (.pr (.sl tI) .nil) (fun x=>true) (fun x=>(.t .bool (EI x.1)))
theorem ms_f9:EM 9 sp_f9:=mS g_f9 tc_f9 [((.t 2),some .bool)] false (gB gN) fun m=>Qu m fun x _=>kT (s_f9 x.1)
def Um (n k:Int):Int:=if k<1 then 0 else n % k
def WH (_n k:Int):Bool:=decide (k.toNat<4611686018427387904)
def tc_f13:TC:=aF Tryz.f13 []
def g_f13:G:=gG 14 [] (fun _ _=>none)
def r_f13 (p0 p1:Int):OV:=br (ilt p1 1) (some (.t tI 0,[])) (br (cNz p1) (br (cNz p1) (some (.t tI (Ua (Qk .i64 (Ua p0 p1) p1) p1),[])) none) none)
theorem s_f13 (n k:Int)(h:WH n k=true):r_f13 n k=some (.t tI (Um n k),[]):=by
 simp only [WH,Ba] at h
 simp only [r_f13]
 refine Jp (fun h1=> ?_) (fun h1=> ?_)
 ·have h1:k<1:=by simpa [ilt] using h1
  simp [Um,h1]
 ·have h1: ¬ k<1:=by simpa [ilt] using h1
  have hk:cNz k=true:=by simp [cNz];omega
  simp only [hk,Qe]
  have h3: -k<n.tmod k:=by
   have:=Int.lt_tmod_of_pos n (show 0<k by omega)
   exact this
  have h4:n.tmod k<k:=Int.tmod_lt_of_pos n (by omega)
  have e1:Qk .i64 (Ua n k) k=n.tmod k+k:=JK (by unfold Ua;omega)
  rw [e1]
  have e2:Ua (n.tmod k+k) k=n % k:=by
   unfold Ua
   rw [Int.tmod_eq_emod_of_nonneg (by omega),Int.add_emod_right,Int.tmod_def]
   exact Int.sub_mul_emod_self_left n k _
  rw [e2]
  simp [Um,h1]
def Qoi:Ent:=Qq (.pr tI (.pr tI .nil)) (fun x=>(WH x.1 x.2.1)) (fun x=>(.t tI (Um x.1 x.2.1)))
theorem Qz1:EM 13 Qoi:=mS g_f13 tc_f13 [((.t 4),some tI)] false (gB gN) fun m=>Qu m fun x hok=>kT (s_f13 x.1 x.2.1 hok)
def Gd (l:List Int):Qd:=(l,0,())
def Qz2:TC:=aF Tryz.f12 []
def Qz3:List (RV×Option Ty):=[((.t 2),none)]
def g_f12:G:=gG 6 [] (fun _ _=>none)
def r_f12 (p0:List Int):OV:=some (.ptr 50000 0,[.box (.ag [(.t (.sl tI) p0),(.t tI 0)])])
theorem e_f12 (p0:List Int):JR g_f12 Qz2 Qz3 false [.t (.sl tI) p0] []=r_f12 p0:=by kernel_rfl
theorem s_f12 (l:List Int): ∃ c,r_f12 l=some (.ptr 50000 0,[.box c])/\c.as QM=some (Gd l):=⟨_,rfl,rfl⟩
def Qz4:Ent:=QmD QM (.pr (.sl tI) .nil) (fun x=>true) (fun x=>(Gd x.1))
theorem ms_f12:EM 12 Qz4:=mS g_f12 Qz2 Qz3 false (gB gN) fun m=>QM3 m rfl fun x _=>(s_f12 x.1).imp fun c h=>⟨(e_f12 x.1).trans h.1,h.2⟩
def Ql (d:Qd)(n:Int):Int:=if d.2.1≥d.1.length then 0 else Um (d.1.getD d.2.1.toNat 0) n
def Qg (d:Qd)(_n:Int):Qd:=if d.2.1≥d.1.length then d else (d.1,d.2.1+1,())
def dOk (d:Qd):Bool:=decide (0<=d.2.1/\d.1.length<=400)
def QL (d:Qd)(n:Int):Bool:=dOk d&&decide (n<4611686018427387904)
def tc_f35:TC:=aF Tryz.f35 [(12,pD [(0,[50000]),(1,[50000]),(2,[50000]),(3,[50000]),(4,[50000]),(5,[50000]),(6,[50000]),(7,[50000]),(8,[]),(9,[])] (.of [0,1,2,3,4,5,6,7,8,9])),(30,pD [(0,[50000]),(1,[50000]),(2,[50000]),(3,[50000]),(4,[50000]),(5,[50000]),(6,[50000]),(7,[50000]),(8,[]),(9,[]),(10,[]),(11,[]),(12,[]),(13,[])] (.of [0,1,2,3,4,5,6,7,8,9,10,11,12,13]))]
def g_f35:G:=gG 35 [(13,Qoi)] (fun _ _=>none)
def r_f35 (d0:Qd)(p1:Int):OV:=
 let a1:=QT .i64 (Qk .i64 d0.2.1 1) 1
 let a2:=lgt tI d0.1 (Int.toNat a1)
 br (ige d0.2.1 (Qc d0.1)) (some (.t tI 0,[.box (.t QM d0)])) (br (cIx d0.1 a1) (br (WH a2 p1) (some (.t tI (Um a2 p1),[.box (.t QM (d0.1,((Qk .i64 d0.2.1 1),d0.2.2)))])) none) none)
theorem s_f35 (d:Qd)(n:Int)(h:QL d n=true):r_f35 d n=some (.t tI (Ql d n),[.box (.t QM (Qg d n))]):=by
 simp only [QL,dOk,Bc,Ba] at h
 obtain ⟨⟨h1,h2⟩,h3⟩:=h
 obtain ⟨l,at_,_⟩:=d
 simp only at h1 h2
 obtain ⟨k,rfl⟩: ∃ k:Nat,at_=k:=⟨at_.toNat,by omega⟩
 simp only [r_f35]
 refine Jp (fun h4=> ?_) (fun h4=> ?_)
 ·have h4:l.length<=k:=by simp [ige,Qc] at h4;omega
  have h5:(k:Int)≥l.length:=by omega
  simp [Ql,Qg,h5]
 ·have h4:k<l.length:=by simp [ige,Qc] at h4;omega
  have h5: ¬ (k:Int)≥l.length:=by omega
  have e1:Qk .i64 (k:Int) 1=((k+1:Nat):Int):=QU (by omega)
  have e2:QT .i64 ((k+1:Nat):Int) 1=(k:Int):=by rw [Zu (by omega)];omega
  rw [e1,e2,QS,Oy h4,Qe]
  have e3:WH (lgt tI l (Int.toNat (k:Int))) n=true:=Bd (by omega)
  rw [e3,Qe]
  simp only [Ql,Qg,h5,Ds]
  rfl
def Wj:Ent:=Y8 QM (.pr tI .nil) (fun d x=>(QL d x.1)) (fun d x=>(.t tI (Ql d x.1))) (fun d x=>(Qg d x.1))
theorem WI:EM 35 Wj:=mS g_f35 tc_f35 [((.t 4),some tI)] false (gB (gD Qz1 gN)) fun m=>X6 m rfl fun d x hok=>kT (s_f35 d x.1 hok)
def done (d:Qd)(n:Int):Bool:=Ql d n==n-1
def JS (d:Qd)(n:Int):Bool:=QL d n&&decide (0<=n)
def tc_f46:TC:=aF Tryz.f46 []
def g_f46:G:=gG 11 [(35,Wj)] (fun _ _=>none)
def r_f46 (d0:Qd)(p1:Int):OV:=br (QL d0 p1) (some (.t .bool (ieq (Ql d0 p1) (QT .i64 p1 1)),[.box (.t QM (Qg d0 p1))])) none
theorem s_f46 (d:Qd)(n:Int)(h:JS d n=true):r_f46 d n=some (.t .bool (done d n),[.box (.t QM (Qg d n))]):=by
 simp only [JS,Bc,Ba] at h
 simp only [r_f46]
 rw [h.1,Qe]
 have h2:=h.1
 simp only [QL,Bc,Ba] at h2
 rw [Zu (by omega)]
 rfl
def Oz:Ent:=Y8 QM (.pr tI .nil) (fun d x=>(JS d x.1)) (fun d x=>(.t .bool (done d x.1))) (fun d x=>(Qg d x.1))
theorem Qbq:EM 46 Oz:=mS g_f46 tc_f46 [((.t 4),some .bool)] false (gB (gD WI gN)) fun m=>X6 m rfl fun d x hok=>kT (s_f46 d x.1 hok)
def dof (d:Qd)(l:List Int):Int:=l.getD (Ql d l.length).toNat 0
def Qt (d:Qd)(l:List Int):Qd:=Qg d l.length
def Jc (d:Qd)(l:List Int):Bool:=dOk d&&decide (0<l.length/\l.length<4611686018427387904)
def tc_f45:TC:=aF Tryz.f45 []
def g_f45:G:=gG 12 [(35,Wj)] (fun _ _=>none)
def r_f45 (d0:Qd)(p1:List Int):OV:=br (QL d0 (Qc p1)) (br (cIx p1 (Ql d0 (Qc p1))) (some (.t tI (lgt tI p1 (Int.toNat (Ql d0 (Qc p1)))),[.box (.t QM (Qg d0 (Qc p1)))])) none) none
theorem JA {d:Qd}{n:Int}(h:0<n):0<=Ql d n/\Ql d n<n:=by
 unfold Ql
 split
 ·omega
 ·unfold Um
  rw [if_neg (by omega)]
  exact ⟨Int.emod_nonneg _ (by omega),Int.emod_lt_of_pos _ (by omega)⟩
theorem s_f45 (d:Qd)(l:List Int)(h:Jc d l=true):r_f45 d l=some (.t tI (dof d l),[.box (.t QM (Qt d l))]):=by
 simp only [Jc,Bc,Ba] at h
 obtain ⟨h1,h2,h3⟩:=h
 simp only [r_f45]
 have e1:QL d (Qc l)=true:=by simp only [QL,h1,Qc,BB,Ba];omega
 rw [e1,Qe]
 have h4:=JA (d:=d) (n:=Qc l) (by unfold Qc;omega)
 have e2:cIx l (Ql d (Qc l))=true:=by simp only [cIx,Ba];exact h4
 rw [e2,Qe]
 rfl
def Ge:Ent:=Y8 QM (.pr (.sl tI) .nil) (fun d x=>(Jc d x.1)) (fun d x=>(.t tI (dof d x.1))) (fun d x=>(Qt d x.1))
theorem GM:EM 45 Ge:=mS g_f45 tc_f45 [((.t 4),some tI)] false (gB (gD WI gN)) fun m=>X6 m rfl fun d x hok=>kT (s_f45 d x.1 hok)
theorem QG {d:Qd}{n:Int}(h:dOk d=true):dOk (Qg d n)=true:=by
 simp only [dOk,Ba] at h ⊢
 unfold Qg
 split
 ·exact h
 ·exact ⟨by simp only;omega,h.2⟩
theorem QPw {l:List Int}(h:EI l=true):dOk (Gd l)=true:=by
 simp only [EI,Ba] at h
 simp [dOk,Gd,h]
end Go.Proofs.YtckcgijklnloiaaGreat.K
noncomputable section
namespace Go.Proofs
open Go.Shelf
def Tryz.lays189_ren:Go.Shelf.Ren:=⟨fun|189=>135|125=>162|257=>161|128=>199|129=>200|294=>190|295=>191|296=>192|297=>193|298=>194|299=>195|216=>196|300=>197|301=>198|328=>213|329=>214|330=>215|331=>216|332=>217|215=>218|343=>230|n=>n,fun|28=>22|3=>3|46=>209|0=>0|51=>204|53=>243|4=>4|183=>235|182=>234|131=>110|5=>5|9=>9|218=>252|222=>256|228=>261|229=>216|n=>n,fun|n=>n⟩
theorem Tryz.lays189:Go.Proofs.Lays.n189 Tryz.prog Tryz.lays189_ren:={
 mixed:=by kernel_rfl
 f125:=Tryz.func162.trans (congrArg some (by kernel_rfl))
 f128:=Tryz.func199.trans (congrArg some (by kernel_rfl))
 f129:=Tryz.func200.trans (congrArg some (by kernel_rfl))
 f189:=Tryz.func135.trans (congrArg some (by kernel_rfl))
 f215:=Tryz.func218.trans (congrArg some (by kernel_rfl))
 f216:=Tryz.func196.trans (congrArg some (by kernel_rfl))
 f257:=Tryz.func161.trans (congrArg some (by kernel_rfl))
 f294:=Tryz.func190.trans (congrArg some (by kernel_rfl))
 f295:=Tryz.func191.trans (congrArg some (by kernel_rfl))
 f296:=Tryz.func192.trans (congrArg some (by kernel_rfl))
 f297:=Tryz.func193.trans (congrArg some (by kernel_rfl))
 f298:=Tryz.func194.trans (congrArg some (by kernel_rfl))
 f299:=Tryz.func195.trans (congrArg some (by kernel_rfl))
 f300:=Tryz.func197.trans (congrArg some (by kernel_rfl))
 f301:=Tryz.func198.trans (congrArg some (by kernel_rfl))
 f328:=Tryz.func213.trans (congrArg some (by kernel_rfl))
 f329:=Tryz.func214.trans (congrArg some (by kernel_rfl))
 f330:=Tryz.func215.trans (congrArg some (by kernel_rfl))
 f331:=Tryz.func216.trans (congrArg some (by kernel_rfl))
 f332:=Tryz.func217.trans (congrArg some (by kernel_rfl))
 f343:=Tryz.func230.trans (congrArg some (by kernel_rfl))
 t0:=Tryz.underlying0
 a0:=Tryz.isAgg0
 z0:=Tryz.sizeOf0
 v0:=Tryz.zeroValue0
 t3:=Tryz.underlying3
 a3:=Tryz.isAgg3
 z3:=Tryz.sizeOf3
 v3:=Tryz.zeroValue3
 t4:=Tryz.underlying4
 a4:=Tryz.isAgg4
 z4:=Tryz.sizeOf4
 v4:=Tryz.zeroValue4
 t5:=Tryz.underlying5
 a5:=Tryz.isAgg5
 z5:=Tryz.sizeOf5
 v5:=Tryz.zeroValue5
 t9:=Tryz.underlying9
 a9:=Tryz.isAgg9
 z9:=Tryz.sizeOf9
 v9:=Tryz.zeroValue9
 t28:=Tryz.underlying22
 a28:=Tryz.isAgg22
 z28:=Tryz.sizeOf22
 v28:=Tryz.zeroValue22
 t46:=Tryz.underlying209
 a46:=Tryz.isAgg209
 z46:=Tryz.sizeOf209
 v46:=Tryz.zeroValue209
 t51:=Tryz.underlying204
 a51:=Tryz.isAgg204
 z51:=Tryz.sizeOf204
 v51:=Tryz.zeroValue204
 t53:=Tryz.underlying243
 a53:=Tryz.isAgg243
 z53:=Tryz.sizeOf243
 v53:=Tryz.zeroValue243
 t131:=Tryz.underlying110
 a131:=Tryz.isAgg110
 z131:=Tryz.sizeOf110
 v131:=Tryz.zeroValue110
 t182:=Tryz.underlying234
 a182:=Tryz.isAgg234
 z182:=Tryz.sizeOf234
 v182:=Tryz.zeroValue234
 t183:=Tryz.underlying235
 a183:=Tryz.isAgg235
 z183:=Tryz.sizeOf235
 v183:=Tryz.zeroValue235
 t218:=Tryz.underlying252
 a218:=Tryz.isAgg252
 z218:=Tryz.sizeOf252
 v218:=Tryz.zeroValue252
 t222:=Tryz.underlying256
 a222:=Tryz.isAgg256
 z222:=Tryz.sizeOf256
 v222:=Tryz.zeroValue256
 t228:=Tryz.underlying261
 a228:=Tryz.isAgg261
 z228:=Tryz.sizeOf261
 v228:=Tryz.zeroValue261
 t229:=Tryz.underlying216
 a229:=Tryz.isAgg216
 z229:=Tryz.sizeOf216
 v229:=Tryz.zeroValue216}
end Go.Proofs
namespace Go.Proofs.YtckcgijklnloiaaGreat.K
open Go.RowKit Go.Shelf
def QzZ:Ent:=UB [.ms 50000] [.arr 3 tI] (fun _ y=>(Qfb y.1)) (fun _ _=> .tu []) (fun _ y=>[.arr 3 tI (YS y.1)])
theorem QPr:JX Tryz.prog 135:= .inr ⟨by decide,_,Tryz.func135,by kernel_rfl,by kernel_rfl⟩
theorem QPs:QQ Tryz.prog 135 (QP QzZ):=
 QNi (by decide) (Any.slices_Sort_int Tryz.lays189) (Any.slices_Sort_int_none Tryz.lays189)
end Go.Proofs.YtckcgijklnloiaaGreat.K
