import Derived.Test.YtmjnnemhoeolgaaGreatQ2
import Derived.WalkKit
import Derived.ProofKit
import Derived.OpenShut
import Derived.ShutString
import Derived.ChangeOld
import Derived.Below
import Derived.Deep.Slices
import Derived.Deep.Fields
import Derived.Laws.BytesString
import Derived.Sort.OwnSortedInts
import Derived.Lib.SlicesCompact
import Derived.Test.YtmjnnemhoeolgaaGreatProg
import Derived.KernelRfl
import Derived.IntWalk
import Derived.Shelf.Sort.Plain
import Derived.Ground.NamesProg
import Derived.Ground.Names2Prog
import Derived.Shelf.Slices.In.SortNone
import Derived.Shelf.Slices.CompactI
set_option linter.unusedSimpArgs false
set_option linter.unusedVariables false
noncomputable section
/-
 A run through a function's text:what it makes,the program's function makes.
-/
namespace Go.Proofs.YtmjnnemhoeolgaaGreat.K
open Go.RowKit
section
variable {P:Program}{B:Base}{X X':Nat->Nat->Prop}{w w':World}{σ σ':Pl}{n:Nat}{S:VS}{us:List Value}
theorem Qw3 {g:G}(hg:GOk P g)(hm:P.follows .mixedOrders=true): ∀ (tc:TC) {B:Base} {ro:Option Nat} {β:Type} {S:VS} {K:Exit->VS->Option β} {r:β},ro=none∨tc.nrf=true->tc.lok g->ev g tc S K=some r->JV P B g.n ro (fun e S'=>K e S'=some r) tc.er S:=by
 intro tc
 induction tc with
 |sk=>
  intro B ro β S K r hro lk h c hc nn X w σ us ms ha
  cases c with
  |skip=>exact wpIn_skip ⟨S,X,σ,us,ms,ha,rfl,h⟩
  |region id ops d=>cases d<;>simp [trC,TC.er] at hc
  |cond x a b=>simp only [trC,TC.er] at hc;split at hc<;>cases hc
  |rangeFunc x p a b=>simp only [trC,TC.er] at hc;split at hc<;>cases hc
  |_=>simp [trC,TC.er] at hc
 |rt=>
  intro B ro β S K r hro lk h c hc nn X w σ us ms ha
  cases c with
  |ret=>exact wpIn_ret ⟨S,X,σ,us,ms,ha,rfl,h⟩
  |region id ops d=>cases d<;>simp [trC,TC.er] at hc
  |cond x a b=>simp only [trC,TC.er] at hc;split at hc<;>cases hc
  |rangeFunc x p a b=>simp only [trC,TC.er] at hc;split at hc<;>cases hc
  |_=>simp [trC,TC.er] at hc
 |ex id=>
  intro B ro β S K r hro lk h c hc nn X w σ us ms ha
  cases c with
  |exit i=>
   simp only [trC,TC.er,AC.ex.injEq] at hc
   subst hc
   exact wpIn_exit ⟨S,X,σ,us,ms,ha,rfl,h⟩
  |region id ops d=>cases d<;>simp [trC,TC.er] at hc
  |cond x a b=>simp only [trC,TC.er] at hc;split at hc<;>cases hc
  |rangeFunc x p a b=>simp only [trC,TC.er] at hc;split at hc<;>cases hc
  |_=>simp [trC,TC.er] at hc
 |reg rs=>
  intro B ro β S K r hro lk h c hc nn X w σ us ms ha
  cases c with
  |region id ops d=>
   cases d with
   |true=>simp [trC,TC.er] at hc
   |false=>
    simp only [trC,TC.er,AC.reg.injEq] at hc
    refine wpIn_region_list ?_
    exact Qi5 hg h hc ha fun S' X' w' σ' us' ha' hk=>⟨S',X',σ',us',ms,ha',rfl,hk⟩
  |cond x a b=>simp only [trC,TC.er] at hc;split at hc<;>cases hc
  |rangeFunc x p a b=>simp only [trC,TC.er] at hc;split at hc<;>cases hc
  |_=>simp [trC,TC.er] at hc
 |dr ds os t=>
  intro B ro β S K r _ _ h
  exact QFE hg hm h fun S' hk=>hk
 |sq a b iha ihb=>
  intro B ro β S K r hro lk h c hc nn X w σ us ms ha
  cases c with
  |seq x y=>
   simp only [trC,TC.er,AC.sq.injEq] at hc
   refine wpIn_seq (wpIn_mono (iha (hro.imp_right fun q=>(Bg.1 q).1) lk.1 h x hc.1 nn X w σ us ms ha) ?_)
   rintro e a' w' ⟨S',X',σ',us',ms',h1,rfl,h4⟩
   cases e with
   |normal=>exact ihb (hro.imp_right fun q=>(Bg.1 q).2) lk.2 h4 y hc.2 nn X' w' σ' us' ms' h1
   |_=>exact ⟨S',X',σ',us',ms',h1,rfl,h4⟩
  |region id ops d=>cases d<;>simp [trC,TC.er] at hc
  |cond x a b=>simp only [trC,TC.er] at hc;split at hc<;>cases hc
  |rangeFunc x p a b=>simp only [trC,TC.er] at hc;split at hc<;>cases hc
  |_=>simp [trC,TC.er] at hc
 |cd x a b iha ihb=>
  intro B ro β S K r hro lk h c hc nn X w σ us ms ha
  cases c with
  |cond o p q=>
   simp only [trC,TC.er] at hc
   split at hc
   ·rename_i x' hx
    simp only [AC.cd.injEq] at hc
    obtain ⟨rfl,h2,h3⟩:=hc
    simp only [ev] at h
    split at h
    ·rename_i t ht
     have hu:=JA hx (by rw [ht];rfl) ha.rel
     rw [ht] at hu
     have hu:=(C.v hu).1
     rcases XQ h with ⟨rfl,h⟩|⟨rfl,h⟩
     ·exact wpIn_cond_true hu (iha (hro.imp_right fun q=>(Bg.1 q).1) lk.1 h p h2 nn X w σ us ms ha)
     ·exact wpIn_cond_false hu (ihb (hro.imp_right fun q=>(Bg.1 q).2) lk.2 h q h3 nn X w σ us ms ha)
    ·cases h
   ·cases hc
  |region id ops d=>cases d<;>simp [trC,TC.er] at hc
  |rangeFunc x p a b=>simp only [trC,TC.er] at hc;split at hc<;>cases hc
  |_=>simp [trC,TC.er] at hc
 |bk id a iha=>
  intro B ro β S K r hro lk h c hc nn X w σ us ms ha
  cases c with
  |block i x=>
   simp only [trC,TC.er,AC.bk.injEq] at hc
   obtain ⟨rfl,hc⟩:=hc
   refine wpIn_block (wpIn_mono (iha hro lk h x hc nn X w σ us ms ha) ?_)
   rintro e a' w' ⟨S',X',σ',us',ms',h1,rfl,h4⟩
   cases e with
   |exit j=>
    simp only [Exit.inBlock]
    simp only at h4
    split at h4
    ·rename_i hj
     rw [if_pos hj]
     exact ⟨S',X',σ',us',ms',h1,rfl,h4⟩
    ·rename_i hj
     rw [if_neg hj]
     exact ⟨S',X',σ',us',ms',h1,rfl,h4⟩
   |_=>exact ⟨S',X',σ',us',ms',h1,rfl,h4⟩
  |region id ops d=>cases d<;>simp [trC,TC.er] at hc
  |cond x a b=>simp only [trC,TC.er] at hc;split at hc<;>cases hc
  |rangeFunc x p a b=>simp only [trC,TC.er] at hc;split at hc<;>cases hc
  |_=>simp [trC,TC.er] at hc
 |lp j f a iha=>
  intro B ro β S K r hro lk h c hc nn X w σ us ms ha
  cases c with
  |loop x=>
   simp only [trC,TC.er,AC.lp.injEq] at hc
   simp only [ev] at h
   split at h
   ·rename_i q l hL
    obtain ⟨rfl,h⟩:=Jz h
    obtain ⟨e1,S1,hp,h⟩:=Qc7 h
    have hl:=lk.1 S l (e1,S1) hL hp
    obtain ⟨m,hn⟩:=UM.1 hl
    refine wpIn_mono (Q:=Qi2 B g.n (fun e S'=>(e,S')=(e1,S1))) ?_ ?_
    ·refine QE6 (fun m a' w'=> ∃ S X' σ' us' ms',a'=⟨us'.toArray,mks ms'⟩/\At (B.mk' ms') X' w' σ' g.n S us'/\Z9 (Qz g f a) m S=some (e1,S1)) ?_ m _ _ ⟨S,X,σ,us,ms,rfl,ha,hn⟩
     rintro m a' w' ⟨S0,X',σ',us',ms',rfl,ha',hm'⟩
     cases m with
     |zero=>cases hm'
     |succ m=>
      simp only [Z9] at hm'
      split at hm'
      ·rename_i S2 hb
       refine wpIn_mono (iha hro lk.2 hb x hc nn X' w' σ' us' ms' (ha'.fgt f)) ?_
       rintro e a2 w2 ⟨S3,X2,σ2,us2,ms2,k1,rfl,k3⟩
       cases e with
       |normal=>
        simp only [ON,Bb,Bj,true_and] at k3
        subst k3
        exact ⟨m,by omega,_,X2,σ2,us2,ms2,rfl,k1.fgt f,hm'⟩
       |_=>simp [ON] at k3
      ·rename_i hne
       refine wpIn_mono (iha hro lk.2 hm' x hc nn X' w' σ' us' ms' (ha'.fgt f)) ?_
       rintro e a2 w2 ⟨S3,X2,σ2,us2,ms2,k1,rfl,k3⟩
       cases e with
       |normal=>
        simp only [ON,Bb,Bj] at k3
        obtain ⟨rfl,rfl⟩:=k3
        exact absurd hm' (hne _)
       |_=>
        simp only [ON,Bb,Bj] at k3
        obtain ⟨rfl,rfl⟩:=k3
        exact ⟨S3,X2,σ2,us2,ms2,k1,rfl,rfl⟩
    ·rintro e a' w' ⟨S',X',σ',us',ms',h1,rfl,h3⟩
     injection h3 with h4 h5
     subst h4 h5
     exact ⟨S',X',σ',us',ms',h1,rfl,h⟩
   ·cases h
  |region id ops d=>cases d<;>simp [trC,TC.er] at hc
  |cond x a b=>simp only [trC,TC.er] at hc;split at hc<;>cases hc
  |rangeFunc x p a b=>simp only [trC,TC.er] at hc;split at hc<;>cases hc
  |_=>simp [trC,TC.er] at hc
 |fg f a iha=>
  intro B ro β S K r hro lk h c hc nn X w σ us ms ha
  exact iha hro lk h c hc nn X w σ us ms (ha.fgt f)
 |nw s e a iha=>
  intro B ro β S K r hro lk h c hc nn X w σ us ms ha
  obtain ⟨S',σ',h1,h2⟩:=QE9 h ha
  exact iha hro lk h1 c hc nn X w σ' us ms h2
 |nf j i e k a iha=>
  intro B ro β S K r hro lk h c hc nn X w σ us ms ha
  obtain ⟨S',σ',h1,h2⟩:=QFc h ha
  exact iha hro lk h1 c hc nn X w σ' us ms h2
 |fz ks a iha=>
  intro B ro β S K r hro lk h c hc nn X w σ us ms ha
  obtain ⟨X',h1,_⟩:=ha.fzs ks
  exact iha hro lk h c hc nn X' w σ us ms h1
 |ad l a iha=>
  intro B ro β S K r hro lk h c hc nn X w σ us ms ha
  obtain ⟨σ',h1⟩:=ha.mvks l
  exact iha hro lk h c hc nn X w σ' us ms h1
 |mv l a iha=>
  intro B ro β S K r hro lk h c hc nn X w σ us ms ha
  refine wpIn_mono (iha hro lk h c hc nn X w σ us ms ha) ?_
  rintro e a' w' ⟨S',X',σ',us',ms',h1,rfl,h4⟩
  cases e with
  |normal=>
   obtain ⟨X2,S2,σ2,h4,h2⟩:=QFb h4 h1
   exact ⟨S2,X2,σ2,us',ms',h2,rfl,h4⟩
  |_=>exact ⟨S',X',σ',us',ms',h1,rfl,h4⟩
 |rg j f f2 a iha=>
  intro B ro β S K r hro lk h c hc nn X w σ us ms ha
  simp only [ev] at h
  split at h
  ·rename_i q l hL
   obtain ⟨rfl,h⟩:=Jz h
   obtain ⟨e1,S1,hp,h⟩:=Qc7 h
   have hl:=lk.1 S l (e1,S1) hL hp
   refine wpIn_mono (iha hro lk.2 hl c hc nn X w σ us ms (ha.fgt f)) ?_
   rintro e a' w' ⟨S',X',σ',us',ms',h1,rfl,h3⟩
   simp only [Bb,Bj] at h3
   obtain ⟨rfl,rfl⟩:=h3
   exact ⟨_,X',σ',us',ms',h1.fgt f2,rfl,h⟩
  ·cases h
 |rf j f x yr ps pr a b iha ihb=>
  intro B ro β S K r hro lk h c hc nn X w σ us ms ha
  rcases hro with rfl|hro
  ·exact QFN hg iha ihb lk h c hc nn X w σ us ms ha
  ·cases hro
end
inductive RV where
 |t (i:Nat)
 |c (i:Nat) (agg:Bool) (n:Nat)
def trV (P:Program):ResultVar->Option RV
 |.tmp t=>some (.t t)
 |.cell a t=>match P.underlying t,P.info? t with
  |some d,some inf=>some (.c a (isRow d) inf.size)
  |_,_=>none
def Wt (P:Program):List ResultVar->Option (List RV)
 | []=>some []
 |r::l=>match trV P r,Wt P l with
  |some a,some b=>some (a::b)
  |_,_=>none
section
variable {β:Type}
def RV.run (S:VS)(K:V->Option β):RV->Option β
 |.t i=>nz (S.ts i) K
 |.c i agg n=>match S.ts i with
  |.ptr j o=>match S.st j with
   |.box z=>match z.sub true o n agg with
    |some v=>nz v K
    |none=>none
   |_=>none
  |_=>none
def castR (t:Option Ty)(v:V)(K:V->Option β):Option β:=
 match t with
 |none=>K v
 |some y=>match v.as y with
  |some x=>K (.t y x)
  |none=>none
def G7 (S:VS):List (RV×Option Ty)->(List V->Option β)->Option β
 | [],K=>K []
 |r::l,K=>r.1.run S fun v=>castR r.2 v fun v=>G7 S l fun vs=>K (v::vs)
end
def G8:List V->V
 | [v]=>v
 |vs=> .tu vs
def exs (vs:List V):List Nat:=((V.refss vs).filter fun k=>decide (k<50000)).eraseDups
def exr (es:List Nat)(m k:Nat):Nat:=if 50000<=k then k else 50000+m+es.idxOf k
def retOk (S:VS)(m:Nat)(es:List Nat)(vs:List V):Bool:=
 decide es.Nodup&&(((V.refss vs).all fun k=>decide (50000<=k/\k<50000+m)||es.contains k)&&((es.all fun k=>decide (k<50000)&&((match S.st k with|.no=>false|_=>true)&&(S.st k).refs.isEmpty))&&
  (List.range m).all fun j=>(S.st (50000+j)).refs.all fun k=>decide (50000<=k/\k<50000+m)))
def VX (S:VS)(m:Nat)(es:List Nat)(vs:List V):Option (V×List VO):=
 if retOk S m es vs=true then some ((G8 vs).ren (exr es m),((List.range m).map fun j=>S.st (50000+j))++es.map fun k=>S.st k) else none
def VY (rv:List (RV×Option Ty))(ro:Bool)(m:Nat)(S:VS):Option (V×List VO):=
 G7 S (rv.map fun r=>(r.1,none)) fun vs=>if ro=true then VX S m (exs vs) vs else G7 (S.fzs (V.msss vs)) rv fun vs'=>VX (S.fzs (V.msss vs)) m (exs vs') vs'
def U8:Nat->List V->List (Nat×V)
 |_,[]=>[]
 |i,v::r=>(i,v)::U8 (i+1) r
def Yf:Nat->List VO->List (Nat×VO)
 |_,[]=>[]
 |i,v::r=>(i,v)::Yf (i+1) r
def inS (args:List V)(objs:List VO):VS:=⟨ZY (U8 0 args),Zs (Yf 50000 objs),(Yf 50000 objs).map Prod.fst⟩
def Jq (g:G)(tc:TC)(rv:List (RV×Option Ty))(ro:Bool):Fun:=fun args objs=>
 if args.length<=g.n then ev g tc (inS args objs) fun e S=>match e with
  |.ret=>VY rv ro objs.length S
  |.normal=>VY rv ro objs.length S
  |_=>none
 else none
section
variable {P:Program}{B:Base}{X X':Nat->Nat->Prop}{w w':World}{σ σ':Pl}{n:Nat}{S:VS}{us:List Value}
def U9 (us:List Value):ResultVar->Sem Value
 |.tmp t=>pure (us.toArray.getD t undef)
 |.cell a t=>do loadVar t (←asAddr (us.toArray.getD a undef))
theorem Qw4 {β:Type}{K:V->Option β}{x:β}{r:ResultVar}{rv:RV}(ht:trV P r=some rv)(he:rv.run S K=some x): ∃ v,K v=some x∧ ∀ {B:Base} {X:Nat->Nat->Prop} {w:World} {σ:Pl} {n:Nat} {us:List Value},At B X w σ n S us→ ∃ u,C X w σ v.d u/\(U9 us r).run P w= .ok u w:=by
 cases r with
 |tmp t=>
  simp only [trV,Bb] at ht
  subst ht
  obtain ⟨h1,h2⟩:=XT he
  refine ⟨_,h2,fun {B X w σ n us} ha=>⟨_,JA (o:= .tmp t) (x:= .t t) rfl h1 ha.rel, ?_⟩⟩
  simp [Act.eval,U9]
 |cell a t=>
  simp only [trV] at ht
  split at ht
  ·rename_i dd inf hd hin
   simp only [Bb] at ht
   subst ht
   simp only [RV.run] at he
   split at he
   ·rename_i j o hx
    split at he
    ·rename_i c hst
     split at he
     ·rename_i v hs
      obtain ⟨h1,h2⟩:=XT he
      refine ⟨v,h2,fun {B X w σ n us} ha=> ?_⟩
      have k1:=JA (o:= .tmp a) (x:= .t a) rfl (by simp only [AX.xv,hx];rfl) ha.rel
      simp only [AX.xv,hx,V.d,C] at k1
      obtain ⟨b,e1,e2⟩:=k1
      have hat:=ha.ti.obj j
      rw [hst] at hat
      obtain ⟨b',ty,vs,g1,g2,g3,g4⟩:=hat
      rw [g1] at e1
      injection e1 with e1
      subst e1
      obtain ⟨s1,s2⟩:=V.sub_spec hs
      have hl:=g3.len
      obtain ⟨u,q1,q2⟩:=Qnm (P:=P) (b:=b') (off:=o) (vs:=vs.drop o) (ds:=c.d.cells.drop o) (d:=v.d) hd hin (g3.drop_ _) (fun i u hu=>by
       rw [Da] at hu
       rw [cell_of_row w b' (o+i) vs.toArray ty (0,0) g2]
       simpa using hu) (fun ha=>by
        obtain ⟨t1,t2⟩:=s1 ha
        exact ⟨t1,by rw [Dl];omega⟩) (fun ha=>by
        rw [Da]
        exact s2 ha)
      refine ⟨u,q2, ?_⟩
      simp only [Act.eval] at e2
      simp only [U9,Sem.run_bind,e2,asAddr,Sem.run_pure,Result.andThen_ok,q1]
     ·cases he
    ·cases he
   ·cases he
  ·cases ht
theorem QeO {β:Type}{x:β}: ∀ {rs:List ResultVar} {rv:List (RV×Option Ty)} {K:List V->Option β},Wt P rs=some (rv.map Prod.fst)->G7 S rv K=some x→ ∃ vs,K vs=some x∧ ∀ {B:Base} {X:Nat->Nat->Prop} {w:World} {σ:Pl} {n:Nat} {us:List Value},At B X w σ n S us→
  ∃ xs,Cs X w σ (V.ds vs) xs/\(rs.mapM (U9 us)).run P w= .ok xs w
 | [],rv,K,ht,he=>by
  simp only [Wt,Bb] at ht
  have:rv=[]:=List.map_eq_nil_iff.1 ht.symm
  subst this
  exact ⟨[],he,fun _=>⟨[],by simp [V.ds,Cs],by simp⟩⟩
 |r::rs,rv,K,ht,he=>by
  simp only [Wt] at ht
  split at ht
  ·rename_i a b ha hb
   simp only [Bb] at ht
   cases rv with
   |nil=>cases ht
   |cons q rv=>
    simp only [Bx,List.cons.injEq] at ht
    obtain ⟨rfl,rfl⟩:=ht
    simp only [G7] at he
    obtain ⟨v0,h0,h2⟩:=Qw4 ha he
    have hcast: ∃ v,G7 S rv (fun vs=>K (v::vs))=some x∧ ∀ {X:Nat->Nat->Prop} {w:World} {σ:Pl} {u:Value},C X w σ v0.d u->C X w σ v.d u:=by
     unfold castR at h0
     split at h0
     ·exact ⟨v0,h0,fun h=>h⟩
     ·split at h0
      ·rename_i y z hz
       exact ⟨_,h0,fun h=>C.up _ _ (V.as_spec hz h)⟩
      ·cases h0
    obtain ⟨v,h1,hcv⟩:=hcast
    obtain ⟨vs,h3,h4⟩:=QeO hb h1
    refine ⟨v::vs,h3,fun {B X w σ n us} hat=> ?_⟩
    obtain ⟨u,q1,q2⟩:=h2 hat
    obtain ⟨xs,q3,q4⟩:=h4 hat
    refine ⟨u::xs,by simp only [V.ds];exact Cs.cons (hcv q1) q3, ?_⟩
    rw [List.mapM_cons]
    simp only [Sem.run_bind,q2,q4,Result.andThen_ok,Sem.run_pure]
  ·cases ht
theorem Ql4 {fn:Func}{vs:List V}{xs:List Value}(hc:Cs X w σ (V.ds vs) xs)(h:(fn.results.toList.mapM (U9 us)).run P w= .ok xs w): ∃ u,C X w σ (G8 vs).d u/\(results fn us.toArray).run P w= .ok u w:=by
 have hm:(fn.results.mapM (U9 us)).run P w= .ok xs.toArray w:=by
  rw [Array.mapM_eq_mapM_toList]
  rw [map_eq_pure_bind,Sem.run_bind,h]
  rfl
 have hf:results fn us.toArray=(do let vs ← fn.results.mapM (U9 us);pure (if h:vs.size=1 then vs[0] else .tuple vs)):=by
  unfold results
  congr 1
 rw [hf,Sem.run_bind,hm]
 have hlen:=hc.len
 rw [V.ds_eq,BN] at hlen
 unfold G8
 split
 ·rename_i v
  simp only [V.ds] at hc
  obtain ⟨u,rfl,hu⟩:=hc.one
  exact ⟨u,hu,by simp⟩
 ·rename_i hne
  have h0:xs.toArray.size≠1:=by
   intro h
   rcases vs with _|⟨d,_|⟨d2,r⟩⟩
   ·simp at hlen;simp [hlen] at h
   ·exact hne d rfl
   ·simp at hlen h;omega
  refine ⟨.tuple xs.toArray,by simp only [V.d,C];exact ⟨xs,rfl,hc⟩, ?_⟩
  simp only [Result.andThen_ok,dif_neg h0,Sem.run_pure]
theorem OAt.pl {k k':Nat}{o:VO}(h:OAt X w σ k o)(hk:σ' k'=σ k)(hr: ∀ r∈o.refs,σ' r=σ r):OAt X w σ' k' o:=by
 cases o with
 |no=>trivial
 |box v=>
  obtain ⟨b,ty,vs,h1,h2,h3,h4⟩:=h
  exact ⟨b,ty,vs,hk.trans h1,h2,Cs.ext (Ext.refl X w) _ _ (fun r hr'=>hr r (by rw [V.refs_dcells] at hr';exact hr')) h3,h4⟩
 |arr e y l=>
  obtain ⟨u,xs,h1,h2⟩:=h
  exact ⟨u,xs,hk.trans h1,h2⟩
theorem Qw5 (vs:List V):(G8 vs).refs=V.refss vs:=by
 unfold G8
 split
 ·simp [V.refss]
 ·rfl
theorem Ql5 {σ0:Pl}{m:Nat}{es:List Nat}{vs:List V}{rv:V}{os:List VO}{u:Value}{X0 X1:Nat->Nat->Prop}{w0 w1:World}(h:VX S m es vs=some (rv,os))(ha:At ⟨X0,w0,Yv σ0 m,σ0,[],X1,w1⟩ X w σ n S us)(hu:C X w σ (G8 vs).d u):
  ∃ σ',C X w σ' rv.d u/\Ends X0 w0 σ0 m X w σ' os:=by
 unfold VX at h
 split at h
 ·rename_i hok
  simp only [Bb,Bj] at h
  obtain ⟨rfl,rfl⟩:=h
  simp only [retOk,Bc,Ba,Bi,Dc,BC,DH,Df] at hok
  obtain ⟨k1,k2,k3,k4⟩:=hok
  let τ:Pl:=fun k=>if 50000+m<=k/\k-50000-m<es.length then σ (es.getD (k-50000-m) 0) else σ k
  have τ0: ∀ k,k<50000+m->τ k=σ k:=fun k hk=>if_neg (by omega)
  have τ1: ∀ (i:Nat) k,es[i]? = some k->τ (50000+m+i)=σ k:=by
   intro i k hi
   have hlt:=(By.1 hi).1
   have e1:50000+m+i-50000-m=i:=by omega
   simp only [τ,e1]
   rw [if_pos ⟨by omega,hlt⟩,Bk,hi]
   rfl
  have live1: ∀ k∈es,S.st k≠ .no:=fun k hk hn=>by have:=(k3 k hk).2.1;rw [hn] at this;cases this
  have hlen:(((List.range m).map fun j=>S.st (50000+j))++es.map fun k=>S.st k).length=m+es.length:=by simp
  -- the number of a thing that is handed out
  have src: ∀ j,j<m+es.length→ ∃ k,(((List.range m).map fun j=>S.st (50000+j))++es.map fun k=>S.st k)[j]? = some (S.st k)/\τ (50000+j)=σ k/\(m<=j->S.st k≠ .no)/\(j<m->k=50000+j)/\(m<=j->es[j-m]? = some k):=by
   intro j hj
   rcases B5 j m with hlt|hge
   ·exact ⟨50000+j,by rw [Dv (by simpa using hlt),B9,List.getElem?_range hlt];rfl,τ0 _ (by omega),fun h=>by omega,fun _=>rfl,fun h=>by omega⟩
   ·have hl:j-m<es.length:=by omega
    refine ⟨es[j-m],by rw [List.getElem?_append_right (by simpa using hge),B9];simp [Bh hl], ?_,fun _=>live1 _ (BE hl),fun h=>by omega,fun _=>Bh hl⟩
    have:=τ1 (j-m) _ (Bh hl)
    rw [←this]
    congr 1
    omega
  refine ⟨τ,UK _ u (fun k hk=> ?_) hu,⟨ha.ti.fin,fun j o hj=> ?_,fun i j b hij hi hj ni nj hb hb'=> ?_,by rw [hlen];omega,fun j hj=> ?_,fun j b hj hj2 hb=> ?_,ha.ti.fr,fun b q hb=>(ha.ti.old b q hb).1,fun b q hb hu hx=> ?_⟩⟩
  ·rw [Qw5] at hk
   rcases k2 k hk with hk'|hk'
   ·rw [exr,if_pos hk'.1]
    exact τ0 k hk'.2
   ·have hlt:=(k3 k hk').1
    rw [exr,if_neg (by omega)]
    obtain ⟨i,hi⟩:=List.mem_iff_getElem?.1 hk'
    rw [Wg k1 hi]
    exact τ1 i k hi
  ·have hjl:j<m+es.length:=by rw [←hlen];exact (By.1 hj).1
   obtain ⟨k,q1,q2,q3,q4,q5⟩:=src j hjl
   rw [q1] at hj
   injection hj with hj
   subst hj
   refine ⟨(ha.ti.obj k).pl q2 (fun r hr=> ?_),q3⟩
   rcases B5 j m with hlt|hge
   ·have:=k4 j hlt r (by rw [←q4 hlt];exact hr)
    exact τ0 r this.2
   ·have:=(k3 k (Dk (q5 hge))).2.2
    rw [this] at hr
    cases hr
  ·rw [hlen] at hi hj
   obtain ⟨k,q1,q2,_,q4,q5⟩:=src i hi
   obtain ⟨k',p1,p2,_,p4,p5⟩:=src j hj
   rw [q2] at hb
   rw [p2] at hb'
   have q3:S.st k≠ .no:=fun he=>ni (by rw [q1,he])
   have p3:S.st k'≠ .no:=fun he=>nj (by rw [p1,he])
   refine ha.ti.apart k k' b (fun he=> ?_) q3 p3 hb hb'
   subst he
   rcases B5 i m with h1|h1
   ·rcases B5 j m with h2|h2
    ·have:=q4 h1;have:=p4 h2;omega
    ·have e1:=q4 h1
     have:=(k3 k (Dk (p5 h2))).1
     omega
   ·rcases B5 j m with h2|h2
    ·have e1:=p4 h2
     have:=(k3 k (Dk (q5 h1))).1
     omega
    ·have e1:=Wg k1 (q5 h1)
     have e2:=Wg k1 (p5 h2)
     omega
  ·rw [τ0 _ (by omega)]
   exact ha.ti.lnt _ (by simp only [YN];omega)
  ·rw [hlen] at hj2
   obtain ⟨k,_,q2,q3,_,q5⟩:=src j hj2
   have q3:=q3 hj
   rw [q2] at hb
   rcases ha.ti.own k b q3 hb with h1|h1
   ·right
    simp only [Yv,List.mem_filterMap,Df] at h1
    obtain ⟨i,hi,hib⟩:=h1
    refine ⟨i,hi, ?_,hib⟩
    obtain ⟨k',p1,p2,_,p4,_⟩:=src i (by omega)
    rw [p1]
    by_cases hn:S.st k'= .no
    ·rw [hn]
    ·refine absurd hb (ha.ti.apart k' k b (fun he=> ?_) hn q3 ?_)
     ·have:=(k3 k (Dk (q5 hj))).1
      have:=p4 hi
      omega
     ·rw [p4 hi,ha.ti.lnt _ (by simp only [YN];omega)]
      exact hib
   ·exact .inl h1
  ·by_cases hl:b∈Yv σ0 m
   ·simp only [Yv,List.mem_filterMap,Df] at hl
    obtain ⟨i,hi,hib⟩:=hl
    obtain ⟨k',p1,p2,_,p4,_⟩:=src i (by omega)
    by_cases hn:S.st k'= .no
    ·exact absurd hib (hu i hi (by rw [p1,hn]))
    ·refine (ha.ti.obj k').all hn ?_ q
     rw [p4 hi,ha.ti.lnt _ (by simp only [YN];omega)]
     exact hib
   ·exact (ha.ti.old b q hb).2 hl hx
 ·cases h
theorem Ql6: ∀ (args:List V) (i j:Nat),ZY (U8 i args) (i+j)=args.getD j .un
 | [],i,j=>rfl
 |v::r,i,0=>by simp [U8,ZY]
 |v::r,i,j+1=>by
  simp only [U8,ZY]
  rw [if_neg (by omega)]
  have:=Ql6 r (i+1) j
  rw [show i+(j+1)=i+1+j from by omega,this]
  simp
theorem QeP: ∀ (args:List V) (i k:Nat),i+args.length<=k->ZY (U8 i args) k= .un
 | [],i,k,_=>rfl
 |v::r,i,k,h=>by
  simp only [Bo] at h
  simp only [U8,ZY]
  rw [if_neg (by omega)]
  exact QeP r (i+1) k (by omega)
theorem Ql7: ∀ (objs:List VO) (i j:Nat),Zs (Yf i objs) (i+j)=objs.getD j .no
 | [],i,j=>rfl
 |v::r,i,0=>by simp [Yf,Zs]
 |v::r,i,j+1=>by
  simp only [Yf,Zs]
  rw [if_neg (by omega)]
  have:=Ql7 r (i+1) j
  rw [show i+(j+1)=i+1+j from by omega,this]
  simp
theorem Ql8: ∀ (objs:List VO) (i k:Nat),k<i->Zs (Yf i objs) k= .no
 | [],i,k,_=>rfl
 |v::r,i,k,h=>by
  simp only [Yf,Zs]
  rw [if_neg (by omega)]
  exact Ql8 r (i+1) k (by omega)
theorem Ql9: ∀ (objs:List VO) (i k:Nat),Zs (Yf i objs) k≠ .no->k∈(Yf i objs).map Prod.fst
 | [],i,k,h=>absurd rfl h
 |v::r,i,k,h=>by
  simp only [Yf,Zs] at h
  simp only [Yf,Bx]
  split at h
  ·rename_i hk;rw [hk];exact BT
  ·exact BF _ (Ql9 r (i+1) k h)
theorem Qw6 {g:G}{f:FuncId}{fn:Func}{c:Code}{tc:TC}{rv:List (RV×Option Ty)}{ro:Bool}(hlt:f<1000000)(hf:P.funcs[f]? = some fn)(hb:fn.body=some c)(hc:trC P c=tc.er)(hn:fn.ntmps=g.n)(hr:Wt P fn.results.toList=some (rv.map Prod.fst))(hg:GOk P g)(hl:tc.lok g)(hm:P.follows .mixedOrders=true):
  Qu P f (Jq g tc rv ro):=by
 intro args objs r os h X w σ vs hfin hlent hargs
 unfold Jq at h
 split at h
 ·rename_i hle
  have hal:=hargs.len
  rw [V.ds_eq,BN] at hal
  have obj0: ∀ k,Zs (Yf 50000 objs) k= .no∨ ∃ j,k=50000+j/\objs[j]? = some (Zs (Yf 50000 objs) k):=by
   intro k
   rcases B5 k 50000 with hlt|hge
   ·exact .inl (Ql8 objs 50000 k hlt)
   ·obtain ⟨j,rfl⟩: ∃ j,k=50000+j:=⟨k-50000,by omega⟩
    rw [Ql7]
    rcases B5 j objs.length with hj|hj
    ·exact .inr ⟨j,rfl,by rw [Bk,Bh hj];rfl⟩
    ·left
     rw [Bk,DK hj]
     rfl
  have hat:At ⟨X,w,Yv σ objs.length,σ,[],X,w⟩ X w σ g.n (inS args objs) (vs++List.replicate (g.n-vs.length) undef):=by
   refine ⟨⟨hfin,fun k=> ?_,fun i j b hij hi hj hbi hbj=> ?_,fun k b hk hbk=> ?_,Fr.refl _ _,fun _ _ _=>⟨fun h=>h,fun _ h=>h⟩,fun _ _=>rfl,(fun p hp=>by cases hp),⟨List.nodup_nil,fun p hp=>by cases hp⟩,Ext0.refl X w⟩,⟨by simp;omega,fun i u hu=> ?_,fun i hi=> ?_⟩,fun j hj=>Ql9 objs 50000 j hj⟩
   ·simp only [inS]
    rcases obj0 k with h0|⟨j,rfl,h0⟩
    ·rw [h0];trivial
    ·exact (hlent.at_ j _ h0).1
   ·simp only [inS] at hi hj
    rcases obj0 i with h0|⟨i',rfl,h0⟩
    ·exact absurd h0 hi
    ·rcases obj0 j with h1|⟨j',rfl,h1⟩
     ·exact absurd h1 hj
     ·exact hlent.apart i' j' b (by omega) (By.1 h0).1 (By.1 h1).1 hbi hbj
   ·simp only [inS] at hk
    rcases obj0 k with h0|⟨j,rfl,h0⟩
    ·exact absurd h0 hk
    ·refine .inl ?_
     simp only [Yv,List.mem_filterMap,Df]
     exact ⟨j,(By.1 h0).1,hbk⟩
   ·simp only [inS]
    rcases B5 i vs.length with hi|hi
    ·rw [Dv hi] at hu
     have ha:args[i]? = some args[i]:=Bh (by omega)
     have hl:=Ql6 args 0 i
     rw [DN,Bk,ha] at hl
     rw [hl]
     obtain ⟨u',hu',hc'⟩:=hargs.at_ (i:=i) (d:=args[i].d) (by rw [V.ds_eq,B9,ha];rfl)
     rw [hu] at hu'
     injection hu' with hu'
     subst hu'
     exact hc'
    ·rw [QeP args 0 i (by omega)]
     exact C.any_ u
   ·simp only [inS]
    exact QeP args 0 i (by omega)
  have hw:=Qw3 (B:=⟨X,w,Yv σ objs.length,σ,[],X,w⟩) hg hm tc (.inl rfl) hl h c hc 9 X w σ _ [] hat
  refine Qc4 hlt (callsIn_wide.1 (callsIn_of_wp_marks (F:=Fw none) (n:=9) hf hb trivial ?_))
  have he:(vs.toArray++Array.replicate (fn.ntmps-vs.toArray.size) undef)=(vs++List.replicate (g.n-vs.length) undef).toArray:=by
   apply Array.ext'
   simp [hn]
  rw [he]
  refine wpIn_mono hw ?_
  rintro e a w1 ⟨S,X',σ',us',ms',h0,rfl,h3⟩
  obtain ⟨w',h1,hleave⟩:=Qt6 h0
  have hret:VY rv ro objs.length S=some (r,os)→ ∃ u,(results fn us'.toArray).run P w'= .ok u w'∧ ∃ X1 σ1,C X1 w' σ1 r.d u/\Ends X w σ objs.length X1 w' σ1 os:=by
   intro hret
   unfold VY at hret
   obtain ⟨vs1,q1,q2⟩:=QeO (rv:=rv.map fun r=>(r.1,none)) (by rw [hr,DE];rfl) hret
   split at q1
   ·obtain ⟨xs,q3,q4⟩:=q2 h1
    obtain ⟨u,q5,q6⟩:=Ql4 q3 q4
    obtain ⟨σ1,q7,q8⟩:=Ql5 q1 h1 q5
    exact ⟨u,q6,X',σ1,q7,q8⟩
   ·obtain ⟨X2,h2,_⟩:=h1.fzs (V.msss vs1)
    obtain ⟨vs2,q3,q4⟩:=QeO hr q1
    obtain ⟨xs,q5,q6⟩:=q4 h2
    obtain ⟨u,q7,q8⟩:=Ql4 q5 q6
    obtain ⟨σ1,q9,q10⟩:=Ql5 q3 h2 q7
    exact ⟨u,q8,X2,σ1,q9,q10⟩
  cases e with
  |ret=>
   obtain ⟨u,p1,X1,σ1,p2,p3⟩:=hret h3
   exact hleave ⟨u,p1,u,X1,σ1,rfl,p2,p3⟩
  |normal=>
   obtain ⟨u,p1,X1,σ1,p2,p3⟩:=hret h3
   exact hleave ⟨u,p1,u,X1,σ1,rfl,p2,p3⟩
  |_=>cases h3
 ·cases h
end
end Go.Proofs.YtmjnnemhoeolgaaGreat.K
/-
 What is said of functions and of loops in types,and how it serves in the runs of others.
-/
namespace Go.Proofs.YtmjnnemhoeolgaaGreat.K
open Go.RowKit
def Ty.args:(y:Ty)->List V->Option y.T
 |.pr f r,v::vs=>match v.as f,r.args vs with
  |some x,some z=>some (x,z)
  |_,_=>none
 |.nil,[]=>some ()
 |_,_=>none
abbrev Ent:=List V->List VO->Option (Bool×V×List VO)
def Ql (a:Ty)(ok:a.T->Bool)(F:a.T->V):Ent:=fun args objs=>
 match objs with
 | []=>match a.args args with
  |some x=>some (ok x,F x,[])
  |none=>none
 |_=>none
def Yg (b a:Ty)(ok:b.T->a.T->Bool)(F:b.T->a.T->V)(H:b.T->a.T->b.T):Ent:=fun args objs=>
 match args,objs with
 |.ptr 50000 0::args,[.box c]=>match c.as b,a.args args with
  |some d,some x=>some (ok d x,F d x,[.box (.t b (H d x))])
  |_,_=>none
 |_,_=>none
def QeQ (b a:Ty)(ok:a.T->Bool)(H:a.T->b.T):Ent:=fun args objs=>
 match objs with
 | []=>match a.args args with
  |some x=>some (ok x,.ptr 50000 0,[.box (.t b (H x))])
  |none=>none
 |_=>none
def Wu (a:Ty)(ok:a.T->Bool)(F:a.T->V)(O:a.T->List VO):Ent:=fun args objs=>
 match objs with
 | []=>match a.args args with
  |some x=>some (ok x,F x,O x)
  |none=>none
 |_=>none
class Fuel where
 n:Nat
abbrev QZ [f:Fuel]:Nat:=f.n
def Qq (F:Ent):Fun:=fun args objs=>
 match F args objs with
 |some (true,r,os)=>some (r,os)
 |_=>none
def EL:List (Nat×Ent)->Nat->Ent
 | [],_=>fun _ _=>none
 |(g,F)::r,f=>if f=g then fun args objs=>match F args objs with
   |some x=>some x
   |none=>EL r f args objs
  else EL r f
theorem VZ: ∀ {l:List (Nat×Ent)} {f:Nat} {args:List V} {objs:List VO} {x:Bool×V×List VO},EL l f args objs=some x→ ∃ F,(f,F)∈l/\F args objs=some x
 |(g,F)::r,f,args,objs,x,h=>by
  simp only [EL] at h
  split at h
  ·rename_i hfg
   subst hfg
   simp only at h
   split at h
   ·rename_i y hy
    simp only [Bb] at h
    subst h
    exact ⟨F,BT,hy⟩
   ·obtain ⟨F',h1,h2⟩:=VZ h
    exact ⟨F',BF _ h1,h2⟩
  ·obtain ⟨F',h1,h2⟩:=VZ h
   exact ⟨F',BF _ h1,h2⟩
def IL (li:List (Nat×Itr))(f:Nat):Itr:=match li.lookup f with
 |some F=>F
 |none=>fun _ _=>none
def RL (l:List ((yr:Ty)×(VS->List yr.T->Option (Bool×List (Bool×Exit×VS)))))(j:Nat)(S:VS)(yr:Ty)(rows:List yr.T):Option (Bool×List (Bool×Exit×VS)):=
 match l[j]? with
 |some ⟨y,F⟩=>if h:yr=y then F S (h▸rows) else none
 |none=>none
section
variable {P:Program}{X:Nat->Nat->Prop}{w:World}{σ:Pl}
theorem Qma {α:Type}: ∀ {l:List (Nat×α)} {f:Nat} {x:α},l.lookup f=some x->(f,x)∈l
 |(k,y)::l,f,x,h=>by
  rw [List.lookup_cons] at h
  split at h
  ·rename_i hk
   have hk:f=k:=by simpa using hk
   simp only [Bb] at h
   rw [hk,h]
   exact BT
  ·exact BF _ (Qma h)
theorem J8 {TY:Nat->Option Ty}{own:List Nat}{n:Nat}{keep:List Nat}{L:Nat->VS->Option (Bool×List (Bool×Exit×VS))}{R:Nat->VS->(yr:Ty)->List yr.T->Option (Bool×List (Bool×Exit×VS))}(l:List (Nat×Ent))(h: ∀ p∈l,JE P p.1/\Qu P p.1 (Qq p.2))(li:List (Nat×Itr):=[])(hi: ∀ p∈li,Iters P p.1 p.2:=by intro p hp;cases hp):GOk P ⟨TY,own,n,EL l,keep,L,IL li,R⟩:=by
 refine ⟨?_,fun f caps objs x hx=> ?_⟩
 rotate_left
 ·simp only [IL] at hx ⊢
  cases hl:li.lookup f with
  |none=>rw [hl] at hx;cases hx
  |some F=>exact hi _ (Qma hl)
 intro f args objs x hx
 simp only at hx ⊢
 obtain ⟨F,hF,_⟩:=VZ hx
 refine ⟨(h _ hF).1, ?_⟩
 intro args' objs' r os hr
 simp only at hr
 split at hr
 ·rename_i r' os' hq
  simp only [Bb,Bj] at hr
  obtain ⟨rfl,rfl⟩:=hr
  obtain ⟨F2,h1,h2⟩:=VZ hq
  exact (h _ h1).2 args' objs' r' os' (by simp only [Qq,h2])
 ·cases hr
theorem Wv: ∀ {a:Ty} {args:List V} {x:a.T} {vs:List Value},a.args args=some x->Cs X w σ (V.ds args) vs->Cs X w σ (V.ds (a.canon x)) vs
 |.pr f r,v::args,x,vs,h,hc=>by
  simp only [Ty.args] at h
  split at h
  ·rename_i x1 z1 h1 h2
   simp only [Bb] at h
   subst h
   simp only [V.ds,Cs] at hc
   obtain ⟨u,us,rfl,q1,q2⟩:=hc
   simp only [Ty.canon,V.ds]
   exact Cs.cons (C.up _ _ (V.as_spec h1 q1)) (Wv h2 q2)
  ·cases h
 |.nil,[],x,vs,h,hc=>hc
 |.pr f r,[],_,_,h,_=>by cases h
 |.nil,_::_,_,_,h,_=>by cases h
 |.int _,_,_,_,h,_=>by simp only [Ty.args] at h;cases h
 |.bool,_,_,_,h,_=>by simp only [Ty.args] at h;cases h
 |.str,_,_,_,h,_=>by simp only [Ty.args] at h;cases h
 |.sl _,_,_,_,h,_=>by simp only [Ty.args] at h;cases h
 |.rv,_,_,_,h,_=>by simp only [Ty.args] at h;cases h
 |.rb,_,_,_,h,_=>by simp only [Ty.args] at h;cases h
theorem Qr {f:FuncId}{R:Fun}{a:Ty}{ok:a.T->Bool}{F:a.T->V}(hM:Qu P f R)(h: ∀ x,ok x=true->R (a.canon x) []=some (F x,[])):Qu P f (Qq (Ql a ok F)):=by
 intro args objs r os hF X w σ vs hfin hl hc
 unfold Qq Ql at hF
 cases objs with
 |cons o os'=>simp at hF
 |nil=>
  simp only at hF
  cases ha:a.args args with
  |none=>rw [ha] at hF;cases hF
  |some x=>
   rw [ha] at hF
   simp only at hF
   split at hF
   ·rename_i r' os' hq
    simp only [Bb,Bj] at hF hq
    obtain ⟨rfl,rfl⟩:=hF
    obtain ⟨h1,rfl,rfl⟩:=hq
    exact hM _ [] _ _ (h x h1) X w σ vs hfin hl (Wv ha hc)
   ·cases hF
theorem G9 {f:FuncId}{a:Ty}{ok:a.T->Bool}{F:a.T->V}(h: ∀ x,ok x=false):Qu P f (Qq (Ql a ok F)):=by
 intro args objs r os hF
 unfold Qq Ql at hF
 cases objs with
 |cons o os'=>simp at hF
 |nil=>
  simp only at hF
  cases ha:a.args args with
  |none=>rw [ha] at hF;cases hF
  |some x=>
   rw [ha] at hF
   simp only [h] at hF
   cases hF
theorem V0 {f:FuncId}{a:Ty}{okN:Nat->a.T->Bool}{ok:a.T->Bool}{F:a.T->V}(hN: ∀ N,Qu P f (Qq (Ql a (okN N) F)))(h: ∀ x,ok x=true→ ∃ N,okN N x=true):Qu P f (Qq (Ql a ok F)):=by
 intro args objs r os hF
 have hF0:=hF
 unfold Qq Ql at hF
 cases objs with
 |cons o os'=>simp at hF
 |nil=>
  simp only at hF
  cases ha:a.args args with
  |none=>rw [ha] at hF;cases hF
  |some x=>
   rw [ha] at hF
   cases hx:ok x with
   |false=>simp only [hx] at hF;cases hF
   |true=>
    obtain ⟨N,hok⟩:=h x hx
    refine hN N args [] r os ?_
    simp only [hx] at hF
    unfold Qq Ql
    simp only [ha,hok]
    exact hF
theorem QeR {f:FuncId}{R:Fun}{a:Ty}{ok:a.T->Bool}{F:a.T->V}{O:a.T->List VO}(hM:Qu P f R)(h: ∀ x,ok x=true->R (a.canon x) []=some (F x,O x)):Qu P f (Qq (Wu a ok F O)):=by
 intro args objs r os hF X w σ vs hfin hl hc
 unfold Qq Wu at hF
 cases objs with
 |cons o os'=>simp at hF
 |nil=>
  simp only at hF
  cases ha:a.args args with
  |none=>rw [ha] at hF;cases hF
  |some x=>
   rw [ha] at hF
   simp only at hF
   split at hF
   ·rename_i r' os' hq
    simp only [Bb,Bj] at hF hq
    obtain ⟨rfl,rfl⟩:=hF
    obtain ⟨h1,rfl,rfl⟩:=hq
    exact hM _ [] _ _ (h x h1) X w σ vs hfin hl (Wv ha hc)
   ·cases hF
theorem Qw7 {f:FuncId}{R:Fun}{b a:Ty}{ok:a.T->Bool}{H:a.T->b.T}(hM:Qu P f R)(hb:b.row=true)(h: ∀ x,ok x=true→ ∃ c,R (a.canon x) []=some (.ptr 50000 0,[.box c])/\c.as b=some (H x)):Qu P f (Qq (QeQ b a ok H)):=by
 intro args objs r os hF X w σ vs hfin hl hc
 unfold Qq QeQ at hF
 cases objs with
 |cons o os'=>simp at hF
 |nil=>
  simp only at hF
  cases ha:a.args args with
  |none=>rw [ha] at hF;cases hF
  |some x=>
   rw [ha] at hF
   simp only at hF
   split at hF
   ·rename_i r' os' hq
    simp only [Bb,Bj] at hF hq
    obtain ⟨rfl,rfl⟩:=hF
    obtain ⟨h1,rfl,rfl⟩:=hq
    obtain ⟨c,h2,h3⟩:=h x h1
    refine (hM _ [] _ _ h2 X w σ vs hfin hl (Wv ha hc)).mono ?_
    rintro e w' ⟨u,X',σ',e1,e2,e3⟩
    refine ⟨u,X',σ',e1,e2,e3.fin,fun j o hj=> ?_,fun i j bb hij hi hj=>by simp at hi hj;omega,e3.le,e3.same,fun j bb hj hl hb=> .inl ((e3.new j bb hj hl hb).resolve_right fun ⟨i,hi,_⟩=>absurd hi (Nat.not_lt_zero _)),e3.fr,e3.sub,fun b q hb _ hx=>e3.old b q hb (fun i hi=>absurd hi (Nat.not_lt_zero _)) hx⟩
    cases j with
    |zero=>
     simp only [BW,Bb] at hj
     subst hj
     exact ⟨Qc9 hb h3 (e3.at_ 0 _ rfl).1,fun _=>by simp⟩
    |succ j=>simp at hj
   ·cases hF
theorem YZ {f:FuncId}{R:Fun}{b a:Ty}{ok:b.T->a.T->Bool}{F:b.T->a.T->V}{H:b.T->a.T->b.T}(hM:Qu P f R)(hb:b.row=true)
  (h: ∀ d x,ok d x=true->R (.ptr 50000 0::a.canon x) [.box (.t b d)]=some (F d x,[.box (.t b (H d x))])):Qu P f (Qq (Yg b a ok F H)):=by
 intro args objs r os hF X w σ vs hfin hl hc
 unfold Qq Yg at hF
 split at hF
 ·rename_i r0 os0 hq
  split at hq
  ·rename_i args' c
   split at hq
   ·rename_i d x hd hx
    simp only [Bb,Bj] at hF hq
    obtain ⟨h1,h2⟩:=hF
    obtain ⟨h3,h4,h5⟩:=hq
    subst h1 h2 h4 h5
    refine hM _ [.box (.t b d)] _ _ (h d x h3) X w σ vs hfin ⟨fun j o hj=> ?_,fun i j bb hij hi hj=>hl.apart i j bb hij hi hj⟩ ?_
    ·cases j with
     |zero=>
      simp only [BW,Bb] at hj
      subst hj
      exact ⟨Qc9 hb hd (hl.at_ 0 _ rfl).1,by simp⟩
     |succ j=>simp at hj
    ·simp only [V.ds,Cs] at hc ⊢
     obtain ⟨u,us,rfl,q1,q2⟩:=hc
     exact ⟨u,us,rfl,q1,Wv hx q2⟩
   ·cases hq
  ·cases hq
 ·cases hF
end
inductive SV where
 |ty (t:Ty)
 |ptr (k o:Nat)
 |ms (k:Nat)
 |cf (f:Nat)
 |fn (f:Nat) (ks:List (Nat×Nat))
 |nl
 |ni
 |bf (f:Nat) (t:Ty)
inductive SO where
 |box (t:Ty)
 |bag (l:List SV)
 |arr (e:Nat) (t:Ty)
 |no
 |bc (f:Nat)
 |bm (k:Nat)
@[reducible] def SV.T:SV->Type
 |.ty t=>t.T
 |.ptr _ _=>Unit
 |.ms _=>Unit
 |.cf _=>Unit
 |.fn _ _=>Unit
 |.nl=>Unit
 |.ni=>Unit
 |.bf _ t=>t.T
@[reducible] def SVt:List SV->Type
 | []=>Unit
 |s::r=>s.T×SVt r
@[reducible] def SO.T:SO->Type
 |.box t=>t.T
 |.bag l=>SVt l
 |.arr _ t=>List t.T
 |.no=>Unit
 |.bc _=>Unit
 |.bm _=>Unit
def SV.mk:(s:SV)->s.T->V
 |.ty t,x=> .t t x
 |.ptr k o,_=> .ptr k o
 |.ms k,_=> .ms k
 |.cf f,_=> .c (.func (.func f) ⟨[]⟩ ⟨[]⟩)
 |.fn f ks,_=> .fn f (ks.map fun p=> .ptr p.1 p.2)
 |.nl,_=> .c (.slice none 0 0)
 |.ni,_=> .c .nilIface
 |.bf f t,x=> .fn (f+1000000) [.t t x]
def QeS:Value->Bool
 |.nilIface=>true
 |_=>false
theorem Qw8 {x:Value}(h:QeS x=true):x= .nilIface:=by
 unfold QeS at h
 split at h
 ·rfl
 ·cases h
def QeT:Value->Bool
 |.slice none 0 0=>true
 |_=>false
theorem Qw9 {x:Value}(h:QeT x=true):x= .slice none 0 0:=by
 unfold QeT at h
 split at h
 ·rfl
 ·cases h
def V1:Value->Option Nat
 |.func (.func g) ⟨[]⟩ ⟨[]⟩=>some g
 |_=>none
theorem Qmb {x:Value}{f:Nat}(h:V1 x=some f):x= .func (.func f) ⟨[]⟩ ⟨[]⟩:=by
 unfold V1 at h
 split at h
 ·simp only [Bb] at h
  rw [h]
 ·cases h
def Fa:List V->Option (List (Nat×Nat))
 | []=>some []
 |.ptr k o::r=>match Fa r with
  |some l=>some ((k,o)::l)
  |none=>none
 |_=>none
theorem Qmc: ∀ {vs:List V} {ks:List (Nat×Nat)},Fa vs=some ks->vs=ks.map fun p=> .ptr p.1 p.2
 | [],ks,h=>by
  simp only [Fa,Bb] at h
  subst h
  rfl
 |v::r,ks,h=>by
  cases v with
  |ptr k o=>
   simp only [Fa] at h
   split at h
   ·rename_i l hl
    simp only [Bb] at h
    subst h
    rw [Qmc hl]
    rfl
   ·cases h
  |_=>simp only [Fa] at h;cases h
def Us:(l:List SV)->SVt l->List V
 | [],_=>[]
 |s::r,x=>s.mk x.1::Us r x.2
def SO.mk:(s:SO)->s.T->VO
 |.box t,x=> .box (.t t x)
 |.bag l,x=> .box (.ag (Us l x))
 |.arr e t,l=> .arr e t l
 |.no,_=> .no
 |.bc f,_=> .box (.c (.func (.func f) ⟨[]⟩ ⟨[]⟩))
 |.bm k,_=> .box (.ms k)
def QeU (t:Ty):List V->Option t.T
 | [.t t' x]=>if h:t'=t then some (h▸x) else none
 |_=>none
theorem Qxa {t:Ty}{vs:List V}{x:t.T}(h:QeU t vs=some x):vs=[.t t x]:=by
 unfold QeU at h
 split at h
 ·split at h
  ·rename_i ht
   subst ht
   simp only [Bb] at h
   rw [h]
  ·cases h
 ·cases h
def SV.rd:(s:SV)->V->Option s.T
 |.ty t,.t t' x=>if h:t'=t then some (h▸x) else none
 |.ptr k o,.ptr k' o'=>if k'=k/\o'=o then some () else none
 |.ms k,.ms k'=>if k'=k then some () else none
 |.cf f,.c x=>if V1 x=some f then some () else none
 |.fn f ks,.fn g vs=>if g=f/\Fa vs=some ks then some () else none
 |.nl,.c x=>if QeT x=true then some () else none
 |.ni,.c x=>if QeS x=true then some () else none
 |.bf f t,.fn g vs=>if g=f+1000000 then QeU t vs else none
 |_,_=>none
def Ga:(l:List SV)->List V->Option (SVt l)
 | [],[]=>some ()
 |s::r,v::vs=>match s.rd v,Ga r vs with
  |some x,some y=>some (x,y)
  |_,_=>none
 |_,_=>none
def SO.rd:(s:SO)->VO->Option s.T
 |.box t,.box v=>(SV.ty t).rd v
 |.bag l,.box (.ag vs)=>Ga l vs
 |.arr e t,.arr e' t' l=>if h:t'=t then (if e'=e then some (h▸l) else none) else none
 |.no,.no=>some ()
 |.bc f,.box (.c x)=>if V1 x=some f then some () else none
 |.bm k,.box (.ms j)=>if j=k then some () else none
 |_,_=>none
theorem SV.rd_mk {s:SV}{v:V}{x:s.T}(h:s.rd v=some x):v=s.mk x:=by
 cases s with
 |ty t=>
  cases v with
  |t t' y=>
   simp only [SV.rd] at h
   split at h
   ·rename_i ht
    subst ht
    simp only [Bb] at h
    subst h
    rfl
   ·cases h
  |_=>simp only [SV.rd] at h;cases h
 |ptr k o=>
  cases v with
  |ptr k' o'=>
   simp only [SV.rd] at h
   split at h
   ·rename_i hk
    rw [hk.1,hk.2]
    rfl
   ·cases h
  |_=>simp only [SV.rd] at h;cases h
 |ms k=>
  cases v with
  |ms k'=>
   simp only [SV.rd] at h
   split at h
   ·rename_i hk
    rw [hk]
    rfl
   ·cases h
  |_=>simp only [SV.rd] at h;cases h
 |cf f=>
  cases v with
  |c x=>
   simp only [SV.rd] at h
   split at h
   ·rename_i hk
    rw [Qmb hk]
    rfl
   ·cases h
  |_=>simp only [SV.rd] at h;cases h
 |fn f ks=>
  cases v with
  |fn g vs=>
   simp only [SV.rd] at h
   split at h
   ·rename_i hk
    rw [hk.1,Qmc hk.2]
    rfl
   ·cases h
  |_=>simp only [SV.rd] at h;cases h
 |nl=>
  cases v with
  |c x=>
   simp only [SV.rd] at h
   split at h
   ·rename_i hk
    rw [Qw9 hk]
    rfl
   ·cases h
  |_=>simp only [SV.rd] at h;cases h
 |ni=>
  cases v with
  |c x=>
   simp only [SV.rd] at h
   split at h
   ·rename_i hk
    rw [Qw8 hk]
    rfl
   ·cases h
  |_=>simp only [SV.rd] at h;cases h
 |bf f t=>
  cases v with
  |fn g vs=>
   simp only [SV.rd] at h
   split at h
   ·rename_i hk
    rw [hk,Qxa h]
    rfl
   ·cases h
  |_=>simp only [SV.rd] at h;cases h
theorem Fb: ∀ {l:List SV} {vs:List V} {x:SVt l},Ga l vs=some x->vs=Us l x
 | [],[],_,_=>rfl
 | [],_::_,_,h=>by cases h
 |_::_,[],_,h=>by cases h
 |s::r,v::vs,x,h=>by
  simp only [Ga] at h
  split at h
  ·rename_i x1 y1 h1 h2
   simp only [Bb] at h
   subst h
   rw [SV.rd_mk h1,Fb h2]
   rfl
  ·cases h
theorem SO.rd_mk {s:SO}{v:VO}{x:s.T}(h:s.rd v=some x):v=s.mk x:=by
 cases s with
 |box t=>
  cases v with
  |box v=>
   simp only [SO.rd] at h
   have:=SV.rd_mk h
   rw [this]
   rfl
  |_=>simp only [SO.rd] at h;cases h
 |bag l=>
  cases v with
  |box v=>
   cases v with
   |ag vs=>
    simp only [SO.rd] at h
    rw [Fb h]
    rfl
   |_=>simp only [SO.rd] at h;cases h
  |_=>simp only [SO.rd] at h;cases h
 |arr e t=>
  cases v with
  |arr e' t' l=>
   simp only [SO.rd] at h
   split at h
   ·rename_i ht
    subst ht
    split at h
    ·rename_i he
     simp only [Bb] at h
     subst h
     rw [he]
     rfl
    ·cases h
   ·cases h
  |_=>simp only [SO.rd] at h;cases h
 |no=>
  cases v with
  |no=>rfl
  |_=>simp only [SO.rd] at h;cases h
 |bc f=>
  cases v with
  |box c=>
   cases c with
   |c x=>
    simp only [SO.rd] at h
    split at h
    ·rename_i hk
     rw [Qmb hk]
     rfl
    ·cases h
   |_=>simp only [SO.rd] at h;cases h
  |_=>simp only [SO.rd] at h;cases h
 |bm k=>
  cases v with
  |box c=>
   cases c with
   |ms j=>
    simp only [SO.rd] at h
    split at h
    ·rename_i hk
     rw [hk]
     rfl
    ·cases h
   |_=>simp only [SO.rd] at h;cases h
  |_=>simp only [SO.rd] at h;cases h
@[reducible] def SVs:List (Nat×SV)->Type
 | []=>Unit
 |(_,s)::r=>s.T×SVs r
@[reducible] def SOs:List (Nat×SO)->Type
 | []=>Unit
 |(_,s)::r=>s.T×SOs r
def V2:(l:List (Nat×SV))->SVs l->List (Nat×V)
 | [],_=>[]
 |(i,s)::r,x=>(i,s.mk x.1)::V2 r x.2
def V3:(l:List (Nat×SO))->SOs l->List (Nat×VO)
 | [],_=>[]
 |(i,s)::r,x=>(i,s.mk x.1)::V3 r x.2
def E8 (f:Nat->V):(l:List (Nat×SV))->Option (SVs l)
 | []=>some ()
 |(i,s)::r=>match s.rd (f i),E8 f r with
  |some x,some y=>some (x,y)
  |_,_=>none
def E9 (f:Nat->VO):(l:List (Nat×SO))->Option (SOs l)
 | []=>some ()
 |(i,s)::r=>match s.rd (f i),E9 f r with
  |some x,some y=>some (x,y)
  |_,_=>none
structure Sh where
 vs:List (Nat×SV)
 os:List (Nat×SO)
def SV.t? : SV->Option Ty
 |.ty t=>some t
 |_=>none
def SO.t? : SO->Option Ty
 |.box t=>some t
 |_=>none
def Sh.f (s:Sh):Fg:=⟨s.vs.map fun p=>(p.1,p.2.t?),s.os.map fun p=>(p.1,p.2.t?)⟩
def Sh.st (s:Sh)(x:SVs s.vs)(y:SOs s.os):VS:=⟨ZY (V2 s.vs x),Zs (V3 s.os y),s.os.map Prod.fst⟩
theorem nrm_mk {s:SV}{x:s.T}:Jp s.t? (s.mk x)=s.mk x:=by
 cases s with
 |ty t=>simp only [SV.t?, SV.mk,Jp,V.as,dite_true]
 |_=>rfl
theorem Qxb {s:SO}{x:s.T}:J2 s.t? (s.mk x)=s.mk x:=by
 cases s with
 |box t=>
  simp only [SO.t?, SO.mk,J2,Jp,V.as,dite_true]
  split<;>rfl
 |_=>rfl
theorem QeV {f:Nat->V}: ∀ {l:List (Nat×SV)} {x:SVs l},E8 f l=some x->(l.map fun p=>(p.1,p.2.t?)).map (fun p=>(p.1,Jp p.2 (f p.1)))=V2 l x
 | [],_,_=>rfl
 |(i,s)::r,x,h=>by
  simp only [E8] at h
  split at h
  ·rename_i x1 y1 h1 h2
   simp only [Bb] at h
   subst h
   simp only [Bx,V2,SV.rd_mk h1,nrm_mk,QeV h2]
  ·cases h
theorem QeW {f:Nat->VO}: ∀ {l:List (Nat×SO)} {x:SOs l},E9 f l=some x->(l.map fun p=>(p.1,p.2.t?)).map (fun p=>(p.1,J2 p.2 (f p.1)))=V3 l x
 | [],_,_=>rfl
 |(i,s)::r,x,h=>by
  simp only [E9] at h
  split at h
  ·rename_i x1 y1 h1 h2
   simp only [Bb] at h
   subst h
   simp only [Bx,V3,SO.rd_mk h1,Qxb,QeW h2]
  ·cases h
def mkL (s:Sh)(ok:SVs s.vs->SOs s.os->Bool)(Zt:SVs s.vs->SOs s.os->List (Bool×Exit×VS))(S:VS):Option (Bool×List (Bool×Exit×VS)):=
 match E8 S.ts s.vs,E9 S.st s.os with
 |some x,some y=>some (ok x y,Zt x y)
 |_,_=>none
theorem lok_of {g:G}{s:Sh}{f:Fg}{a:TC}{ok:SVs s.vs->SOs s.os->Bool}{Zt:SVs s.vs->SOs s.os->List (Bool×Exit×VS)}(hok:f.ok)(hf:f=s.f)(h: ∀ x y,ok x y=true→ ∀ p,ZK (Zt x y)=some p->Qx (Qz g f a) (s.st x y)=some p):
  ∀ S l p,mkL s ok Zt (fgt f S)=some (true,l)->ZK l=some p->Qx (Qz g f a) S=some p:=by
 intro S l p hL hp
 unfold mkL at hL
 split at hL
 ·rename_i x y hx hy
  simp only [Bb,Bj] at hL
  obtain ⟨h1,rfl⟩:=hL
  rw [QE5 hok]
  have e1:=QeV hx
  have e2:=QeW hy
  have:fgt f S=s.st x y:=by
   rw [←Qi1 hok S]
   have e3:(fgt f S).ts=(fgt f S).ts:=rfl
   generalize fgt f S=T at e1 e2
   subst hf
   unfold fgt Sh.st
   simp only [Sh.f]
   rw [e1,e2]
   simp only [DE]
   rfl
  rw [this]
  exact h x y h1 p hp
 ·cases hL
def mkR {yr:Ty}(s:Sh)(ok:List yr.T->SVs s.vs->SOs s.os->Bool)(Zt:List yr.T->SVs s.vs->SOs s.os->List (Bool×Exit×VS))(S:VS)(rows:List yr.T):Option (Bool×List (Bool×Exit×VS)):=
 match E8 S.ts s.vs,E9 S.st s.os with
 |some x,some y=>some (ok rows x y,Zt rows x y)
 |_,_=>none
theorem Qmd {g:G}{s:Sh}{f:Fg}{yr:Ty}{ps:List Nat}{a b:TC}{ok:List yr.T->SVs s.vs->SOs s.os->Bool}{Zt:List yr.T->SVs s.vs->SOs s.os->List (Bool×Exit×VS)}(hok:f.ok)(hf:f=s.f)
  (h: ∀ rows x y,ok rows x y=true→ ∀ p,ZK (Zt rows x y)=some p->Yx (XD g f yr ps a b) rows (s.st x y)=some p):
  ∀ S rows l p,mkR s ok Zt (fgt f S) rows=some (true,l)->ZK l=some p->Yx (XD g f yr ps a b) rows (fgt f S)=some p:=by
 intro S rows l p hL hp
 unfold mkR at hL
 split at hL
 ·rename_i x y hx hy
  simp only [Bb,Bj] at hL
  obtain ⟨h1,rfl⟩:=hL
  have e1:=QeV hx
  have e2:=QeW hy
  have:fgt f S=s.st x y:=by
   rw [←Qi1 hok S]
   generalize fgt f S=T at e1 e2
   subst hf
   unfold fgt Sh.st
   simp only [Sh.f]
   rw [e1,e2]
   simp only [DE]
   rfl
  rw [this]
  exact h rows x y h1 p hp
 ·cases hL
theorem RL_at {l:List ((yr:Ty)×(VS->List yr.T->Option (Bool×List (Bool×Exit×VS))))}{j:Nat}{y:Ty}{F:VS->List y.T->Option (Bool×List (Bool×Exit×VS))}(h:l[j]? = some ⟨y,F⟩)(S:VS)(rows:List y.T):RL l j S y rows=F S rows:=by
 unfold RL
 rw [h]
 simp only [dite_true]
def Ls (l:List (VS->Option (Bool×List (Bool×Exit×VS))))(j:Nat)(S:VS):Option (Bool×List (Bool×Exit×VS)):=
 match l[j]? with
 |some F=>F S
 |none=>none
def nxt (f:VS->Option (Exit×VS)):Option (Exit×VS)->Option (Exit×VS)
 |some (.normal,S)=>f S
 |x=>x
theorem Qme (b:VS->Option (Exit×VS))(S:VS):Qx b S=nxt (Qx b) (b S):=by
 rw [QE1]
 cases b S with
 |none=>rfl
 |some x=>
  obtain ⟨e,S'⟩:=x
  cases e<;>rfl
theorem Qmf {α:Type}(rd:α->VS->Option (Exit×VS))(z:α)(zs:List α)(S:VS):Yx rd (z::zs) S=nxt (Yx rd zs) (rd z S):=by
 simp only [Yx]
 cases rd z S with
 |none=>rfl
 |some x=>
  obtain ⟨e,S'⟩:=x
  cases e<;>rfl
theorem Gb {f:VS->Option (Exit×VS)}{q:Bool}{a b:Option (Exit×VS)}:nxt f (br q a b)=br q (nxt f a) (nxt f b):=by cases q<;>rfl
theorem Fc {f:VS->Option (Exit×VS)}{S:VS}:nxt f (some (.normal,S))=f S:=rfl
theorem Fd {f:VS->Option (Exit×VS)}{S:VS}:nxt f (some (.ret,S))=some (.ret,S):=rfl
theorem Fe {f:VS->Option (Exit×VS)}{S:VS}{i:Nat}:nxt f (some (.exit i,S))=some (.exit i,S):=rfl
theorem Ff {f:VS->Option (Exit×VS)}:nxt f none=none:=rfl
theorem QF {q q2:Bool}{e e2:Exit}{S S2:VS}{l:List (Bool×Exit×VS)}:ZK ((q,e,S)::(q2,e2,S2)::l)=br q (some (e,S)) (ZK ((q2,e2,S2)::l)):=by cases q<;>rfl
theorem QG {q:Bool}{e:Exit}{S:VS}:ZK [(q,e,S)]=some (e,S):=rfl
theorem Qd {β:Type}{a b:Option β}:br true a b=a:=rfl
theorem Qh {β:Type}{a b:Option β}:br false a b=b:=rfl
abbrev Qj (k:IntKind)(a b:Int):Int:=k.wrap (a+b)
abbrev QT (k:IntKind)(a b:Int):Int:=k.wrap (a-b)
abbrev V4 (k:IntKind)(a b:Int):Int:=k.wrap (a*b)
abbrev Gc (k:IntKind)(a b:Int):Int:=k.wrap (a.tdiv b)
abbrev ZP (a b:Int):Int:=a.tmod b
abbrev icv (k:IntKind)(a:Int):Int:=k.wrap a
abbrev imx (a b:Int):Int:=if b > a then b else a
abbrev imn (a b:Int):Int:=if b<a then b else a
abbrev ieq (a b:Int):Bool:=a==b
abbrev ine (a b:Int):Bool:=a != b
abbrev ilt (a b:Int):Bool:=decide (a<b)
abbrev ile (a b:Int):Bool:=decide (a<=b)
abbrev igt (a b:Int):Bool:=decide (a > b)
abbrev ige (a b:Int):Bool:=decide (a≥b)
abbrev seq (a b:ByteArray):Bool:=a.toList==b.toList
abbrev V5 (a b:Bool):Bool:= !(a==b)
abbrev cNz (b:Int):Bool:=decide (b≠0)
abbrev cIx {α:Type}(l:List α)(j:Int):Bool:=decide (0<=j/\j<(l.length:Nat))
abbrev cSx (z:ByteArray)(j:Int):Bool:=decide (0<=j/\j<(z.size:Nat))
abbrev cWn {α:Type}(l:List α)(a h:Int):Bool:=decide (0<=a/\a<=h/\h<=(l.length:Nat))
abbrev cSl {α:Type}(l:List α)(a h m:Int):Bool:=decide (0<=a/\a<=h/\h<=m/\m<=(l.length:Nat))
abbrev QC {α:Type}(l l2:List α)(bytes:Nat):Bool:=decide ((l.length+l2.length)*(bytes+1)<=140737488355328)
abbrev cLd {α:Type}(l:List α)(i:Nat):Bool:=decide (i<l.length)
abbrev cCat (a b:ByteArray):Bool:=decide (((a.size+b.size:Nat):Int)<=9223372036854775807)
abbrev lgt (y:Ty)(l:List y.T)(j:Nat):y.T:=l.getD j y.zero
abbrev lsl {α:Type}(l:List α)(a h:Int):List α:=(l.drop a.toNat).take (h.toNat-a.toNat)
abbrev Qc {α:Type}(l:List α):Int:=((l.length:Nat):Int)
abbrev Zm (z:ByteArray):Int:=((z.size:Nat):Int)
abbrev sgt (z:ByteArray)(j:Int):Int:=(((z.data.toList.getD j.toNat 0).toNat:Nat):Int)
abbrev Ut (a b:ByteArray):ByteArray:=a++b
abbrev YG (bs:List Ty):Type:=SVt (bs.map SV.ty)
def Ia (b:Ty)(c:V):Option b.T:=if b.row=true then c.as b else (SV.ty b).rd c
def Zn:(bs:List Ty)->List VO->Option (YG bs)
 | [],[]=>some ()
 |b::bs,.box c::os=>match Ia b c,Zn bs os with
  |some x,some y=>some (x,y)
  |_,_=>none
 |_,_=>none
def XN:(bs:List Ty)->YG bs->List VO
 | [],_=>[]
 |b::bs,x=> .box (.t b x.1)::XN bs x.2
def Zw (l:List SV)(bs:List Ty)(ok:SVt l->YG bs->Bool)(F:SVt l->YG bs->V):Ent:=fun args objs=>
 match Ga l args,Zn bs objs with
 |some x,some d=>some (ok x d,F x d,XN bs d)
 |_,_=>none
section
variable {P:Program}{X:Nat->Nat->Prop}{w:World}{σ:Pl}
theorem Qxc {b:Ty}{c:V}{d:b.T}{k:Nat}(h:Ia b c=some d)(hat:OAt X w σ k (.box c)):OAt X w σ k (.box (.t b d)):=by
 unfold Ia at h
 split at h
 ·rename_i hb
  exact Qc9 hb h hat
 ·have:=SV.rd_mk h
  rw [this] at hat
  exact hat
theorem QeX: ∀ {bs:List Ty} {os:List VO} {d:YG bs},Zn bs os=some d->(XN bs d).length=os.length∧ ∀ (j k:Nat) (o:VO),(XN bs d)[j]? = some o->o≠ .no∧ ∃ o',os[j]? = some o'/\(OAt X w σ k o'->OAt X w σ k o)
 | [],[],d,_=>⟨rfl,fun j k o h=>by simp [XN] at h⟩
 | [],_::_,d,h=>by simp [Zn] at h
 |_::_,[],d,h=>by simp [Zn] at h
 |b::bs,o::os,d,h=>by
  cases o with
  |box c=>
   simp only [Zn] at h
   split at h
   ·rename_i x y hx hy
    simp only [Bb] at h
    subst h
    obtain ⟨h1,h2⟩:=QeX hy
    refine ⟨by simp only [XN,Bo,h1],fun j k o hj=> ?_⟩
    cases j with
    |zero=>
     simp only [XN,BW,Bb] at hj
     subst hj
     exact ⟨by simp,_,rfl,Qxc hx⟩
    |succ j=>
     simp only [XN,BU] at hj
     obtain ⟨q1,o',q2,q3⟩:=h2 j k o hj
     exact ⟨q1,o',by simpa using q2,q3⟩
   ·cases h
  |no=>simp [Zn] at h
  |arr e t l=>simp [Zn] at h
theorem Zo {f:FuncId}{R:Fun}{l:List SV}{bs:List Ty}{ok:SVt l->YG bs->Bool}{F:SVt l->YG bs->V}(hM:Qu P f R)(h: ∀ x d,ok x d=true->R (Us l x) (XN bs d)=some (F x d,XN bs d)):Qu P f (Qq (Zw l bs ok F)):=by
 intro args objs r os hF X w σ vs hfin hl hc
 unfold Qq Zw at hF
 split at hF
 ·rename_i r' os' hq
  split at hq
  ·rename_i x d hx hd
   simp only [Bb,Bj] at hF hq
   obtain ⟨rfl,rfl⟩:=hF
   obtain ⟨h1,rfl,rfl⟩:=hq
   have ha:=Fb hx
   subst ha
   have hb:=fun j k o=>(QeX (X:=X) (w:=w) (σ:=σ) hd).2 j k o
   have hlen:=(QeX (X:=X) (w:=w) (σ:=σ) hd).1
   have:=hM _ _ _ _ (h x d h1) X w σ vs hfin ⟨fun j o hj=>by
    obtain ⟨q1,o',q2,q3⟩:=hb j (50000+j) o hj
    exact ⟨q3 (hl.at_ j o' q2).1,q1⟩,fun i j b hij hi hj=>hl.apart i j b hij (by omega) (by omega)⟩ hc
   rw [hlen] at this
   exact this
  ·cases hq
 ·cases hF
end
def oK (d:Nat)(k:RK):RO:=⟨some d,none,k⟩
def oM (d:Nat)(m:MO):RO:=⟨some d,none,.m m⟩
def oP (d:Nat)(a:AO):RO:=⟨some d,none,.m (.pu a)⟩
def oV (d i:Nat):RO:=⟨some d,none,.m (.pu (.mv (.t i)))⟩
def oL (d i:Nat):RO:=⟨some d,none,.m (.ld false 1 (.t i))⟩
def oC (d f:Nat)(l:List AX):RO:=⟨some d,none,.call f l⟩
def oG (d j:Nat)(b:Bool)(k:RK):RO:=⟨some d,some (j,b),k⟩
def oQ (d j:Nat)(b:Bool)(a:AO):RO:=⟨some d,some (j,b),.m (.pu a)⟩
def cI (n:Int):AX:= .c (.v (.int .i64 n))
def cB (b:Bool):AX:= .c (.v (.bool b))
end Go.Proofs.YtmjnnemhoeolgaaGreat.K
/-
 From a contract of calls to what is said in types,and from there to a law's row.
-/
namespace Go.Proofs.YtmjnnemhoeolgaaGreat.K
open Go.RowKit
section
variable {P:Program}{X:Nat->Nat->Prop}{w:World}{σ:Pl}
theorem Qmg {w w':World}(h:Below w.heap.size w w'):Fr [] w w':=⟨h.os,h.tape,h.output,h.size,fun b hb _=>h.block b hb⟩
theorem QeY {w w':World}{m:Nat}(hm:m=0)(hfin: ∀ b q,X b q->b<w.heap.size)(h:Below w.heap.size w w'):Ends X w σ m X w' σ []:=by
 subst hm
 exact ⟨fun b q hq=>BP (hfin b q hq) h.size,fun j o hj=>by simp at hj,fun i j b _ hi=>by simp at hi,by simp,fun _ _=>rfl,fun j b _ hj=>by simp at hj,Qmg h,fun _ _ _ h=>h,fun _ _ _ _ h=>h⟩
theorem Qmh {f:FuncId}{a:Ty}{ok:a.T->Bool}{F:a.T->V}(h: ∀ x,ok x=true→ ∀ X w σ vs,(∀ b q,X b q->b<w.heap.size)->Cs X w σ (V.ds (a.canon x)) vs→
  Calls P f vs.toArray w fun e w'=> ∃ u,e= .returned u/\C X w' σ (F x).d u/\Below w.heap.size w w') (hlt:f<1000000:=by decide):Qu P f (Qq (Ql a ok F)):=by
 intro args objs r os hF X w σ vs hfin hl hc
 unfold Qq Ql at hF
 cases objs with
 |cons o os'=>simp at hF
 |nil=>
  simp only at hF
  cases ha:a.args args with
  |none=>rw [ha] at hF;cases hF
  |some x=>
   rw [ha] at hF
   simp only at hF
   split at hF
   ·rename_i r' os' hq
    simp only [Bb,Bj] at hF hq
    obtain ⟨rfl,rfl⟩:=hF
    obtain ⟨h1,rfl,rfl⟩:=hq
    refine (Qc4 hlt (h x h1 X w σ vs hfin (Wv ha hc))).mono ?_
    rintro e w' ⟨u,e1,e2,e3⟩
    exact ⟨u,X,σ,e1,e2,QeY rfl hfin e3⟩
   ·cases hF
theorem Qxd {f:FuncId}{F:Fun}(hlt:f<1000000)(h:Qu P f F){args:List V}(hF:F args []=some (.t .bool true,[])){W:World}{vs:List Value}(hc:Cs (fun _ _=>False) W (fun _=> .no) (V.ds args) vs):
  Calls P f vs.toArray W fun r w'=>r= .returned (.bool true)/\Below W.heap.size W w':=by
 refine (UJ hlt (h args [] _ _ hF (fun _ _=>False) W (fun _=> .no) vs (fun _ _ h=>h.elim) ⟨fun j o hj=>by simp at hj,fun i j b _ hi=>by simp at hi⟩ hc)).mono ?_
 rintro e w' ⟨u,X',σ',rfl,h1,h2⟩
 simp only [V.d,Ty.d,C] at h1
 rw [h1.1]
 exact ⟨rfl,h2.fr.os,h2.fr.tape,h2.fr.output,h2.fr.size,fun b hb=>h2.fr.keep b hb (by simp [Yv])⟩
theorem Qmi {k:IntKind}: ∀ (zs:List Int),Cs X w σ (zs.flatMap (Ty.int k).cells) (zs.map (Value.int k))
 | []=>by simp [Cs]
 |z::zs=>by
  simp only [BL,Ty.cells,BO,Bx,Cs]
  exact ⟨_,_,rfl,⟨rfl,rfl⟩,Qmi zs⟩
theorem introw_c {k:IntKind}{W:World}{a:Option Addr}{len cap:Nat}{zs:List Int}(hr:IsRow k W a len cap zs):C (fun _ _=>False) W σ (V.t (.sl (.int k)) (zs.take len)).d (.slice a len cap):=by
 rcases hr with ⟨rfl,rfl,rfl,rfl⟩|⟨x,rfl,h1,h2,h3,h4,h5⟩
 ·simp only [V.d,Ty.d,C,List.take_nil,Bw]
  exact ⟨none,0,rfl,BB _,by simp [maxLen],fun _=>rfl,fun h=>absurd h (by omega)⟩
 ·have hlen:(zs.take len).length=len:=by rw [B2];omega
  simp only [V.d,Ty.d,C,hlen]
  refine ⟨some x,cap,rfl,h1,h2,fun h=>by subst h;simp,fun h=> ?_⟩
  obtain ⟨b,off,sp⟩:=x
  have h0:=h4 0 (by omega)
  have hsp:sp=none:=by
   simp only [World.cell?, Addr.add] at h0
   cases sp with
   |none=>rfl
   |some s=>split at h0<;>simp at h0
  subst hsp
  refine ⟨b,off,_,rfl,Qmi _, ?_,fun j _ h=>h,fun j u hu=> ?_,fun u hu=> ?_⟩
  ·rcases B5 b W.heap.size with hlt|hge
   ·exact hlt
   ·simp [World.cell?, Addr.add,Array.getElem?_eq_none hge] at h0
  ·rw [B9] at hu
   have hj:j<len:=by
    rcases B5 j len with hlt|hge
    ·exact hlt
    ·rw [DK (by omega)] at hu;cases hu
   have:=h4 j (by omega)
   rw [List.getElem?_take_of_lt hj,Bh (by omega)] at hu
   rw [Bk,Bh (by omega)] at this
   simp only [B1,Bb] at hu
   subst hu
   have ha:(Addr.mk b off none).add j=⟨b,off+j,none⟩:=by by_cases h0:j=0<;>simp [Addr.add,h0]
   rw [ha] at this
   simpa using this
  ·simp only [B6] at hu
   obtain ⟨z,_,rfl⟩:=hu
   rfl
theorem V6 {a:Ty}{ok:a.T->Bool}{F:a.T->V}{args:List V}{x:a.T}(h:a.args args=some x)(hok:ok x=true):Qq (Ql a ok F) args []=some (F x,[]):=by
 simp [Qq,Ql,h,hok]
theorem Qmj {n:Int}(h:(Lit.int .u16 n).wf=true):0<=n/\n<=65535:=by
 simp [Lit.wf,IntKind.min,IntKind.max,IntKind.bits,IntKind.signed] at h
 omega
end
end Go.Proofs.YtmjnnemhoeolgaaGreat.K
/-
 What is handed to a law,whatever its types of plain data:the datum that is read is a typed value.
-/
namespace Go.Proofs.YtmjnnemhoeolgaaGreat.K
open Go.RowKit Go.ChangeShapes Go.WideShapes Go.Deep
def Ty.wf:(y:Ty)->y.T->Prop
 |.int k,n=>(Lit.int k n).wf=true
 |.bool,_=>True
 |.str,s=>s.size<=maxLen
 |.sl e,l=>List.length l<=maxLen∧ ∀ x∈l,e.wf x
 |.nil,_=>True
 |.pr f r,x=>f.wf x.1/\r.wf x.2
 |.rv,_=>True
 |.rb,_=>True
def Fh (P:Program)(T:TypeId->Ty->Bool):List Field->Nat->Ty->Bool
 | [],_,.nil=>true
 |f::r,o,.pr a b=>decide (f.offset=o)&&decide (P.cellsOf f.type=a.sz)&&T f.type a&&Fh P T r (o+a.sz) b
 |_,_,_=>false
def Ww (P:Program):Nat->TypeId->Ty->Bool
 |0,_,_=>false
 |n+1,t,y=>match P.underlying t with
  |some (.int k)=>decide (y= .int k)
  |some .bool=>decide (y= .bool)
  |some .string=>decide (y= .str)
  |some (.slice e)=>match y with
   |.sl z=>Ww P n e z&&decide (P.cellsOf e=z.sz)&&decide (0<z.sz)
   |_=>false
  |some (.struct fs)=>y.row&&decide (P.cellsOf t=y.sz)&&Fh P (Ww P n) fs.toList 0 y
  |_=>false
abbrev noX:Nat->Nat->Prop:=fun _ _=>False
section
variable {H:Type}{enc:TypeId×Value->H}{P:Program}{w:World}{base:Nat}{sp:Nat->Bool}{held:Bool}{σ:Pl}
theorem QeZ {X:Nat->Nat->Prop}: ∀ (y:Ty) (x:y.T) (vs:List Value),Cs X w σ (y.cells x) vs->vs.length=y.sz∧ ∀ v∈vs,v.oneCell'=true
 |.int k,n,vs,h=>by
  simp only [Ty.cells,Cs] at h
  obtain ⟨u,us,rfl,h1,rfl⟩:=h
  simp only [C] at h1
  exact ⟨rfl,fun v hv=>by simp at hv;subst hv;rw [h1.1];exact h1.2⟩
 |.bool,n,vs,h=>by
  simp only [Ty.cells,Cs] at h
  obtain ⟨u,us,rfl,h1,rfl⟩:=h
  simp only [C] at h1
  exact ⟨rfl,fun v hv=>by simp at hv;subst hv;rw [h1.1];exact h1.2⟩
 |.str,n,vs,h=>by
  simp only [Ty.cells,Cs] at h
  obtain ⟨u,us,rfl,h1,rfl⟩:=h
  simp only [C] at h1
  exact ⟨rfl,fun v hv=>by simp at hv;subst hv;rw [h1.1];exact h1.2⟩
 |.sl e,l,vs,h=>by
  simp only [Ty.cells,Cs] at h
  obtain ⟨u,us,rfl,h1,rfl⟩:=h
  simp only [C] at h1
  obtain ⟨A,c,rfl,_⟩:=h1
  exact ⟨rfl,fun v hv=>by simp at hv;subst hv;rfl⟩
 |.rv,l,vs,h=>by
  simp only [Ty.cells,Cs] at h
  obtain ⟨u,us,rfl,h1,rfl⟩:=h
  simp only [C] at h1
  obtain ⟨A,c,rfl,_⟩:=h1
  exact ⟨rfl,fun v hv=>by simp at hv;subst hv;rfl⟩
 |.rb,l,vs,h=>by
  simp only [Ty.cells,Cs] at h
  obtain ⟨u,us,rfl,h1,rfl⟩:=h
  simp only [C] at h1
  obtain ⟨A,c,rfl,_⟩:=h1
  exact ⟨rfl,fun v hv=>by simp at hv;subst hv;rfl⟩
 |.nil,_,vs,h=>by
  simp only [Ty.cells,Cs] at h
  subst h
  exact ⟨rfl,fun v hv=>by cases hv⟩
 |.pr f r,x,vs,h=>by
  simp only [Ty.cells] at h
  obtain ⟨v1,v2,rfl,h1,h2⟩:=Cs.split h
  obtain ⟨a1,a2⟩:=QeZ f x.1 v1 h1
  obtain ⟨b1,b2⟩:=QeZ r x.2 v2 h2
  refine ⟨by simp only [Bm,Ty.sz,a1,b1],fun v hv=> ?_⟩
  rcases Bu.1 hv with hv|hv
  ·exact a2 v hv
  ·exact b2 v hv
theorem Qmk {X:Nat->Nat->Prop}{z:Ty}: ∀ (l:List z.T) (vs:List Value),Cs X w σ (l.flatMap z.cells) vs→ ∀ v∈vs,v.oneCell'=true
 | [],vs,h=>by
  simp only [List.flatMap_nil,Cs] at h
  subst h
  intro v hv
  cases hv
 |x::l,vs,h=>by
  rw [BL] at h
  obtain ⟨v1,v2,rfl,h1,h2⟩:=Cs.split h
  intro v hv
  rcases Bu.1 hv with hv|hv
  ·exact (QeZ z x v1 h1).2 v hv
  ·exact Qmk l v2 h2 v hv
theorem Qml {T:TypeId->Ty->Bool}{n:Nat}{cs:List Value}(hT: ∀ t y cs x,T t y=true->DataW.trod enc P w base sp held n t cs=some x→ ∃ z:y.T,Cs noX w σ (y.cells z) cs/\y.wf z):
  ∀ (fs:List Field) (o:Nat) (y:Ty),Fh P T fs o y=true->(∀ (i:Nat) (f:Field),fs[i]? = some f→ ∃ x,DataW.trod enc P w base sp held n f.type ((cs.drop f.offset).take (P.cellsOf f.type))=some x)->o+y.sz=cs.length→
   ∃ z:y.T,Cs noX w σ (y.cells z) (cs.drop o)/\y.wf z
 | [],o,y,h,_,hl=>by
  cases y<;>simp only [Fh,BJ] at h
  refine ⟨(), ?_,trivial⟩
  simp only [Ty.sz] at hl
  rw [List.drop_eq_nil_of_le (by omega)]
  simp only [Ty.cells,Cs]
 |f::r,o,y,h,hf,hl=>by
  cases y with
  |pr a b=>
   simp only [Fh,Bc,Ba] at h
   obtain ⟨⟨⟨h1,h2⟩,h3⟩,h4⟩:=h
   obtain ⟨x,hx⟩:=hf 0 f rfl
   rw [h1,h2] at hx
   obtain ⟨z1,c1,w1⟩:=hT _ _ _ _ h3 hx
   simp only [Ty.sz] at hl
   obtain ⟨z2,c2,w2⟩:=Qml hT r (o+a.sz) b h4 (fun i f' hi=>hf (i+1) f' (by simpa using hi)) (by omega)
   refine ⟨(z1,z2), ?_,w1,w2⟩
   have:=c1.app c2
   rw [←List.drop_drop,List.take_append_drop] at this
   exact this
  |_=>simp only [Fh,BJ] at h
theorem Qmm {z:Ty}{a:Addr}: ∀ (len:Nat),(∀ i,i<len→ ∃ cs',w.cells? base (a.add (i*z.sz)) z.sz=some cs'∧ ∃ z1:z.T,Cs noX w QU (z.cells z1) cs'/\z.wf z1)→
  ∃ (l:List z.T) (vs:List Value),l.length=len/\Cs noX w QU (l.flatMap z.cells) vs/\vs.length=len*z.sz/\(∀ j,j<len*z.sz->w.cell? (a.add j)=vs[j]?)∧ ∀ x∈l,z.wf x
 |0,_=>⟨[],[],rfl,by simp [Cs],by simp,fun j hj=>by omega,fun x hx=>by cases hx⟩
 |k+1,h=>by
  obtain ⟨l,vs,h1,h2,h3,h4,h5⟩:=Qmm k fun i hi=>h i (by omega)
  obtain ⟨cs',hc,z1,c1,w1⟩:=h k (by omega)
  obtain ⟨_,hl,hat⟩:=World.cells?_some hc
  have e:(k+1)*z.sz=k*z.sz+z.sz:=Nat.succ_mul k z.sz
  refine ⟨l++[z1],vs++cs',by simp [h1], ?_,by rw [Bm,h3,hl,e],fun j hj=> ?_,fun x hx=> ?_⟩
  ·rw [DB]
   exact h2.app (by simpa using c1)
  ·by_cases hj2:j<k*z.sz
   ·rw [Dv (by omega)]
    exact h4 j hj2
   ·obtain ⟨i,rfl⟩: ∃ i,j=k*z.sz+i:=⟨j-k*z.sz,by omega⟩
    rw [List.getElem?_append_right (by omega),h3,Nat.add_sub_cancel_left, ← hat i (by omega),Go.Deep.add_add]
  ·rcases Bu.1 hx with hx|hx
   ·exact h5 x hx
   ·simp at hx
    subst hx
    exact w1
theorem Qe0: ∀ (n:Nat) (t:TypeId) (y:Ty) (QZ:Nat) (cs:List Value) (x:DataW H×List MemPlace) (σ:Pl),Ww P n t y=true->DataW.trod enc P w base sp held QZ t cs=some x→
  ∃ z:y.T,Cs noX w σ (y.cells z) cs/\y.wf z
 |0,t,y,_,_,_,_,h,_=>by simp [Ww] at h
 |n+1,t,y,QZ,cs,x,σ,h,hx=>by
  simp only [Ww] at h
  cases hu:P.underlying t with
  |none=>rw [hu] at h;cases h
  |some d=>
   rw [hu] at h
   cases d<;>simp only [BJ] at h
   case int k=>
    simp only [Ba] at h
    subst h
    obtain ⟨m,rfl,_,hw⟩:=DataW.trod_int hu hx
    exact ⟨m,by simp only [Ty.cells];exact Cs.mk1 (show _/\_ from ⟨rfl,rfl⟩),hw⟩
   case bool=>
    simp only [Ba] at h
    subst h
    obtain ⟨m,rfl,_⟩:=DataW.trod_bool hu hx
    exact ⟨m,by simp only [Ty.cells];exact Cs.mk1 (show _/\_ from ⟨rfl,rfl⟩),trivial⟩
   case string=>
    simp only [Ba] at h
    subst h
    obtain ⟨m,rfl,_,hw⟩:=DataW.trod_string hu hx
    exact ⟨m,by simp only [Ty.cells];exact Cs.mk1 (show _/\_ from ⟨rfl,rfl⟩),hw⟩
   case slice e=>
    cases y<;>simp only [BJ] at h
    case sl z=>
     simp only [Bc,Ba] at h
     obtain ⟨⟨h1,h2⟩,h3⟩:=h
     rcases open_slice hu hx with ⟨rfl,_⟩|⟨a,len,cap,m,f2,D,Pl,rfl,_,hl,hm,hmm,_,hi⟩
     ·refine ⟨[], ?_,by simp [maxLen],fun x hx=>by cases hx⟩
      simp only [Ty.cells]
      refine Cs.mk1 ?_
      simp only [C,Bw]
      exact ⟨none,0,rfl,BB _,by simp [maxLen],fun _=>rfl,fun h=>absurd h (by omega)⟩
     ·have hle:len<=m:=by rw [hmm];split<;>omega
      obtain ⟨l,vs,q1,q2,q3,q4,q5⟩:=Qmm (w:=w) (base:=base) (z:=z) (a:=a) len fun i hil=>by
       obtain ⟨cs',g1,g2⟩:=hi i (by omega)
       rw [h2] at g1
       exact ⟨cs',g1,Qe0 n e z f2 cs' _ QU h1 g2⟩
      refine ⟨l, ?_,⟨by omega,q5⟩⟩
      simp only [Ty.cells]
      refine Cs.mk1 ?_
      simp only [C]
      refine ⟨some a,cap,by rw [q1],by omega,hm,fun h0=>by have:l=[]:=Bv h0;subst this;rfl,fun hp=> ?_⟩
      rw [q1] at hp
      obtain ⟨v0,hv0⟩: ∃ v,vs[0]? = some v:=by
       have:0<vs.length:=by rw [q3];exact Nat.mul_pos hp h3
       exact ⟨_,Bh this⟩
      have h0:=q4 0 (Nat.mul_pos hp h3)
      rw [hv0] at h0
      obtain ⟨b,off,spot⟩:=a
      have hsp:spot=none:=by
       simp only [World.cell?, Addr.add] at h0
       cases spot with
       |none=>rfl
       |some s=>split at h0<;>simp at h0
      subst hsp
      refine ⟨b,off,vs,rfl,q2, ?_,fun j _ h=>h,fun j u hu'=> ?_,fun u hu'=> ?_⟩
      ·rcases B5 b w.heap.size with hlt|hge
       ·exact hlt
       ·simp [World.cell?, Addr.add,Array.getElem?_eq_none hge] at h0
      ·have hj:j<len*z.sz:=by rw [←q3];exact (By.1 hu').1
       have:=q4 j hj
       have ha:(Addr.mk b off none).add j=⟨b,off+j,none⟩:=by by_cases h0:j=0<;>simp [Addr.add,h0]
       rw [ha,hu'] at this
       exact this
      ·exact (Qmk l vs q2) u hu'
   case struct fs=>
    simp only [Bc,Ba] at h
    obtain ⟨⟨_,h2⟩,h3⟩:=h
    obtain ⟨xs,m,_,_,hlen,hxl,hf⟩:=DataW.trod_struct hu hx
    have:=Qml (n:=m) (cs:=cs) (σ:=σ) (fun t y cs x=>Qe0 n t y m cs x σ) fs.toList 0 y h3 (fun i f hi=>by
     have hi':fs[i]? = some f:=by simpa using hi
     have hlt:=(BX.1 hi').1
     exact ⟨xs[i]'(by omega),(hf i f hi').trans (Bh _)⟩) (by omega)
    simpa using this
theorem Qmn {n:Nat}{t:TypeId}{y:Ty}{v:Value}{r:Reach}{b0:Nat}{d:DataW H}{ps:List MemPlace}(h:Ww P (n+1) t y=true)(hval:Value.okWide P w r b0 t v)(hd:DataW.Trod enc P w base sp held t v d ps):
  ∃ z:y.T,C noX w σ (V.t y z).d v/\y.wf z:=by
 have h':=h
 obtain ⟨QZ,hf⟩:=hd
 obtain ⟨z,hz,hw⟩:=Qe0 (n+1) t y QZ _ _ σ h hf
 refine ⟨z, ?_,hw⟩
 simp only [Ww] at h
 simp only [V.d]
 cases hu:P.underlying t with
 |none=>rw [hu] at h;cases h
 |some dsc=>
  rw [hu] at h
  cases dsc<;>simp only [BJ] at h
  case int k=>
   simp only [Ba] at h
   subst h
   obtain ⟨m,rfl,_⟩:=open_int hu hval ⟨QZ,hf⟩
   simp only [Ty.cells,Value.cells] at hz
   obtain ⟨u,e,hc⟩:=hz.one
   simp at e
   subst e
   exact hc
  case bool=>
   simp only [Ba] at h
   subst h
   obtain ⟨m,rfl,_⟩:=open_bool hu hval ⟨QZ,hf⟩
   simp only [Ty.cells,Value.cells] at hz
   obtain ⟨u,e,hc⟩:=hz.one
   simp at e
   subst e
   exact hc
  case string=>
   simp only [Ba] at h
   subst h
   obtain ⟨m,rfl,_⟩:=Go.ChangeMaps.open_string hu hval ⟨QZ,hf⟩
   simp only [Ty.cells,Value.cells] at hz
   obtain ⟨u,e,hc⟩:=hz.one
   simp at e
   subst e
   exact hc
  case slice e=>
   cases y<;>simp only [BJ] at h
   case sl z'=>
    obtain ⟨a,len,cap,rfl⟩:=okWide_slice hu hval
    simp only [Ty.cells,Value.cells] at hz
    obtain ⟨u,e,hc⟩:=hz.one
    simp at e
    subst e
    exact hc
  case struct fs=>
   simp only [Bc] at h
   obtain ⟨cs,rfl,_⟩:=okWide_struct hu hval
   rw [y.d_row z h.1.1]
   simp only [C]
   exact ⟨cs.toList,by simp,by simpa [Value.cells] using hz⟩
end
end Go.Proofs.YtmjnnemhoeolgaaGreat.K
/-
 Operations that are taken like calls:what they make.
-/
namespace Go.Proofs.YtmjnnemhoeolgaaGreat.K
open Go.RowKit
def tyR (y:Ty):Nat->Ty
 |0=> .nil
 |n+1=> .pr y (tyR y n)
def Fi (y:Ty):(n:Nat)->(tyR y n).T->Nat->y.T
 |0,_,_=>y.zero
 |n+1,x,0=>(show y.T×(tyR y n).T from x).1
 |n+1,x,j+1=>Fi y n (show y.T×(tyR y n).T from x).2 j
theorem Qxe (y:Ty)(n:Nat):(tyR y n).row=true:=by cases n<;>rfl
theorem Qmo (y:Ty): ∀ (n:Nat) (x:(tyR y n).T) (j:Nat),j<n->(((tyR y n).cells x).drop (j*y.sz)).take y.sz=y.cells (Fi y n x j)/\j*y.sz+y.sz<=((tyR y n).cells x).length
 |0,_,j,h=>by omega
 |n+1,x,0,_=>by
  have e:(tyR y (n+1)).cells x=y.cells (show y.T×(tyR y n).T from x).1++(tyR y n).cells (show y.T×(tyR y n).T from x).2:=rfl
  have hl:=y.cells_len (show y.T×(tyR y n).T from x).1
  rw [e,Nat.zero_mul,BG,List.take_left' hl]
  exact ⟨rfl,by rw [Bm];omega⟩
 |n+1,x,j+1,h=>by
  have e:(tyR y (n+1)).cells x=y.cells (show y.T×(tyR y n).T from x).1++(tyR y n).cells (show y.T×(tyR y n).T from x).2:=rfl
  have hl:=y.cells_len (show y.T×(tyR y n).T from x).1
  obtain ⟨h1,h2⟩:=Qmo y n (show y.T×(tyR y n).T from x).2 j (by omega)
  have e2:(j+1)*y.sz=y.sz+j*y.sz:=by rw [Nat.succ_mul,Nat.add_comm]
  rw [e,e2]
  refine ⟨?_,by rw [Bm];omega⟩
  rw [←List.drop_drop,List.drop_left' hl]
  exact h1
section
variable {P:Program}
theorem Qxf {f:FuncId}{a:Ty}{ok:a.T->Bool}{F:a.T->V}{g:List Value->Sem Value}(hg:ZJ f=some g)
  (h: ∀ x,ok x=true→ ∀ (X:Nat->Nat->Prop) (w:World) (σ:Pl) vs,Cs X w σ (V.ds (a.canon x)) vs→ ∃ u,(g vs).run P w= .ok u w/\C X w σ (F x).d u):Qu P f (Qq (Ql a ok F)):=by
 intro args objs r os hF X w σ vs hfin hl hc
 unfold Qq Ql at hF
 cases objs with
 |cons o os'=>simp at hF
 |nil=>
  simp only at hF
  cases ha:a.args args with
  |none=>rw [ha] at hF;cases hF
  |some x=>
   rw [ha] at hF
   simp only at hF
   split at hF
   ·rename_i r' os' hq
    simp only [Bb,Bj] at hF hq
    obtain ⟨rfl,rfl⟩:=hF
    obtain ⟨h1,rfl,rfl⟩:=hq
    obtain ⟨u,e1,e2⟩:=h x h1 X w σ vs (Wv ha hc)
    unfold Does
    rw [hg]
    exact ⟨u,w,e1,u,X,σ,rfl,e2,QeY rfl hfin (Below.refl _ _)⟩
   ·cases hF
theorem Qxg {t e n:Nat}{k:IntKind}{y:Ty}{d:TypeDesc}{inf:TypeInfo}(ht:P.underlying t=some (.array n e))(he:P.underlying e=some d)(hr:isRow d=y.row)(hi:P.info? e=some inf)(hsz:inf.size=y.sz)
  (arr:(tyR y n).T) (i:Int) (hok:0<=i/\i<(n:Int)) (X:Nat->Nat->Prop) (w:World) (σ:Pl) (vs:List Value) (hc:Cs X w σ (V.ds [.t (tyR y n) arr,.t (.int k) i]) vs):
  ∃ u,(match vs with|[x,y]=>Instr.index t x y|_=>stuck "operands").run P w= .ok u w/\C X w σ (V.t y (Fi y n arr i.toNat)).d u:=by
  simp only [Ty.canon,V.ds,Cs] at hc
  obtain ⟨u,us,rfl,h1,u2,us2,rfl,h2,rfl⟩:=hc
  simp only [V.d] at h1
  rw [Ty.d_row _ _ (Qxe y n)] at h1
  simp only [C] at h1
  obtain ⟨cs,rfl,hcs⟩:=h1
  simp only [V.d,Ty.d,C] at h2
  rw [h2.1]
  obtain ⟨q1,q2⟩:=Qmo y n arr i.toNat (by omega)
  have hlen:=hcs.len
  have hcs2:=(hcs.drop_ (i.toNat*y.sz)).take_ y.sz
  rw [q1] at hcs2
  cases hrow:y.row with
  |true=>
   refine ⟨.agg ((cs.drop (i.toNat*y.sz)).take y.sz).toArray, ?_, ?_⟩
   ·rw [hrow] at hr
    simp [Instr.index,asIntOf,run_underlying ht,hok.1,hok.2,sizeOf,typeInfo,hi,hsz,part,Uw he,hr,List.take_drop]
   ·simp only [V.d]
    rw [Ty.d_row _ _ hrow]
    simp only [C]
    exact ⟨_,rfl,hcs2⟩
  |false=>
   have hd:=y.d_one (Fi y n arr i.toNat) hrow
   have h1:y.sz=1:=by have:=y.cells_len (Fi y n arr i.toNat);rw [hd] at this;exact this.symm
   rw [hd] at hcs2
   obtain ⟨v,hv,hcv⟩:=hcs2.one
   have hv0:cs[i.toNat*y.sz]? = some v:=by
    have:((cs.drop (i.toNat*y.sz)).take y.sz)[0]? = some v:=by rw [hv];rfl
    rw [List.getElem?_take_of_lt (by omega),Da,DF] at this
    exact this
   refine ⟨v, ?_,hcv⟩
   rw [hrow] at hr
   simp [Instr.index,asIntOf,run_underlying ht,hok.1,hok.2,sizeOf,typeInfo,hi,hsz,part,Uw he,hr,hv0]
def Fj (y:Ty)(n:Nat)(x:(tyR y n).T)(i:Int):y.T:=Fi y n x i.toNat
def Wx (y:Ty)(n:Nat)(_x:(tyR y n).T)(i:Int):Bool:=decide ((0:Int)<=i/\i<(n:Int))
theorem Qmp {t e n:Nat}{k:IntKind}{y:Ty}(ht:P.underlying t=some (.array n e))(hr:(P.underlying e).map isRow=some y.row)(hi:(P.info? e).map TypeInfo.size=some y.sz)(hlt:t<10000):
  Qu P (Q1 2 t 0) (Qq (Ql (.pr (tyR y n) (.pr (.int k) .nil)) (fun x=>Wx y n x.1 x.2.1) (fun x=> .t y (Fj y n x.1 x.2.1)))):=by
 obtain ⟨d,he,hr⟩:=Bf.1 hr
 obtain ⟨inf,hi,hsz⟩:=Bf.1 hi
 exact Qxf (QtL hlt) fun x hok X w σ vs hc=>Qxg ht he hr hi hsz x.1 x.2.1 (BI hok) X w σ vs hc
theorem Qmq {X:Nat->Nat->Prop}{w:World}{σ:Pl}: ∀ (l:List UInt8),Cs X w σ (List.flatMap (Ty.int .u8).cells (l.map fun b=>(b.toNat:Int))) (l.map fun b=>Value.int .u8 (b.toNat:Int))
 | []=>by simp [Cs]
 |b::l=>by
  simp only [Bx,BL,Ty.cells,BO,Cs,C]
  exact ⟨_,_,rfl,⟨rfl,rfl⟩,Qmq l⟩
def YH (s:ByteArray):Bool:=decide (s.size<=9223372036854775807)
theorem Qxh {a b e:Nat}(ha:P.underlying a=some .string)(hb:P.underlying b=some (.slice e))(he:P.underlying e=some (.int .u8))(hlt:a<10000):
  Qu P (Q1 0 a b) (Qq (Ql (.pr .str .nil) (fun x=>YH x.1) (fun x=> .t (.sl (.int .u8)) (QO x.1)))):=by
 intro args objs r os hF X w σ vs hfin hl hc
 unfold Qq Ql at hF
 cases objs with
 |cons o os'=>simp at hF
 |nil=>
  simp only at hF
  cases ha':(Ty.pr .str .nil).args args with
  |none=>rw [ha'] at hF;cases hF
  |some x=>
   rw [ha'] at hF
   simp only at hF
   split at hF
   ·rename_i r' os' hq
    simp only [Bb,Bj] at hF hq
    obtain ⟨rfl,rfl⟩:=hF
    obtain ⟨h1,rfl,rfl⟩:=hq
    have hc2:=Wv ha' hc
    obtain ⟨s,u0⟩:=x
    have h1:s.size<=9223372036854775807:=BI h1
    simp only [Ty.canon,V.ds,V.d,Ty.d,Cs,C] at hc2
    obtain ⟨u,us,rfl,⟨rfl,_⟩,rfl⟩:=hc2
    have hr:=run_bytes_of_string (P:=P) w a b e s ha hb he
    have hge:=grownCap_ge w s.size 0 e
    have hle:=grownCap_le_maxLen w s.size 0 e (by simp [maxLen];omega)
    generalize grownCap w s.size 0 e=cap at hr hge hle
    have hbel:Below w.heap.size w (w.drew.alloc (.cells (bytesRow s cap) e ((bytesRow s cap).size,(bytesRow s cap).size+1))):=((Below.refl _ _).drew).alloc (BB _) _
    have hblk:(w.drew.alloc (.cells (bytesRow s cap) e ((bytesRow s cap).size,(bytesRow s cap).size+1))).heap[w.heap.size]? = some (.cells (bytesRow s cap) e ((bytesRow s cap).size,(bytesRow s cap).size+1)):=heap_alloc_new _ _
    have hlen:(QO s).length=s.size:=by simp [QO]
    unfold Does
    rw [QtK hlt]
    refine ⟨_,_,hr,_,X,σ,rfl, ?_,QeY rfl hfin hbel⟩
    simp only [V.d,Ty.d,C]
    refine ⟨some ⟨w.heap.size,0,none⟩,cap,by rw [hlen],by rw [hlen];exact hge,hle,fun h0=>by rw [Bv h0];rfl,fun _=>⟨w.heap.size,0,s.data.toList.map fun b=>Value.int .u8 (b.toNat:Int),rfl,Qmq _, ?_,fun j _ hx=> ?_,fun j v hj=> ?_,fun v hv=> ?_⟩⟩
    ·exact (BX.1 hblk).1
    ·exact absurd (hfin _ _ hx) (Dg _)
    ·have hjl:=(By.1 hj).1
     rw [BN] at hjl
     have:(bytesRow s cap)[j]? = some v:=by
      unfold bytesRow
      rw [Array.getElem?_append_left (by simpa using hjl)]
      rw [B9] at hj
      simpa using hj
     simp only [World.cell?, hblk,DN]
     exact this
    ·simp only [B6] at hv
     obtain ⟨b,_,rfl⟩:=hv
     rfl
   ·cases hF
end
end Go.Proofs.YtmjnnemhoeolgaaGreat.K
/-
 Own slices that are handed to a function:it writes them,or uses them up.
-/
namespace Go.Proofs.YtmjnnemhoeolgaaGreat.K
open Go.RowKit Go.Sort
@[reducible] def SOt:List SO->Type
 | []=>Unit
 |s::r=>s.T×SOt r
def Y0:(l:List SO)->SOt l->List VO
 | [],_=>[]
 |s::r,x=>s.mk x.1::Y0 r x.2
def VO.wk (s:SO)(o:VO):VO:=
 match s,o with
 |.arr e _,.arr e' t l=>if e=e'+1000000/\e'<1000000 then .arr e t l else o
 |_,_=>o
def Ib:(l:List SO)->List VO->Option (SOt l)
 | [],[]=>some ()
 |s::r,o::os=>match s.rd (o.wk s),Ib r os with
  |some x,some y=>some (x,y)
  |_,_=>none
 |_,_=>none
theorem wk_at {X:Nat->Nat->Prop}{w:World}{σ:Pl}{k:Nat}{s:SO}{o:VO}(h:OAt X w σ k o)(hn:o≠ .no):OAt X w σ k (o.wk s)/\o.wk s≠ .no:=by
 unfold VO.wk
 split
 ·split
  ·rename_i hc
   obtain ⟨u,xs,h1,h2,h3⟩:=h
   exact ⟨⟨u,xs,h1,by rw [hc.1];exact h2.weak hc.2,h3⟩,by simp⟩
  ·exact ⟨h,hn⟩
 ·exact ⟨h,hn⟩
theorem Qe1: ∀ {l:List SO} {os:List VO} {x:SOt l},Ib l os=some x->(Y0 l x).length=os.length∧ ∀ (j:Nat) o,(Y0 l x)[j]? = some o→ ∃ s o',os[j]? = some o'/\o=o'.wk s
 | [],[],_,_=>⟨rfl,fun j o h=>by simp [Y0] at h⟩
 | [],_::_,_,h=>by cases h
 |_::_,[],_,h=>by cases h
 |s::r,v::vs,x,h=>by
  simp only [Ib] at h
  split at h
  ·rename_i x1 y1 h1 h2
   simp only [Bb] at h
   subst h
   obtain ⟨q1,q2⟩:=Qe1 h2
   refine ⟨by simp only [Y0,Bo,q1],fun j o hj=> ?_⟩
   cases j with
   |zero=>
    simp only [Y0,BW,Bb] at hj
    exact ⟨s,v,rfl,by rw [←hj, ← SO.rd_mk h1]⟩
   |succ j=>
    simp only [Y0,BU] at hj ⊢
    exact q2 j o hj
  ·cases h
theorem Qxi {X:Nat->Nat->Prop}{w:World}{σ:Pl}{l:List SO}{os:List VO}{x:SOt l}(h:Ib l os=some x)(hl:Lent X w σ os):Lent X w σ (Y0 l x):=by
 obtain ⟨h1,h2⟩:=Qe1 h
 refine ⟨fun j o hj=> ?_,fun i j b hij hi hj=>hl.apart i j b hij (by omega) (by omega)⟩
 obtain ⟨s,o',q1,rfl⟩:=h2 j o hj
 obtain ⟨a,b⟩:=hl.at_ j o' q1
 exact wk_at a b
def Wy (l:List SV)(os:List SO)(ok:SVt l->SOt os->Bool)(F:SVt l->SOt os->V)(O:SVt l->SOt os->List VO):Ent:=fun args objs=>
 match Ga l args,Ib os objs with
 |some x,some y=>some (ok x y,F x y,O x y)
 |_,_=>none
def Qe2:SV->V->V
 |.ty t,v=>if t.row=true then (match v.as t with|some x=> .t t x|none=>v) else v
 |.bf _ t,.fn g [v]=>if t.row=true then (match v.as t with|some x=> .fn g [.t t x]|none=> .fn g [v]) else .fn g [v]
 |_,v=>v
def Ic:List SV->List V->List V
 |s::r,v::vs=>Qe2 s v::Ic r vs
 |_,vs=>vs
def Y2 (l:List SV)(os:List SO)(ok:SVt l->SOt os->Bool)(F:SVt l->SOt os->V)(O:SVt l->SOt os->List VO):Ent:=fun args objs=>Wy l os ok F O (Ic l args) objs
theorem as_cs {X:Nat->Nat->Prop}{w:World}{σ:Pl}{t:Ty}{v:V}{x:t.T}{u:Value}(h:v.as t=some x)(hc:C X w σ v.d u):C X w σ (V.t t x).d u:=
 C.up _ _ (V.as_spec h hc)
theorem coeV_c {X:Nat->Nat->Prop}{w:World}{σ:Pl}{u:Value}(s:SV)(v:V)(hc:C X w σ v.d u):C X w σ (Qe2 s v).d u:=by
 unfold Qe2
 split
 ·split
  ·split
   ·rename_i x h
    exact as_cs h hc
   ·exact hc
  ·exact hc
 ·split
  ·split
   ·rename_i x h
    simp only [V.d,V.ds,C,Cs] at hc ⊢
    obtain ⟨vs,h1,u1,us,h2,h3,h4⟩:=hc
    exact ⟨vs,h1,u1,us,h2,as_cs h h3,h4⟩
   ·exact hc
  ·exact hc
 ·exact hc
theorem Qmr {X:Nat->Nat->Prop}{w:World}{σ:Pl}: ∀ (l:List SV) (vs:List V) (us:List Value),Cs X w σ (V.ds vs) us->Cs X w σ (V.ds (Ic l vs)) us
 | [],vs,us,h=>h
 |s::r,[],us,h=>h
 |s::r,v::vs,us,h=>by
  simp only [Ic,V.ds,Cs] at h ⊢
  obtain ⟨u,us',rfl,h2,h3⟩:=h
  exact ⟨u,us',rfl,coeV_c s v h2,Qmr r vs us' h3⟩
section
variable {P:Program}
theorem Xn {f:FuncId}{l:List SV}{os:List SO}{ok:SVt l->SOt os->Bool}{F:SVt l->SOt os->V}{O:SVt l->SOt os->List VO}(hM:Qu P f (Qq (Wy l os ok F O))):Qu P f (Qq (Y2 l os ok F O)):=
 fun args objs r os' hF X w σ vs hfin hl hc=>hM (Ic l args) objs r os' hF X w σ vs hfin hl (Qmr l args vs hc)
theorem Qms {f:FuncId}{l:List SV}{os:List SO}{ok:SVt l->SOt os->Bool}{F:SVt l->SOt os->V}{O:SVt l->SOt os->List VO}
  (h: ∀ x y,ok x y=true→ ∀ X w σ vs,(∀ b q,X b q->b<w.heap.size)->Lent X w σ (Y0 os y)->Cs X w σ (V.ds (Us l x)) vs→
   Does P f vs.toArray w fun e w'=> ∃ u X' σ',e= .returned u/\C X' w' σ' (F x y).d u/\Ends X w σ (Y0 os y).length X' w' σ' (O x y)):Qu P f (Qq (Wy l os ok F O)):=by
 intro args objs r os' hF X w σ vs hfin hl hc
 unfold Qq Wy at hF
 split at hF
 ·rename_i r' os'' hq
  split at hq
  ·rename_i x y hx hy
   simp only [Bb,Bj] at hF hq
   obtain ⟨rfl,rfl⟩:=hF
   obtain ⟨h1,rfl,rfl⟩:=hq
   have ha:=Fb hx
   subst ha
   have:=h x y h1 X w σ vs hfin (Qxi hy hl) hc
   rw [(Qe1 hy).1] at this
   exact this
  ·cases hq
 ·cases hF
theorem YI {f:FuncId}{R:Fun}{l:List SV}{os:List SO}{ok:SVt l->SOt os->Bool}{F:SVt l->SOt os->V}{O:SVt l->SOt os->List VO}(hM:Qu P f R)
  (h: ∀ x y,ok x y=true->R (Us l x) (Y0 os y)=some (F x y,O x y)):Qu P f (Qq (Wy l os ok F O)):=
 Qms fun x y hok X w σ vs hfin hl hc=>hM _ _ _ _ (h x y hok) X w σ vs hfin hl hc
variable {X:Nat->Nat->Prop}{w w':World}{σ:Pl}
theorem Qmt {o o':VO}{row:Option Nat}(hfin: ∀ b q,X b q->b<w.heap.size)(hat:OAt X w' σ 50000 o')(hg:w.grownBy w' row)(hr:row=none∨row=(σ 50000).blk):Ends X w σ [o].length X w' σ [o']:=by
 refine ⟨fun b q hq=>BP (hfin b q hq) hg.size,fun j o hj=> ?_,fun i j b hij hi hj=>by simp at hi hj;omega,by simp,fun _ _=>rfl,fun j b hj hl=>by simp at hj hl;omega,⟨hg.os,hg.tape,hg.output,hg.size,fun b hb hm=>hg.block b hb fun he=>hm ?_⟩,fun _ _ _ h=>h,fun _ _ _ _ h=>h⟩
 ·cases j with
  |zero=>
   simp only [BW,Bb] at hj
   subst hj
   exact ⟨hat,fun h=>absurd h (by simp)⟩
  |succ j=>simp at hj
 ·rcases hr with hr|hr
  ·rw [hr] at he;cases he
  ·simp only [Yv,Bp,List.mem_filterMap,Df]
   exact ⟨0,by omega,by rw [←hr];exact he.symm⟩
theorem Qmu {k:IntKind}: ∀ (l:List Int) (vs:List Value),Cs X w σ (List.flatMap (Ty.int k).cells l) vs->vs=l.map (Value.int k)
 | [],vs,h=>by simpa [Cs] using h
 |z::zs,vs,h=>by
  simp only [BL,Ty.cells,BO,Cs] at h
  obtain ⟨u,us,rfl,h1,h2⟩:=h
  simp only [C] at h1
  rw [h1.1,Qmu zs us h2]
  rfl
theorem Qmv {k:IntKind}: ∀ (l:List Int),Cs X w σ (List.flatMap (Ty.int k).cells l) (l.map (Value.int k))
 | []=>by simp [Cs]
 |z::zs=>by
  simp only [BL,Ty.cells,BO,Cs,C,Bx]
  exact ⟨_,_,rfl,⟨rfl,rfl⟩,Qmv zs⟩
def V7 {α:Type}(l:List α):Bool:=decide (l.length<4611686018427387904)
def ZG (l:List Int):List Int:=l.mergeSort fun x y=>decide (x<=y)
theorem Qxj {e:Nat}{k:IntKind}{l:List Int}{vs:List Value}(hl:Lent X w σ [.arr e (.int k) l])(hc:Cs X w σ (V.ds [.ms 50000]) vs)(he:e<1000000):
  ∃ u,vs=[u]/\σ 50000= .arr u/\w.ownsRow 0 e 1 u l.length (l.map (Value.int k))∧ ∀ b,u.ownBlock=some b→ ∀ o,X b o:=by
 obtain ⟨⟨u,xs,h1,h2,h3,h4,h5⟩,_⟩:=hl.at_ 0 _ rfl
 simp only [V.ds,V.d,Cs,C] at hc
 obtain ⟨u',us,rfl,⟨g1,_⟩,rfl⟩:=hc
 rw [h1] at g1
 injection g1 with g1
 subst g1
 have:=Qmu l xs h3
 subst this
 exact ⟨u,rfl,h1,h2.own he,h5⟩
theorem Qxk {f:FuncId}{e:Nat}(hlt:f<1000000)
  (hs: ∀ (blk off cap:Nat) (zs:List Int) (w:World),Holds (Value.int .i64) w blk off zs.toArray->blk<w.heap.size->zs.length<4611686018427387904→
   Calls P f #[.slice (some ⟨blk,off,none⟩) zs.length cap] w fun e w'=>e= .returned (.tuple #[])∧ ∃ n os,w'=grow (putRow (Value.int .i64) (Sort.ahead w n) blk off (zs.mergeSort fun x y=>decide (x<=y)).toArray) os)
  (h0: ∀ (p:Option Addr) (cap:Nat) (w:World),Calls P f #[.slice p 0 cap] w fun e w'=>e= .returned (.tuple #[])/\w'=w) (he:e<1000000:=by decide):
  Qu P f (Qq (Wy [.ms 50000] [.arr e (.int .i64)] (fun _ y=>V7 y.1) (fun _ _=> .tu []) (fun _ y=>[.arr e (.int .i64) (ZG y.1)]))):=by
 refine Qms fun x y hok X w σ vs hfin hl hc=> ?_
 obtain ⟨l,u0⟩:=y
 obtain ⟨u,rfl,h1,h2,h3⟩:=Qxj hl hc he
 have hok:l.length<4611686018427387904:=BI hok
 have htu: ∀ (w':World),C X w' σ (V.tu []).d (.tuple #[]):=fun w'=>by
  simp only [V.d,V.ds,C,Cs]
  exact ⟨[],rfl,rfl⟩
 have hlen:(ZG l).length=l.length:=List.length_mergeSort _
 refine Qc4 hlt ?_
 have none_case: ∀ (p:Option Addr) cap,l=[]->u= .slice p 0 cap->Calls P f [u].toArray w fun e' w'=> ∃ u X' σ',e'= .returned u/\C X' w' σ' (V.tu []).d u/\Ends X w σ (Y0 [.arr e (.int .i64)] (l,u0)).length X' w' σ' [.arr e (.int .i64) (ZG l)]:=by
  intro p cap hl0 hu
  subst hl0 hu
  refine (h0 p cap w).mono ?_
  rintro _ _ ⟨rfl,rfl⟩
  refine ⟨_,X,σ,rfl,htu _,Qmt (row:=none) hfin ?_ ⟨rfl,rfl,rfl,BB _,fun _ _ _=>rfl⟩ (.inl rfl)⟩
  have h9:=(hl.at_ 0 _ rfl).1
  have e0:ZG []=[]:=by simp [ZG]
  rw [e0]
  exact h9
 rcases h2.2 with ⟨q1,q2⟩|⟨g,cap,cur,rfl,q2,q3,q4,q5,q6,q7⟩
 ·exact none_case none 0 (Bv q2) q1
 ·by_cases hz:l=[]
  ·exact none_case _ _ hz (by subst hz;rfl)
  ·have ht:cur.toList.take l.length=l.map (Value.int .i64):=by rw [Nat.mul_one] at q7;exact q7
   have hb:g<w.heap.size:=(BX.1 q3).1
   refine (hs g 0 cap l w (holds_of_blockI q3 ht) hb hok).mono ?_
   rintro _ _ ⟨rfl,n,os,rfl⟩
   refine ⟨_,X,σ,rfl,htu _,Qmt (row:=some g) hfin ?_ (grownBy_sortedI _) (.inr (by rw [h1];rfl))⟩
   have hown:=ownsRow_sortedI (n:=n) (os:=os) (ss:=l) (ts:=ZG l) hlen (B7 g) q3 q4 q5 q6
   refine ⟨_,(ZG l).map (Value.int .i64),h1,by rw [hlen];exact .of hown,Qmv _,fun x hx=> ?_,h3⟩
   obtain ⟨z,_,rfl⟩:=B6.1 hx
   rfl
end
end Go.Proofs.YtmjnnemhoeolgaaGreat.K
/-
 Interfaces:values that are put into them,methods that are called through them;functions of which there is more than one word.
-/
namespace Go.Proofs.YtmjnnemhoeolgaaGreat.K
open Go.RowKit
section
variable {P:Program}
end
end Go.Proofs.YtmjnnemhoeolgaaGreat.K
noncomputable section
namespace Go.Proofs.YtmjnnemhoeolgaaGreat.K
open Go.RowKit
def W5:Code->List (Array Oper)
 |.region _ ops _=>[ops]
 |.seq a b=>W5 a++W5 b
 |.cond _ a b=>W5 a++W5 b
 |.rangeFunc _ _ a b=>W5 a++W5 b
 |.block _ c=>W5 c
 |.loop c=>W5 c
 |_=>[]
noncomputable def QcE (f:Func)(i:Nat):Array Oper:=match f.body with
 |some c=>(W5 c).getD i #[]
 |none=> #[]
noncomputable def rT (f:Func)(i:Nat):List RO:=(QcE f i).toList.map (trR Tryz.prog (QcE f i))
noncomputable def dT (f:Func)(i:Nat):List DO:=(QcE f i).toList.map (trD Tryz.prog (QcE f i))
abbrev tI:Ty:= .int .i64
abbrev Qst:Ty:=(.pr tI (.pr tI (.pr .bool (.pr (.int .u8) .nil))))
abbrev Qsu:Ty:=(.pr .str (.pr (.int .u64) .nil))
abbrev Qe:Ty:=(.pr tI (.pr tI .nil))
abbrev Keep:Type:=Int×(Int×Unit)
abbrev Keep.Client (x:Keep):Int:=x.1
abbrev Keep.Server (x:Keep):Int:=x.2.1
abbrev QQ:Ty:=(.pr tI (.pr .str (.pr .str (.pr Qe (.pr tI (.pr Qe (.pr tI (.pr tI (.pr .bool (.pr tI (.pr (.sl .str) (.pr Qe .nil))))))))))))
abbrev Certificate:Type:=Int×(ByteArray×(ByteArray×(Keep×(Int×(Keep×(Int×(Int×(Bool×(Int×((List ByteArray)×(Keep×Unit)))))))))))
abbrev Certificate.Serial (x:Certificate):Int:=x.1
abbrev Certificate.Issuer (x:Certificate):ByteArray:=x.2.1
abbrev Certificate.Subject (x:Certificate):ByteArray:=x.2.2.1
abbrev Certificate.Key (x:Certificate):Keep:=x.2.2.2.1
abbrev Certificate.KeyId (x:Certificate):Int:=x.2.2.2.2.1
abbrev Certificate.Hash (x:Certificate):Keep:=x.2.2.2.2.2.1
abbrev Certificate.From (x:Certificate):Int:=x.2.2.2.2.2.2.1
abbrev Certificate.To (x:Certificate):Int:=x.2.2.2.2.2.2.2.1
abbrev Certificate.Authority (x:Certificate):Bool:=x.2.2.2.2.2.2.2.2.1
abbrev Certificate.Path (x:Certificate):Int:=x.2.2.2.2.2.2.2.2.2.1
abbrev Certificate.Names (x:Certificate):(List ByteArray):=x.2.2.2.2.2.2.2.2.2.2.1
abbrev Certificate.Seal (x:Certificate):Keep:=x.2.2.2.2.2.2.2.2.2.2.2.1
abbrev JT:Ty:=(.pr Qe (.pr tI (.pr (.sl QQ) .nil)))
abbrev Identity:Type:=Keep×(Int×((List Certificate)×Unit))
abbrev Identity.Key (x:Identity):Keep:=x.1
abbrev Identity.KeyId (x:Identity):Int:=x.2.1
abbrev Identity.Chain (x:Identity):(List Certificate):=x.2.2.1
abbrev QD:Ty:=(.pr .str (.pr tI (.pr tI (.pr (.sl tI) (.pr .bool (.pr (.sl JT) (.pr (.sl tI) (.pr (.sl tI) (.pr .bool .nil)))))))))
abbrev Endpoint:Type:=ByteArray×(Int×(Int×((List Int)×(Bool×((List Identity)×((List Int)×((List Int)×(Bool×Unit))))))))
abbrev Endpoint.Name (x:Endpoint):ByteArray:=x.1
abbrev Endpoint.Least (x:Endpoint):Int:=x.2.1
abbrev Endpoint.Most (x:Endpoint):Int:=x.2.2.1
abbrev Endpoint.Suites (x:Endpoint):(List Int):=x.2.2.2.1
abbrev Endpoint.OwnOrder (x:Endpoint):Bool:=x.2.2.2.2.1
abbrev Endpoint.Identities (x:Endpoint):(List Identity):=x.2.2.2.2.2.1
abbrev Endpoint.Anchors (x:Endpoint):(List Int):=x.2.2.2.2.2.2.1
abbrev Endpoint.Hashes (x:Endpoint):(List Int):=x.2.2.2.2.2.2.2.1
abbrev Endpoint.Fallback (x:Endpoint):Bool:=x.2.2.2.2.2.2.2.2.1
abbrev Zi:Ty:=(.pr Qe (.pr tI .nil))
abbrev Link:Type:=Keep×(Int×Unit)
abbrev Link.Use (x:Link):Keep:=x.1
abbrev Link.Day (x:Link):Int:=x.2.1
abbrev JD:Ty:=(.pr .str (.pr tI (.pr tI (.pr (.sl Zi) (.pr tI .nil)))))
abbrev Item:Type:=ByteArray×(Int×(Int×((List Link)×(Int×Unit))))
abbrev Item.Name (x:Item):ByteArray:=x.1
abbrev Item.Kind (x:Item):Int:=x.2.1
abbrev Item.Purpose (x:Item):Int:=x.2.2.1
abbrev Item.Links (x:Item):(List Link):=x.2.2.2.1
abbrev Item.Until (x:Item):Int:=x.2.2.2.2.1
abbrev QJ:Ty:=(.pr (.sl QD) (.pr (.sl Qe) (.pr (.sl JD) .nil)))
abbrev Estate:Type:=(List Endpoint)×((List Keep)×((List Item)×Unit))
abbrev Estate.Endpoints (x:Estate):(List Endpoint):=x.1
abbrev Estate.Edges (x:Estate):(List Keep):=x.2.1
abbrev Estate.Items (x:Estate):(List Item):=x.2.2.1
abbrev Jt:Ty:=(.pr .bool (.pr tI (.pr tI (.pr tI (.pr tI (.pr tI .nil))))))
abbrev Rule:Type:=Bool×(Int×(Int×(Int×(Int×(Int×Unit)))))
abbrev Rule.Allow (x:Rule):Bool:=x.1
abbrev Rule.Alg (x:Rule):Int:=x.2.1
abbrev Rule.Below (x:Rule):Int:=x.2.2.1
abbrev Rule.Purpose (x:Rule):Int:=x.2.2.2.1
abbrev Rule.From (x:Rule):Int:=x.2.2.2.2.1
abbrev Rule.To (x:Rule):Int:=x.2.2.2.2.2.1
abbrev Zr:Ty:=(.pr (.sl Jt) (.pr (.sl Qe) .nil))
abbrev Policy:Type:=(List Rule)×((List Keep)×Unit)
abbrev Policy.Rules (x:Policy):(List Rule):=x.1
abbrev Policy.Keeps (x:Policy):(List Keep):=x.2.1
abbrev Qs:Ty:=(.pr (.sl tI) (.pr tI .nil))
abbrev Dice:Type:=(List Int)×(Int×Unit)
abbrev Dice.L (x:Dice):(List Int):=x.1
abbrev Dice.At (x:Dice):Int:=x.2.1
abbrev Qsv:Ty:=(.pr tI (.pr tI (.pr tI (.pr tI (.pr JT .nil)))))
abbrev Change:Type:=Int×(Int×(Int×(Int×(Identity×Unit))))
abbrev Change.Endpoint (x:Change):Int:=x.1
abbrev Change.Kind (x:Change):Int:=x.2.1
abbrev Change.Number (x:Change):Int:=x.2.2.1
abbrev Change.At (x:Change):Int:=x.2.2.2.1
abbrev Change.Identity (x:Change):Identity:=x.2.2.2.2.1
abbrev JP:Ty:=(.pr Qe (.pr tI (.pr .str (.pr Qe (.pr (.sl Qe) .nil)))))
abbrev Exception:Type:=Keep×(Int×(ByteArray×(Keep×((List Keep)×Unit))))
abbrev Exception.Use (x:Exception):Keep:=x.1
abbrev Exception.Purpose (x:Exception):Int:=x.2.1
abbrev Exception.Endpoint (x:Exception):ByteArray:=x.2.2.1
abbrev Exception.Days (x:Exception):Keep:=x.2.2.2.1
abbrev Exception.Seals (x:Exception):(List Keep):=x.2.2.2.2.1
abbrev UH:Ty:=(.pr Zr (.pr (.sl JP) (.pr Qs (.pr tI .nil))))
abbrev Rules:Type:=Policy×((List Exception)×(Dice×(Int×Unit)))
abbrev Rules.p (x:Rules):Policy:=x.1
abbrev Rules.l (x:Rules):(List Exception):=x.2.1
abbrev Rules.o (x:Rules):Dice:=x.2.2.1
abbrev Rules.day (x:Rules):Int:=x.2.2.2.1
abbrev Qis:Ty:=(.pr Qe (.pr tI (.pr (.sl tI) .nil)))
abbrev Way:Type:=Keep×(Int×((List Int)×Unit))
abbrev Way.Outcome (x:Way):Keep:=x.1
abbrev Way.Most (x:Way):Int:=x.2.1
abbrev Way.Suites (x:Way):(List Int):=x.2.2.1
abbrev Qsw:Ty:=(.pr Qe (.pr (.pr Qe (.pr Qe (.pr Qe (.pr Qe .nil)))) .nil))
abbrev Method:Type:=Keep×((Keep×(Keep×(Keep×(Keep×Unit))))×Unit)
abbrev Method.outcome (x:Method):Keep:=x.1
abbrev Method.uses (x:Method):(Keep×(Keep×(Keep×(Keep×Unit)))):=x.2.1
abbrev QR:Ty:=(.pr tI (.pr .str (.pr Qe (.pr Qe (.pr Qe (.pr Qe (.pr tI (.pr tI .nil))))))))
abbrev Suite:Type:=Int×(ByteArray×(Keep×(Keep×(Keep×(Keep×(Int×(Int×Unit)))))))
abbrev Suite.Code (x:Suite):Int:=x.1
abbrev Suite.Name (x:Suite):ByteArray:=x.2.1
abbrev Suite.Exchange (x:Suite):Keep:=x.2.2.1
abbrev Suite.Sign (x:Suite):Keep:=x.2.2.2.1
abbrev Suite.Cipher (x:Suite):Keep:=x.2.2.2.2.1
abbrev Suite.Mac (x:Suite):Keep:=x.2.2.2.2.2.1
abbrev Suite.Least (x:Suite):Int:=x.2.2.2.2.2.2.1
abbrev Suite.Most (x:Suite):Int:=x.2.2.2.2.2.2.2.1
abbrev Oz:Ty:=(.pr QD (.pr tI (.pr (.sl tI) .nil)))
abbrev Talk:Type:=Endpoint×(Int×((List Int)×Unit))
abbrev Talk.server (x:Talk):Endpoint:=x.1
abbrev Talk.version (x:Talk):Int:=x.2.1
abbrev Talk.suites (x:Talk):(List Int):=x.2.2.1
abbrev W6:Ty:=(.pr .str (.pr tI .nil))
abbrev Symbol:Type:=ByteArray×(Int×Unit)
abbrev Symbol.name (x:Symbol):ByteArray:=x.1
abbrev Symbol.kind (x:Symbol):Int:=x.2.1
abbrev Qi:Ty:=(.pr .str (.pr tI (.pr tI (.pr (.sl tI) (.pr (.sl tI) .nil)))))
abbrev Row:Type:=ByteArray×(Int×(Int×((List Int)×((List Int)×Unit))))
abbrev Row.name (x:Row):ByteArray:=x.1
abbrev Row.kind (x:Row):Int:=x.2.1
abbrev Row.way (x:Row):Int:=x.2.2.1
abbrev Row.sizes (x:Row):(List Int):=x.2.2.2.1
abbrev Row.strengths (x:Row):(List Int):=x.2.2.2.2.1
def TYl:List (Nat×Ty):=[(2,tI),(3,tI),(4,.bool),(5,(.int .u8)),(6,(.int .u8)),(7,Qst),(8,Qst),(9,.str),(10,.str),(11,.str),(12,(.int .u64)),(13,Qsu),(14,Qsu),(21,(.int .i32)),(22,(.sl tI)),(27,(.sl QD)),(28,(.sl Qe)),(29,(.sl JD)),(30,QJ),(31,QJ),(34,(.sl Jt)),(35,(.sl Qe)),(36,Zr),(37,Zr),(40,tI),(43,Qs),(44,Qs),(46,Qe),(47,Qe),(48,(.sl Qe)),(53,Qe),(54,Qe),(56,(.sl Qis)),(59,(.sl JT)),(60,QD),(61,QD),(63,Qe),(64,Qe),(65,(.sl QQ)),(66,JT),(67,JT),(68,Qsv),(69,Qsv),(72,Jt),(73,Jt),(79,(.int .u16)),(81,Qs),(82,Qs),(84,(.sl JP)),(86,UH),(87,UH),(97,Qis),(98,Qis),(99,(.sl .str)),(100,(.sl (.sl tI))),(104,(.sl Zi)),(105,JD),(106,JD),(109,(.sl Qe)),(118,Qe),(119,Qe),(120,(.sl Qe)),(121,JP),(122,JP),(130,(.pr Qe (.pr Qe (.pr Qe (.pr Qe .nil))))),(131,Qsw),(132,Qsw),(138,QR),(139,QR),(146,Qe),(147,Qe),(148,QQ),(149,QQ),(152,Zi),(153,Zi),(170,Qe),(171,Qe),(179,(.sl QR)),(188,(.sl (.int .u8))),(206,Oz),(207,Oz),(209,W6),(210,W6),(211,(.sl W6)),(213,(.sl tI)),(223,(.sl Qt)),(224,(.pr tI (.pr (.sl (.int .u8)) (.pr .bool (.pr (.sl Qt) .nil))))),(225,Qt),(227,(.int .u32)),(238,Qi),(239,Qi),(262,(.pr Qi (.pr Qi (.pr Qi (.pr Qi (.pr Qi (.pr Qi (.pr Qi (.pr Qi (.pr Qi (.pr Qi (.pr Qi (.pr Qi (.pr Qi (.pr Qi (.pr Qi (.pr Qi (.pr Qi (.pr Qi (.pr Qi (.pr Qi (.pr Qi (.pr Qi (.pr Qi .nil)))))))))))))))))))))))),(266,Qe),(267,(.pr Qe (.pr Qe (.pr Qe (.pr Qe (.pr Qe .nil)))))),(271,(.int .u64)),(281,tI),(290,(.int .u64)),(293,(.int .u64)),(313,(.int .u8)),(314,(.int .u8)),(317,(.int .i32)),(318,(.int .i32))]
def TYs (e:Nat):Option Ty:=TYl.lookup e
def YU:List Nat:=[170]
theorem mixed:Tryz.prog.follows .mixedOrders=true:=by kernel_rfl
def Qsx:Ent:=Ql (.pr (.pr Qi (.pr Qi (.pr Qi (.pr Qi (.pr Qi (.pr Qi (.pr Qi (.pr Qi (.pr Qi (.pr Qi (.pr Qi (.pr Qi (.pr Qi (.pr Qi (.pr Qi (.pr Qi (.pr Qi (.pr Qi (.pr Qi (.pr Qi (.pr Qi (.pr Qi (.pr Qi .nil))))))))))))))))))))))) (.pr tI .nil)) (fun x=>(Wx Qi 23 x.1 x.2.1)) (fun x=>(.t Qi (Fj Qi 23 x.1 x.2.1)))
theorem QD8:JE Tryz.prog 1004194:= .inl (by kernel_rfl)
theorem QD9:Qu Tryz.prog 1004194 (Qq Qsx):=Qmp (t:=262) (e:=239) (n:=23) (y:=Qi) (k:= .i64) (by kernel_rfl) (by kernel_rfl) (by kernel_rfl) (by decide)
def Qsy:Ent:=Ql (.pr (.pr Qe (.pr Qe (.pr Qe (.pr Qe (.pr Qe .nil))))) (.pr tI .nil)) (fun x=>(Wx Qe 5 x.1 x.2.1)) (fun x=>(.t Qe (Fj Qe 5 x.1 x.2.1)))
theorem QEa:JE Tryz.prog 1004274:= .inl (by kernel_rfl)
theorem QEb:Qu Tryz.prog 1004274 (Qq Qsy):=Qmp (t:=267) (e:=266) (n:=5) (y:=Qe) (k:= .i64) (by kernel_rfl) (by kernel_rfl) (by kernel_rfl) (by decide)
def OA:Ent:=Ql (.pr .str .nil) (fun x=>(YH x.1)) (fun x=>(.t (.sl (.int .u8)) (QO x.1)))
theorem QcF:JE Tryz.prog 31080144:= .inl (by kernel_rfl)
theorem QcG:Qu Tryz.prog 31080144 (Qq OA):=Qxh (a:=9) (b:=188) (e:=5) (by kernel_rfl) (by kernel_rfl) (by kernel_rfl) (by decide)
theorem mG {g:G}{f:FuncId}{fn:Func}{tc:TC}{rv:List (RV×Option Ty)}{ro:Bool}(hf:Tryz.prog.funcs[f]? = some fn)(ok:Option.map (trC Tryz.prog) fn.body=some tc.er)(hn:fn.ntmps=g.n)(hr:Wt Tryz.prog fn.results.toList=some (rv.map Prod.fst))(hg:GOk Tryz.prog g)(hl:tc.lok g)(hlt:f<1000000:=by decide):Qu Tryz.prog f (Jq g tc rv ro):=by
 obtain ⟨c,hc,hi⟩:=Bf.1 ok
 exact Qw6 hlt hf hc hi hn hr hg hl mixed
def UI:List (Nat×Ent)->Prop
 | []=>True
 |p::l=>(JE Tryz.prog p.1/\Qu Tryz.prog p.1 (Qq p.2))/\UI l
theorem gA: ∀ {l:List (Nat×Ent)},UI l→ ∀ p∈l,JE Tryz.prog p.1/\Qu Tryz.prog p.1 (Qq p.2)
 | [],_,p,hp=>by cases hp
 |q::l,h,p,hp=>by
  rcases BD.1 hp with rfl|hp
  ·exact h.1
  ·exact gA h.2 p hp
theorem gC {k:Nat}{e:Ent}{l:List (Nat×Ent)}(h1:JE Tryz.prog k)(h2:Qu Tryz.prog k (Qq e))(h:UI l):UI ((k,e)::l):=⟨⟨h1,h2⟩,h⟩
theorem gN:UI []:=trivial
abbrev OX:Type:=Option (Exit×VS)
abbrev OV:Type:=Option (V×List VO)
theorem nxA (f:VS->OX):(∀ q a b,nxt f (br q a b)=br q (nxt f a) (nxt f b))/\(∀ S,nxt f (some (.normal,S))=f S)/\(∀ S,nxt f (some (.ret,S))=some (.ret,S))/\(∀ i S,nxt f (some (.exit i,S))=some (.exit i,S))/\nxt f none=none:=⟨fun _ _ _=>Gb,fun _=>rfl,fun _=>rfl,fun _ _=>rfl,rfl⟩
theorem lnT {b:VS->OX}{S:VS}{x y:OX}(k:nxt (Qx b) x=y)(h:b S=x:=by kernel_rfl):Qx b S=y:=(Qme b S).trans (by rw [h];exact k)
theorem kT {α:Type}{a b c:α}(k:b=c)(h:a=b:=by kernel_rfl):a=c:=h.trans k
abbrev LO (g:G)(fg:Fg)(tb:TC)(j:Nat):Prop:= ∀ S l p,g.L j (fgt fg S)=some (true,l)->ZK l=some p->Qx (Qz g fg tb) S=some p
def gG (n:Nat)(e:List (Nat×Ent))(L:Nat->VS->Option (Bool×List (Bool×Exit×VS))):G:=⟨TYs,[],n,EL e,YU,L,IL [],RL []⟩
theorem QI {g:G}{s:Sh}{a:TC}{ok:SVs s.vs->SOs s.os->Bool}{Zt:SVs s.vs->SOs s.os->List (Bool×Exit×VS)}(h: ∀ x y,ok x y=true→ ∀ p,ZK (Zt x y)=some p->Qx (Qz g s.f a) (s.st x y)=some p)(hok:s.f.ok:=by exact ⟨by decide,by decide⟩):
 ∀ S l p,mkL s ok Zt (fgt s.f S)=some (true,l)->ZK l=some p->Qx (Qz g s.f a) S=some p:=lok_of (s:=s) hok rfl h
def ap:List (Nat×(TC->TC))->Nat->TC->TC
 | [],_,t=>t
 |(k,f)::r,n,t=>if k==n then f (ap r n t) else ap r n t
def aA (l:List (Nat×(TC->TC))):AC->Nat->TC
 |.sk,n=>ap l n .sk
 |.reg rs,n=>ap l n (.reg rs)
 |.dr ds,n=>ap l n (.dr ds [] .nil)
 |.sq a b,n=>ap l n (.sq (aA l a (2*n)) (aA l b (2*n+1)))
 |.cd x a b,n=>ap l n (.cd x (aA l a (2*n)) (aA l b (2*n+1)))
 |.bk i a,n=>ap l n (.bk i (aA l a (2*n)))
 |.lp a,n=>ap l n (.lp 0 ⟨[],[]⟩ (aA l a (2*n)))
 |.ex i,n=>ap l n (.ex i)
 |.rt,n=>ap l n .rt
 |_,_=> .sk
def pL (j:Nat)(f:Fg):TC->TC
 |.lp _ _ a=> .lp j f a
 |t=>t
def pD (o:List (Nat×List Nat))(p:PT):TC->TC
 |.dr ds _ _=> .dr ds o p
 |t=>t
noncomputable def aF (f:Func)(l:List (Nat×(TC->TC))):TC:=match f.body with
 |some c=>aA l (trC Tryz.prog c) 1
 |none=> .sk
def lbO (j:Nat):TC->Option TC
 |.lp i _ a=>if i==j then some a else lbO j a
 |.sq a b|.cd _ a b=>match lbO j a with
  |some x=>some x
  |none=>lbO j b
 |.bk _ a|.fg _ a|.nw _ _ a|.nf _ _ _ _ a|.fz _ a|.ad _ a|.mv _ a=>lbO j a
 |_=>none
def lb (j:Nat)(t:TC):TC:=(lbO j t).getD .sk
def lps:TC->Option (List (Nat×Fg×TC))
 |.lp j f a=>(lps a).map fun l=>(j,f,a)::l
 |.sq a b|.cd _ a b=>match lps a,lps b with
  |some x,some y=>some (x++y)
  |_,_=>none
 |.bk _ a|.fg _ a|.nw _ _ a|.nf _ _ _ _ a|.fz _ a|.ad _ a|.mv _ a=>lps a
 |.rg _ _ _ _|.rf _ _ _ _ _ _ _ _=>none
 |_=>some []
def Xd (g:G):List (Nat×Fg×TC)->Prop
 | []=>True
 |x::l=>LO g x.2.1 x.2.2 x.1/\Xd g l
theorem QcH {g:G}: ∀ {a b:List (Nat×Fg×TC)},Xd g (a++b)->Xd g a/\Xd g b
 | [],_,h=>⟨trivial,h⟩
 |_::_,_,h=>⟨⟨h.1,(QcH h.2).1⟩,(QcH h.2).2⟩
theorem lok2 {g:G}{a b:TC}{l:List (Nat×Fg×TC)}(ia: ∀ l,lps a=some l->Xd g l->a.lok g)(ib: ∀ l,lps b=some l->Xd g l->b.lok g)
  (h:(match lps a,lps b with|some x,some y=>some (x++y)|_,_=>none)=some l) (k:Xd g l):a.lok g/\b.lok g:=by
 split at h
 · rename_i x y h1 h2
   simp only [Bb] at h
   subst h
   exact ⟨ia _ h1 (QcH k).1,ib _ h2 (QcH k).2⟩
 · cases h
theorem GB {g:G}: ∀ (t:TC) (l:List (Nat×Fg×TC)),lps t=some l->Xd g l->t.lok g
 |.lp j f a,l,h,k=>by
  unfold lps at h
  obtain ⟨l',h1,rfl⟩:=Bf.1 h
  exact ⟨k.1,GB a l' h1 k.2⟩
 |.sq a b,l,h,k=>lok2 (GB a) (GB b) h k
 |.cd _ a b,l,h,k=>lok2 (GB a) (GB b) h k
 |.bk _ a,l,h,k|.fg _ a,l,h,k|.nw _ _ a,l,h,k|.nf _ _ _ _ a,l,h,k|.fz _ a,l,h,k|.ad _ a,l,h,k|.mv _ a,l,h,k=>GB a l h k
 |.rg _ _ _ _,l,h,k=>by cases h
 |.rf _ _ _ _ _ _ _ _,l,h,k=>by cases h
 |.sk,_,_,_|.reg _,_,_,_|.dr _ _ _,_,_,_|.ex _,_,_,_|.rt,_,_,_=>trivial
theorem lkL {g:G}{t:TC}{l:List (Nat×Fg×TC)}(k:Xd g l)(h:lps t=some l:=by kernel_rfl):t.lok g:=GB t l h k
theorem lkn {g:G}:Xd g []:=trivial
theorem lkc {g:G}{f:Fg}{a:TC}{j:Nat}{l:List (Nat×Fg×TC)}(h:LO g f a j)(k:Xd g l):Xd g ((j,f,a)::l):=⟨h,k⟩
def EM (f:FuncId)(e:Ent):Prop:=JE Tryz.prog f/\Qu Tryz.prog f (Qq e)
theorem gD {k:Nat}{e:Ent}{l:List (Nat×Ent)}(h:EM k e)(t:UI l):UI ((k,e)::l):=⟨h,t⟩
theorem gB {n:Nat}{e:List (Nat×Ent)}{L:Nat->VS->Option (Bool×List (Bool×Exit×VS))}(h:UI e):GOk Tryz.prog (gG n e L):=J8 _ (gA h)
theorem mS {k:FuncId}{e:Ent}(g:G)(tc:TC)(rv:List (RV×Option Ty))(ro:Bool)(gk:GOk Tryz.prog g)(hs:Qu Tryz.prog k (Jq g tc rv ro)->Qu Tryz.prog k (Qq e))(lk:tc.lok g:=by exact lkL lkn)
  (hc:Tryz.prog.funcs[k]?.map (fun fn=>(Option.map (trC Tryz.prog) fn.body,Wt Tryz.prog fn.results.toList,fn.name== "runtime.NumGoroutine", fn.ntmps))=some (some tc.er,some (rv.map Prod.fst),false,g.n):=by kernel_rfl) (hlt:k<1000000:=by decide):EM k e:=by
 obtain ⟨fn,hf,hc⟩:=Bf.1 hc
 simp only [Bj] at hc
 refine ⟨.inr ⟨hlt,fn,hf, ?_,hc.2.2.1⟩,hs (mG hf hc.1 hc.2.2.2 hc.2.1 gk lk hlt)⟩
 cases hb:fn.body with
 |none=>rw [hb] at hc;cases hc.1
 |some c=>rfl
end Go.Proofs.YtmjnnemhoeolgaaGreat.K
noncomputable section
namespace Go.Proofs.YtmjnnemhoeolgaaGreat.K
open Go.RowKit
theorem Q2 {y:Ty}{l:List y.T}{j:Nat}(h:j<l.length):lgt y l j=l[j]:=by
 unfold lgt
 rw [Bk,Bh h]
 rfl
theorem Q3 {k:Nat}(h:k<4611686018427387904):Qj .i64 (k:Int) 1=((k+1:Nat):Int):=by
 unfold Qj
 rw [Go.IntWalk.i64_in _ (by omega)]
 rfl
theorem Jn {a b:Int}(h: -9223372036854775808<=a+b/\a+b<=9223372036854775807):Qj .i64 a b=a+b:=Go.IntWalk.i64_in _ h
theorem ZN {a b:Int}(h: -9223372036854775808<=a-b/\a-b<=9223372036854775807):QT .i64 a b=a-b:=Go.IntWalk.i64_in _ h
theorem QS {α:Type}{l:List α}{k:Nat}:cIx l (k:Int)=decide (k<l.length):=by
 unfold cIx
 congr 1
 exact propext ⟨fun h=>by omega,fun h=>by omega⟩
theorem QH {a b:Nat}:ilt (a:Int) (b:Int)=decide (a<b):=by
 unfold ilt
 congr 1
 exact propext ⟨fun h=>by omega,fun h=>by omega⟩
theorem ES {p:Prop}[Decidable p](h:p):decide p=true:=by simp [h]
theorem QvI {p:Prop}[Decidable p](h: ¬ p):decide p=false:=by simp [h]
theorem Q7 {α:Type}(l:List α)(P:Nat->Prop)(h0:P l.length)(hs: ∀ k,k<l.length->P (k+1)->P k): ∀ k,k<=l.length->P k:=by
 intro k hk
 induction hn:l.length-k generalizing k with
 |zero=>
  have:k=l.length:=by omega
  subst this
  exact h0
 |succ n ih=>exact hs k (by omega) (ih (k+1) (by omega) (by omega))
theorem QkP (N:Nat)(P:Nat->Prop)(h0:P N)(hs: ∀ k,k<N->P (k+1)->P k): ∀ k,k<=N->P k:=by
 intro k hk
 induction hn:N-k generalizing k with
 |zero=>
  have:k=N:=by omega
  subst this
  exact h0
 |succ n ih=>exact hs k (by omega) (ih (k+1) (by omega) (by omega))
def XH {α:Type}(l:List α)(i:Int):Bool:=decide (0<=i/\i<=l.length/\l.length<=100000)
def QB {α:Type}(l:List α)(n i:Int):Bool:=decide (n=l.length/\0<=i/\i<=n/\l.length<=100000)
theorem J5 {α:Type}{l:List α}{n i:Int}(h:QB l n i=true):n=l.length/\l.length<=100000∧ ∃ k:Nat,i=k/\k<=l.length:=by
 simp only [QB,Ba] at h
 obtain ⟨h1,h2,h3,h4⟩:=h
 exact ⟨h1,h4,i.toNat,by omega,by omega⟩
theorem J6 {α:Type}{l:List α}(h:l.length<=100000):QB l (Qc l) 0=true:=by
 simp only [QB,Ba,Qc]
 exact ⟨trivial,by omega,by omega,h⟩
theorem QvJ {a b:Nat}:igt (a:Int) (b:Int)=decide (b<a):=by
 unfold igt
 congr 1
 exact propext ⟨fun h=>by omega,fun h=>by omega⟩
theorem QvK {α:Type}{l l2:List α}{b:Nat}(h:l.length+l2.length<=1000000)(hb:b<=1000):QC l l2 b=true:=by
 unfold QC
 rw [Ba]
 calc (l.length+l2.length)*(b+1)<=1000000*1001:=Nat.mul_le_mul h (by omega)
  _<=140737488355328:=by decide
theorem GY {x y:Bool}{l:List VO}(h:x=y):some (V.t .bool x,l)=some (V.t .bool y,l):=by rw [h]
theorem QvL {a b:Int}:ine a b=decide (a≠b):=by
 unfold ine
 simp [bne,Bool.beq_eq_decide_eq]
theorem Ui {a b:Int}:ieq a b=decide (a=b):=by
 unfold ieq
 rw [Bool.beq_eq_decide_eq]
def U0 (l:List Int):Bool:=decide (l.length<=400)
def tc_f7:TC:=aF Tryz.f7 []
def g_f7:G:=gG 6 [] (fun _ _=>none)
def r_f7 (p0:List Int):OV:=some (.t .bool (ile (Qc p0) 400),[])
theorem s_f7 (l:List Int):r_f7 l=some (.t .bool (U0 l),[]):=by
 simp only [r_f7,U0]
 congr 3
 unfold ile Qc
 congr 1
 exact propext ⟨fun h=>by omega,fun h=>by omega⟩
def sp_f7:Ent:=Ql (.pr (.sl tI) .nil) (fun x=>true) (fun x=>(.t .bool (U0 x.1)))
theorem ms_f7:EM 7 sp_f7:=mS g_f7 tc_f7 [((.t 2),some .bool)] false (gB gN) fun m=>Qr m fun x _=>kT (s_f7 x.1)
def U1 (n k:Int):Int:=if k<1 then 0 else n % k
def ET (_n k:Int):Bool:=decide (k.toNat<4611686018427387904)
def tc_f12:TC:=aF Tryz.f12 []
def g_f12:G:=gG 14 [] (fun _ _=>none)
def r_f12 (p0 p1:Int):OV:=br (ilt p1 1) (some (.t tI 0,[])) (br (cNz p1) (br (cNz p1) (some (.t tI (ZP (Qj .i64 (ZP p0 p1) p1) p1),[])) none) none)
theorem s_f12 (n k:Int)(h:ET n k=true):r_f12 n k=some (.t tI (U1 n k),[]):=by
 simp only [ET,Ba] at h
 simp only [r_f12]
 refine Q4 (fun h1=> ?_) (fun h1=> ?_)
 ·have h1:k<1:=by simpa [ilt] using h1
  simp [U1,h1]
 ·have h1: ¬ k<1:=by simpa [ilt] using h1
  have hk:cNz k=true:=by simp [cNz];omega
  simp only [hk,Qd]
  have h3: -k<n.tmod k:=by
   have:=Int.lt_tmod_of_pos n (show 0<k by omega)
   exact this
  have h4:n.tmod k<k:=Int.tmod_lt_of_pos n (by omega)
  have e1:Qj .i64 (ZP n k) k=n.tmod k+k:=Jn (by unfold ZP;omega)
  rw [e1]
  have e2:ZP (n.tmod k+k) k=n % k:=by
   unfold ZP
   rw [Int.tmod_eq_emod_of_nonneg (by omega),Int.add_emod_right,Int.tmod_def]
   exact Int.sub_mul_emod_self_left n k _
  rw [e2]
  simp [U1,h1]
def QkQ:Ent:=Ql (.pr tI (.pr tI .nil)) (fun x=>(ET x.1 x.2.1)) (fun x=>(.t tI (U1 x.1 x.2.1)))
theorem ms_f12:EM 12 QkQ:=mS g_f12 tc_f12 [((.t 4),some tI)] false (gB gN) fun m=>Qr m fun x hok=>kT (s_f12 x.1 x.2.1 hok)
def Xk (l:List Int):Dice:=(l,0,())
def tc_f9:TC:=aF Tryz.f9 []
def rv_f9:List (RV×Option Ty):=[((.t 2),none)]
def g_f9:G:=gG 6 [] (fun _ _=>none)
def r_f9 (p0:List Int):OV:=some (.ptr 50000 0,[.box (.ag [(.t (.sl tI) p0),(.t tI 0)])])
theorem e_f9 (p0:List Int):Jq g_f9 tc_f9 rv_f9 false [.t (.sl tI) p0] []=r_f9 p0:=by kernel_rfl
theorem s_f9 (l:List Int): ∃ c,r_f9 l=some (.ptr 50000 0,[.box c])/\c.as Qs=some (Xk l):=⟨_,rfl,rfl⟩
def sp_f9:Ent:=QeQ Qs (.pr (.sl tI) .nil) (fun x=>true) (fun x=>(Xk x.1))
theorem ms_f9:EM 9 sp_f9:=mS g_f9 tc_f9 rv_f9 false (gB gN) fun m=>Qw7 m rfl fun x _=>(s_f9 x.1).imp fun c h=>⟨(e_f9 x.1).trans h.1,h.2⟩
def Qg (d:Dice)(n:Int):Int:=if d.2.1≥d.1.length then 0 else U1 (d.1.getD d.2.1.toNat 0) n
def Qb (d:Dice)(_n:Int):Dice:=if d.2.1≥d.1.length then d else (d.1,d.2.1+1,())
def dOk (d:Dice):Bool:=decide (0<=d.2.1/\d.1.length<=400)
def Qy (d:Dice)(n:Int):Bool:=dOk d&&decide (n<4611686018427387904)
def tc_f22:TC:=aF Tryz.f22 [(12,pD [(0,[50000]),(1,[50000]),(2,[50000]),(3,[50000]),(4,[50000]),(5,[50000]),(6,[50000]),(7,[50000]),(8,[]),(9,[])] (.of [0,1,2,3,4,5,6,7,8,9])),(30,pD [(0,[50000]),(1,[50000]),(2,[50000]),(3,[50000]),(4,[50000]),(5,[50000]),(6,[50000]),(7,[50000]),(8,[]),(9,[]),(10,[]),(11,[]),(12,[]),(13,[])] (.of [0,1,2,3,4,5,6,7,8,9,10,11,12,13]))]
def g_f22:G:=gG 35 [(12,QkQ)] (fun _ _=>none)
def r_f22 (d0:Dice)(p1:Int):OV:=
 let a1:=QT .i64 (Qj .i64 d0.2.1 1) 1
 let a2:=lgt tI d0.1 (Int.toNat a1)
 br (ige d0.2.1 (Qc d0.1)) (some (.t tI 0,[.box (.t Qs d0)])) (br (cIx d0.1 a1) (br (ET a2 p1) (some (.t tI (U1 a2 p1),[.box (.t Qs (d0.1,((Qj .i64 d0.2.1 1),d0.2.2)))])) none) none)
theorem s_f22 (d:Dice)(n:Int)(h:Qy d n=true):r_f22 d n=some (.t tI (Qg d n),[.box (.t Qs (Qb d n))]):=by
 simp only [Qy,dOk,Bc,Ba] at h
 obtain ⟨⟨h1,h2⟩,h3⟩:=h
 obtain ⟨l,at_,_⟩:=d
 simp only at h1 h2
 obtain ⟨k,rfl⟩: ∃ k:Nat,at_=k:=⟨at_.toNat,by omega⟩
 simp only [r_f22]
 refine Q4 (fun h4=> ?_) (fun h4=> ?_)
 ·have h4:l.length<=k:=by simp [ige,Qc] at h4;omega
  have h5:(k:Int)≥l.length:=by omega
  simp [Qg,Qb,h5]
 ·have h4:k<l.length:=by simp [ige,Qc] at h4;omega
  have h5: ¬ (k:Int)≥l.length:=by omega
  have e1:Qj .i64 (k:Int) 1=((k+1:Nat):Int):=Q3 (by omega)
  have e2:QT .i64 ((k+1:Nat):Int) 1=(k:Int):=by rw [ZN (by omega)];omega
  rw [e1,e2,QS,ES h4,Qd]
  have e3:ET (lgt tI l (Int.toNat (k:Int))) n=true:=Be (by omega)
  rw [e3,Qd]
  simp only [Qg,Qb,h5,Dr]
  rfl
def Xl:Ent:=Yg Qs (.pr tI .nil) (fun d x=>(Qy d x.1)) (fun d x=>(.t tI (Qg d x.1))) (fun d x=>(Qb d x.1))
theorem XI:EM 22 Xl:=mS g_f22 tc_f22 [((.t 4),some tI)] false (gB (gD ms_f12 gN)) fun m=>YZ m rfl fun d x hok=>kT (s_f22 d x.1 hok)
def done (d:Dice)(n:Int):Bool:=Qg d n==n-1
def Jy (d:Dice)(n:Int):Bool:=Qy d n&&decide (0<=n)
def tc_f37:TC:=aF Tryz.f37 []
def g_f37:G:=gG 11 [(22,Xl)] (fun _ _=>none)
def r_f37 (d0:Dice)(p1:Int):OV:=br (Qy d0 p1) (some (.t .bool (ieq (Qg d0 p1) (QT .i64 p1 1)),[.box (.t Qs (Qb d0 p1))])) none
theorem s_f37 (d:Dice)(n:Int)(h:Jy d n=true):r_f37 d n=some (.t .bool (done d n),[.box (.t Qs (Qb d n))]):=by
 simp only [Jy,Bc,Ba] at h
 simp only [r_f37]
 rw [h.1,Qd]
 have h2:=h.1
 simp only [Qy,Bc,Ba] at h2
 rw [ZN (by omega)]
 rfl
def EU:Ent:=Yg Qs (.pr tI .nil) (fun d x=>(Jy d x.1)) (fun d x=>(.t .bool (done d x.1))) (fun d x=>(Qb d x.1))
theorem Vt:EM 37 EU:=mS g_f37 tc_f37 [((.t 4),some .bool)] false (gB (gD XI gN)) fun m=>YZ m rfl fun d x hok=>kT (s_f37 d x.1 hok)
def dof (d:Dice)(l:List Int):Int:=l.getD (Qg d l.length).toNat 0
def Qk (d:Dice)(l:List Int):Dice:=Qb d l.length
def QM (d:Dice)(l:List Int):Bool:=dOk d&&decide (0<l.length/\l.length<4611686018427387904)
def tc_f26:TC:=aF Tryz.f26 []
def g_f26:G:=gG 12 [(22,Xl)] (fun _ _=>none)
def r_f26 (d0:Dice)(p1:List Int):OV:=br (Qy d0 (Qc p1)) (br (cIx p1 (Qg d0 (Qc p1))) (some (.t tI (lgt tI p1 (Int.toNat (Qg d0 (Qc p1)))),[.box (.t Qs (Qb d0 (Qc p1)))])) none) none
theorem Je {d:Dice}{n:Int}(h:0<n):0<=Qg d n/\Qg d n<n:=by
 unfold Qg
 split
 ·omega
 ·unfold U1
  rw [if_neg (by omega)]
  exact ⟨Int.emod_nonneg _ (by omega),Int.emod_lt_of_pos _ (by omega)⟩
theorem s_f26 (d:Dice)(l:List Int)(h:QM d l=true):r_f26 d l=some (.t tI (dof d l),[.box (.t Qs (Qk d l))]):=by
 simp only [QM,Bc,Ba] at h
 obtain ⟨h1,h2,h3⟩:=h
 simp only [r_f26]
 have e1:Qy d (Qc l)=true:=by simp only [Qy,h1,Qc,BH,Ba];omega
 rw [e1,Qd]
 have h4:=Je (d:=d) (n:=Qc l) (by unfold Qc;omega)
 have e2:cIx l (Qg d (Qc l))=true:=by simp only [cIx,Ba];exact h4
 rw [e2,Qd]
 rfl
def Wl:Ent:=Yg Qs (.pr (.sl tI) .nil) (fun d x=>(QM d x.1)) (fun d x=>(.t tI (dof d x.1))) (fun d x=>(Qk d x.1))
theorem Uj:EM 26 Wl:=mS g_f26 tc_f26 [((.t 4),some tI)] false (gB (gD XI gN)) fun m=>YZ m rfl fun d x hok=>kT (s_f26 d x.1 hok)
theorem Qv {d:Dice}{n:Int}(h:dOk d=true):dOk (Qb d n)=true:=by
 simp only [dOk,Ba] at h ⊢
 unfold Qb
 split
 ·exact h
 ·exact ⟨by simp only;omega,h.2⟩
theorem QvM {l:List Int}(h:U0 l=true):dOk (Xk l)=true:=by
 simp only [U0,Ba] at h
 simp [dOk,Xk,h]
def Uk (l:List SV)(bs:List Ty)(yr:Ty)(ok:YG bs->Bool)(f:YG bs->List yr.T):Itr:=fun caps objs=>
 match Ga l caps,Zn bs objs with
 |some _,some d=>some (ok d,⟨yr,f d⟩)
 |_,_=>none
end Go.Proofs.YtmjnnemhoeolgaaGreat.K
noncomputable section
namespace Go.Proofs
open Go.Shelf
def Tryz.lays189_ren:Go.Shelf.Ren:=⟨fun|189=>170|125=>203|257=>202|128=>224|129=>225|294=>215|295=>216|296=>217|297=>218|298=>219|299=>220|216=>221|300=>222|301=>223|328=>231|329=>232|330=>233|331=>234|332=>235|215=>236|343=>241|n=>n,fun|28=>22|3=>3|46=>271|0=>0|51=>227|53=>290|4=>4|183=>282|182=>281|131=>176|5=>5|9=>9|218=>293|222=>297|228=>300|229=>232|n=>n,fun|n=>n⟩
theorem Tryz.lays189:Go.Proofs.Lays.n189 Tryz.prog Tryz.lays189_ren:={
 mixed:=by kernel_rfl
 f125:=Tryz.func203.trans (congrArg some (by kernel_rfl))
 f128:=Tryz.func224.trans (congrArg some (by kernel_rfl))
 f129:=Tryz.func225.trans (congrArg some (by kernel_rfl))
 f189:=Tryz.func170.trans (congrArg some (by kernel_rfl))
 f215:=Tryz.func236.trans (congrArg some (by kernel_rfl))
 f216:=Tryz.func221.trans (congrArg some (by kernel_rfl))
 f257:=Tryz.func202.trans (congrArg some (by kernel_rfl))
 f294:=Tryz.func215.trans (congrArg some (by kernel_rfl))
 f295:=Tryz.func216.trans (congrArg some (by kernel_rfl))
 f296:=Tryz.func217.trans (congrArg some (by kernel_rfl))
 f297:=Tryz.func218.trans (congrArg some (by kernel_rfl))
 f298:=Tryz.func219.trans (congrArg some (by kernel_rfl))
 f299:=Tryz.func220.trans (congrArg some (by kernel_rfl))
 f300:=Tryz.func222.trans (congrArg some (by kernel_rfl))
 f301:=Tryz.func223.trans (congrArg some (by kernel_rfl))
 f328:=Tryz.func231.trans (congrArg some (by kernel_rfl))
 f329:=Tryz.func232.trans (congrArg some (by kernel_rfl))
 f330:=Tryz.func233.trans (congrArg some (by kernel_rfl))
 f331:=Tryz.func234.trans (congrArg some (by kernel_rfl))
 f332:=Tryz.func235.trans (congrArg some (by kernel_rfl))
 f343:=Tryz.func241.trans (congrArg some (by kernel_rfl))
 t0:=Tryz.underlying0
 a0:=Tryz.isAgg0
 z0:=Tryz.sizeOf0
 v0:=Tryz.zeroValue0
 t3:=Tryz.underlying3
 a3:=Tryz.isAgg3
 z3:=Tryz.sizeOf3
 v3:=Tryz.zeroValue3
 t4:=Tryz.underlying4
 a4:=Tryz.isAgg4
 z4:=Tryz.sizeOf4
 v4:=Tryz.zeroValue4
 t5:=Tryz.underlying5
 a5:=Tryz.isAgg5
 z5:=Tryz.sizeOf5
 v5:=Tryz.zeroValue5
 t9:=Tryz.underlying9
 a9:=Tryz.isAgg9
 z9:=Tryz.sizeOf9
 v9:=Tryz.zeroValue9
 t28:=Tryz.underlying22
 a28:=Tryz.isAgg22
 z28:=Tryz.sizeOf22
 v28:=Tryz.zeroValue22
 t46:=Tryz.underlying271
 a46:=Tryz.isAgg271
 z46:=Tryz.sizeOf271
 v46:=Tryz.zeroValue271
 t51:=Tryz.underlying227
 a51:=Tryz.isAgg227
 z51:=Tryz.sizeOf227
 v51:=Tryz.zeroValue227
 t53:=Tryz.underlying290
 a53:=Tryz.isAgg290
 z53:=Tryz.sizeOf290
 v53:=Tryz.zeroValue290
 t131:=Tryz.underlying176
 a131:=Tryz.isAgg176
 z131:=Tryz.sizeOf176
 v131:=Tryz.zeroValue176
 t182:=Tryz.underlying281
 a182:=Tryz.isAgg281
 z182:=Tryz.sizeOf281
 v182:=Tryz.zeroValue281
 t183:=Tryz.underlying282
 a183:=Tryz.isAgg282
 z183:=Tryz.sizeOf282
 v183:=Tryz.zeroValue282
 t218:=Tryz.underlying293
 a218:=Tryz.isAgg293
 z218:=Tryz.sizeOf293
 v218:=Tryz.zeroValue293
 t222:=Tryz.underlying297
 a222:=Tryz.isAgg297
 z222:=Tryz.sizeOf297
 v222:=Tryz.zeroValue297
 t228:=Tryz.underlying300
 a228:=Tryz.isAgg300
 z228:=Tryz.sizeOf300
 v228:=Tryz.zeroValue300
 t229:=Tryz.underlying232
 a229:=Tryz.isAgg232
 z229:=Tryz.sizeOf232
 v229:=Tryz.zeroValue232}
end Go.Proofs
namespace Go.Proofs.YtmjnnemhoeolgaaGreat.K
open Go.RowKit Go.Shelf
def QnY:Ent:=Wy [.ms 50000] [.arr 3 tI] (fun _ y=>(V7 y.1)) (fun _ _=> .tu []) (fun _ y=>[.arr 3 tI (ZG y.1)])
theorem Qzv:JE Tryz.prog 170:= .inr ⟨by decide,_,Tryz.func170,by kernel_rfl,by kernel_rfl⟩
theorem Qzw:Qu Tryz.prog 170 (Qq QnY):=
 Qxk (by decide) (Any.slices_Sort_int Tryz.lays189) (Any.slices_Sort_int_none Tryz.lays189)
end Go.Proofs.YtmjnnemhoeolgaaGreat.K
