import Derived.Test.YthlcobdnemhcdaaGreatW2
import Derived.WalkKit
import Derived.ProofKit
import Derived.OpenShut
import Derived.ShutString
import Derived.ChangeOld
import Derived.Below
import Derived.Deep.Slices
import Derived.Deep.Fields
import Derived.Laws.BytesString
import Derived.Sort.OwnSortedInts
import Derived.Lib.SlicesCompact
import Derived.Test.YthlcobdnemhcdaaGreatProg
import Derived.KernelRfl
import Derived.IntWalk
import Derived.Shelf.Sort.Plain
import Derived.Ground.NamesProg
import Derived.Ground.Names2Prog
import Derived.Shelf.Slices.In.SortNone
import Derived.Shelf.Slices.CompactI
set_option linter.unusedSimpArgs false
set_option linter.unusedVariables false
noncomputable section
/-
 A run through a function's text:what it makes,the program's function makes.
-/
namespace Go.Proofs.YthlcobdnemhcdaaGreat.K
open Go.RowKit
section
variable {P:Program}{B:Base}{X X':Nat->Nat->Prop}{w w':World}{σ σ':Pl}{n:Nat}{S:VS}{us:List Value}
theorem QMb {g:G}(hg:GOk P g)(hm:P.follows .mixedOrders=true): ∀ (tc:TC) {B:Base} {ro:Option Nat} {β:Type} {S:VS} {K:Exit->VS->Option β} {r:β},ro=none∨tc.nrf=true->tc.lok g->ev g tc S K=some r->JV P B g.n ro (fun e S'=>K e S'=some r) tc.er S:=by
 intro tc
 induction tc with
 |sk=>
  intro B ro β S K r hro lk h c hc nn X w σ us ms ha
  cases c with
  |skip=>exact wpIn_skip ⟨S,X,σ,us,ms,ha,rfl,h⟩
  |region id ops d=>cases d<;>simp [trC,TC.er] at hc
  |cond x a b=>simp only [trC,TC.er] at hc;split at hc<;>cases hc
  |rangeFunc x p a b=>simp only [trC,TC.er] at hc;split at hc<;>cases hc
  |_=>simp [trC,TC.er] at hc
 |rt=>
  intro B ro β S K r hro lk h c hc nn X w σ us ms ha
  cases c with
  |ret=>exact wpIn_ret ⟨S,X,σ,us,ms,ha,rfl,h⟩
  |region id ops d=>cases d<;>simp [trC,TC.er] at hc
  |cond x a b=>simp only [trC,TC.er] at hc;split at hc<;>cases hc
  |rangeFunc x p a b=>simp only [trC,TC.er] at hc;split at hc<;>cases hc
  |_=>simp [trC,TC.er] at hc
 |ex id=>
  intro B ro β S K r hro lk h c hc nn X w σ us ms ha
  cases c with
  |exit i=>
   simp only [trC,TC.er,AC.ex.injEq] at hc
   subst hc
   exact wpIn_exit ⟨S,X,σ,us,ms,ha,rfl,h⟩
  |region id ops d=>cases d<;>simp [trC,TC.er] at hc
  |cond x a b=>simp only [trC,TC.er] at hc;split at hc<;>cases hc
  |rangeFunc x p a b=>simp only [trC,TC.er] at hc;split at hc<;>cases hc
  |_=>simp [trC,TC.er] at hc
 |reg rs=>
  intro B ro β S K r hro lk h c hc nn X w σ us ms ha
  cases c with
  |region id ops d=>
   cases d with
   |true=>simp [trC,TC.er] at hc
   |false=>
    simp only [trC,TC.er,AC.reg.injEq] at hc
    refine wpIn_region_list ?_
    exact Qq8 hg h hc ha fun S' X' w' σ' us' ha' hk=>⟨S',X',σ',us',ms,ha',rfl,hk⟩
  |cond x a b=>simp only [trC,TC.er] at hc;split at hc<;>cases hc
  |rangeFunc x p a b=>simp only [trC,TC.er] at hc;split at hc<;>cases hc
  |_=>simp [trC,TC.er] at hc
 |dr ds os t=>
  intro B ro β S K r _ _ h
  exact QTN hg hm h fun S' hk=>hk
 |sq a b iha ihb=>
  intro B ro β S K r hro lk h c hc nn X w σ us ms ha
  cases c with
  |seq x y=>
   simp only [trC,TC.er,AC.sq.injEq] at hc
   refine wpIn_seq (wpIn_mono (iha (hro.imp_right fun q=>(Bf.1 q).1) lk.1 h x hc.1 nn X w σ us ms ha) ?_)
   rintro e a' w' ⟨S',X',σ',us',ms',h1,rfl,h4⟩
   cases e with
   |normal=>exact ihb (hro.imp_right fun q=>(Bf.1 q).2) lk.2 h4 y hc.2 nn X' w' σ' us' ms' h1
   |_=>exact ⟨S',X',σ',us',ms',h1,rfl,h4⟩
  |region id ops d=>cases d<;>simp [trC,TC.er] at hc
  |cond x a b=>simp only [trC,TC.er] at hc;split at hc<;>cases hc
  |rangeFunc x p a b=>simp only [trC,TC.er] at hc;split at hc<;>cases hc
  |_=>simp [trC,TC.er] at hc
 |cd x a b iha ihb=>
  intro B ro β S K r hro lk h c hc nn X w σ us ms ha
  cases c with
  |cond o p q=>
   simp only [trC,TC.er] at hc
   split at hc
   ·rename_i x' hx
    simp only [AC.cd.injEq] at hc
    obtain ⟨rfl,h2,h3⟩:=hc
    simp only [ev] at h
    split at h
    ·rename_i t ht
     have hu:=Ze hx (by rw [ht];rfl) ha.rel
     rw [ht] at hu
     have hu:=(C.v hu).1
     rcases UV h with ⟨rfl,h⟩|⟨rfl,h⟩
     ·exact wpIn_cond_true hu (iha (hro.imp_right fun q=>(Bf.1 q).1) lk.1 h p h2 nn X w σ us ms ha)
     ·exact wpIn_cond_false hu (ihb (hro.imp_right fun q=>(Bf.1 q).2) lk.2 h q h3 nn X w σ us ms ha)
    ·cases h
   ·cases hc
  |region id ops d=>cases d<;>simp [trC,TC.er] at hc
  |rangeFunc x p a b=>simp only [trC,TC.er] at hc;split at hc<;>cases hc
  |_=>simp [trC,TC.er] at hc
 |bk id a iha=>
  intro B ro β S K r hro lk h c hc nn X w σ us ms ha
  cases c with
  |block i x=>
   simp only [trC,TC.er,AC.bk.injEq] at hc
   obtain ⟨rfl,hc⟩:=hc
   refine wpIn_block (wpIn_mono (iha hro lk h x hc nn X w σ us ms ha) ?_)
   rintro e a' w' ⟨S',X',σ',us',ms',h1,rfl,h4⟩
   cases e with
   |exit j=>
    simp only [Exit.inBlock]
    simp only at h4
    split at h4
    ·rename_i hj
     rw [if_pos hj]
     exact ⟨S',X',σ',us',ms',h1,rfl,h4⟩
    ·rename_i hj
     rw [if_neg hj]
     exact ⟨S',X',σ',us',ms',h1,rfl,h4⟩
   |_=>exact ⟨S',X',σ',us',ms',h1,rfl,h4⟩
  |region id ops d=>cases d<;>simp [trC,TC.er] at hc
  |cond x a b=>simp only [trC,TC.er] at hc;split at hc<;>cases hc
  |rangeFunc x p a b=>simp only [trC,TC.er] at hc;split at hc<;>cases hc
  |_=>simp [trC,TC.er] at hc
 |lp j f a iha=>
  intro B ro β S K r hro lk h c hc nn X w σ us ms ha
  cases c with
  |loop x=>
   simp only [trC,TC.er,AC.lp.injEq] at hc
   simp only [ev] at h
   split at h
   ·rename_i q l hL
    obtain ⟨rfl,h⟩:=Zd h
    obtain ⟨e1,S1,hp,h⟩:=Qh4 h
    have hl:=lk.1 S l (e1,S1) hL hp
    obtain ⟨m,hn⟩:=FU.1 hl
    refine wpIn_mono (Q:=Qq5 B g.n (fun e S'=>(e,S')=(e1,S1))) ?_ ?_
    ·refine QTf (fun m a' w'=> ∃ S X' σ' us' ms',a'=⟨us'.toArray,mks ms'⟩/\At (B.mk' ms') X' w' σ' g.n S us'/\Xi (QA g f a) m S=some (e1,S1)) ?_ m _ _ ⟨S,X,σ,us,ms,rfl,ha,hn⟩
     rintro m a' w' ⟨S0,X',σ',us',ms',rfl,ha',hm'⟩
     cases m with
     |zero=>cases hm'
     |succ m=>
      simp only [Xi] at hm'
      split at hm'
      ·rename_i S2 hb
       refine wpIn_mono (iha hro lk.2 hb x hc nn X' w' σ' us' ms' (ha'.fgt f)) ?_
       rintro e a2 w2 ⟨S3,X2,σ2,us2,ms2,k1,rfl,k3⟩
       cases e with
       |normal=>
        simp only [Qb2,Bd,Bp,true_and] at k3
        subst k3
        exact ⟨m,by omega,_,X2,σ2,us2,ms2,rfl,k1.fgt f,hm'⟩
       |_=>simp [Qb2] at k3
      ·rename_i hne
       refine wpIn_mono (iha hro lk.2 hm' x hc nn X' w' σ' us' ms' (ha'.fgt f)) ?_
       rintro e a2 w2 ⟨S3,X2,σ2,us2,ms2,k1,rfl,k3⟩
       cases e with
       |normal=>
        simp only [Qb2,Bd,Bp] at k3
        obtain ⟨rfl,rfl⟩:=k3
        exact absurd hm' (hne _)
       |_=>
        simp only [Qb2,Bd,Bp] at k3
        obtain ⟨rfl,rfl⟩:=k3
        exact ⟨S3,X2,σ2,us2,ms2,k1,rfl,rfl⟩
    ·rintro e a' w' ⟨S',X',σ',us',ms',h1,rfl,h3⟩
     injection h3 with h4 h5
     subst h4 h5
     exact ⟨S',X',σ',us',ms',h1,rfl,h⟩
   ·cases h
  |region id ops d=>cases d<;>simp [trC,TC.er] at hc
  |cond x a b=>simp only [trC,TC.er] at hc;split at hc<;>cases hc
  |rangeFunc x p a b=>simp only [trC,TC.er] at hc;split at hc<;>cases hc
  |_=>simp [trC,TC.er] at hc
 |fg f a iha=>
  intro B ro β S K r hro lk h c hc nn X w σ us ms ha
  exact iha hro lk h c hc nn X w σ us ms (ha.fgt f)
 |nw s e a iha=>
  intro B ro β S K r hro lk h c hc nn X w σ us ms ha
  obtain ⟨S',σ',h1,h2⟩:=QTi h ha
  exact iha hro lk h1 c hc nn X w σ' us ms h2
 |nf j i e k a iha=>
  intro B ro β S K r hro lk h c hc nn X w σ us ms ha
  obtain ⟨S',σ',h1,h2⟩:=QTl h ha
  exact iha hro lk h1 c hc nn X w σ' us ms h2
 |fz ks a iha=>
  intro B ro β S K r hro lk h c hc nn X w σ us ms ha
  obtain ⟨X',h1,_⟩:=ha.fzs ks
  exact iha hro lk h c hc nn X' w σ us ms h1
 |ad l a iha=>
  intro B ro β S K r hro lk h c hc nn X w σ us ms ha
  obtain ⟨σ',h1⟩:=ha.mvks l
  exact iha hro lk h c hc nn X w σ' us ms h1
 |mv l a iha=>
  intro B ro β S K r hro lk h c hc nn X w σ us ms ha
  refine wpIn_mono (iha hro lk h c hc nn X w σ us ms ha) ?_
  rintro e a' w' ⟨S',X',σ',us',ms',h1,rfl,h4⟩
  cases e with
  |normal=>
   obtain ⟨X2,S2,σ2,h4,h2⟩:=QTk h4 h1
   exact ⟨S2,X2,σ2,us',ms',h2,rfl,h4⟩
  |_=>exact ⟨S',X',σ',us',ms',h1,rfl,h4⟩
 |rg j f f2 a iha=>
  intro B ro β S K r hro lk h c hc nn X w σ us ms ha
  simp only [ev] at h
  split at h
  ·rename_i q l hL
   obtain ⟨rfl,h⟩:=Zd h
   obtain ⟨e1,S1,hp,h⟩:=Qh4 h
   have hl:=lk.1 S l (e1,S1) hL hp
   refine wpIn_mono (iha hro lk.2 hl c hc nn X w σ us ms (ha.fgt f)) ?_
   rintro e a' w' ⟨S',X',σ',us',ms',h1,rfl,h3⟩
   simp only [Bd,Bp] at h3
   obtain ⟨rfl,rfl⟩:=h3
   exact ⟨_,X',σ',us',ms',h1.fgt f2,rfl,h⟩
  ·cases h
 |rf j f x yr ps pr a b iha ihb=>
  intro B ro β S K r hro lk h c hc nn X w σ us ms ha
  rcases hro with rfl|hro
  ·exact QTW hg iha ihb lk h c hc nn X w σ us ms ha
  ·cases hro
end
inductive RV where
 |t (i:Nat)
 |c (i:Nat) (agg:Bool) (n:Nat)
def trV (P:Program):ResultVar->Option RV
 |.tmp t=>some (.t t)
 |.cell a t=>match P.underlying t,P.info? t with
  |some d,some inf=>some (.c a (isRow d) inf.size)
  |_,_=>none
def XV (P:Program):List ResultVar->Option (List RV)
 | []=>some []
 |r::l=>match trV P r,XV P l with
  |some a,some b=>some (a::b)
  |_,_=>none
section
variable {β:Type}
def RV.run (S:VS)(K:V->Option β):RV->Option β
 |.t i=>nz (S.ts i) K
 |.c i agg n=>match S.ts i with
  |.ptr j o=>match S.st j with
   |.box z=>match z.sub true o n agg with
    |some v=>nz v K
    |none=>none
   |_=>none
  |_=>none
def castR (t:Option Ty)(v:V)(K:V->Option β):Option β:=
 match t with
 |none=>K v
 |some y=>match v.as y with
  |some x=>K (.t y x)
  |none=>none
def IT (S:VS):List (RV×Option Ty)->(List V->Option β)->Option β
 | [],K=>K []
 |r::l,K=>r.1.run S fun v=>castR r.2 v fun v=>IT S l fun vs=>K (v::vs)
end
def IU:List V->V
 | [v]=>v
 |vs=> .tu vs
def exs (vs:List V):List Nat:=((V.refss vs).filter fun k=>decide (k<50000)).eraseDups
def exr (es:List Nat)(m k:Nat):Nat:=if 50000<=k then k else 50000+m+es.idxOf k
def retOk (S:VS)(m:Nat)(es:List Nat)(vs:List V):Bool:=
 decide es.Nodup&&(((V.refss vs).all fun k=>decide (50000<=k/\k<50000+m)||es.contains k)&&((es.all fun k=>decide (k<50000)&&((match S.st k with|.no=>false|_=>true)&&(S.st k).refs.isEmpty))&&
  (List.range m).all fun j=>(S.st (50000+j)).refs.all fun k=>decide (50000<=k/\k<50000+m)))
def Qez (S:VS)(m:Nat)(es:List Nat)(vs:List V):Option (V×List VO):=
 if retOk S m es vs=true then some ((IU vs).ren (exr es m),((List.range m).map fun j=>S.st (50000+j))++es.map fun k=>S.st k) else none
def QeA (rv:List (RV×Option Ty))(ro:Bool)(m:Nat)(S:VS):Option (V×List VO):=
 IT S (rv.map fun r=>(r.1,none)) fun vs=>if ro=true then Qez S m (exs vs) vs else IT (S.fzs (V.msss vs)) rv fun vs'=>Qez (S.fzs (V.msss vs)) m (exs vs') vs'
def Eo:Nat->List V->List (Nat×V)
 |_,[]=>[]
 |i,v::r=>(i,v)::Eo (i+1) r
def Xw:Nat->List VO->List (Nat×VO)
 |_,[]=>[]
 |i,v::r=>(i,v)::Xw (i+1) r
def inS (args:List V)(objs:List VO):VS:=⟨YT (Eo 0 args),Yi (Xw 50000 objs),(Xw 50000 objs).map Prod.fst⟩
def QS (g:G)(tc:TC)(rv:List (RV×Option Ty))(ro:Bool):Fun:=fun args objs=>
 if args.length<=g.n then ev g tc (inS args objs) fun e S=>match e with
  |.ret=>QeA rv ro objs.length S
  |.normal=>QeA rv ro objs.length S
  |_=>none
 else none
section
variable {P:Program}{B:Base}{X X':Nat->Nat->Prop}{w w':World}{σ σ':Pl}{n:Nat}{S:VS}{us:List Value}
def Ep (us:List Value):ResultVar->Sem Value
 |.tmp t=>pure (us.toArray.getD t undef)
 |.cell a t=>do loadVar t (←asAddr (us.toArray.getD a undef))
theorem QMc {β:Type}{K:V->Option β}{x:β}{r:ResultVar}{rv:RV}(ht:trV P r=some rv)(he:rv.run S K=some x): ∃ v,K v=some x∧ ∀ {B:Base} {X:Nat->Nat->Prop} {w:World} {σ:Pl} {n:Nat} {us:List Value},At B X w σ n S us→ ∃ u,C X w σ v.d u/\(Ep us r).run P w= .ok u w:=by
 cases r with
 |tmp t=>
  simp only [trV,Bd] at ht
  subst ht
  obtain ⟨h1,h2⟩:=UZ he
  refine ⟨_,h2,fun {B X w σ n us} ha=>⟨_,Ze (o:= .tmp t) (x:= .t t) rfl h1 ha.rel, ?_⟩⟩
  simp [Act.eval,Ep]
 |cell a t=>
  simp only [trV] at ht
  split at ht
  ·rename_i dd inf hd hin
   simp only [Bd] at ht
   subst ht
   simp only [RV.run] at he
   split at he
   ·rename_i j o hx
    split at he
    ·rename_i c hst
     split at he
     ·rename_i v hs
      obtain ⟨h1,h2⟩:=UZ he
      refine ⟨v,h2,fun {B X w σ n us} ha=> ?_⟩
      have k1:=Ze (o:= .tmp a) (x:= .t a) rfl (by simp only [AX.xv,hx];rfl) ha.rel
      simp only [AX.xv,hx,V.d,C] at k1
      obtain ⟨b,e1,e2⟩:=k1
      have hat:=ha.ti.obj j
      rw [hst] at hat
      obtain ⟨b',ty,vs,g1,g2,g3,g4⟩:=hat
      rw [g1] at e1
      injection e1 with e1
      subst e1
      obtain ⟨s1,s2⟩:=V.sub_spec hs
      have hl:=g3.len
      obtain ⟨u,q1,q2⟩:=QDv (P:=P) (b:=b') (off:=o) (vs:=vs.drop o) (ds:=c.d.cells.drop o) (d:=v.d) hd hin (g3.drop_ _) (fun i u hu=>by
       rw [Dl] at hu
       rw [cell_of_row w b' (o+i) vs.toArray ty (0,0) g2]
       simpa using hu) (fun ha=>by
        obtain ⟨t1,t2⟩:=s1 ha
        exact ⟨t1,by rw [Dr];omega⟩) (fun ha=>by
        rw [Dl]
        exact s2 ha)
      refine ⟨u,q2, ?_⟩
      simp only [Act.eval] at e2
      simp only [Ep,Sem.run_bind,e2,asAddr,Sem.run_pure,Result.andThen_ok,q1]
     ·cases he
    ·cases he
   ·cases he
  ·cases ht
theorem QmH {β:Type}{x:β}: ∀ {rs:List ResultVar} {rv:List (RV×Option Ty)} {K:List V->Option β},XV P rs=some (rv.map Prod.fst)->IT S rv K=some x→ ∃ vs,K vs=some x∧ ∀ {B:Base} {X:Nat->Nat->Prop} {w:World} {σ:Pl} {n:Nat} {us:List Value},At B X w σ n S us→
  ∃ xs,Cs X w σ (V.ds vs) xs/\(rs.mapM (Ep us)).run P w= .ok xs w
 | [],rv,K,ht,he=>by
  simp only [XV,Bd] at ht
  have:rv=[]:=List.map_eq_nil_iff.1 ht.symm
  subst this
  exact ⟨[],he,fun _=>⟨[],by simp [V.ds,Cs],by simp⟩⟩
 |r::rs,rv,K,ht,he=>by
  simp only [XV] at ht
  split at ht
  ·rename_i a b ha hb
   simp only [Bd] at ht
   cases rv with
   |nil=>cases ht
   |cons q rv=>
    simp only [BP,List.cons.injEq] at ht
    obtain ⟨rfl,rfl⟩:=ht
    simp only [IT] at he
    obtain ⟨v0,h0,h2⟩:=QMc ha he
    have hcast: ∃ v,IT S rv (fun vs=>K (v::vs))=some x∧ ∀ {X:Nat->Nat->Prop} {w:World} {σ:Pl} {u:Value},C X w σ v0.d u->C X w σ v.d u:=by
     unfold castR at h0
     split at h0
     ·exact ⟨v0,h0,fun h=>h⟩
     ·split at h0
      ·rename_i y z hz
       exact ⟨_,h0,fun h=>C.up _ _ (V.as_spec hz h)⟩
      ·cases h0
    obtain ⟨v,h1,hcv⟩:=hcast
    obtain ⟨vs,h3,h4⟩:=QmH hb h1
    refine ⟨v::vs,h3,fun {B X w σ n us} hat=> ?_⟩
    obtain ⟨u,q1,q2⟩:=h2 hat
    obtain ⟨xs,q3,q4⟩:=h4 hat
    refine ⟨u::xs,by simp only [V.ds];exact Cs.cons (hcv q1) q3, ?_⟩
    rw [List.mapM_cons]
    simp only [Sem.run_bind,q2,q4,Result.andThen_ok,Sem.run_pure]
  ·cases ht
theorem QxD {fn:Func}{vs:List V}{xs:List Value}(hc:Cs X w σ (V.ds vs) xs)(h:(fn.results.toList.mapM (Ep us)).run P w= .ok xs w): ∃ u,C X w σ (IU vs).d u/\(results fn us.toArray).run P w= .ok u w:=by
 have hm:(fn.results.mapM (Ep us)).run P w= .ok xs.toArray w:=by
  rw [Array.mapM_eq_mapM_toList]
  rw [map_eq_pure_bind,Sem.run_bind,h]
  rfl
 have hf:results fn us.toArray=(do let vs ← fn.results.mapM (Ep us);pure (if h:vs.size=1 then vs[0] else .tuple vs)):=by
  unfold results
  congr 1
 rw [hf,Sem.run_bind,hm]
 have hlen:=hc.len
 rw [V.ds_eq,BT] at hlen
 unfold IU
 split
 ·rename_i v
  simp only [V.ds] at hc
  obtain ⟨u,rfl,hu⟩:=hc.one
  exact ⟨u,hu,by simp⟩
 ·rename_i hne
  have h0:xs.toArray.size≠1:=by
   intro h
   rcases vs with _|⟨d,_|⟨d2,r⟩⟩
   ·simp at hlen;simp [hlen] at h
   ·exact hne d rfl
   ·simp at hlen h;omega
  refine ⟨.tuple xs.toArray,by simp only [V.d,C];exact ⟨xs,rfl,hc⟩, ?_⟩
  simp only [Result.andThen_ok,dif_neg h0,Sem.run_pure]
theorem OAt.pl {k k':Nat}{o:VO}(h:OAt X w σ k o)(hk:σ' k'=σ k)(hr: ∀ r∈o.refs,σ' r=σ r):OAt X w σ' k' o:=by
 cases o with
 |no=>trivial
 |box v=>
  obtain ⟨b,ty,vs,h1,h2,h3,h4⟩:=h
  exact ⟨b,ty,vs,hk.trans h1,h2,Cs.ext (Ext.refl X w) _ _ (fun r hr'=>hr r (by rw [V.refs_dcells] at hr';exact hr')) h3,h4⟩
 |arr e y l=>
  obtain ⟨u,xs,h1,h2⟩:=h
  exact ⟨u,xs,hk.trans h1,h2⟩
theorem QMd (vs:List V):(IU vs).refs=V.refss vs:=by
 unfold IU
 split
 ·simp [V.refss]
 ·rfl
theorem QxE {σ0:Pl}{m:Nat}{es:List Nat}{vs:List V}{rv:V}{os:List VO}{u:Value}{X0 X1:Nat->Nat->Prop}{w0 w1:World}(h:Qez S m es vs=some (rv,os))(ha:At ⟨X0,w0,Xg σ0 m,σ0,[],X1,w1⟩ X w σ n S us)(hu:C X w σ (IU vs).d u):
  ∃ σ',C X w σ' rv.d u/\Ends X0 w0 σ0 m X w σ' os:=by
 unfold Qez at h
 split at h
 ·rename_i hok
  simp only [Bd,Bp] at h
  obtain ⟨rfl,rfl⟩:=h
  simp only [retOk,Bc,Ba,Bi,Dm,BO,DW,Dg] at hok
  obtain ⟨k1,k2,k3,k4⟩:=hok
  let τ:Pl:=fun k=>if 50000+m<=k/\k-50000-m<es.length then σ (es.getD (k-50000-m) 0) else σ k
  have τ0: ∀ k,k<50000+m->τ k=σ k:=fun k hk=>if_neg (by omega)
  have τ1: ∀ (i:Nat) k,es[i]? = some k->τ (50000+m+i)=σ k:=by
   intro i k hi
   have hlt:=(BJ.1 hi).1
   have e1:50000+m+i-50000-m=i:=by omega
   simp only [τ,e1]
   rw [if_pos ⟨by omega,hlt⟩,Bt,hi]
   rfl
  have live1: ∀ k∈es,S.st k≠ .no:=fun k hk hn=>by have:=(k3 k hk).2.1;rw [hn] at this;cases this
  have hlen:(((List.range m).map fun j=>S.st (50000+j))++es.map fun k=>S.st k).length=m+es.length:=by simp
  -- the number of a thing that is handed out
  have src: ∀ j,j<m+es.length→ ∃ k,(((List.range m).map fun j=>S.st (50000+j))++es.map fun k=>S.st k)[j]? = some (S.st k)/\τ (50000+j)=σ k/\(m<=j->S.st k≠ .no)/\(j<m->k=50000+j)/\(m<=j->es[j-m]? = some k):=by
   intro j hj
   rcases Di j m with hlt|hge
   ·exact ⟨50000+j,by rw [Dz (by simpa using hlt),Ds,List.getElem?_range hlt];rfl,τ0 _ (by omega),fun h=>by omega,fun _=>rfl,fun h=>by omega⟩
   ·have hl:j-m<es.length:=by omega
    refine ⟨es[j-m],by rw [List.getElem?_append_right (by simpa using hge),Ds];simp [Bk hl], ?_,fun _=>live1 _ (Bw hl),fun h=>by omega,fun _=>Bk hl⟩
    have:=τ1 (j-m) _ (Bk hl)
    rw [←this]
    congr 1
    omega
  refine ⟨τ,FT _ u (fun k hk=> ?_) hu,⟨ha.ti.fin,fun j o hj=> ?_,fun i j b hij hi hj ni nj hb hb'=> ?_,by rw [hlen];omega,fun j hj=> ?_,fun j b hj hj2 hb=> ?_,ha.ti.fr,fun b q hb=>(ha.ti.old b q hb).1,fun b q hb hu hx=> ?_⟩⟩
  ·rw [QMd] at hk
   rcases k2 k hk with hk'|hk'
   ·rw [exr,if_pos hk'.1]
    exact τ0 k hk'.2
   ·have hlt:=(k3 k hk').1
    rw [exr,if_neg (by omega)]
    obtain ⟨i,hi⟩:=List.mem_iff_getElem?.1 hk'
    rw [U6 k1 hi]
    exact τ1 i k hi
  ·have hjl:j<m+es.length:=by rw [←hlen];exact (BJ.1 hj).1
   obtain ⟨k,q1,q2,q3,q4,q5⟩:=src j hjl
   rw [q1] at hj
   injection hj with hj
   subst hj
   refine ⟨(ha.ti.obj k).pl q2 (fun r hr=> ?_),q3⟩
   rcases Di j m with hlt|hge
   ·have:=k4 j hlt r (by rw [←q4 hlt];exact hr)
    exact τ0 r this.2
   ·have:=(k3 k (Dv (q5 hge))).2.2
    rw [this] at hr
    cases hr
  ·rw [hlen] at hi hj
   obtain ⟨k,q1,q2,_,q4,q5⟩:=src i hi
   obtain ⟨k',p1,p2,_,p4,p5⟩:=src j hj
   rw [q2] at hb
   rw [p2] at hb'
   have q3:S.st k≠ .no:=fun he=>ni (by rw [q1,he])
   have p3:S.st k'≠ .no:=fun he=>nj (by rw [p1,he])
   refine ha.ti.apart k k' b (fun he=> ?_) q3 p3 hb hb'
   subst he
   rcases Di i m with h1|h1
   ·rcases Di j m with h2|h2
    ·have:=q4 h1;have:=p4 h2;omega
    ·have e1:=q4 h1
     have:=(k3 k (Dv (p5 h2))).1
     omega
   ·rcases Di j m with h2|h2
    ·have e1:=p4 h2
     have:=(k3 k (Dv (q5 h1))).1
     omega
    ·have e1:=U6 k1 (q5 h1)
     have e2:=U6 k1 (p5 h2)
     omega
  ·rw [τ0 _ (by omega)]
   exact ha.ti.lnt _ (by simp only [Wo];omega)
  ·rw [hlen] at hj2
   obtain ⟨k,_,q2,q3,_,q5⟩:=src j hj2
   have q3:=q3 hj
   rw [q2] at hb
   rcases ha.ti.own k b q3 hb with h1|h1
   ·right
    simp only [Xg,D0,Dg] at h1
    obtain ⟨i,hi,hib⟩:=h1
    refine ⟨i,hi, ?_,hib⟩
    obtain ⟨k',p1,p2,_,p4,_⟩:=src i (by omega)
    rw [p1]
    by_cases hn:S.st k'= .no
    ·rw [hn]
    ·refine absurd hb (ha.ti.apart k' k b (fun he=> ?_) hn q3 ?_)
     ·have:=(k3 k (Dv (q5 hj))).1
      have:=p4 hi
      omega
     ·rw [p4 hi,ha.ti.lnt _ (by simp only [Wo];omega)]
      exact hib
   ·exact .inl h1
  ·by_cases hl:b∈Xg σ0 m
   ·simp only [Xg,D0,Dg] at hl
    obtain ⟨i,hi,hib⟩:=hl
    obtain ⟨k',p1,p2,_,p4,_⟩:=src i (by omega)
    by_cases hn:S.st k'= .no
    ·exact absurd hib (hu i hi (by rw [p1,hn]))
    ·refine (ha.ti.obj k').all hn ?_ q
     rw [p4 hi,ha.ti.lnt _ (by simp only [Wo];omega)]
     exact hib
   ·exact (ha.ti.old b q hb).2 hl hx
 ·cases h
theorem QxF: ∀ (args:List V) (i j:Nat),YT (Eo i args) (i+j)=args.getD j .un
 | [],i,j=>rfl
 |v::r,i,0=>by simp [Eo,YT]
 |v::r,i,j+1=>by
  simp only [Eo,YT]
  rw [if_neg (by omega)]
  have:=QxF r (i+1) j
  rw [show i+(j+1)=i+1+j from by omega,this]
  simp
theorem QmI: ∀ (args:List V) (i k:Nat),i+args.length<=k->YT (Eo i args) k= .un
 | [],i,k,_=>rfl
 |v::r,i,k,h=>by
  simp only [Br] at h
  simp only [Eo,YT]
  rw [if_neg (by omega)]
  exact QmI r (i+1) k (by omega)
theorem QxG: ∀ (objs:List VO) (i j:Nat),Yi (Xw i objs) (i+j)=objs.getD j .no
 | [],i,j=>rfl
 |v::r,i,0=>by simp [Xw,Yi]
 |v::r,i,j+1=>by
  simp only [Xw,Yi]
  rw [if_neg (by omega)]
  have:=QxG r (i+1) j
  rw [show i+(j+1)=i+1+j from by omega,this]
  simp
theorem QxH: ∀ (objs:List VO) (i k:Nat),k<i->Yi (Xw i objs) k= .no
 | [],i,k,_=>rfl
 |v::r,i,k,h=>by
  simp only [Xw,Yi]
  rw [if_neg (by omega)]
  exact QxH r (i+1) k (by omega)
theorem QxI: ∀ (objs:List VO) (i k:Nat),Yi (Xw i objs) k≠ .no->k∈(Xw i objs).map Prod.fst
 | [],i,k,h=>absurd rfl h
 |v::r,i,k,h=>by
  simp only [Xw,Yi] at h
  simp only [Xw,BP]
  split at h
  ·rename_i hk;rw [hk];exact B2
  ·exact BR _ (QxI r (i+1) k h)
theorem QMe {g:G}{f:FuncId}{fn:Func}{c:Code}{tc:TC}{rv:List (RV×Option Ty)}{ro:Bool}(hlt:f<1000000)(hf:P.funcs[f]? = some fn)(hb:fn.body=some c)(hc:trC P c=tc.er)(hn:fn.ntmps=g.n)(hr:XV P fn.results.toList=some (rv.map Prod.fst))(hg:GOk P g)(hl:tc.lok g)(hm:P.follows .mixedOrders=true):
  Qu P f (QS g tc rv ro):=by
 intro args objs r os h X w σ vs hfin hlent hargs
 unfold QS at h
 split at h
 ·rename_i hle
  have hal:=hargs.len
  rw [V.ds_eq,BT] at hal
  have obj0: ∀ k,Yi (Xw 50000 objs) k= .no∨ ∃ j,k=50000+j/\objs[j]? = some (Yi (Xw 50000 objs) k):=by
   intro k
   rcases Di k 50000 with hlt|hge
   ·exact .inl (QxH objs 50000 k hlt)
   ·obtain ⟨j,rfl⟩: ∃ j,k=50000+j:=⟨k-50000,by omega⟩
    rw [QxG]
    rcases Di j objs.length with hj|hj
    ·exact .inr ⟨j,rfl,by rw [Bt,Bk hj];rfl⟩
    ·left
     rw [Bt,DG hj]
     rfl
  have hat:At ⟨X,w,Xg σ objs.length,σ,[],X,w⟩ X w σ g.n (inS args objs) (vs++List.replicate (g.n-vs.length) undef):=by
   refine ⟨⟨hfin,fun k=> ?_,fun i j b hij hi hj hbi hbj=> ?_,fun k b hk hbk=> ?_,Fr.refl _ _,fun _ _ _=>⟨fun h=>h,fun _ h=>h⟩,fun _ _=>rfl,(fun p hp=>by cases hp),⟨List.nodup_nil,fun p hp=>by cases hp⟩,Ext0.refl X w⟩,⟨by simp;omega,fun i u hu=> ?_,fun i hi=> ?_⟩,fun j hj=>QxI objs 50000 j hj⟩
   ·simp only [inS]
    rcases obj0 k with h0|⟨j,rfl,h0⟩
    ·rw [h0];trivial
    ·exact (hlent.at_ j _ h0).1
   ·simp only [inS] at hi hj
    rcases obj0 i with h0|⟨i',rfl,h0⟩
    ·exact absurd h0 hi
    ·rcases obj0 j with h1|⟨j',rfl,h1⟩
     ·exact absurd h1 hj
     ·exact hlent.apart i' j' b (by omega) (BJ.1 h0).1 (BJ.1 h1).1 hbi hbj
   ·simp only [inS] at hk
    rcases obj0 k with h0|⟨j,rfl,h0⟩
    ·exact absurd h0 hk
    ·refine .inl ?_
     simp only [Xg,D0,Dg]
     exact ⟨j,(BJ.1 h0).1,hbk⟩
   ·simp only [inS]
    rcases Di i vs.length with hi|hi
    ·rw [Dz hi] at hu
     have ha:args[i]? = some args[i]:=Bk (by omega)
     have hl:=QxF args 0 i
     rw [DS,Bt,ha] at hl
     rw [hl]
     obtain ⟨u',hu',hc'⟩:=hargs.at_ (i:=i) (d:=args[i].d) (by rw [V.ds_eq,Ds,ha];rfl)
     rw [hu] at hu'
     injection hu' with hu'
     subst hu'
     exact hc'
    ·rw [QmI args 0 i (by omega)]
     exact C.any_ u
   ·simp only [inS]
    exact QmI args 0 i (by omega)
  have hw:=QMb (B:=⟨X,w,Xg σ objs.length,σ,[],X,w⟩) hg hm tc (.inl rfl) hl h c hc 9 X w σ _ [] hat
  refine QbY hlt (callsIn_wide.1 (callsIn_of_wp_marks (F:=Fw none) (n:=9) hf hb trivial ?_))
  have he:(vs.toArray++Array.replicate (fn.ntmps-vs.toArray.size) undef)=(vs++List.replicate (g.n-vs.length) undef).toArray:=by
   apply Array.ext'
   simp [hn]
  rw [he]
  refine wpIn_mono hw ?_
  rintro e a w1 ⟨S,X',σ',us',ms',h0,rfl,h3⟩
  obtain ⟨w',h1,hleave⟩:=QFk h0
  have hret:QeA rv ro objs.length S=some (r,os)→ ∃ u,(results fn us'.toArray).run P w'= .ok u w'∧ ∃ X1 σ1,C X1 w' σ1 r.d u/\Ends X w σ objs.length X1 w' σ1 os:=by
   intro hret
   unfold QeA at hret
   obtain ⟨vs1,q1,q2⟩:=QmH (rv:=rv.map fun r=>(r.1,none)) (by rw [hr,List.map_map];rfl) hret
   split at q1
   ·obtain ⟨xs,q3,q4⟩:=q2 h1
    obtain ⟨u,q5,q6⟩:=QxD q3 q4
    obtain ⟨σ1,q7,q8⟩:=QxE q1 h1 q5
    exact ⟨u,q6,X',σ1,q7,q8⟩
   ·obtain ⟨X2,h2,_⟩:=h1.fzs (V.msss vs1)
    obtain ⟨vs2,q3,q4⟩:=QmH hr q1
    obtain ⟨xs,q5,q6⟩:=q4 h2
    obtain ⟨u,q7,q8⟩:=QxD q5 q6
    obtain ⟨σ1,q9,q10⟩:=QxE q3 h2 q7
    exact ⟨u,q8,X2,σ1,q9,q10⟩
  cases e with
  |ret=>
   obtain ⟨u,p1,X1,σ1,p2,p3⟩:=hret h3
   exact hleave ⟨u,p1,u,X1,σ1,rfl,p2,p3⟩
  |normal=>
   obtain ⟨u,p1,X1,σ1,p2,p3⟩:=hret h3
   exact hleave ⟨u,p1,u,X1,σ1,rfl,p2,p3⟩
  |_=>cases h3
 ·cases h
end
end Go.Proofs.YthlcobdnemhcdaaGreat.K
/-
 What is said of functions and of loops in types,and how it serves in the runs of others.
-/
namespace Go.Proofs.YthlcobdnemhcdaaGreat.K
open Go.RowKit
def Ty.args:(y:Ty)->List V->Option y.T
 |.pr f r,v::vs=>match v.as f,r.args vs with
  |some x,some z=>some (x,z)
  |_,_=>none
 |.nil,[]=>some ()
 |_,_=>none
abbrev Ent:=List V->List VO->Option (Bool×V×List VO)
def Qo (a:Ty)(ok:a.T->Bool)(F:a.T->V):Ent:=fun args objs=>
 match objs with
 | []=>match a.args args with
  |some x=>some (ok x,F x,[])
  |none=>none
 |_=>none
def Xx (b a:Ty)(ok:b.T->a.T->Bool)(F:b.T->a.T->V)(H:b.T->a.T->b.T):Ent:=fun args objs=>
 match args,objs with
 |.ptr 50000 0::args,[.box c]=>match c.as b,a.args args with
  |some d,some x=>some (ok d x,F d x,[.box (.t b (H d x))])
  |_,_=>none
 |_,_=>none
def QmJ (b a:Ty)(ok:a.T->Bool)(H:a.T->b.T):Ent:=fun args objs=>
 match objs with
 | []=>match a.args args with
  |some x=>some (ok x,.ptr 50000 0,[.box (.t b (H x))])
  |none=>none
 |_=>none
def XW (a:Ty)(ok:a.T->Bool)(F:a.T->V)(O:a.T->List VO):Ent:=fun args objs=>
 match objs with
 | []=>match a.args args with
  |some x=>some (ok x,F x,O x)
  |none=>none
 |_=>none
class Fuel where
 n:Nat
abbrev Jk [f:Fuel]:Nat:=f.n
def Qv (F:Ent):Fun:=fun args objs=>
 match F args objs with
 |some (true,r,os)=>some (r,os)
 |_=>none
def EL:List (Nat×Ent)->Nat->Ent
 | [],_=>fun _ _=>none
 |(g,F)::r,f=>if f=g then fun args objs=>match F args objs with
   |some x=>some x
   |none=>EL r f args objs
  else EL r f
theorem QeB: ∀ {l:List (Nat×Ent)} {f:Nat} {args:List V} {objs:List VO} {x:Bool×V×List VO},EL l f args objs=some x→ ∃ F,(f,F)∈l/\F args objs=some x
 |(g,F)::r,f,args,objs,x,h=>by
  simp only [EL] at h
  split at h
  ·rename_i hfg
   subst hfg
   simp only at h
   split at h
   ·rename_i y hy
    simp only [Bd] at h
    subst h
    exact ⟨F,B2,hy⟩
   ·obtain ⟨F',h1,h2⟩:=QeB h
    exact ⟨F',BR _ h1,h2⟩
  ·obtain ⟨F',h1,h2⟩:=QeB h
   exact ⟨F',BR _ h1,h2⟩
def IL (li:List (Nat×Itr))(f:Nat):Itr:=match li.lookup f with
 |some F=>F
 |none=>fun _ _=>none
def RL (l:List ((yr:Ty)×(VS->List yr.T->Option (Bool×List (Bool×Exit×VS)))))(j:Nat)(S:VS)(yr:Ty)(rows:List yr.T):Option (Bool×List (Bool×Exit×VS)):=
 match l[j]? with
 |some ⟨y,F⟩=>if h:yr=y then F S (h▸rows) else none
 |none=>none
section
variable {P:Program}{X:Nat->Nat->Prop}{w:World}{σ:Pl}
theorem QxJ {α:Type}: ∀ {l:List (Nat×α)} {f:Nat} {x:α},l.lookup f=some x->(f,x)∈l
 |(k,y)::l,f,x,h=>by
  rw [List.lookup_cons] at h
  split at h
  ·rename_i hk
   have hk:f=k:=by simpa using hk
   simp only [Bd] at h
   rw [hk,h]
   exact B2
  ·exact BR _ (QxJ h)
theorem Jp {TY:Nat->Option Ty}{own:List Nat}{n:Nat}{keep:List Nat}{L:Nat->VS->Option (Bool×List (Bool×Exit×VS))}{R:Nat->VS->(yr:Ty)->List yr.T->Option (Bool×List (Bool×Exit×VS))}(l:List (Nat×Ent))(h: ∀ p∈l,Ja P p.1/\Qu P p.1 (Qv p.2))(li:List (Nat×Itr):=[])(hi: ∀ p∈li,Iters P p.1 p.2:=by intro p hp;cases hp):GOk P ⟨TY,own,n,EL l,keep,L,IL li,R⟩:=by
 refine ⟨?_,fun f caps objs x hx=> ?_⟩
 rotate_left
 ·simp only [IL] at hx ⊢
  cases hl:li.lookup f with
  |none=>rw [hl] at hx;cases hx
  |some F=>exact hi _ (QxJ hl)
 intro f args objs x hx
 simp only at hx ⊢
 obtain ⟨F,hF,_⟩:=QeB hx
 refine ⟨(h _ hF).1, ?_⟩
 intro args' objs' r os hr
 simp only at hr
 split at hr
 ·rename_i r' os' hq
  simp only [Bd,Bp] at hr
  obtain ⟨rfl,rfl⟩:=hr
  obtain ⟨F2,h1,h2⟩:=QeB hq
  exact (h _ h1).2 args' objs' r' os' (by simp only [Qv,h2])
 ·cases hr
theorem GB: ∀ {a:Ty} {args:List V} {x:a.T} {vs:List Value},a.args args=some x->Cs X w σ (V.ds args) vs->Cs X w σ (V.ds (a.canon x)) vs
 |.pr f r,v::args,x,vs,h,hc=>by
  simp only [Ty.args] at h
  split at h
  ·rename_i x1 z1 h1 h2
   simp only [Bd] at h
   subst h
   simp only [V.ds,Cs] at hc
   obtain ⟨u,us,rfl,q1,q2⟩:=hc
   simp only [Ty.canon,V.ds]
   exact Cs.cons (C.up _ _ (V.as_spec h1 q1)) (GB h2 q2)
  ·cases h
 |.nil,[],x,vs,h,hc=>hc
 |.pr f r,[],_,_,h,_=>by cases h
 |.nil,_::_,_,_,h,_=>by cases h
 |.int _,_,_,_,h,_=>by simp only [Ty.args] at h;cases h
 |.bool,_,_,_,h,_=>by simp only [Ty.args] at h;cases h
 |.str,_,_,_,h,_=>by simp only [Ty.args] at h;cases h
 |.sl _,_,_,_,h,_=>by simp only [Ty.args] at h;cases h
 |.rv,_,_,_,h,_=>by simp only [Ty.args] at h;cases h
 |.rb,_,_,_,h,_=>by simp only [Ty.args] at h;cases h
theorem Qs {f:FuncId}{R:Fun}{a:Ty}{ok:a.T->Bool}{F:a.T->V}(hM:Qu P f R)(h: ∀ x,ok x=true->R (a.canon x) []=some (F x,[])):Qu P f (Qv (Qo a ok F)):=by
 intro args objs r os hF X w σ vs hfin hl hc
 unfold Qv Qo at hF
 cases objs with
 |cons o os'=>simp at hF
 |nil=>
  simp only at hF
  cases ha:a.args args with
  |none=>rw [ha] at hF;cases hF
  |some x=>
   rw [ha] at hF
   simp only at hF
   split at hF
   ·rename_i r' os' hq
    simp only [Bd,Bp] at hF hq
    obtain ⟨rfl,rfl⟩:=hF
    obtain ⟨h1,rfl,rfl⟩:=hq
    exact hM _ [] _ _ (h x h1) X w σ vs hfin hl (GB ha hc)
   ·cases hF
theorem IV {f:FuncId}{a:Ty}{ok:a.T->Bool}{F:a.T->V}(h: ∀ x,ok x=false):Qu P f (Qv (Qo a ok F)):=by
 intro args objs r os hF
 unfold Qv Qo at hF
 cases objs with
 |cons o os'=>simp at hF
 |nil=>
  simp only at hF
  cases ha:a.args args with
  |none=>rw [ha] at hF;cases hF
  |some x=>
   rw [ha] at hF
   simp only [h] at hF
   cases hF
theorem QeC {f:FuncId}{a:Ty}{okN:Nat->a.T->Bool}{ok:a.T->Bool}{F:a.T->V}(hN: ∀ N,Qu P f (Qv (Qo a (okN N) F)))(h: ∀ x,ok x=true→ ∃ N,okN N x=true):Qu P f (Qv (Qo a ok F)):=by
 intro args objs r os hF
 have hF0:=hF
 unfold Qv Qo at hF
 cases objs with
 |cons o os'=>simp at hF
 |nil=>
  simp only at hF
  cases ha:a.args args with
  |none=>rw [ha] at hF;cases hF
  |some x=>
   rw [ha] at hF
   cases hx:ok x with
   |false=>simp only [hx] at hF;cases hF
   |true=>
    obtain ⟨N,hok⟩:=h x hx
    refine hN N args [] r os ?_
    simp only [hx] at hF
    unfold Qv Qo
    simp only [ha,hok]
    exact hF
theorem QeD {f:FuncId}{R:Fun}{a:Ty}{ok:a.T->Bool}{F:a.T->V}{O:a.T->List VO}(hM:Qu P f R)(h: ∀ x,ok x=true->R (a.canon x) []=some (F x,O x)):Qu P f (Qv (XW a ok F O)):=by
 intro args objs r os hF X w σ vs hfin hl hc
 unfold Qv XW at hF
 cases objs with
 |cons o os'=>simp at hF
 |nil=>
  simp only at hF
  cases ha:a.args args with
  |none=>rw [ha] at hF;cases hF
  |some x=>
   rw [ha] at hF
   simp only at hF
   split at hF
   ·rename_i r' os' hq
    simp only [Bd,Bp] at hF hq
    obtain ⟨rfl,rfl⟩:=hF
    obtain ⟨h1,rfl,rfl⟩:=hq
    exact hM _ [] _ _ (h x h1) X w σ vs hfin hl (GB ha hc)
   ·cases hF
theorem QMf {f:FuncId}{R:Fun}{b a:Ty}{ok:a.T->Bool}{H:a.T->b.T}(hM:Qu P f R)(hb:b.row=true)(h: ∀ x,ok x=true→ ∃ c,R (a.canon x) []=some (.ptr 50000 0,[.box c])/\c.as b=some (H x)):Qu P f (Qv (QmJ b a ok H)):=by
 intro args objs r os hF X w σ vs hfin hl hc
 unfold Qv QmJ at hF
 cases objs with
 |cons o os'=>simp at hF
 |nil=>
  simp only at hF
  cases ha:a.args args with
  |none=>rw [ha] at hF;cases hF
  |some x=>
   rw [ha] at hF
   simp only at hF
   split at hF
   ·rename_i r' os' hq
    simp only [Bd,Bp] at hF hq
    obtain ⟨rfl,rfl⟩:=hF
    obtain ⟨h1,rfl,rfl⟩:=hq
    obtain ⟨c,h2,h3⟩:=h x h1
    refine (hM _ [] _ _ h2 X w σ vs hfin hl (GB ha hc)).mono ?_
    rintro e w' ⟨u,X',σ',e1,e2,e3⟩
    refine ⟨u,X',σ',e1,e2,e3.fin,fun j o hj=> ?_,fun i j bb hij hi hj=>by simp at hi hj;omega,e3.le,e3.same,fun j bb hj hl hb=> .inl ((e3.new j bb hj hl hb).resolve_right fun ⟨i,hi,_⟩=>absurd hi (Nat.not_lt_zero _)),e3.fr,e3.sub,fun b q hb _ hx=>e3.old b q hb (fun i hi=>absurd hi (Nat.not_lt_zero _)) hx⟩
    cases j with
    |zero=>
     simp only [BZ,Bd] at hj
     subst hj
     exact ⟨Qh5 hb h3 (e3.at_ 0 _ rfl).1,fun _=>by simp⟩
    |succ j=>simp at hj
   ·cases hF
theorem WA {f:FuncId}{R:Fun}{b a:Ty}{ok:b.T->a.T->Bool}{F:b.T->a.T->V}{H:b.T->a.T->b.T}(hM:Qu P f R)(hb:b.row=true)
  (h: ∀ d x,ok d x=true->R (.ptr 50000 0::a.canon x) [.box (.t b d)]=some (F d x,[.box (.t b (H d x))])):Qu P f (Qv (Xx b a ok F H)):=by
 intro args objs r os hF X w σ vs hfin hl hc
 unfold Qv Xx at hF
 split at hF
 ·rename_i r0 os0 hq
  split at hq
  ·rename_i args' c
   split at hq
   ·rename_i d x hd hx
    simp only [Bd,Bp] at hF hq
    obtain ⟨h1,h2⟩:=hF
    obtain ⟨h3,h4,h5⟩:=hq
    subst h1 h2 h4 h5
    refine hM _ [.box (.t b d)] _ _ (h d x h3) X w σ vs hfin ⟨fun j o hj=> ?_,fun i j bb hij hi hj=>hl.apart i j bb hij hi hj⟩ ?_
    ·cases j with
     |zero=>
      simp only [BZ,Bd] at hj
      subst hj
      exact ⟨Qh5 hb hd (hl.at_ 0 _ rfl).1,by simp⟩
     |succ j=>simp at hj
    ·simp only [V.ds,Cs] at hc ⊢
     obtain ⟨u,us,rfl,q1,q2⟩:=hc
     exact ⟨u,us,rfl,q1,GB hx q2⟩
   ·cases hq
  ·cases hq
 ·cases hF
end
inductive SV where
 |ty (t:Ty)
 |ptr (k o:Nat)
 |ms (k:Nat)
 |cf (f:Nat)
 |fn (f:Nat) (ks:List (Nat×Nat))
 |nl
 |ni
 |bf (f:Nat) (t:Ty)
inductive SO where
 |box (t:Ty)
 |bag (l:List SV)
 |arr (e:Nat) (t:Ty)
 |no
 |bc (f:Nat)
 |bm (k:Nat)
@[reducible] def SV.T:SV->Type
 |.ty t=>t.T
 |.ptr _ _=>Unit
 |.ms _=>Unit
 |.cf _=>Unit
 |.fn _ _=>Unit
 |.nl=>Unit
 |.ni=>Unit
 |.bf _ t=>t.T
@[reducible] def SVt:List SV->Type
 | []=>Unit
 |s::r=>s.T×SVt r
@[reducible] def SO.T:SO->Type
 |.box t=>t.T
 |.bag l=>SVt l
 |.arr _ t=>List t.T
 |.no=>Unit
 |.bc _=>Unit
 |.bm _=>Unit
def SV.mk:(s:SV)->s.T->V
 |.ty t,x=> .t t x
 |.ptr k o,_=> .ptr k o
 |.ms k,_=> .ms k
 |.cf f,_=> .c (.func (.func f) ⟨[]⟩ ⟨[]⟩)
 |.fn f ks,_=> .fn f (ks.map fun p=> .ptr p.1 p.2)
 |.nl,_=> .c (.slice none 0 0)
 |.ni,_=> .c .nilIface
 |.bf f t,x=> .fn (f+1000000) [.t t x]
def QmK:Value->Bool
 |.nilIface=>true
 |_=>false
theorem QMg {x:Value}(h:QmK x=true):x= .nilIface:=by
 unfold QmK at h
 split at h
 ·rfl
 ·cases h
def QmL:Value->Bool
 |.slice none 0 0=>true
 |_=>false
theorem QMh {x:Value}(h:QmL x=true):x= .slice none 0 0:=by
 unfold QmL at h
 split at h
 ·rfl
 ·cases h
def QeE:Value->Option Nat
 |.func (.func g) ⟨[]⟩ ⟨[]⟩=>some g
 |_=>none
theorem QxK {x:Value}{f:Nat}(h:QeE x=some f):x= .func (.func f) ⟨[]⟩ ⟨[]⟩:=by
 unfold QeE at h
 split at h
 ·simp only [Bd] at h
  rw [h]
 ·cases h
def IW:List V->Option (List (Nat×Nat))
 | []=>some []
 |.ptr k o::r=>match IW r with
  |some l=>some ((k,o)::l)
  |none=>none
 |_=>none
theorem QxL: ∀ {vs:List V} {ks:List (Nat×Nat)},IW vs=some ks->vs=ks.map fun p=> .ptr p.1 p.2
 | [],ks,h=>by
  simp only [IW,Bd] at h
  subst h
  rfl
 |v::r,ks,h=>by
  cases v with
  |ptr k o=>
   simp only [IW] at h
   split at h
   ·rename_i l hl
    simp only [Bd] at h
    subst h
    rw [QxL hl]
    rfl
   ·cases h
  |_=>simp only [IW] at h;cases h
def Er:(l:List SV)->SVt l->List V
 | [],_=>[]
 |s::r,x=>s.mk x.1::Er r x.2
def SO.mk:(s:SO)->s.T->VO
 |.box t,x=> .box (.t t x)
 |.bag l,x=> .box (.ag (Er l x))
 |.arr e t,l=> .arr e t l
 |.no,_=> .no
 |.bc f,_=> .box (.c (.func (.func f) ⟨[]⟩ ⟨[]⟩))
 |.bm k,_=> .box (.ms k)
def QmM (t:Ty):List V->Option t.T
 | [.t t' x]=>if h:t'=t then some (h▸x) else none
 |_=>none
theorem QMi {t:Ty}{vs:List V}{x:t.T}(h:QmM t vs=some x):vs=[.t t x]:=by
 unfold QmM at h
 split at h
 ·split at h
  ·rename_i ht
   subst ht
   simp only [Bd] at h
   rw [h]
  ·cases h
 ·cases h
def SV.rd:(s:SV)->V->Option s.T
 |.ty t,.t t' x=>if h:t'=t then some (h▸x) else none
 |.ptr k o,.ptr k' o'=>if k'=k/\o'=o then some () else none
 |.ms k,.ms k'=>if k'=k then some () else none
 |.cf f,.c x=>if QeE x=some f then some () else none
 |.fn f ks,.fn g vs=>if g=f/\IW vs=some ks then some () else none
 |.nl,.c x=>if QmL x=true then some () else none
 |.ni,.c x=>if QmK x=true then some () else none
 |.bf f t,.fn g vs=>if g=f+1000000 then QmM t vs else none
 |_,_=>none
def Es:(l:List SV)->List V->Option (SVt l)
 | [],[]=>some ()
 |s::r,v::vs=>match s.rd v,Es r vs with
  |some x,some y=>some (x,y)
  |_,_=>none
 |_,_=>none
def SO.rd:(s:SO)->VO->Option s.T
 |.box t,.box v=>(SV.ty t).rd v
 |.bag l,.box (.ag vs)=>Es l vs
 |.arr e t,.arr e' t' l=>if h:t'=t then (if e'=e then some (h▸l) else none) else none
 |.no,.no=>some ()
 |.bc f,.box (.c x)=>if QeE x=some f then some () else none
 |.bm k,.box (.ms j)=>if j=k then some () else none
 |_,_=>none
theorem SV.rd_mk {s:SV}{v:V}{x:s.T}(h:s.rd v=some x):v=s.mk x:=by
 cases s with
 |ty t=>
  cases v with
  |t t' y=>
   simp only [SV.rd] at h
   split at h
   ·rename_i ht
    subst ht
    simp only [Bd] at h
    subst h
    rfl
   ·cases h
  |_=>simp only [SV.rd] at h;cases h
 |ptr k o=>
  cases v with
  |ptr k' o'=>
   simp only [SV.rd] at h
   split at h
   ·rename_i hk
    rw [hk.1,hk.2]
    rfl
   ·cases h
  |_=>simp only [SV.rd] at h;cases h
 |ms k=>
  cases v with
  |ms k'=>
   simp only [SV.rd] at h
   split at h
   ·rename_i hk
    rw [hk]
    rfl
   ·cases h
  |_=>simp only [SV.rd] at h;cases h
 |cf f=>
  cases v with
  |c x=>
   simp only [SV.rd] at h
   split at h
   ·rename_i hk
    rw [QxK hk]
    rfl
   ·cases h
  |_=>simp only [SV.rd] at h;cases h
 |fn f ks=>
  cases v with
  |fn g vs=>
   simp only [SV.rd] at h
   split at h
   ·rename_i hk
    rw [hk.1,QxL hk.2]
    rfl
   ·cases h
  |_=>simp only [SV.rd] at h;cases h
 |nl=>
  cases v with
  |c x=>
   simp only [SV.rd] at h
   split at h
   ·rename_i hk
    rw [QMh hk]
    rfl
   ·cases h
  |_=>simp only [SV.rd] at h;cases h
 |ni=>
  cases v with
  |c x=>
   simp only [SV.rd] at h
   split at h
   ·rename_i hk
    rw [QMg hk]
    rfl
   ·cases h
  |_=>simp only [SV.rd] at h;cases h
 |bf f t=>
  cases v with
  |fn g vs=>
   simp only [SV.rd] at h
   split at h
   ·rename_i hk
    rw [hk,QMi h]
    rfl
   ·cases h
  |_=>simp only [SV.rd] at h;cases h
theorem Qao: ∀ {l:List SV} {vs:List V} {x:SVt l},Es l vs=some x->vs=Er l x
 | [],[],_,_=>rfl
 | [],_::_,_,h=>by cases h
 |_::_,[],_,h=>by cases h
 |s::r,v::vs,x,h=>by
  simp only [Es] at h
  split at h
  ·rename_i x1 y1 h1 h2
   simp only [Bd] at h
   subst h
   rw [SV.rd_mk h1,Qao h2]
   rfl
  ·cases h
theorem SO.rd_mk {s:SO}{v:VO}{x:s.T}(h:s.rd v=some x):v=s.mk x:=by
 cases s with
 |box t=>
  cases v with
  |box v=>
   simp only [SO.rd] at h
   have:=SV.rd_mk h
   rw [this]
   rfl
  |_=>simp only [SO.rd] at h;cases h
 |bag l=>
  cases v with
  |box v=>
   cases v with
   |ag vs=>
    simp only [SO.rd] at h
    rw [Qao h]
    rfl
   |_=>simp only [SO.rd] at h;cases h
  |_=>simp only [SO.rd] at h;cases h
 |arr e t=>
  cases v with
  |arr e' t' l=>
   simp only [SO.rd] at h
   split at h
   ·rename_i ht
    subst ht
    split at h
    ·rename_i he
     simp only [Bd] at h
     subst h
     rw [he]
     rfl
    ·cases h
   ·cases h
  |_=>simp only [SO.rd] at h;cases h
 |no=>
  cases v with
  |no=>rfl
  |_=>simp only [SO.rd] at h;cases h
 |bc f=>
  cases v with
  |box c=>
   cases c with
   |c x=>
    simp only [SO.rd] at h
    split at h
    ·rename_i hk
     rw [QxK hk]
     rfl
    ·cases h
   |_=>simp only [SO.rd] at h;cases h
  |_=>simp only [SO.rd] at h;cases h
 |bm k=>
  cases v with
  |box c=>
   cases c with
   |ms j=>
    simp only [SO.rd] at h
    split at h
    ·rename_i hk
     rw [hk]
     rfl
    ·cases h
   |_=>simp only [SO.rd] at h;cases h
  |_=>simp only [SO.rd] at h;cases h
@[reducible] def SVs:List (Nat×SV)->Type
 | []=>Unit
 |(_,s)::r=>s.T×SVs r
@[reducible] def SOs:List (Nat×SO)->Type
 | []=>Unit
 |(_,s)::r=>s.T×SOs r
def QeF:(l:List (Nat×SV))->SVs l->List (Nat×V)
 | [],_=>[]
 |(i,s)::r,x=>(i,s.mk x.1)::QeF r x.2
def QeG:(l:List (Nat×SO))->SOs l->List (Nat×VO)
 | [],_=>[]
 |(i,s)::r,x=>(i,s.mk x.1)::QeG r x.2
def Qap (f:Nat->V):(l:List (Nat×SV))->Option (SVs l)
 | []=>some ()
 |(i,s)::r=>match s.rd (f i),Qap f r with
  |some x,some y=>some (x,y)
  |_,_=>none
def Qaq (f:Nat->VO):(l:List (Nat×SO))->Option (SOs l)
 | []=>some ()
 |(i,s)::r=>match s.rd (f i),Qaq f r with
  |some x,some y=>some (x,y)
  |_,_=>none
structure Sh where
 vs:List (Nat×SV)
 os:List (Nat×SO)
def SV.t? : SV->Option Ty
 |.ty t=>some t
 |_=>none
def SO.t? : SO->Option Ty
 |.box t=>some t
 |_=>none
def Sh.f (s:Sh):Fg:=⟨s.vs.map fun p=>(p.1,p.2.t?),s.os.map fun p=>(p.1,p.2.t?)⟩
def Sh.st (s:Sh)(x:SVs s.vs)(y:SOs s.os):VS:=⟨YT (QeF s.vs x),Yi (QeG s.os y),s.os.map Prod.fst⟩
theorem nrm_mk {s:SV}{x:s.T}:J3 s.t? (s.mk x)=s.mk x:=by
 cases s with
 |ty t=>simp only [SV.t?, SV.mk,J3,V.as,dite_true]
 |_=>rfl
theorem QMj {s:SO}{x:s.T}:ZJ s.t? (s.mk x)=s.mk x:=by
 cases s with
 |box t=>
  simp only [SO.t?, SO.mk,ZJ,J3,V.as,dite_true]
  split<;>rfl
 |_=>rfl
theorem QmN {f:Nat->V}: ∀ {l:List (Nat×SV)} {x:SVs l},Qap f l=some x->(l.map fun p=>(p.1,p.2.t?)).map (fun p=>(p.1,J3 p.2 (f p.1)))=QeF l x
 | [],_,_=>rfl
 |(i,s)::r,x,h=>by
  simp only [Qap] at h
  split at h
  ·rename_i x1 y1 h1 h2
   simp only [Bd] at h
   subst h
   simp only [BP,QeF,SV.rd_mk h1,nrm_mk,QmN h2]
  ·cases h
theorem QmO {f:Nat->VO}: ∀ {l:List (Nat×SO)} {x:SOs l},Qaq f l=some x->(l.map fun p=>(p.1,p.2.t?)).map (fun p=>(p.1,ZJ p.2 (f p.1)))=QeG l x
 | [],_,_=>rfl
 |(i,s)::r,x,h=>by
  simp only [Qaq] at h
  split at h
  ·rename_i x1 y1 h1 h2
   simp only [Bd] at h
   subst h
   simp only [BP,QeG,SO.rd_mk h1,QMj,QmO h2]
  ·cases h
def mkL (s:Sh)(ok:SVs s.vs->SOs s.os->Bool)(Yj:SVs s.vs->SOs s.os->List (Bool×Exit×VS))(S:VS):Option (Bool×List (Bool×Exit×VS)):=
 match Qap S.ts s.vs,Qaq S.st s.os with
 |some x,some y=>some (ok x y,Yj x y)
 |_,_=>none
theorem lok_of {g:G}{s:Sh}{f:Fg}{a:TC}{ok:SVs s.vs->SOs s.os->Bool}{Yj:SVs s.vs->SOs s.os->List (Bool×Exit×VS)}(hok:f.ok)(hf:f=s.f)(h: ∀ x y,ok x y=true→ ∀ p,YU (Yj x y)=some p->Qx (QA g f a) (s.st x y)=some p):
  ∀ S l p,mkL s ok Yj (fgt f S)=some (true,l)->YU l=some p->Qx (QA g f a) S=some p:=by
 intro S l p hL hp
 unfold mkL at hL
 split at hL
 ·rename_i x y hx hy
  simp only [Bd,Bp] at hL
  obtain ⟨h1,rfl⟩:=hL
  rw [QTe hok]
  have e1:=QmN hx
  have e2:=QmO hy
  have:fgt f S=s.st x y:=by
   rw [←Qq4 hok S]
   have e3:(fgt f S).ts=(fgt f S).ts:=rfl
   generalize fgt f S=T at e1 e2
   subst hf
   unfold fgt Sh.st
   simp only [Sh.f]
   rw [e1,e2]
   simp only [List.map_map]
   rfl
  rw [this]
  exact h x y h1 p hp
 ·cases hL
def mkR {yr:Ty}(s:Sh)(ok:List yr.T->SVs s.vs->SOs s.os->Bool)(Yj:List yr.T->SVs s.vs->SOs s.os->List (Bool×Exit×VS))(S:VS)(rows:List yr.T):Option (Bool×List (Bool×Exit×VS)):=
 match Qap S.ts s.vs,Qaq S.st s.os with
 |some x,some y=>some (ok rows x y,Yj rows x y)
 |_,_=>none
theorem QMk {g:G}{s:Sh}{f:Fg}{yr:Ty}{ps:List Nat}{a b:TC}{ok:List yr.T->SVs s.vs->SOs s.os->Bool}{Yj:List yr.T->SVs s.vs->SOs s.os->List (Bool×Exit×VS)}(hok:f.ok)(hf:f=s.f)
  (h: ∀ rows x y,ok rows x y=true→ ∀ p,YU (Yj rows x y)=some p->WR (FX g f yr ps a b) rows (s.st x y)=some p):
  ∀ S rows l p,mkR s ok Yj (fgt f S) rows=some (true,l)->YU l=some p->WR (FX g f yr ps a b) rows (fgt f S)=some p:=by
 intro S rows l p hL hp
 unfold mkR at hL
 split at hL
 ·rename_i x y hx hy
  simp only [Bd,Bp] at hL
  obtain ⟨h1,rfl⟩:=hL
  have e1:=QmN hx
  have e2:=QmO hy
  have:fgt f S=s.st x y:=by
   rw [←Qq4 hok S]
   generalize fgt f S=T at e1 e2
   subst hf
   unfold fgt Sh.st
   simp only [Sh.f]
   rw [e1,e2]
   simp only [List.map_map]
   rfl
  rw [this]
  exact h rows x y h1 p hp
 ·cases hL
theorem RL_at {l:List ((yr:Ty)×(VS->List yr.T->Option (Bool×List (Bool×Exit×VS))))}{j:Nat}{y:Ty}{F:VS->List y.T->Option (Bool×List (Bool×Exit×VS))}(h:l[j]? = some ⟨y,F⟩)(S:VS)(rows:List y.T):RL l j S y rows=F S rows:=by
 unfold RL
 rw [h]
 simp only [dite_true]
def Ls (l:List (VS->Option (Bool×List (Bool×Exit×VS))))(j:Nat)(S:VS):Option (Bool×List (Bool×Exit×VS)):=
 match l[j]? with
 |some F=>F S
 |none=>none
def nxt (f:VS->Option (Exit×VS)):Option (Exit×VS)->Option (Exit×VS)
 |some (.normal,S)=>f S
 |x=>x
theorem Ft (b:VS->Option (Exit×VS))(S:VS):Qx b S=nxt (Qx b) (b S):=by
 rw [QTa]
 cases b S with
 |none=>rfl
 |some x=>
  obtain ⟨e,S'⟩:=x
  cases e<;>rfl
theorem QMl {α:Type}(rd:α->VS->Option (Exit×VS))(z:α)(zs:List α)(S:VS):WR rd (z::zs) S=nxt (WR rd zs) (rd z S):=by
 simp only [WR]
 cases rd z S with
 |none=>rfl
 |some x=>
  obtain ⟨e,S'⟩:=x
  cases e<;>rfl
theorem Xy {f:VS->Option (Exit×VS)}{q:Bool}{a b:Option (Exit×VS)}:nxt f (br q a b)=br q (nxt f a) (nxt f b):=by cases q<;>rfl
theorem XX {f:VS->Option (Exit×VS)}{S:VS}:nxt f (some (.normal,S))=f S:=rfl
theorem XY {f:VS->Option (Exit×VS)}{S:VS}:nxt f (some (.ret,S))=some (.ret,S):=rfl
theorem XZ {f:VS->Option (Exit×VS)}{S:VS}{i:Nat}:nxt f (some (.exit i,S))=some (.exit i,S):=rfl
theorem X5 {f:VS->Option (Exit×VS)}:nxt f none=none:=rfl
theorem QG {q q2:Bool}{e e2:Exit}{S S2:VS}{l:List (Bool×Exit×VS)}:YU ((q,e,S)::(q2,e2,S2)::l)=br q (some (e,S)) (YU ((q2,e2,S2)::l)):=by cases q<;>rfl
theorem QH {q:Bool}{e:Exit}{S:VS}:YU [(q,e,S)]=some (e,S):=rfl
theorem Qf {β:Type}{a b:Option β}:br true a b=a:=rfl
theorem Qi {β:Type}{a b:Option β}:br false a b=b:=rfl
abbrev Qj (k:IntKind)(a b:Int):Int:=k.wrap (a+b)
abbrev Qw (k:IntKind)(a b:Int):Int:=k.wrap (a-b)
abbrev QeH (k:IntKind)(a b:Int):Int:=k.wrap (a*b)
abbrev Et (k:IntKind)(a b:Int):Int:=k.wrap (a.tdiv b)
abbrev WB (a b:Int):Int:=a.tmod b
abbrev icv (k:IntKind)(a:Int):Int:=k.wrap a
abbrev imx (a b:Int):Int:=if b > a then b else a
abbrev ieq (a b:Int):Bool:=a==b
abbrev ine (a b:Int):Bool:=a != b
abbrev ilt (a b:Int):Bool:=decide (a<b)
abbrev ile (a b:Int):Bool:=decide (a<=b)
abbrev igt (a b:Int):Bool:=decide (a > b)
abbrev ige (a b:Int):Bool:=decide (a≥b)
abbrev seq (a b:ByteArray):Bool:=a.toList==b.toList
abbrev sne (a b:ByteArray):Bool:= !(a.toList==b.toList)
abbrev Fu (a b:Bool):Bool:=a==b
abbrev IX (a b:Bool):Bool:= !(a==b)
abbrev cNz (b:Int):Bool:=decide (b≠0)
abbrev cIx {α:Type}(l:List α)(j:Int):Bool:=decide (0<=j/\j<(l.length:Nat))
abbrev cSx (z:ByteArray)(j:Int):Bool:=decide (0<=j/\j<(z.size:Nat))
abbrev cWn {α:Type}(l:List α)(a h:Int):Bool:=decide (0<=a/\a<=h/\h<=(l.length:Nat))
abbrev cSl {α:Type}(l:List α)(a h m:Int):Bool:=decide (0<=a/\a<=h/\h<=m/\m<=(l.length:Nat))
abbrev Qq {α:Type}(l l2:List α)(bytes:Nat):Bool:=decide ((l.length+l2.length)*(bytes+1)<=140737488355328)
abbrev cLd {α:Type}(l:List α)(i:Nat):Bool:=decide (i<l.length)
abbrev cCat (a b:ByteArray):Bool:=decide (((a.size+b.size:Nat):Int)<=9223372036854775807)
abbrev lgt (y:Ty)(l:List y.T)(j:Nat):y.T:=l.getD j y.zero
abbrev lsl {α:Type}(l:List α)(a h:Int):List α:=(l.drop a.toNat).take (h.toNat-a.toNat)
abbrev Qc {α:Type}(l:List α):Int:=((l.length:Nat):Int)
abbrev Zg (z:ByteArray):Int:=((z.size:Nat):Int)
abbrev sgt (z:ByteArray)(j:Int):Int:=(((z.data.toList.getD j.toNat 0).toNat:Nat):Int)
abbrev Fv (a b:ByteArray):ByteArray:=a++b
abbrev GC (bs:List Ty):Type:=SVt (bs.map SV.ty)
def QeI (b:Ty)(c:V):Option b.T:=if b.row=true then c.as b else (SV.ty b).rd c
def Xz:(bs:List Ty)->List VO->Option (GC bs)
 | [],[]=>some ()
 |b::bs,.box c::os=>match QeI b c,Xz bs os with
  |some x,some y=>some (x,y)
  |_,_=>none
 |_,_=>none
def UK:(bs:List Ty)->GC bs->List VO
 | [],_=>[]
 |b::bs,x=> .box (.t b x.1)::UK bs x.2
def UL (l:List SV)(bs:List Ty)(ok:SVt l->GC bs->Bool)(F:SVt l->GC bs->V):Ent:=fun args objs=>
 match Es l args,Xz bs objs with
 |some x,some d=>some (ok x d,F x d,UK bs d)
 |_,_=>none
section
variable {P:Program}{X:Nat->Nat->Prop}{w:World}{σ:Pl}
theorem QMm {b:Ty}{c:V}{d:b.T}{k:Nat}(h:QeI b c=some d)(hat:OAt X w σ k (.box c)):OAt X w σ k (.box (.t b d)):=by
 unfold QeI at h
 split at h
 ·rename_i hb
  exact Qh5 hb h hat
 ·have:=SV.rd_mk h
  rw [this] at hat
  exact hat
theorem QmP: ∀ {bs:List Ty} {os:List VO} {d:GC bs},Xz bs os=some d->(UK bs d).length=os.length∧ ∀ (j k:Nat) (o:VO),(UK bs d)[j]? = some o->o≠ .no∧ ∃ o',os[j]? = some o'/\(OAt X w σ k o'->OAt X w σ k o)
 | [],[],d,_=>⟨rfl,fun j k o h=>by simp [UK] at h⟩
 | [],_::_,d,h=>by simp [Xz] at h
 |_::_,[],d,h=>by simp [Xz] at h
 |b::bs,o::os,d,h=>by
  cases o with
  |box c=>
   simp only [Xz] at h
   split at h
   ·rename_i x y hx hy
    simp only [Bd] at h
    subst h
    obtain ⟨h1,h2⟩:=QmP hy
    refine ⟨by simp only [UK,Br,h1],fun j k o hj=> ?_⟩
    cases j with
    |zero=>
     simp only [UK,BZ,Bd] at hj
     subst hj
     exact ⟨by simp,_,rfl,QMm hx⟩
    |succ j=>
     simp only [UK,B5] at hj
     obtain ⟨q1,o',q2,q3⟩:=h2 j k o hj
     exact ⟨q1,o',by simpa using q2,q3⟩
   ·cases h
  |no=>simp [Xz] at h
  |arr e t l=>simp [Xz] at h
theorem Fx {f:FuncId}{R:Fun}{l:List SV}{bs:List Ty}{ok:SVt l->GC bs->Bool}{F:SVt l->GC bs->V}(hM:Qu P f R)(h: ∀ x d,ok x d=true->R (Er l x) (UK bs d)=some (F x d,UK bs d)):Qu P f (Qv (UL l bs ok F)):=by
 intro args objs r os hF X w σ vs hfin hl hc
 unfold Qv UL at hF
 split at hF
 ·rename_i r' os' hq
  split at hq
  ·rename_i x d hx hd
   simp only [Bd,Bp] at hF hq
   obtain ⟨rfl,rfl⟩:=hF
   obtain ⟨h1,rfl,rfl⟩:=hq
   have ha:=Qao hx
   subst ha
   have hb:=fun j k o=>(QmP (X:=X) (w:=w) (σ:=σ) hd).2 j k o
   have hlen:=(QmP (X:=X) (w:=w) (σ:=σ) hd).1
   have:=hM _ _ _ _ (h x d h1) X w σ vs hfin ⟨fun j o hj=>by
    obtain ⟨q1,o',q2,q3⟩:=hb j (50000+j) o hj
    exact ⟨q3 (hl.at_ j o' q2).1,q1⟩,fun i j b hij hi hj=>hl.apart i j b hij (by omega) (by omega)⟩ hc
   rw [hlen] at this
   exact this
  ·cases hq
 ·cases hF
end
def oK (d:Nat)(k:RK):RO:=⟨some d,none,k⟩
def oM (d:Nat)(m:MO):RO:=⟨some d,none,.m m⟩
def oP (d:Nat)(a:AO):RO:=⟨some d,none,.m (.pu a)⟩
def oV (d i:Nat):RO:=⟨some d,none,.m (.pu (.mv (.t i)))⟩
def oL (d i:Nat):RO:=⟨some d,none,.m (.ld false 1 (.t i))⟩
def oC (d f:Nat)(l:List AX):RO:=⟨some d,none,.call f l⟩
def oG (d j:Nat)(b:Bool)(k:RK):RO:=⟨some d,some (j,b),k⟩
def oQ (d j:Nat)(b:Bool)(a:AO):RO:=⟨some d,some (j,b),.m (.pu a)⟩
def cI (n:Int):AX:= .c (.v (.int .i64 n))
def cB (b:Bool):AX:= .c (.v (.bool b))
end Go.Proofs.YthlcobdnemhcdaaGreat.K
/-
 From a contract of calls to what is said in types,and from there to a law's row.
-/
namespace Go.Proofs.YthlcobdnemhcdaaGreat.K
open Go.RowKit
section
variable {P:Program}{X:Nat->Nat->Prop}{w:World}{σ:Pl}
theorem QxM {w w':World}(h:Below w.heap.size w w'):Fr [] w w':=⟨h.os,h.tape,h.output,h.size,fun b hb _=>h.block b hb⟩
theorem QeJ {w w':World}{m:Nat}(hm:m=0)(hfin: ∀ b q,X b q->b<w.heap.size)(h:Below w.heap.size w w'):Ends X w σ m X w' σ []:=by
 subst hm
 exact ⟨fun b q hq=>B9 (hfin b q hq) h.size,fun j o hj=>by simp at hj,fun i j b _ hi=>by simp at hi,by simp,fun _ _=>rfl,fun j b _ hj=>by simp at hj,QxM h,fun _ _ _ h=>h,fun _ _ _ _ h=>h⟩
theorem QeK {f:FuncId}{a:Ty}{ok:a.T->Bool}{F:a.T->V}(h: ∀ x,ok x=true→ ∀ X w σ vs,(∀ b q,X b q->b<w.heap.size)->Cs X w σ (V.ds (a.canon x)) vs→
  Calls P f vs.toArray w fun e w'=> ∃ u,e= .returned u/\C X w' σ (F x).d u/\Below w.heap.size w w') (hlt:f<1000000:=by decide):Qu P f (Qv (Qo a ok F)):=by
 intro args objs r os hF X w σ vs hfin hl hc
 unfold Qv Qo at hF
 cases objs with
 |cons o os'=>simp at hF
 |nil=>
  simp only at hF
  cases ha:a.args args with
  |none=>rw [ha] at hF;cases hF
  |some x=>
   rw [ha] at hF
   simp only at hF
   split at hF
   ·rename_i r' os' hq
    simp only [Bd,Bp] at hF hq
    obtain ⟨rfl,rfl⟩:=hF
    obtain ⟨h1,rfl,rfl⟩:=hq
    refine (QbY hlt (h x h1 X w σ vs hfin (GB ha hc))).mono ?_
    rintro e w' ⟨u,e1,e2,e3⟩
    exact ⟨u,X,σ,e1,e2,QeJ rfl hfin e3⟩
   ·cases hF
theorem QMn {f:FuncId}{F:Fun}(hlt:f<1000000)(h:Qu P f F){args:List V}(hF:F args []=some (.t .bool true,[])){W:World}{vs:List Value}(hc:Cs (fun _ _=>False) W (fun _=> .no) (V.ds args) vs):
  Calls P f vs.toArray W fun r w'=>r= .returned (.bool true)/\Below W.heap.size W w':=by
 refine (U5 hlt (h args [] _ _ hF (fun _ _=>False) W (fun _=> .no) vs (fun _ _ h=>h.elim) ⟨fun j o hj=>by simp at hj,fun i j b _ hi=>by simp at hi⟩ hc)).mono ?_
 rintro e w' ⟨u,X',σ',rfl,h1,h2⟩
 simp only [V.d,Ty.d,C] at h1
 rw [h1.1]
 exact ⟨rfl,h2.fr.os,h2.fr.tape,h2.fr.output,h2.fr.size,fun b hb=>h2.fr.keep b hb (by simp [Xg])⟩
theorem QxN {k:IntKind}: ∀ (zs:List Int),Cs X w σ (zs.flatMap (Ty.int k).cells) (zs.map (Value.int k))
 | []=>by simp [Cs]
 |z::zs=>by
  simp only [BU,Ty.cells,BH,BP,Cs]
  exact ⟨_,_,rfl,⟨rfl,rfl⟩,QxN zs⟩
theorem introw_c {k:IntKind}{W:World}{a:Option Addr}{len cap:Nat}{zs:List Int}(hr:IsRow k W a len cap zs):C (fun _ _=>False) W σ (V.t (.sl (.int k)) (zs.take len)).d (.slice a len cap):=by
 rcases hr with ⟨rfl,rfl,rfl,rfl⟩|⟨x,rfl,h1,h2,h3,h4,h5⟩
 ·simp only [V.d,Ty.d,C,List.take_nil,Bv]
  exact ⟨none,0,rfl,BB _,by simp [maxLen],fun _=>rfl,fun h=>absurd h (by omega)⟩
 ·have hlen:(zs.take len).length=len:=by rw [B4];omega
  simp only [V.d,Ty.d,C,hlen]
  refine ⟨some x,cap,rfl,h1,h2,fun h=>by subst h;simp,fun h=> ?_⟩
  obtain ⟨b,off,sp⟩:=x
  have h0:=h4 0 (by omega)
  have hsp:sp=none:=by
   simp only [World.cell?, Addr.add] at h0
   cases sp with
   |none=>rfl
   |some s=>split at h0<;>simp at h0
  subst hsp
  refine ⟨b,off,_,rfl,QxN _, ?_,fun j _ h=>h,fun j u hu=> ?_,fun u hu=> ?_⟩
  ·rcases Di b W.heap.size with hlt|hge
   ·exact hlt
   ·simp [World.cell?, Addr.add,Array.getElem?_eq_none hge] at h0
  ·rw [Ds] at hu
   have hj:j<len:=by
    rcases Di j len with hlt|hge
    ·exact hlt
    ·rw [DG (by omega)] at hu;cases hu
   have:=h4 j (by omega)
   rw [DT hj,Bk (by omega)] at hu
   rw [Bt,Bk (by omega)] at this
   simp only [De,Bd] at hu
   subst hu
   have ha:(Addr.mk b off none).add j=⟨b,off+j,none⟩:=by by_cases h0:j=0<;>simp [Addr.add,h0]
   rw [ha] at this
   simpa using this
  ·simp only [Dj] at hu
   obtain ⟨z,_,rfl⟩:=hu
   rfl
theorem QmQ {a:Ty}{ok:a.T->Bool}{F:a.T->V}{args:List V}{x:a.T}(h:a.args args=some x)(hok:ok x=true):Qv (Qo a ok F) args []=some (F x,[]):=by
 simp [Qv,Qo,h,hok]
end
end Go.Proofs.YthlcobdnemhcdaaGreat.K
/-
 What is handed to a law,whatever its types of plain data:the datum that is read is a typed value.
-/
namespace Go.Proofs.YthlcobdnemhcdaaGreat.K
open Go.RowKit Go.ChangeShapes Go.WideShapes Go.Deep
def Ty.wf:(y:Ty)->y.T->Prop
 |.int k,n=>(Lit.int k n).wf=true
 |.bool,_=>True
 |.str,s=>s.size<=maxLen
 |.sl e,l=>List.length l<=maxLen∧ ∀ x∈l,e.wf x
 |.nil,_=>True
 |.pr f r,x=>f.wf x.1/\r.wf x.2
 |.rv,_=>True
 |.rb,_=>True
def IY (P:Program)(T:TypeId->Ty->Bool):List Field->Nat->Ty->Bool
 | [],_,.nil=>true
 |f::r,o,.pr a b=>decide (f.offset=o)&&decide (P.cellsOf f.type=a.sz)&&T f.type a&&IY P T r (o+a.sz) b
 |_,_,_=>false
def UM (P:Program):Nat->TypeId->Ty->Bool
 |0,_,_=>false
 |n+1,t,y=>match P.underlying t with
  |some (.int k)=>decide (y= .int k)
  |some .bool=>decide (y= .bool)
  |some .string=>decide (y= .str)
  |some (.slice e)=>match y with
   |.sl z=>UM P n e z&&decide (P.cellsOf e=z.sz)&&decide (0<z.sz)
   |_=>false
  |some (.struct fs)=>y.row&&decide (P.cellsOf t=y.sz)&&IY P (UM P n) fs.toList 0 y
  |_=>false
abbrev noX:Nat->Nat->Prop:=fun _ _=>False
section
variable {H:Type}{enc:TypeId×Value->H}{P:Program}{w:World}{base:Nat}{sp:Nat->Bool}{held:Bool}{σ:Pl}
theorem QmR {X:Nat->Nat->Prop}: ∀ (y:Ty) (x:y.T) (vs:List Value),Cs X w σ (y.cells x) vs->vs.length=y.sz∧ ∀ v∈vs,v.oneCell'=true
 |.int k,n,vs,h=>by
  simp only [Ty.cells,Cs] at h
  obtain ⟨u,us,rfl,h1,rfl⟩:=h
  simp only [C] at h1
  exact ⟨rfl,fun v hv=>by simp at hv;subst hv;rw [h1.1];exact h1.2⟩
 |.bool,n,vs,h=>by
  simp only [Ty.cells,Cs] at h
  obtain ⟨u,us,rfl,h1,rfl⟩:=h
  simp only [C] at h1
  exact ⟨rfl,fun v hv=>by simp at hv;subst hv;rw [h1.1];exact h1.2⟩
 |.str,n,vs,h=>by
  simp only [Ty.cells,Cs] at h
  obtain ⟨u,us,rfl,h1,rfl⟩:=h
  simp only [C] at h1
  exact ⟨rfl,fun v hv=>by simp at hv;subst hv;rw [h1.1];exact h1.2⟩
 |.sl e,l,vs,h=>by
  simp only [Ty.cells,Cs] at h
  obtain ⟨u,us,rfl,h1,rfl⟩:=h
  simp only [C] at h1
  obtain ⟨A,c,rfl,_⟩:=h1
  exact ⟨rfl,fun v hv=>by simp at hv;subst hv;rfl⟩
 |.rv,l,vs,h=>by
  simp only [Ty.cells,Cs] at h
  obtain ⟨u,us,rfl,h1,rfl⟩:=h
  simp only [C] at h1
  obtain ⟨A,c,rfl,_⟩:=h1
  exact ⟨rfl,fun v hv=>by simp at hv;subst hv;rfl⟩
 |.rb,l,vs,h=>by
  simp only [Ty.cells,Cs] at h
  obtain ⟨u,us,rfl,h1,rfl⟩:=h
  simp only [C] at h1
  obtain ⟨A,c,rfl,_⟩:=h1
  exact ⟨rfl,fun v hv=>by simp at hv;subst hv;rfl⟩
 |.nil,_,vs,h=>by
  simp only [Ty.cells,Cs] at h
  subst h
  exact ⟨rfl,fun v hv=>by cases hv⟩
 |.pr f r,x,vs,h=>by
  simp only [Ty.cells] at h
  obtain ⟨v1,v2,rfl,h1,h2⟩:=Cs.split h
  obtain ⟨a1,a2⟩:=QmR f x.1 v1 h1
  obtain ⟨b1,b2⟩:=QmR r x.2 v2 h2
  refine ⟨by simp only [Bm,Ty.sz,a1,b1],fun v hv=> ?_⟩
  rcases BE.1 hv with hv|hv
  ·exact a2 v hv
  ·exact b2 v hv
theorem QxO {X:Nat->Nat->Prop}{z:Ty}: ∀ (l:List z.T) (vs:List Value),Cs X w σ (l.flatMap z.cells) vs→ ∀ v∈vs,v.oneCell'=true
 | [],vs,h=>by
  simp only [List.flatMap_nil,Cs] at h
  subst h
  intro v hv
  cases hv
 |x::l,vs,h=>by
  rw [BU] at h
  obtain ⟨v1,v2,rfl,h1,h2⟩:=Cs.split h
  intro v hv
  rcases BE.1 hv with hv|hv
  ·exact (QmR z x v1 h1).2 v hv
  ·exact QxO l v2 h2 v hv
theorem QxP {T:TypeId->Ty->Bool}{n:Nat}{cs:List Value}(hT: ∀ t y cs x,T t y=true->DataW.trod enc P w base sp held n t cs=some x→ ∃ z:y.T,Cs noX w σ (y.cells z) cs/\y.wf z):
  ∀ (fs:List Field) (o:Nat) (y:Ty),IY P T fs o y=true->(∀ (i:Nat) (f:Field),fs[i]? = some f→ ∃ x,DataW.trod enc P w base sp held n f.type ((cs.drop f.offset).take (P.cellsOf f.type))=some x)->o+y.sz=cs.length→
   ∃ z:y.T,Cs noX w σ (y.cells z) (cs.drop o)/\y.wf z
 | [],o,y,h,_,hl=>by
  cases y<;>simp only [IY,BK] at h
  refine ⟨(), ?_,trivial⟩
  simp only [Ty.sz] at hl
  rw [Dn (by omega)]
  simp only [Ty.cells,Cs]
 |f::r,o,y,h,hf,hl=>by
  cases y with
  |pr a b=>
   simp only [IY,Bc,Ba] at h
   obtain ⟨⟨⟨h1,h2⟩,h3⟩,h4⟩:=h
   obtain ⟨x,hx⟩:=hf 0 f rfl
   rw [h1,h2] at hx
   obtain ⟨z1,c1,w1⟩:=hT _ _ _ _ h3 hx
   simp only [Ty.sz] at hl
   obtain ⟨z2,c2,w2⟩:=QxP hT r (o+a.sz) b h4 (fun i f' hi=>hf (i+1) f' (by simpa using hi)) (by omega)
   refine ⟨(z1,z2), ?_,w1,w2⟩
   have:=c1.app c2
   rw [←List.drop_drop,List.take_append_drop] at this
   exact this
  |_=>simp only [IY,BK] at h
theorem QxQ {z:Ty}{a:Addr}: ∀ (len:Nat),(∀ i,i<len→ ∃ cs',w.cells? base (a.add (i*z.sz)) z.sz=some cs'∧ ∃ z1:z.T,Cs noX w Q3 (z.cells z1) cs'/\z.wf z1)→
  ∃ (l:List z.T) (vs:List Value),l.length=len/\Cs noX w Q3 (l.flatMap z.cells) vs/\vs.length=len*z.sz/\(∀ j,j<len*z.sz->w.cell? (a.add j)=vs[j]?)∧ ∀ x∈l,z.wf x
 |0,_=>⟨[],[],rfl,by simp [Cs],by simp,fun j hj=>by omega,fun x hx=>by cases hx⟩
 |k+1,h=>by
  obtain ⟨l,vs,h1,h2,h3,h4,h5⟩:=QxQ k fun i hi=>h i (by omega)
  obtain ⟨cs',hc,z1,c1,w1⟩:=h k (by omega)
  obtain ⟨_,hl,hat⟩:=World.cells?_some hc
  have e:(k+1)*z.sz=k*z.sz+z.sz:=Nat.succ_mul k z.sz
  refine ⟨l++[z1],vs++cs',by simp [h1], ?_,by rw [Bm,h3,hl,e],fun j hj=> ?_,fun x hx=> ?_⟩
  ·rw [DV]
   exact h2.app (by simpa using c1)
  ·by_cases hj2:j<k*z.sz
   ·rw [Dz (by omega)]
    exact h4 j hj2
   ·obtain ⟨i,rfl⟩: ∃ i,j=k*z.sz+i:=⟨j-k*z.sz,by omega⟩
    rw [List.getElem?_append_right (by omega),h3,Nat.add_sub_cancel_left, ← hat i (by omega),Go.Deep.add_add]
  ·rcases BE.1 hx with hx|hx
   ·exact h5 x hx
   ·simp at hx
    subst hx
    exact w1
theorem QmS: ∀ (n:Nat) (t:TypeId) (y:Ty) (Jk:Nat) (cs:List Value) (x:DataW H×List MemPlace) (σ:Pl),UM P n t y=true->DataW.trod enc P w base sp held Jk t cs=some x→
  ∃ z:y.T,Cs noX w σ (y.cells z) cs/\y.wf z
 |0,t,y,_,_,_,_,h,_=>by simp [UM] at h
 |n+1,t,y,Jk,cs,x,σ,h,hx=>by
  simp only [UM] at h
  cases hu:P.underlying t with
  |none=>rw [hu] at h;cases h
  |some d=>
   rw [hu] at h
   cases d<;>simp only [BK] at h
   case int k=>
    simp only [Ba] at h
    subst h
    obtain ⟨m,rfl,_,hw⟩:=DataW.trod_int hu hx
    exact ⟨m,by simp only [Ty.cells];exact Cs.mk1 (show _/\_ from ⟨rfl,rfl⟩),hw⟩
   case bool=>
    simp only [Ba] at h
    subst h
    obtain ⟨m,rfl,_⟩:=DataW.trod_bool hu hx
    exact ⟨m,by simp only [Ty.cells];exact Cs.mk1 (show _/\_ from ⟨rfl,rfl⟩),trivial⟩
   case string=>
    simp only [Ba] at h
    subst h
    obtain ⟨m,rfl,_,hw⟩:=DataW.trod_string hu hx
    exact ⟨m,by simp only [Ty.cells];exact Cs.mk1 (show _/\_ from ⟨rfl,rfl⟩),hw⟩
   case slice e=>
    cases y<;>simp only [BK] at h
    case sl z=>
     simp only [Bc,Ba] at h
     obtain ⟨⟨h1,h2⟩,h3⟩:=h
     rcases open_slice hu hx with ⟨rfl,_⟩|⟨a,len,cap,m,f2,D,Pl,rfl,_,hl,hm,hmm,_,hi⟩
     ·refine ⟨[], ?_,by simp [maxLen],fun x hx=>by cases hx⟩
      simp only [Ty.cells]
      refine Cs.mk1 ?_
      simp only [C,Bv]
      exact ⟨none,0,rfl,BB _,by simp [maxLen],fun _=>rfl,fun h=>absurd h (by omega)⟩
     ·have hle:len<=m:=by rw [hmm];split<;>omega
      obtain ⟨l,vs,q1,q2,q3,q4,q5⟩:=QxQ (w:=w) (base:=base) (z:=z) (a:=a) len fun i hil=>by
       obtain ⟨cs',g1,g2⟩:=hi i (by omega)
       rw [h2] at g1
       exact ⟨cs',g1,QmS n e z f2 cs' _ Q3 h1 g2⟩
      refine ⟨l, ?_,⟨by omega,q5⟩⟩
      simp only [Ty.cells]
      refine Cs.mk1 ?_
      simp only [C]
      refine ⟨some a,cap,by rw [q1],by omega,hm,fun h0=>by have:l=[]:=BC h0;subst this;rfl,fun hp=> ?_⟩
      rw [q1] at hp
      obtain ⟨v0,hv0⟩: ∃ v,vs[0]? = some v:=by
       have:0<vs.length:=by rw [q3];exact Nat.mul_pos hp h3
       exact ⟨_,Bk this⟩
      have h0:=q4 0 (Nat.mul_pos hp h3)
      rw [hv0] at h0
      obtain ⟨b,off,spot⟩:=a
      have hsp:spot=none:=by
       simp only [World.cell?, Addr.add] at h0
       cases spot with
       |none=>rfl
       |some s=>split at h0<;>simp at h0
      subst hsp
      refine ⟨b,off,vs,rfl,q2, ?_,fun j _ h=>h,fun j u hu'=> ?_,fun u hu'=> ?_⟩
      ·rcases Di b w.heap.size with hlt|hge
       ·exact hlt
       ·simp [World.cell?, Addr.add,Array.getElem?_eq_none hge] at h0
      ·have hj:j<len*z.sz:=by rw [←q3];exact (BJ.1 hu').1
       have:=q4 j hj
       have ha:(Addr.mk b off none).add j=⟨b,off+j,none⟩:=by by_cases h0:j=0<;>simp [Addr.add,h0]
       rw [ha,hu'] at this
       exact this
      ·exact (QxO l vs q2) u hu'
   case struct fs=>
    simp only [Bc,Ba] at h
    obtain ⟨⟨_,h2⟩,h3⟩:=h
    obtain ⟨xs,m,_,_,hlen,hxl,hf⟩:=DataW.trod_struct hu hx
    have:=QxP (n:=m) (cs:=cs) (σ:=σ) (fun t y cs x=>QmS n t y m cs x σ) fs.toList 0 y h3 (fun i f hi=>by
     have hi':fs[i]? = some f:=by simpa using hi
     have hlt:=(BY.1 hi').1
     exact ⟨xs[i]'(by omega),(hf i f hi').trans (Bk _)⟩) (by omega)
    simpa using this
theorem QmT {n:Nat}{t:TypeId}{y:Ty}{v:Value}{r:Reach}{b0:Nat}{d:DataW H}{ps:List MemPlace}(h:UM P (n+1) t y=true)(hval:Value.okWide P w r b0 t v)(hd:DataW.Trod enc P w base sp held t v d ps):
  ∃ z:y.T,C noX w σ (V.t y z).d v/\y.wf z:=by
 have h':=h
 obtain ⟨Jk,hf⟩:=hd
 obtain ⟨z,hz,hw⟩:=QmS (n+1) t y Jk _ _ σ h hf
 refine ⟨z, ?_,hw⟩
 simp only [UM] at h
 simp only [V.d]
 cases hu:P.underlying t with
 |none=>rw [hu] at h;cases h
 |some dsc=>
  rw [hu] at h
  cases dsc<;>simp only [BK] at h
  case int k=>
   simp only [Ba] at h
   subst h
   obtain ⟨m,rfl,_⟩:=open_int hu hval ⟨Jk,hf⟩
   simp only [Ty.cells,Value.cells] at hz
   obtain ⟨u,e,hc⟩:=hz.one
   simp at e
   subst e
   exact hc
  case bool=>
   simp only [Ba] at h
   subst h
   obtain ⟨m,rfl,_⟩:=open_bool hu hval ⟨Jk,hf⟩
   simp only [Ty.cells,Value.cells] at hz
   obtain ⟨u,e,hc⟩:=hz.one
   simp at e
   subst e
   exact hc
  case string=>
   simp only [Ba] at h
   subst h
   obtain ⟨m,rfl,_⟩:=Go.ChangeMaps.open_string hu hval ⟨Jk,hf⟩
   simp only [Ty.cells,Value.cells] at hz
   obtain ⟨u,e,hc⟩:=hz.one
   simp at e
   subst e
   exact hc
  case slice e=>
   cases y<;>simp only [BK] at h
   case sl z'=>
    obtain ⟨a,len,cap,rfl⟩:=okWide_slice hu hval
    simp only [Ty.cells,Value.cells] at hz
    obtain ⟨u,e,hc⟩:=hz.one
    simp at e
    subst e
    exact hc
  case struct fs=>
   simp only [Bc] at h
   obtain ⟨cs,rfl,_⟩:=okWide_struct hu hval
   rw [y.d_row z h.1.1]
   simp only [C]
   exact ⟨cs.toList,by simp,by simpa [Value.cells] using hz⟩
end
end Go.Proofs.YthlcobdnemhcdaaGreat.K
/-
 Operations that are taken like calls:what they make.
-/
namespace Go.Proofs.YthlcobdnemhcdaaGreat.K
open Go.RowKit
def tyR (y:Ty):Nat->Ty
 |0=> .nil
 |n+1=> .pr y (tyR y n)
def IZ (y:Ty):(n:Nat)->(tyR y n).T->Nat->y.T
 |0,_,_=>y.zero
 |n+1,x,0=>(show y.T×(tyR y n).T from x).1
 |n+1,x,j+1=>IZ y n (show y.T×(tyR y n).T from x).2 j
theorem QMo (y:Ty)(n:Nat):(tyR y n).row=true:=by cases n<;>rfl
theorem QxR (y:Ty): ∀ (n:Nat) (x:(tyR y n).T) (j:Nat),j<n->(((tyR y n).cells x).drop (j*y.sz)).take y.sz=y.cells (IZ y n x j)/\j*y.sz+y.sz<=((tyR y n).cells x).length
 |0,_,j,h=>by omega
 |n+1,x,0,_=>by
  have e:(tyR y (n+1)).cells x=y.cells (show y.T×(tyR y n).T from x).1++(tyR y n).cells (show y.T×(tyR y n).T from x).2:=rfl
  have hl:=y.cells_len (show y.T×(tyR y n).T from x).1
  rw [e,DN,BG,List.take_left' hl]
  exact ⟨rfl,by rw [Bm];omega⟩
 |n+1,x,j+1,h=>by
  have e:(tyR y (n+1)).cells x=y.cells (show y.T×(tyR y n).T from x).1++(tyR y n).cells (show y.T×(tyR y n).T from x).2:=rfl
  have hl:=y.cells_len (show y.T×(tyR y n).T from x).1
  obtain ⟨h1,h2⟩:=QxR y n (show y.T×(tyR y n).T from x).2 j (by omega)
  have e2:(j+1)*y.sz=y.sz+j*y.sz:=by rw [Nat.succ_mul,Nat.add_comm]
  rw [e,e2]
  refine ⟨?_,by rw [Bm];omega⟩
  rw [←List.drop_drop,List.drop_left' hl]
  exact h1
section
variable {P:Program}
theorem QMp {f:FuncId}{a:Ty}{ok:a.T->Bool}{F:a.T->V}{g:List Value->Sem Value}(hg:YE f=some g)
  (h: ∀ x,ok x=true→ ∀ (X:Nat->Nat->Prop) (w:World) (σ:Pl) vs,Cs X w σ (V.ds (a.canon x)) vs→ ∃ u,(g vs).run P w= .ok u w/\C X w σ (F x).d u):Qu P f (Qv (Qo a ok F)):=by
 intro args objs r os hF X w σ vs hfin hl hc
 unfold Qv Qo at hF
 cases objs with
 |cons o os'=>simp at hF
 |nil=>
  simp only at hF
  cases ha:a.args args with
  |none=>rw [ha] at hF;cases hF
  |some x=>
   rw [ha] at hF
   simp only at hF
   split at hF
   ·rename_i r' os' hq
    simp only [Bd,Bp] at hF hq
    obtain ⟨rfl,rfl⟩:=hF
    obtain ⟨h1,rfl,rfl⟩:=hq
    obtain ⟨u,e1,e2⟩:=h x h1 X w σ vs (GB ha hc)
    unfold Does
    rw [hg]
    exact ⟨u,w,e1,u,X,σ,rfl,e2,QeJ rfl hfin (Below.refl _ _)⟩
   ·cases hF
theorem QMq {t e n:Nat}{k:IntKind}{y:Ty}{d:TypeDesc}{inf:TypeInfo}(ht:P.underlying t=some (.array n e))(he:P.underlying e=some d)(hr:isRow d=y.row)(hi:P.info? e=some inf)(hsz:inf.size=y.sz)
  (arr:(tyR y n).T) (i:Int) (hok:0<=i/\i<(n:Int)) (X:Nat->Nat->Prop) (w:World) (σ:Pl) (vs:List Value) (hc:Cs X w σ (V.ds [.t (tyR y n) arr,.t (.int k) i]) vs):
  ∃ u,(match vs with|[x,y]=>Instr.index t x y|_=>stuck "operands").run P w= .ok u w/\C X w σ (V.t y (IZ y n arr i.toNat)).d u:=by
  simp only [Ty.canon,V.ds,Cs] at hc
  obtain ⟨u,us,rfl,h1,u2,us2,rfl,h2,rfl⟩:=hc
  simp only [V.d] at h1
  rw [Ty.d_row _ _ (QMo y n)] at h1
  simp only [C] at h1
  obtain ⟨cs,rfl,hcs⟩:=h1
  simp only [V.d,Ty.d,C] at h2
  rw [h2.1]
  obtain ⟨q1,q2⟩:=QxR y n arr i.toNat (by omega)
  have hlen:=hcs.len
  have hcs2:=(hcs.drop_ (i.toNat*y.sz)).take_ y.sz
  rw [q1] at hcs2
  cases hrow:y.row with
  |true=>
   refine ⟨.agg ((cs.drop (i.toNat*y.sz)).take y.sz).toArray, ?_, ?_⟩
   ·rw [hrow] at hr
    simp [Instr.index,asIntOf,run_underlying ht,hok.1,hok.2,sizeOf,typeInfo,hi,hsz,part,FP he,hr,List.take_drop]
   ·simp only [V.d]
    rw [Ty.d_row _ _ hrow]
    simp only [C]
    exact ⟨_,rfl,hcs2⟩
  |false=>
   have hd:=y.d_one (IZ y n arr i.toNat) hrow
   have h1:y.sz=1:=by have:=y.cells_len (IZ y n arr i.toNat);rw [hd] at this;exact this.symm
   rw [hd] at hcs2
   obtain ⟨v,hv,hcv⟩:=hcs2.one
   have hv0:cs[i.toNat*y.sz]? = some v:=by
    have:((cs.drop (i.toNat*y.sz)).take y.sz)[0]? = some v:=by rw [hv];rfl
    rw [DT (by omega),Dl,DM] at this
    exact this
   refine ⟨v, ?_,hcv⟩
   rw [hrow] at hr
   simp [Instr.index,asIntOf,run_underlying ht,hok.1,hok.2,sizeOf,typeInfo,hi,hsz,part,FP he,hr,hv0]
def I0 (y:Ty)(n:Nat)(x:(tyR y n).T)(i:Int):y.T:=IZ y n x i.toNat
def GD (y:Ty)(n:Nat)(_x:(tyR y n).T)(i:Int):Bool:=decide ((0:Int)<=i/\i<(n:Int))
theorem QxS {t e n:Nat}{k:IntKind}{y:Ty}(ht:P.underlying t=some (.array n e))(hr:(P.underlying e).map isRow=some y.row)(hi:(P.info? e).map TypeInfo.size=some y.sz)(hlt:t<10000):
  Qu P (Jm 2 t 0) (Qv (Qo (.pr (tyR y n) (.pr (.int k) .nil)) (fun x=>GD y n x.1 x.2.1) (fun x=> .t y (I0 y n x.1 x.2.1)))):=by
 obtain ⟨d,he,hr⟩:=Bj.1 hr
 obtain ⟨inf,hi,hsz⟩:=Bj.1 hi
 exact QMp (QEZ hlt) fun x hok X w σ vs hc=>QMq ht he hr hi hsz x.1 x.2.1 (BD hok) X w σ vs hc
theorem QxT {X:Nat->Nat->Prop}{w:World}{σ:Pl}: ∀ (l:List UInt8),Cs X w σ (List.flatMap (Ty.int .u8).cells (l.map fun b=>(b.toNat:Int))) (l.map fun b=>Value.int .u8 (b.toNat:Int))
 | []=>by simp [Cs]
 |b::l=>by
  simp only [BP,BU,Ty.cells,BH,Cs,C]
  exact ⟨_,_,rfl,⟨rfl,rfl⟩,QxT l⟩
def X6 (s:ByteArray):Bool:=decide (s.size<=9223372036854775807)
theorem QMr {a b e:Nat}(ha:P.underlying a=some .string)(hb:P.underlying b=some (.slice e))(he:P.underlying e=some (.int .u8))(hlt:a<10000):
  Qu P (Jm 0 a b) (Qv (Qo (.pr .str .nil) (fun x=>X6 x.1) (fun x=> .t (.sl (.int .u8)) (QZ x.1)))):=by
 intro args objs r os hF X w σ vs hfin hl hc
 unfold Qv Qo at hF
 cases objs with
 |cons o os'=>simp at hF
 |nil=>
  simp only at hF
  cases ha':(Ty.pr .str .nil).args args with
  |none=>rw [ha'] at hF;cases hF
  |some x=>
   rw [ha'] at hF
   simp only at hF
   split at hF
   ·rename_i r' os' hq
    simp only [Bd,Bp] at hF hq
    obtain ⟨rfl,rfl⟩:=hF
    obtain ⟨h1,rfl,rfl⟩:=hq
    have hc2:=GB ha' hc
    obtain ⟨s,u0⟩:=x
    have h1:s.size<=9223372036854775807:=BD h1
    simp only [Ty.canon,V.ds,V.d,Ty.d,Cs,C] at hc2
    obtain ⟨u,us,rfl,⟨rfl,_⟩,rfl⟩:=hc2
    have hr:=run_bytes_of_string (P:=P) w a b e s ha hb he
    have hge:=grownCap_ge w s.size 0 e
    have hle:=grownCap_le_maxLen w s.size 0 e (by simp [maxLen];omega)
    generalize grownCap w s.size 0 e=cap at hr hge hle
    have hbel:Below w.heap.size w (w.drew.alloc (.cells (bytesRow s cap) e ((bytesRow s cap).size,(bytesRow s cap).size+1))):=((Below.refl _ _).drew).alloc (BB _) _
    have hblk:(w.drew.alloc (.cells (bytesRow s cap) e ((bytesRow s cap).size,(bytesRow s cap).size+1))).heap[w.heap.size]? = some (.cells (bytesRow s cap) e ((bytesRow s cap).size,(bytesRow s cap).size+1)):=heap_alloc_new _ _
    have hlen:(QZ s).length=s.size:=by simp [QZ]
    unfold Does
    rw [QEY hlt]
    refine ⟨_,_,hr,_,X,σ,rfl, ?_,QeJ rfl hfin hbel⟩
    simp only [V.d,Ty.d,C]
    refine ⟨some ⟨w.heap.size,0,none⟩,cap,by rw [hlen],by rw [hlen];exact hge,hle,fun h0=>by rw [BC h0];rfl,fun _=>⟨w.heap.size,0,s.data.toList.map fun b=>Value.int .u8 (b.toNat:Int),rfl,QxT _, ?_,fun j _ hx=> ?_,fun j v hj=> ?_,fun v hv=> ?_⟩⟩
    ·exact (BY.1 hblk).1
    ·exact absurd (hfin _ _ hx) (BN _)
    ·have hjl:=(BJ.1 hj).1
     rw [BT] at hjl
     have:(bytesRow s cap)[j]? = some v:=by
      unfold bytesRow
      rw [Array.getElem?_append_left (by simpa using hjl)]
      rw [Ds] at hj
      simpa using hj
     simp only [World.cell?, hblk,DS]
     exact this
    ·simp only [Dj] at hv
     obtain ⟨b,_,rfl⟩:=hv
     rfl
   ·cases hF
end
end Go.Proofs.YthlcobdnemhcdaaGreat.K
/-
 Own slices that are handed to a function:it writes them,or uses them up.
-/
namespace Go.Proofs.YthlcobdnemhcdaaGreat.K
open Go.RowKit Go.Sort
@[reducible] def SOt:List SO->Type
 | []=>Unit
 |s::r=>s.T×SOt r
def X7:(l:List SO)->SOt l->List VO
 | [],_=>[]
 |s::r,x=>s.mk x.1::X7 r x.2
def VO.wk (s:SO)(o:VO):VO:=
 match s,o with
 |.arr e _,.arr e' t l=>if e=e'+1000000/\e'<1000000 then .arr e t l else o
 |_,_=>o
def Qar:(l:List SO)->List VO->Option (SOt l)
 | [],[]=>some ()
 |s::r,o::os=>match s.rd (o.wk s),Qar r os with
  |some x,some y=>some (x,y)
  |_,_=>none
 |_,_=>none
theorem wk_at {X:Nat->Nat->Prop}{w:World}{σ:Pl}{k:Nat}{s:SO}{o:VO}(h:OAt X w σ k o)(hn:o≠ .no):OAt X w σ k (o.wk s)/\o.wk s≠ .no:=by
 unfold VO.wk
 split
 ·split
  ·rename_i hc
   obtain ⟨u,xs,h1,h2,h3⟩:=h
   exact ⟨⟨u,xs,h1,by rw [hc.1];exact h2.weak hc.2,h3⟩,by simp⟩
  ·exact ⟨h,hn⟩
 ·exact ⟨h,hn⟩
theorem QmU: ∀ {l:List SO} {os:List VO} {x:SOt l},Qar l os=some x->(X7 l x).length=os.length∧ ∀ (j:Nat) o,(X7 l x)[j]? = some o→ ∃ s o',os[j]? = some o'/\o=o'.wk s
 | [],[],_,_=>⟨rfl,fun j o h=>by simp [X7] at h⟩
 | [],_::_,_,h=>by cases h
 |_::_,[],_,h=>by cases h
 |s::r,v::vs,x,h=>by
  simp only [Qar] at h
  split at h
  ·rename_i x1 y1 h1 h2
   simp only [Bd] at h
   subst h
   obtain ⟨q1,q2⟩:=QmU h2
   refine ⟨by simp only [X7,Br,q1],fun j o hj=> ?_⟩
   cases j with
   |zero=>
    simp only [X7,BZ,Bd] at hj
    exact ⟨s,v,rfl,by rw [←hj, ← SO.rd_mk h1]⟩
   |succ j=>
    simp only [X7,B5] at hj ⊢
    exact q2 j o hj
  ·cases h
theorem QMs {X:Nat->Nat->Prop}{w:World}{σ:Pl}{l:List SO}{os:List VO}{x:SOt l}(h:Qar l os=some x)(hl:Lent X w σ os):Lent X w σ (X7 l x):=by
 obtain ⟨h1,h2⟩:=QmU h
 refine ⟨fun j o hj=> ?_,fun i j b hij hi hj=>hl.apart i j b hij (by omega) (by omega)⟩
 obtain ⟨s,o',q1,rfl⟩:=h2 j o hj
 obtain ⟨a,b⟩:=hl.at_ j o' q1
 exact wk_at a b
def XA (l:List SV)(os:List SO)(ok:SVt l->SOt os->Bool)(F:SVt l->SOt os->V)(O:SVt l->SOt os->List VO):Ent:=fun args objs=>
 match Es l args,Qar os objs with
 |some x,some y=>some (ok x y,F x y,O x y)
 |_,_=>none
def QmV:SV->V->V
 |.ty t,v=>if t.row=true then (match v.as t with|some x=> .t t x|none=>v) else v
 |.bf _ t,.fn g [v]=>if t.row=true then (match v.as t with|some x=> .fn g [.t t x]|none=> .fn g [v]) else .fn g [v]
 |_,v=>v
def Qas:List SV->List V->List V
 |s::r,v::vs=>QmV s v::Qas r vs
 |_,vs=>vs
def GE (l:List SV)(os:List SO)(ok:SVt l->SOt os->Bool)(F:SVt l->SOt os->V)(O:SVt l->SOt os->List VO):Ent:=fun args objs=>XA l os ok F O (Qas l args) objs
theorem as_cs {X:Nat->Nat->Prop}{w:World}{σ:Pl}{t:Ty}{v:V}{x:t.T}{u:Value}(h:v.as t=some x)(hc:C X w σ v.d u):C X w σ (V.t t x).d u:=
 C.up _ _ (V.as_spec h hc)
theorem coeV_c {X:Nat->Nat->Prop}{w:World}{σ:Pl}{u:Value}(s:SV)(v:V)(hc:C X w σ v.d u):C X w σ (QmV s v).d u:=by
 unfold QmV
 split
 ·split
  ·split
   ·rename_i x h
    exact as_cs h hc
   ·exact hc
  ·exact hc
 ·split
  ·split
   ·rename_i x h
    simp only [V.d,V.ds,C,Cs] at hc ⊢
    obtain ⟨vs,h1,u1,us,h2,h3,h4⟩:=hc
    exact ⟨vs,h1,u1,us,h2,as_cs h h3,h4⟩
   ·exact hc
  ·exact hc
 ·exact hc
theorem QxU {X:Nat->Nat->Prop}{w:World}{σ:Pl}: ∀ (l:List SV) (vs:List V) (us:List Value),Cs X w σ (V.ds vs) us->Cs X w σ (V.ds (Qas l vs)) us
 | [],vs,us,h=>h
 |s::r,[],us,h=>h
 |s::r,v::vs,us,h=>by
  simp only [Qas,V.ds,Cs] at h ⊢
  obtain ⟨u,us',rfl,h2,h3⟩:=h
  exact ⟨u,us',rfl,coeV_c s v h2,QxU r vs us' h3⟩
section
variable {P:Program}
theorem Fy {f:FuncId}{l:List SV}{os:List SO}{ok:SVt l->SOt os->Bool}{F:SVt l->SOt os->V}{O:SVt l->SOt os->List VO}(hM:Qu P f (Qv (XA l os ok F O))):Qu P f (Qv (GE l os ok F O)):=
 fun args objs r os' hF X w σ vs hfin hl hc=>hM (Qas l args) objs r os' hF X w σ vs hfin hl (QxU l args vs hc)
theorem QmW {f:FuncId}{l:List SV}{os:List SO}{ok:SVt l->SOt os->Bool}{F:SVt l->SOt os->V}{O:SVt l->SOt os->List VO}
  (h: ∀ x y,ok x y=true→ ∀ X w σ vs,(∀ b q,X b q->b<w.heap.size)->Lent X w σ (X7 os y)->Cs X w σ (V.ds (Er l x)) vs→
   Does P f vs.toArray w fun e w'=> ∃ u X' σ',e= .returned u/\C X' w' σ' (F x y).d u/\Ends X w σ (X7 os y).length X' w' σ' (O x y)):Qu P f (Qv (XA l os ok F O)):=by
 intro args objs r os' hF X w σ vs hfin hl hc
 unfold Qv XA at hF
 split at hF
 ·rename_i r' os'' hq
  split at hq
  ·rename_i x y hx hy
   simp only [Bd,Bp] at hF hq
   obtain ⟨rfl,rfl⟩:=hF
   obtain ⟨h1,rfl,rfl⟩:=hq
   have ha:=Qao hx
   subst ha
   have:=h x y h1 X w σ vs hfin (QMs hy hl) hc
   rw [(QmU hy).1] at this
   exact this
  ·cases hq
 ·cases hF
theorem X8 {f:FuncId}{R:Fun}{l:List SV}{os:List SO}{ok:SVt l->SOt os->Bool}{F:SVt l->SOt os->V}{O:SVt l->SOt os->List VO}(hM:Qu P f R)
  (h: ∀ x y,ok x y=true->R (Er l x) (X7 os y)=some (F x y,O x y)):Qu P f (Qv (XA l os ok F O)):=
 QmW fun x y hok X w σ vs hfin hl hc=>hM _ _ _ _ (h x y hok) X w σ vs hfin hl hc
variable {X:Nat->Nat->Prop}{w w':World}{σ:Pl}
theorem QxV {o o':VO}{row:Option Nat}(hfin: ∀ b q,X b q->b<w.heap.size)(hat:OAt X w' σ 50000 o')(hg:w.grownBy w' row)(hr:row=none∨row=(σ 50000).blk):Ends X w σ [o].length X w' σ [o']:=by
 refine ⟨fun b q hq=>B9 (hfin b q hq) hg.size,fun j o hj=> ?_,fun i j b hij hi hj=>by simp at hi hj;omega,by simp,fun _ _=>rfl,fun j b hj hl=>by simp at hj hl;omega,⟨hg.os,hg.tape,hg.output,hg.size,fun b hb hm=>hg.block b hb fun he=>hm ?_⟩,fun _ _ _ h=>h,fun _ _ _ _ h=>h⟩
 ·cases j with
  |zero=>
   simp only [BZ,Bd] at hj
   subst hj
   exact ⟨hat,fun h=>absurd h (by simp)⟩
  |succ j=>simp at hj
 ·rcases hr with hr|hr
  ·rw [hr] at he;cases he
  ·simp only [Xg,Bh,D0,Dg]
   exact ⟨0,by omega,by rw [←hr];exact he.symm⟩
theorem QxW {o:VO}{row:Option Nat}(hfin: ∀ b q,X b q->b<w.heap.size)(hg:w.grownBy w' row)(hr:row=none∨row=(σ 50000).blk):Ends X w σ [o].length (fun b q=>X b q/\(σ 50000).blk≠some b) w' σ [.no]:=by
 refine ⟨fun b q hq=>B9 (hfin b q hq.1) hg.size,fun j o hj=> ?_,fun i j b hij hi hj=>by simp at hi hj;omega,by simp,fun _ _=>rfl,fun j b hj hl=>by simp at hj hl;omega,⟨hg.os,hg.tape,hg.output,hg.size,fun b hb hm=>hg.block b hb fun he=>hm ?_⟩,fun _ _ _ h=>h.1,fun b q _ hn h=>⟨h,hn 0 (by simp) rfl⟩⟩
 ·cases j with
  |zero=>
   simp only [BZ,Bd] at hj
   subst hj
   exact ⟨trivial,fun h=>absurd h (by simp)⟩
  |succ j=>simp at hj
 ·rcases hr with hr|hr
  ·rw [hr] at he;cases he
  ·simp only [Xg,Bh,D0,Dg]
   exact ⟨0,by omega,by rw [←hr];exact he.symm⟩
theorem QxX {k:IntKind}: ∀ (l:List Int) (vs:List Value),Cs X w σ (List.flatMap (Ty.int k).cells l) vs->vs=l.map (Value.int k)
 | [],vs,h=>by simpa [Cs] using h
 |z::zs,vs,h=>by
  simp only [BU,Ty.cells,BH,Cs] at h
  obtain ⟨u,us,rfl,h1,h2⟩:=h
  simp only [C] at h1
  rw [h1.1,QxX zs us h2]
  rfl
theorem QmX {k:IntKind}: ∀ (l:List Int),Cs X w σ (List.flatMap (Ty.int k).cells l) (l.map (Value.int k))
 | []=>by simp [Cs]
 |z::zs=>by
  simp only [BU,Ty.cells,BH,Cs,C,BP]
  exact ⟨_,_,rfl,⟨rfl,rfl⟩,QmX zs⟩
def UN {α:Type}(l:List α):Bool:=decide (l.length<4611686018427387904)
def Y5 (l:List Int):List Int:=l.mergeSort fun x y=>decide (x<=y)
theorem QxY {e:Nat}{k:IntKind}{l:List Int}{vs:List Value}(hl:Lent X w σ [.arr e (.int k) l])(hc:Cs X w σ (V.ds [.ms 50000]) vs)(he:e<1000000):
  ∃ u,vs=[u]/\σ 50000= .arr u/\w.ownsRow 0 e 1 u l.length (l.map (Value.int k))∧ ∀ b,u.ownBlock=some b→ ∀ o,X b o:=by
 obtain ⟨⟨u,xs,h1,h2,h3,h4,h5⟩,_⟩:=hl.at_ 0 _ rfl
 simp only [V.ds,V.d,Cs,C] at hc
 obtain ⟨u',us,rfl,⟨g1,_⟩,rfl⟩:=hc
 rw [h1] at g1
 injection g1 with g1
 subst g1
 have:=QxX l xs h3
 subst this
 exact ⟨u,rfl,h1,h2.own he,h5⟩
theorem QMt {f:FuncId}{e:Nat}(hlt:f<1000000)
  (hs: ∀ (blk off cap:Nat) (zs:List Int) (w:World),Holds (Value.int .i64) w blk off zs.toArray->blk<w.heap.size->zs.length<4611686018427387904→
   Calls P f #[.slice (some ⟨blk,off,none⟩) zs.length cap] w fun e w'=>e= .returned (.tuple #[])∧ ∃ n os,w'=grow (putRow (Value.int .i64) (Sort.ahead w n) blk off (zs.mergeSort fun x y=>decide (x<=y)).toArray) os)
  (h0: ∀ (p:Option Addr) (cap:Nat) (w:World),Calls P f #[.slice p 0 cap] w fun e w'=>e= .returned (.tuple #[])/\w'=w) (he:e<1000000:=by decide):
  Qu P f (Qv (XA [.ms 50000] [.arr e (.int .i64)] (fun _ y=>UN y.1) (fun _ _=> .tu []) (fun _ y=>[.arr e (.int .i64) (Y5 y.1)]))):=by
 refine QmW fun x y hok X w σ vs hfin hl hc=> ?_
 obtain ⟨l,u0⟩:=y
 obtain ⟨u,rfl,h1,h2,h3⟩:=QxY hl hc he
 have hok:l.length<4611686018427387904:=BD hok
 have htu: ∀ (w':World),C X w' σ (V.tu []).d (.tuple #[]):=fun w'=>by
  simp only [V.d,V.ds,C,Cs]
  exact ⟨[],rfl,rfl⟩
 have hlen:(Y5 l).length=l.length:=List.length_mergeSort _
 refine QbY hlt ?_
 have none_case: ∀ (p:Option Addr) cap,l=[]->u= .slice p 0 cap->Calls P f [u].toArray w fun e' w'=> ∃ u X' σ',e'= .returned u/\C X' w' σ' (V.tu []).d u/\Ends X w σ (X7 [.arr e (.int .i64)] (l,u0)).length X' w' σ' [.arr e (.int .i64) (Y5 l)]:=by
  intro p cap hl0 hu
  subst hl0 hu
  refine (h0 p cap w).mono ?_
  rintro _ _ ⟨rfl,rfl⟩
  refine ⟨_,X,σ,rfl,htu _,QxV (row:=none) hfin ?_ ⟨rfl,rfl,rfl,BB _,fun _ _ _=>rfl⟩ (.inl rfl)⟩
  have h9:=(hl.at_ 0 _ rfl).1
  have e0:Y5 []=[]:=by simp [Y5]
  rw [e0]
  exact h9
 rcases h2.2 with ⟨q1,q2⟩|⟨g,cap,cur,rfl,q2,q3,q4,q5,q6,q7⟩
 ·exact none_case none 0 (BC q2) q1
 ·by_cases hz:l=[]
  ·exact none_case _ _ hz (by subst hz;rfl)
  ·have ht:cur.toList.take l.length=l.map (Value.int .i64):=by rw [Nat.mul_one] at q7;exact q7
   have hb:g<w.heap.size:=(BY.1 q3).1
   refine (hs g 0 cap l w (holds_of_blockI q3 ht) hb hok).mono ?_
   rintro _ _ ⟨rfl,n,os,rfl⟩
   refine ⟨_,X,σ,rfl,htu _,QxV (row:=some g) hfin ?_ (grownBy_sortedI _) (.inr (by rw [h1];rfl))⟩
   have hown:=ownsRow_sortedI (n:=n) (os:=os) (ss:=l) (ts:=Y5 l) hlen (Da g) q3 q4 q5 q6
   refine ⟨_,(Y5 l).map (Value.int .i64),h1,by rw [hlen];exact .of hown,QmX _,fun x hx=> ?_,h3⟩
   obtain ⟨z,_,rfl⟩:=Dj.1 hx
   rfl
theorem QMu {f:FuncId}{e:Nat}(hlt:f<1000000)
  (hs: ∀ (blk off cap:Nat) (zs:List Int) (w:World),Holds (Value.int .i64) w blk off zs.toArray->zs.length<=9223372036854775807->zs.length<=cap→
   Calls P f #[.slice (some ⟨blk,off,none⟩) zs.length cap] w fun e w'=>e= .returned (.slice (some ⟨blk,off,none⟩) (Lib.compact zs).length cap)∧ ∃ q,w'=putRow (Value.int .i64) (Sort.ahead w q) blk off (Lib.compact zs++List.replicate (zs.length-(Lib.compact zs).length) 0).toArray)
  (h0: ∀ (a:Option Addr) (cap:Nat) (w:World),Calls P f #[.slice a 0 cap] w fun e w'=>e= .returned (.slice a 0 cap)/\w'=w) (he:e<1000000:=by decide):
  Qu P f (Qv (XA [.ms 50000] [.arr e (.int .i64)] (fun _ y=>UN y.1) (fun _ y=> .t (.sl (.int .i64)) (Lib.compact y.1)) (fun _ _=>[.no]))):=by
 refine QmW fun x y hok X w σ vs hfin hl hc=> ?_
 obtain ⟨l,u0⟩:=y
 obtain ⟨u,rfl,h1,h2,h3⟩:=QxY hl hc he
 have hok:l.length<4611686018427387904:=BD hok
 have hmx:maxLen=9223372036854775807:=rfl
 have hle:(Lib.compact l).length<=l.length:=by
  unfold Lib.compact Lib.compactUpTo
  rw [BT]
  exact Db (List.length_filter_le _ _) (by simp)
 refine QbY hlt ?_
 have none_case: ∀ (p:Option Addr) cap,cap<=maxLen->l=[]->u= .slice p 0 cap->Calls P f [u].toArray w fun e' w'=> ∃ u X' σ',e'= .returned u/\C X' w' σ' (V.t (.sl (.int .i64)) (Lib.compact l)).d u/\Ends X w σ (X7 [.arr e (.int .i64)] (l,u0)).length X' w' σ' [.no]:=by
  intro p cap hcap hl0 hu
  subst hl0 hu
  refine (h0 p cap w).mono ?_
  rintro _ _ ⟨rfl,rfl⟩
  refine ⟨_,_,σ,rfl, ?_,QxW (row:=none) hfin ⟨rfl,rfl,rfl,BB _,fun _ _ _=>rfl⟩ (.inl rfl)⟩
  simp only [V.d,Ty.d,C]
  exact ⟨p,cap,rfl,Da _,hcap,fun _=>rfl,fun h=>absurd h (by decide)⟩
 rcases h2.2 with ⟨q1,q2⟩|⟨g,cap,cur,rfl,q2,q3,q4,q5,q6,q7⟩
 ·exact none_case none 0 (Da _) (BC q2) q1
 ·by_cases hz:l=[]
  ·exact none_case _ _ q5 hz (by subst hz;rfl)
  ·have ht:cur.toList.take l.length=l.map (Value.int .i64):=by rw [Nat.mul_one] at q7;exact q7
   have hb:g<w.heap.size:=(BY.1 q3).1
   refine (hs g 0 cap l w (holds_of_blockI q3 ht) (by have:=hok;omega) q4).mono ?_
   rintro _ _ ⟨rfl,q,rfl⟩
   have e1:putRow (Value.int .i64) (Sort.ahead w q) g 0 (Lib.compact l++List.replicate (l.length-(Lib.compact l).length) 0).toArray=grow (putRow (Value.int .i64) (Sort.ahead w q) g 0 (Lib.compact l++List.replicate (l.length-(Lib.compact l).length) 0).toArray) #[]:=(grow_empty _).symm
   rw [e1]
   have hg:=grownBy_sortedI (w:=w) (g:=g) (n:=q) (os:= #[]) (Lib.compact l++List.replicate (l.length-(Lib.compact l).length) 0).toArray
   have q4':l.length<=cap:=q4
   have hblk:=heap_sortedI (n:=q) (os:= #[]) (Lib.compact l++List.replicate (l.length-(Lib.compact l).length) 0).toArray q3
   have hbk:(σ 50000).blk=some g:=by rw [h1];rfl
   refine ⟨_,_,σ,rfl, ?_,QxW (row:=some g) hfin hg (.inr hbk.symm)⟩
   generalize grow (putRow (Value.int .i64) (Sort.ahead w q) g 0 (Lib.compact l++List.replicate (l.length-(Lib.compact l).length) 0).toArray) #[]=w' at hg hblk ⊢
   simp only [V.d,Ty.d,C]
   refine ⟨some ⟨g,0,none⟩,cap,rfl,by omega,q5,fun h=>by rw [BC h];rfl,fun _=>⟨g,0,(Lib.compact l).map (Value.int .i64),rfl,QmX _,B9 hb hg.size,fun j _ hx=>hx.2 hbk,fun j v hj=> ?_,fun v hv=> ?_⟩⟩
   ·have hjl:=(BJ.1 hj).1
    rw [BT] at hjl
    have hts:=take_putCellsI cur (Lib.compact l++List.replicate (l.length-(Lib.compact l).length) 0) (by rw [Bm,List.length_replicate,q6];omega)
    have h4:(putCells (Value.int .i64) 0 (Lib.compact l++List.replicate (l.length-(Lib.compact l).length) 0).toArray cur).toList[j]? = some v:=by
     have this:(List.take _ _)[j]? = (List.map _ _)[j]? :=congrArg (fun l:List Value=>l[j]?) hts
     rw [DT (by rw [Bm];omega),List.map_append,Dz (by rw [BT];exact hjl),hj] at this
     exact this
    simp only [World.cell?, hblk,DS]
    rw [Array.getElem?_toList] at h4
    exact h4
   ·obtain ⟨z,_,rfl⟩:=Dj.1 hv
    rfl
end
end Go.Proofs.YthlcobdnemhcdaaGreat.K
/-
 Interfaces:values that are put into them,methods that are called through them;functions of which there is more than one word.
-/
namespace Go.Proofs.YthlcobdnemhcdaaGreat.K
open Go.RowKit
section
variable {P:Program}
def spI (t:Nat):Ent:=fun args objs=>
 match args,objs with
 | [.t y x],[]=>some (true,.ifc t (.t y x),[])
 |_,_=>none
theorem QxZ {t e:Nat}(ht:P.underlying t=some (.slice e))(hlt:t<10000):Qu P (Jm 3 t 0) (Qv (spI t)):=by
 intro args objs r os hF X w σ vs hfin hl hc
 unfold Qv spI at hF
 split at hF
 ·rename_i r' os' hq
  split at hq
  ·rename_i y x
   simp only [Bd,Bp] at hF hq
   obtain ⟨rfl,rfl⟩:=hF
   obtain ⟨_,rfl,rfl⟩:=hq
   simp only [V.ds,Cs] at hc
   obtain ⟨u,us,rfl,h1,rfl⟩:=hc
   unfold Does
   rw [QE0 hlt]
   refine ⟨.iface t u,w, ?_,_,X,σ,rfl, ?_,QeJ rfl hfin (Below.refl _ _)⟩
   ·show (Instr.makeInterface t u).run P w= .ok (.iface t u) w
    simp [Instr.makeInterface,run_underlying ht]
   ·simp only [V.d,C]
    exact ⟨u,rfl,h1⟩
  ·cases hq
 ·cases hF
def spM (t:Nat)(F:Ent):Ent:=fun args objs=>
 match args with
 |.ifc t' v::rest=>if t'=t then F (v::rest) objs else none
 |_=>none
theorem QeL {t i fn:Nat}{name:String}{F:Ent}(hn:FS[i]? = some name)(hm: ∀ v,QqU P t v name fn v)(he: ∃ fd,P.funcs[fn]? = some fd/\fd.body.isSome=true/\(fd.name== "runtime.NumGoroutine")=false)(hlt:fn<1000000)(hM:Qu P fn (Qv F)):Qu P (Jm 15 i 0) (Qv (spM t F)):=by
 intro args objs r os hF X w σ vs hfin hl hc
 have key: ∃ v rest,args= .ifc t v::rest/\Qv F (v::rest) objs=some (r,os):=by
  unfold Qv at hF
  split at hF
  ·rename_i r' os' hq
   unfold spM at hq
   split at hq
   ·rename_i t' v rest
    split at hq
    ·rename_i ht
     subst ht
     refine ⟨v,rest,rfl, ?_⟩
     unfold Qv
     rw [hq]
     exact hF
    ·cases hq
   ·cases hq
  ·cases hF
 obtain ⟨v,rest,rfl,hF'⟩:=key
 simp only [V.ds,Cs] at hc
 obtain ⟨u,us,rfl,h1,h2⟩:=hc
 simp only [V.d,C] at h1
 obtain ⟨x,rfl,h1⟩:=h1
 have hd:=U5 hlt (hM _ _ _ _ hF' X w σ (x::us) hfin hl (Cs.cons h1 h2))
 unfold Does
 rw [Qh1.1]
 simp only [Qh1.2,hn]
 exact ⟨t,x,fn,x,us,rfl,hm x,he,hd⟩
def orF (R1 R2:Fun):Fun:=fun a o=>match R1 a o with
 |some x=>some x
 |none=>R2 a o
theorem I1 {f:FuncId}{R1 R2:Fun}(h1:Qu P f R1)(h2:Qu P f R2):Qu P f (orF R1 R2):=by
 intro args objs r os hF
 unfold orF at hF
 split at hF
 ·rename_i x hx
  simp only [Bd] at hF
  subst hF
  exact h1 _ _ _ _ hx
 ·exact h2 _ _ _ _ hF
end
end Go.Proofs.YthlcobdnemhcdaaGreat.K
noncomputable section
namespace Go.Proofs.YthlcobdnemhcdaaGreat.K
open Go.RowKit
def Gz:Code->List (Array Oper)
 |.region _ ops _=>[ops]
 |.seq a b=>Gz a++Gz b
 |.cond _ a b=>Gz a++Gz b
 |.rangeFunc _ _ a b=>Gz a++Gz b
 |.block _ c=>Gz c
 |.loop c=>Gz c
 |_=>[]
noncomputable def Qeu (f:Func)(i:Nat):Array Oper:=match f.body with
 |some c=>(Gz c).getD i #[]
 |none=> #[]
noncomputable def rT (f:Func)(i:Nat):List RO:=(Qeu f i).toList.map (trR Tryz.prog (Qeu f i))
noncomputable def dT (f:Func)(i:Nat):List DO:=(Qeu f i).toList.map (trD Tryz.prog (Qeu f i))
abbrev tI:Ty:= .int .i64
abbrev Qxv:Ty:=(.pr tI (.pr tI (.pr .bool (.pr (.int .u8) .nil))))
abbrev Qxw:Ty:=(.pr .str (.pr (.int .u64) .nil))
abbrev Qk:Ty:=(.pr tI (.pr tI .nil))
abbrev Keep:Type:=Int×(Int×Unit)
abbrev Keep.Alg (x:Keep):Int:=x.1
abbrev Keep.Bits (x:Keep):Int:=x.2.1
abbrev QP:Ty:=(.pr tI (.pr .str (.pr .str (.pr Qk (.pr tI (.pr Qk (.pr tI (.pr tI (.pr .bool (.pr tI (.pr (.sl .str) (.pr Qk .nil))))))))))))
abbrev Certificate:Type:=Int×(ByteArray×(ByteArray×(Keep×(Int×(Keep×(Int×(Int×(Bool×(Int×((List ByteArray)×(Keep×Unit)))))))))))
abbrev Certificate.Serial (x:Certificate):Int:=x.1
abbrev Certificate.Issuer (x:Certificate):ByteArray:=x.2.1
abbrev Certificate.Subject (x:Certificate):ByteArray:=x.2.2.1
abbrev Certificate.Key (x:Certificate):Keep:=x.2.2.2.1
abbrev Certificate.KeyId (x:Certificate):Int:=x.2.2.2.2.1
abbrev Certificate.Hash (x:Certificate):Keep:=x.2.2.2.2.2.1
abbrev Certificate.From (x:Certificate):Int:=x.2.2.2.2.2.2.1
abbrev Certificate.To (x:Certificate):Int:=x.2.2.2.2.2.2.2.1
abbrev Certificate.Authority (x:Certificate):Bool:=x.2.2.2.2.2.2.2.2.1
abbrev Certificate.Path (x:Certificate):Int:=x.2.2.2.2.2.2.2.2.2.1
abbrev Certificate.Names (x:Certificate):(List ByteArray):=x.2.2.2.2.2.2.2.2.2.2.1
abbrev Certificate.Seal (x:Certificate):Keep:=x.2.2.2.2.2.2.2.2.2.2.2.1
abbrev QX:Ty:=(.pr Qk (.pr tI (.pr (.sl QP) .nil)))
abbrev Identity:Type:=Keep×(Int×((List Certificate)×Unit))
abbrev Identity.Key (x:Identity):Keep:=x.1
abbrev Identity.KeyId (x:Identity):Int:=x.2.1
abbrev Identity.Chain (x:Identity):(List Certificate):=x.2.2.1
abbrev QC:Ty:=(.pr .str (.pr tI (.pr tI (.pr (.sl tI) (.pr .bool (.pr (.sl QX) (.pr (.sl tI) (.pr (.sl tI) (.pr .bool .nil)))))))))
abbrev Endpoint:Type:=ByteArray×(Int×(Int×((List Int)×(Bool×((List Identity)×((List Int)×((List Int)×(Bool×Unit))))))))
abbrev Endpoint.Name (x:Endpoint):ByteArray:=x.1
abbrev Endpoint.Least (x:Endpoint):Int:=x.2.1
abbrev Endpoint.Most (x:Endpoint):Int:=x.2.2.1
abbrev Endpoint.Suites (x:Endpoint):(List Int):=x.2.2.2.1
abbrev Endpoint.OwnOrder (x:Endpoint):Bool:=x.2.2.2.2.1
abbrev Endpoint.Identities (x:Endpoint):(List Identity):=x.2.2.2.2.2.1
abbrev Endpoint.Anchors (x:Endpoint):(List Int):=x.2.2.2.2.2.2.1
abbrev Endpoint.Hashes (x:Endpoint):(List Int):=x.2.2.2.2.2.2.2.1
abbrev Endpoint.Fallback (x:Endpoint):Bool:=x.2.2.2.2.2.2.2.2.1
abbrev Q2:Ty:=(.pr Qk (.pr tI .nil))
abbrev Link:Type:=Keep×(Int×Unit)
abbrev Link.Use (x:Link):Keep:=x.1
abbrev Link.Day (x:Link):Int:=x.2.1
abbrev Qp:Ty:=(.pr .str (.pr tI (.pr tI (.pr (.sl Q2) (.pr tI .nil)))))
abbrev Item:Type:=ByteArray×(Int×(Int×((List Link)×(Int×Unit))))
abbrev Item.Name (x:Item):ByteArray:=x.1
abbrev Item.Kind (x:Item):Int:=x.2.1
abbrev Item.Purpose (x:Item):Int:=x.2.2.1
abbrev Item.Links (x:Item):(List Link):=x.2.2.2.1
abbrev Item.Until (x:Item):Int:=x.2.2.2.2.1
abbrev Qm:Ty:=(.pr (.sl QC) (.pr (.sl Qk) (.pr (.sl Qp) .nil)))
abbrev Estate:Type:=(List Endpoint)×((List Keep)×((List Item)×Unit))
abbrev Estate.Endpoints (x:Estate):(List Endpoint):=x.1
abbrev Estate.Edges (x:Estate):(List Keep):=x.2.1
abbrev Estate.Items (x:Estate):(List Item):=x.2.2.1
abbrev Q4:Ty:=(.pr .bool (.pr tI (.pr tI (.pr tI (.pr tI (.pr tI .nil))))))
abbrev Rule:Type:=Bool×(Int×(Int×(Int×(Int×(Int×Unit)))))
abbrev Rule.Allow (x:Rule):Bool:=x.1
abbrev Rule.Alg (x:Rule):Int:=x.2.1
abbrev Rule.Below (x:Rule):Int:=x.2.2.1
abbrev Rule.Purpose (x:Rule):Int:=x.2.2.2.1
abbrev Rule.From (x:Rule):Int:=x.2.2.2.2.1
abbrev Rule.To (x:Rule):Int:=x.2.2.2.2.2.1
abbrev QE:Ty:=(.pr (.sl Q4) (.pr (.sl Qk) .nil))
abbrev Policy:Type:=(List Rule)×((List Keep)×Unit)
abbrev Policy.Rules (x:Policy):(List Rule):=x.1
abbrev Policy.Keeps (x:Policy):(List Keep):=x.2.1
abbrev Jb:Ty:=(.pr tI (.pr Q2 .nil))
abbrev Job:Type:=Int×(Link×Unit)
abbrev Job.Item (x:Job):Int:=x.1
abbrev Job.Link (x:Job):Link:=x.2.1
abbrev Qev:Ty:=(.pr Qk (.pr tI (.pr .str (.pr Qk (.pr (.sl Qk) .nil)))))
abbrev Exception:Type:=Keep×(Int×(ByteArray×(Keep×((List Keep)×Unit))))
abbrev Exception.Use (x:Exception):Keep:=x.1
abbrev Exception.Purpose (x:Exception):Int:=x.2.1
abbrev Exception.Endpoint (x:Exception):ByteArray:=x.2.2.1
abbrev Exception.Days (x:Exception):Keep:=x.2.2.2.1
abbrev Exception.Seals (x:Exception):(List Keep):=x.2.2.2.2.1
abbrev Qt:Ty:=(.pr (.sl tI) (.pr tI .nil))
abbrev Dice:Type:=(List Int)×(Int×Unit)
abbrev Dice.L (x:Dice):(List Int):=x.1
abbrev Dice.At (x:Dice):Int:=x.2.1
abbrev Qxx:Ty:=(.pr tI (.pr tI (.pr tI (.pr tI (.pr QX .nil)))))
abbrev Change:Type:=Int×(Int×(Int×(Int×(Identity×Unit))))
abbrev Change.Endpoint (x:Change):Int:=x.1
abbrev Change.Kind (x:Change):Int:=x.2.1
abbrev Change.Number (x:Change):Int:=x.2.2.1
abbrev Change.At (x:Change):Int:=x.2.2.2.1
abbrev Change.Identity (x:Change):Identity:=x.2.2.2.2.1
abbrev Qxy:Ty:=(.pr QE (.pr (.sl Qev) (.pr Qt (.pr tI .nil))))
abbrev Rules:Type:=Policy×((List Exception)×(Dice×(Int×Unit)))
abbrev Rules.p (x:Rules):Policy:=x.1
abbrev Rules.l (x:Rules):(List Exception):=x.2.1
abbrev Rules.o (x:Rules):Dice:=x.2.2.1
abbrev Rules.day (x:Rules):Int:=x.2.2.2.1
abbrev Qxz:Ty:=(.pr Qk (.pr (.pr Qk (.pr Qk (.pr Qk (.pr Qk .nil)))) .nil))
abbrev Method:Type:=Keep×((Keep×(Keep×(Keep×(Keep×Unit))))×Unit)
abbrev Method.outcome (x:Method):Keep:=x.1
abbrev Method.uses (x:Method):(Keep×(Keep×(Keep×(Keep×Unit)))):=x.2.1
abbrev JL:Ty:=(.pr tI (.pr tI (.pr .bool .nil)))
abbrev LinkX:Type:=Int×(Int×(Bool×Unit))
abbrev LinkX.day (x:LinkX):Int:=x.1
abbrev LinkX.fall (x:LinkX):Int:=x.2.1
abbrev LinkX.falls (x:LinkX):Bool:=x.2.2.1
abbrev Jv:Ty:=(.pr tI (.pr .str (.pr Qk (.pr Qk (.pr Qk (.pr Qk (.pr tI (.pr tI .nil))))))))
abbrev Suite:Type:=Int×(ByteArray×(Keep×(Keep×(Keep×(Keep×(Int×(Int×Unit)))))))
abbrev Suite.Code (x:Suite):Int:=x.1
abbrev Suite.Name (x:Suite):ByteArray:=x.2.1
abbrev Suite.Exchange (x:Suite):Keep:=x.2.2.1
abbrev Suite.Sign (x:Suite):Keep:=x.2.2.2.1
abbrev Suite.Cipher (x:Suite):Keep:=x.2.2.2.2.1
abbrev Suite.Mac (x:Suite):Keep:=x.2.2.2.2.2.1
abbrev Suite.Least (x:Suite):Int:=x.2.2.2.2.2.2.1
abbrev Suite.Most (x:Suite):Int:=x.2.2.2.2.2.2.2.1
abbrev Qr:Ty:=(.pr .str (.pr tI (.pr tI (.pr (.sl tI) (.pr (.sl tI) .nil)))))
abbrev Row:Type:=ByteArray×(Int×(Int×((List Int)×((List Int)×Unit))))
abbrev Row.name (x:Row):ByteArray:=x.1
abbrev Row.kind (x:Row):Int:=x.2.1
abbrev Row.way (x:Row):Int:=x.2.2.1
abbrev Row.sizes (x:Row):(List Int):=x.2.2.2.1
abbrev Row.strengths (x:Row):(List Int):=x.2.2.2.2.1
abbrev QxA:Ty:=(.pr QC (.pr tI (.pr (.sl tI) .nil)))
abbrev Talk:Type:=Endpoint×(Int×((List Int)×Unit))
abbrev Talk.server (x:Talk):Endpoint:=x.1
abbrev Talk.version (x:Talk):Int:=x.2.1
abbrev Talk.suites (x:Talk):(List Int):=x.2.2.1
abbrev GA:Ty:=(.pr .str (.pr tI .nil))
abbrev Symbol:Type:=ByteArray×(Int×Unit)
abbrev Symbol.name (x:Symbol):ByteArray:=x.1
abbrev Symbol.kind (x:Symbol):Int:=x.2.1
def TYl:List (Nat×Ty):=[(2,tI),(3,tI),(4,.bool),(5,(.int .u8)),(6,(.int .u8)),(7,Qxv),(8,Qxv),(9,.str),(10,.str),(11,.str),(12,(.int .u64)),(13,Qxw),(14,Qxw),(21,(.int .i32)),(22,(.sl tI)),(25,(.sl QC)),(26,(.sl Qk)),(27,(.sl Qp)),(28,Qm),(29,Qm),(30,(.sl Q4)),(31,(.sl Qk)),(32,QE),(33,QE),(34,(.sl Jb)),(39,tI),(42,Qk),(43,Qk),(44,Q2),(45,Q2),(46,Jb),(47,Jb),(53,(.sl Qm)),(60,(.sl Q2)),(61,Qp),(62,Qp),(65,Q4),(66,Q4),(69,Qk),(70,Qk),(71,(.sl Qk)),(72,Qev),(73,Qev),(78,(.sl Qev)),(79,Qt),(80,Qt),(84,(.sl Qk)),(97,(.sl Qk)),(98,Qt),(99,Qt),(109,(.sl QX)),(110,QC),(111,QC),(112,Qk),(113,Qk),(115,(.sl .str)),(124,(.sl QP)),(125,QX),(126,QX),(127,Qxx),(128,Qxx),(130,Qk),(131,Qk),(135,Qxy),(136,Qxy),(142,Qk),(143,Qk),(149,(.sl (.sl tI))),(172,(.sl Qk)),(175,(.sl (.int .u8))),(179,Qk),(180,Qk),(196,(.pr Qk (.pr Qk (.pr Qk (.pr Qk .nil))))),(197,Qxz),(198,Qxz),(203,QP),(204,QP),(213,(.sl JL)),(214,JL),(215,JL),(216,(.sl JL)),(217,(.sl JL)),(231,(.sl QJ)),(232,(.pr tI (.pr (.sl (.int .u8)) (.pr .bool (.pr (.sl QJ) .nil))))),(233,QJ),(238,(.int .u32)),(248,Jv),(249,Jv),(261,Qr),(262,Qr),(272,(.int .u64)),(283,QxA),(284,QxA),(287,(.sl Jv)),(289,GA),(290,GA),(291,(.sl GA)),(296,(.pr Qr (.pr Qr (.pr Qr (.pr Qr (.pr Qr (.pr Qr (.pr Qr (.pr Qr (.pr Qr (.pr Qr (.pr Qr (.pr Qr (.pr Qr (.pr Qr (.pr Qr (.pr Qr (.pr Qr (.pr Qr (.pr Qr (.pr Qr (.pr Qr (.pr Qr (.pr Qr .nil)))))))))))))))))))))))),(298,Qk),(299,(.pr Qk (.pr Qk (.pr Qk (.pr Qk (.pr Qk .nil)))))),(328,tI),(337,(.int .u64)),(339,(.int .u64)),(359,(.int .u8)),(360,(.int .u8)),(363,(.int .i32)),(364,(.int .i32))]
def TYs (e:Nat):Option Ty:=TYl.lookup e
def keeps:List Nat:=[252,264]
theorem mixed:Tryz.prog.follows .mixedOrders=true:=by kernel_rfl
def QxB:Ent:=Qo (.pr (.pr Qr (.pr Qr (.pr Qr (.pr Qr (.pr Qr (.pr Qr (.pr Qr (.pr Qr (.pr Qr (.pr Qr (.pr Qr (.pr Qr (.pr Qr (.pr Qr (.pr Qr (.pr Qr (.pr Qr (.pr Qr (.pr Qr (.pr Qr (.pr Qr (.pr Qr (.pr Qr .nil))))))))))))))))))))))) (.pr tI .nil)) (fun x=>(GD Qr 23 x.1 x.2.1)) (fun x=>(.t Qr (I0 Qr 23 x.1 x.2.1)))
theorem QL7:Ja Tryz.prog 1004738:= .inl (by kernel_rfl)
theorem QL8:Qu Tryz.prog 1004738 (Qv QxB):=QxS (t:=296) (e:=262) (n:=23) (y:=Qr) (k:= .i64) (by kernel_rfl) (by kernel_rfl) (by kernel_rfl) (by decide)
def QxC:Ent:=Qo (.pr (.pr Qk (.pr Qk (.pr Qk (.pr Qk (.pr Qk .nil))))) (.pr tI .nil)) (fun x=>(GD Qk 5 x.1 x.2.1)) (fun x=>(.t Qk (I0 Qk 5 x.1 x.2.1)))
theorem QL9:Ja Tryz.prog 1004786:= .inl (by kernel_rfl)
theorem QMa:Qu Tryz.prog 1004786 (Qv QxC):=QxS (t:=299) (e:=298) (n:=5) (y:=Qk) (k:= .i64) (by kernel_rfl) (by kernel_rfl) (by kernel_rfl) (by decide)
def Qan:Ent:=Qo (.pr .str .nil) (fun x=>(X6 x.1)) (fun x=>(.t (.sl (.int .u8)) (QZ x.1)))
theorem Qew:Ja Tryz.prog 29000144:= .inl (by kernel_rfl)
theorem Qex:Qu Tryz.prog 29000144 (Qv Qan):=QMr (a:=9) (b:=175) (e:=5) (by kernel_rfl) (by kernel_rfl) (by kernel_rfl) (by decide)
theorem mG {g:G}{f:FuncId}{fn:Func}{tc:TC}{rv:List (RV×Option Ty)}{ro:Bool}(hf:Tryz.prog.funcs[f]? = some fn)(ok:Option.map (trC Tryz.prog) fn.body=some tc.er)(hn:fn.ntmps=g.n)(hr:XV Tryz.prog fn.results.toList=some (rv.map Prod.fst))(hg:GOk Tryz.prog g)(hl:tc.lok g)(hlt:f<1000000:=by decide):Qu Tryz.prog f (QS g tc rv ro):=by
 obtain ⟨c,hc,hi⟩:=Bj.1 ok
 exact QMe hlt hf hc hi hn hr hg hl mixed
def Fs:List (Nat×Ent)->Prop
 | []=>True
 |p::l=>(Ja Tryz.prog p.1/\Qu Tryz.prog p.1 (Qv p.2))/\Fs l
theorem gA: ∀ {l:List (Nat×Ent)},Fs l→ ∀ p∈l,Ja Tryz.prog p.1/\Qu Tryz.prog p.1 (Qv p.2)
 | [],_,p,hp=>by cases hp
 |q::l,h,p,hp=>by
  rcases BA.1 hp with rfl|hp
  ·exact h.1
  ·exact gA h.2 p hp
theorem gC {k:Nat}{e:Ent}{l:List (Nat×Ent)}(h1:Ja Tryz.prog k)(h2:Qu Tryz.prog k (Qv e))(h:Fs l):Fs ((k,e)::l):=⟨⟨h1,h2⟩,h⟩
theorem gN:Fs []:=trivial
abbrev OX:Type:=Option (Exit×VS)
abbrev OV:Type:=Option (V×List VO)
theorem nxA (f:VS->OX):(∀ q a b,nxt f (br q a b)=br q (nxt f a) (nxt f b))/\(∀ S,nxt f (some (.normal,S))=f S)/\(∀ S,nxt f (some (.ret,S))=some (.ret,S))/\(∀ i S,nxt f (some (.exit i,S))=some (.exit i,S))/\nxt f none=none:=⟨fun _ _ _=>Xy,fun _=>rfl,fun _=>rfl,fun _ _=>rfl,rfl⟩
theorem lnT {b:VS->OX}{S:VS}{x y:OX}(k:nxt (Qx b) x=y)(h:b S=x:=by kernel_rfl):Qx b S=y:=(Ft b S).trans (by rw [h];exact k)
theorem kT {α:Type}{a b c:α}(k:b=c)(h:a=b:=by kernel_rfl):a=c:=h.trans k
abbrev LO (g:G)(fg:Fg)(tb:TC)(j:Nat):Prop:= ∀ S l p,g.L j (fgt fg S)=some (true,l)->YU l=some p->Qx (QA g fg tb) S=some p
def gG (n:Nat)(e:List (Nat×Ent))(L:Nat->VS->Option (Bool×List (Bool×Exit×VS))):G:=⟨TYs,[],n,EL e,keeps,L,IL [],RL []⟩
theorem QI {g:G}{s:Sh}{a:TC}{ok:SVs s.vs->SOs s.os->Bool}{Yj:SVs s.vs->SOs s.os->List (Bool×Exit×VS)}(h: ∀ x y,ok x y=true→ ∀ p,YU (Yj x y)=some p->Qx (QA g s.f a) (s.st x y)=some p)(hok:s.f.ok:=by exact ⟨by decide,by decide⟩):
 ∀ S l p,mkL s ok Yj (fgt s.f S)=some (true,l)->YU l=some p->Qx (QA g s.f a) S=some p:=lok_of (s:=s) hok rfl h
def ap:List (Nat×(TC->TC))->Nat->TC->TC
 | [],_,t=>t
 |(k,f)::r,n,t=>if k==n then f (ap r n t) else ap r n t
def aA (l:List (Nat×(TC->TC))):AC->Nat->TC
 |.sk,n=>ap l n .sk
 |.reg rs,n=>ap l n (.reg rs)
 |.dr ds,n=>ap l n (.dr ds [] .nil)
 |.sq a b,n=>ap l n (.sq (aA l a (2*n)) (aA l b (2*n+1)))
 |.cd x a b,n=>ap l n (.cd x (aA l a (2*n)) (aA l b (2*n+1)))
 |.bk i a,n=>ap l n (.bk i (aA l a (2*n)))
 |.lp a,n=>ap l n (.lp 0 ⟨[],[]⟩ (aA l a (2*n)))
 |.ex i,n=>ap l n (.ex i)
 |.rt,n=>ap l n .rt
 |_,_=> .sk
def pL (j:Nat)(f:Fg):TC->TC
 |.lp _ _ a=> .lp j f a
 |t=>t
def pD (o:List (Nat×List Nat))(p:PT):TC->TC
 |.dr ds _ _=> .dr ds o p
 |t=>t
noncomputable def aF (f:Func)(l:List (Nat×(TC->TC))):TC:=match f.body with
 |some c=>aA l (trC Tryz.prog c) 1
 |none=> .sk
def lbO (j:Nat):TC->Option TC
 |.lp i _ a=>if i==j then some a else lbO j a
 |.sq a b|.cd _ a b=>match lbO j a with
  |some x=>some x
  |none=>lbO j b
 |.bk _ a|.fg _ a|.nw _ _ a|.nf _ _ _ _ a|.fz _ a|.ad _ a|.mv _ a=>lbO j a
 |_=>none
def lb (j:Nat)(t:TC):TC:=(lbO j t).getD .sk
def lps:TC->Option (List (Nat×Fg×TC))
 |.lp j f a=>(lps a).map fun l=>(j,f,a)::l
 |.sq a b|.cd _ a b=>match lps a,lps b with
  |some x,some y=>some (x++y)
  |_,_=>none
 |.bk _ a|.fg _ a|.nw _ _ a|.nf _ _ _ _ a|.fz _ a|.ad _ a|.mv _ a=>lps a
 |.rg _ _ _ _|.rf _ _ _ _ _ _ _ _=>none
 |_=>some []
def Wz (g:G):List (Nat×Fg×TC)->Prop
 | []=>True
 |x::l=>LO g x.2.1 x.2.2 x.1/\Wz g l
theorem Qey {g:G}: ∀ {a b:List (Nat×Fg×TC)},Wz g (a++b)->Wz g a/\Wz g b
 | [],_,h=>⟨trivial,h⟩
 |_::_,_,h=>⟨⟨h.1,(Qey h.2).1⟩,(Qey h.2).2⟩
theorem lok2 {g:G}{a b:TC}{l:List (Nat×Fg×TC)}(ia: ∀ l,lps a=some l->Wz g l->a.lok g)(ib: ∀ l,lps b=some l->Wz g l->b.lok g)
  (h:(match lps a,lps b with|some x,some y=>some (x++y)|_,_=>none)=some l) (k:Wz g l):a.lok g/\b.lok g:=by
 split at h
 · rename_i x y h1 h2
   simp only [Bd] at h
   subst h
   exact ⟨ia _ h1 (Qey k).1,ib _ h2 (Qey k).2⟩
 · cases h
theorem En {g:G}: ∀ (t:TC) (l:List (Nat×Fg×TC)),lps t=some l->Wz g l->t.lok g
 |.lp j f a,l,h,k=>by
  unfold lps at h
  obtain ⟨l',h1,rfl⟩:=Bj.1 h
  exact ⟨k.1,En a l' h1 k.2⟩
 |.sq a b,l,h,k=>lok2 (En a) (En b) h k
 |.cd _ a b,l,h,k=>lok2 (En a) (En b) h k
 |.bk _ a,l,h,k|.fg _ a,l,h,k|.nw _ _ a,l,h,k|.nf _ _ _ _ a,l,h,k|.fz _ a,l,h,k|.ad _ a,l,h,k|.mv _ a,l,h,k=>En a l h k
 |.rg _ _ _ _,l,h,k=>by cases h
 |.rf _ _ _ _ _ _ _ _,l,h,k=>by cases h
 |.sk,_,_,_|.reg _,_,_,_|.dr _ _ _,_,_,_|.ex _,_,_,_|.rt,_,_,_=>trivial
theorem lkL {g:G}{t:TC}{l:List (Nat×Fg×TC)}(k:Wz g l)(h:lps t=some l:=by kernel_rfl):t.lok g:=En t l h k
theorem lkn {g:G}:Wz g []:=trivial
theorem lkc {g:G}{f:Fg}{a:TC}{j:Nat}{l:List (Nat×Fg×TC)}(h:LO g f a j)(k:Wz g l):Wz g ((j,f,a)::l):=⟨h,k⟩
def EM (f:FuncId)(e:Ent):Prop:=Ja Tryz.prog f/\Qu Tryz.prog f (Qv e)
theorem gD {k:Nat}{e:Ent}{l:List (Nat×Ent)}(h:EM k e)(t:Fs l):Fs ((k,e)::l):=⟨h,t⟩
theorem gB {n:Nat}{e:List (Nat×Ent)}{L:Nat->VS->Option (Bool×List (Bool×Exit×VS))}(h:Fs e):GOk Tryz.prog (gG n e L):=Jp _ (gA h)
theorem mS {k:FuncId}{e:Ent}(g:G)(tc:TC)(rv:List (RV×Option Ty))(ro:Bool)(gk:GOk Tryz.prog g)(hs:Qu Tryz.prog k (QS g tc rv ro)->Qu Tryz.prog k (Qv e))(lk:tc.lok g:=by exact lkL lkn)
  (hc:Tryz.prog.funcs[k]?.map (fun fn=>(Option.map (trC Tryz.prog) fn.body,XV Tryz.prog fn.results.toList,fn.name== "runtime.NumGoroutine", fn.ntmps))=some (some tc.er,some (rv.map Prod.fst),false,g.n):=by kernel_rfl) (hlt:k<1000000:=by decide):EM k e:=by
 obtain ⟨fn,hf,hc⟩:=Bj.1 hc
 simp only [Bp] at hc
 refine ⟨.inr ⟨hlt,fn,hf, ?_,hc.2.2.1⟩,hs (mG hf hc.1 hc.2.2.2 hc.2.1 gk lk hlt)⟩
 cases hb:fn.body with
 |none=>rw [hb] at hc;cases hc.1
 |some c=>rfl
end Go.Proofs.YthlcobdnemhcdaaGreat.K
noncomputable section
namespace Go.Proofs.YthlcobdnemhcdaaGreat.K
open Go.RowKit
theorem QL {y:Ty}{l:List y.T}{j:Nat}(h:j<l.length):lgt y l j=l[j]:=by
 unfold lgt
 rw [Bt,Bk h]
 rfl
theorem QO {k:Nat}(h:k<4611686018427387904):Qj .i64 (k:Int) 1=((k+1:Nat):Int):=by
 unfold Qj
 rw [Go.IntWalk.i64_in _ (by omega)]
 rfl
theorem Jz {a b:Int}(h: -9223372036854775808<=a+b/\a+b<=9223372036854775807):Qj .i64 a b=a+b:=Go.IntWalk.i64_in _ h
theorem JO {a b:Int}(h: -9223372036854775808<=a-b/\a-b<=9223372036854775807):Qw .i64 a b=a-b:=Go.IntWalk.i64_in _ h
theorem QK {α:Type}{l:List α}{k:Nat}:cIx l (k:Int)=decide (k<l.length):=by
 unfold cIx
 congr 1
 exact propext ⟨fun h=>by omega,fun h=>by omega⟩
theorem Qy {a b:Nat}:ilt (a:Int) (b:Int)=decide (a<b):=by
 unfold ilt
 congr 1
 exact propext ⟨fun h=>by omega,fun h=>by omega⟩
theorem Yv {p:Prop}[Decidable p](h:p):decide p=true:=by simp [h]
theorem QVb {p:Prop}[Decidable p](h: ¬ p):decide p=false:=by simp [h]
theorem QQ {α:Type}(l:List α)(P:Nat->Prop)(h0:P l.length)(hs: ∀ k,k<l.length->P (k+1)->P k): ∀ k,k<=l.length->P k:=by
 intro k hk
 induction hn:l.length-k generalizing k with
 |zero=>
  have:k=l.length:=by omega
  subst this
  exact h0
 |succ n ih=>exact hs k (by omega) (ih (k+1) (by omega) (by omega))
theorem Qcs (N:Nat)(P:Nat->Prop)(h0:P N)(hs: ∀ k,k<N->P (k+1)->P k): ∀ k,k<=N->P k:=by
 intro k hk
 induction hn:N-k generalizing k with
 |zero=>
  have:k=N:=by omega
  subst this
  exact h0
 |succ n ih=>exact hs k (by omega) (ih (k+1) (by omega) (by omega))
def Gd {α:Type}(l:List α)(i:Int):Bool:=decide (0<=i/\i<=l.length/\l.length<=100000)
def QD {α:Type}(l:List α)(n i:Int):Bool:=decide (n=l.length/\0<=i/\i<=n/\l.length<=100000)
theorem JG {α:Type}{l:List α}{n i:Int}(h:QD l n i=true):n=l.length/\l.length<=100000∧ ∃ k:Nat,i=k/\k<=l.length:=by
 simp only [QD,Ba] at h
 obtain ⟨h1,h2,h3,h4⟩:=h
 exact ⟨h1,h4,i.toNat,by omega,by omega⟩
theorem JH {α:Type}{l:List α}(h:l.length<=100000):QD l (Qc l) 0=true:=by
 simp only [QD,Ba,Qc]
 exact ⟨trivial,by omega,by omega,h⟩
theorem QVc {a b:Nat}:igt (a:Int) (b:Int)=decide (b<a):=by
 unfold igt
 congr 1
 exact propext ⟨fun h=>by omega,fun h=>by omega⟩
theorem WY {α:Type}{l l2:List α}{b:Nat}(h:l.length+l2.length<=1000000)(hb:b<=1000):Qq l l2 b=true:=by
 unfold Qq
 rw [Ba]
 calc (l.length+l2.length)*(b+1)<=1000000*1001:=Nat.mul_le_mul h (by omega)
  _<=140737488355328:=by decide
theorem F4 {x y:Bool}{l:List VO}(h:x=y):some (V.t .bool x,l)=some (V.t .bool y,l):=by rw [h]
theorem Qct {a b:Int}:ine a b=decide (a≠b):=by
 unfold ine
 simp [bne,Bool.beq_eq_decide_eq]
theorem ZS {a b:Int}:ieq a b=decide (a=b):=by
 unfold ieq
 rw [Bool.beq_eq_decide_eq]
def E3 (l:List Int):Bool:=decide (l.length<=400)
def tc_f8:TC:=aF Tryz.f8 []
def g_f8:G:=gG 6 [] (fun _ _=>none)
def r_f8 (p0:List Int):OV:=some (.t .bool (ile (Qc p0) 400),[])
theorem s_f8 (l:List Int):r_f8 l=some (.t .bool (E3 l),[]):=by
 simp only [r_f8,E3]
 congr 3
 unfold ile Qc
 congr 1
 exact propext ⟨fun h=>by omega,fun h=>by omega⟩
def sp_f8:Ent:=Qo (.pr (.sl tI) .nil) (fun x=>true) (fun x=>(.t .bool (E3 x.1)))
theorem ms_f8:EM 8 sp_f8:=mS g_f8 tc_f8 [((.t 2),some .bool)] false (gB gN) fun m=>Qs m fun x _=>kT (s_f8 x.1)
def E4 (n k:Int):Int:=if k<1 then 0 else n % k
def Qcu (_n k:Int):Bool:=decide (k.toNat<4611686018427387904)
def tc_f28:TC:=aF Tryz.f28 []
def g_f28:G:=gG 14 [] (fun _ _=>none)
def r_f28 (p0 p1:Int):OV:=br (ilt p1 1) (some (.t tI 0,[])) (br (cNz p1) (br (cNz p1) (some (.t tI (WB (Qj .i64 (WB p0 p1) p1) p1),[])) none) none)
theorem s_f28 (n k:Int)(h:Qcu n k=true):r_f28 n k=some (.t tI (E4 n k),[]):=by
 simp only [Qcu,Ba] at h
 simp only [r_f28]
 refine QY (fun h1=> ?_) (fun h1=> ?_)
 ·have h1:k<1:=by simpa [ilt] using h1
  simp [E4,h1]
 ·have h1: ¬ k<1:=by simpa [ilt] using h1
  have hk:cNz k=true:=by simp [cNz];omega
  simp only [hk,Qf]
  have h3: -k<n.tmod k:=by
   have:=Int.lt_tmod_of_pos n (show 0<k by omega)
   exact this
  have h4:n.tmod k<k:=Int.tmod_lt_of_pos n (by omega)
  have e1:Qj .i64 (WB n k) k=n.tmod k+k:=Jz (by unfold WB;omega)
  rw [e1]
  have e2:WB (n.tmod k+k) k=n % k:=by
   unfold WB
   rw [Int.tmod_eq_emod_of_nonneg (by omega),Int.add_emod_right,Int.tmod_def]
   exact Int.sub_mul_emod_self_left n k _
  rw [e2]
  simp [E4,h1]
def QGR:Ent:=Qo (.pr tI (.pr tI .nil)) (fun x=>(Qcu x.1 x.2.1)) (fun x=>(.t tI (E4 x.1 x.2.1)))
theorem ms_f28:EM 28 QGR:=mS g_f28 tc_f28 [((.t 4),some tI)] false (gB gN) fun m=>Qs m fun x hok=>kT (s_f28 x.1 x.2.1 hok)
def XL (l:List Int):Dice:=(l,0,())
def QGS:TC:=aF Tryz.f11 []
def QGT:List (RV×Option Ty):=[((.t 2),none)]
def g_f11:G:=gG 6 [] (fun _ _=>none)
def r_f11 (p0:List Int):OV:=some (.ptr 50000 0,[.box (.ag [(.t (.sl tI) p0),(.t tI 0)])])
theorem e_f11 (p0:List Int):QS g_f11 QGS QGT false [.t (.sl tI) p0] []=r_f11 p0:=by kernel_rfl
theorem s_f11 (l:List Int): ∃ c,r_f11 l=some (.ptr 50000 0,[.box c])/\c.as Qt=some (XL l):=⟨_,rfl,rfl⟩
def QGU:Ent:=QmJ Qt (.pr (.sl tI) .nil) (fun x=>true) (fun x=>(XL x.1))
theorem ms_f11:EM 11 QGU:=mS g_f11 QGS QGT false (gB gN) fun m=>QMf m rfl fun x _=>(s_f11 x.1).imp fun c h=>⟨(e_f11 x.1).trans h.1,h.2⟩
def Qh (d:Dice)(n:Int):Int:=if d.2.1≥d.1.length then 0 else E4 (d.1.getD d.2.1.toNat 0) n
def Qe (d:Dice)(_n:Int):Dice:=if d.2.1≥d.1.length then d else (d.1,d.2.1+1,())
def dOk (d:Dice):Bool:=decide (0<=d.2.1/\d.1.length<=400)
def Qz (d:Dice)(n:Int):Bool:=dOk d&&decide (n<4611686018427387904)
def tc_f32:TC:=aF Tryz.f32 [(12,pD [(0,[50000]),(1,[50000]),(2,[50000]),(3,[50000]),(4,[50000]),(5,[50000]),(6,[50000]),(7,[50000]),(8,[]),(9,[])] (.of [0,1,2,3,4,5,6,7,8,9])),(30,pD [(0,[50000]),(1,[50000]),(2,[50000]),(3,[50000]),(4,[50000]),(5,[50000]),(6,[50000]),(7,[50000]),(8,[]),(9,[]),(10,[]),(11,[]),(12,[]),(13,[])] (.of [0,1,2,3,4,5,6,7,8,9,10,11,12,13]))]
def g_f32:G:=gG 35 [(28,QGR)] (fun _ _=>none)
def r_f32 (d0:Dice)(p1:Int):OV:=
 let a1:=Qw .i64 (Qj .i64 d0.2.1 1) 1
 let a2:=lgt tI d0.1 (Int.toNat a1)
 br (ige d0.2.1 (Qc d0.1)) (some (.t tI 0,[.box (.t Qt d0)])) (br (cIx d0.1 a1) (br (Qcu a2 p1) (some (.t tI (E4 a2 p1),[.box (.t Qt (d0.1,((Qj .i64 d0.2.1 1),d0.2.2)))])) none) none)
theorem s_f32 (d:Dice)(n:Int)(h:Qz d n=true):r_f32 d n=some (.t tI (Qh d n),[.box (.t Qt (Qe d n))]):=by
 simp only [Qz,dOk,Bc,Ba] at h
 obtain ⟨⟨h1,h2⟩,h3⟩:=h
 obtain ⟨l,at_,_⟩:=d
 simp only at h1 h2
 obtain ⟨k,rfl⟩: ∃ k:Nat,at_=k:=⟨at_.toNat,by omega⟩
 simp only [r_f32]
 refine QY (fun h4=> ?_) (fun h4=> ?_)
 ·have h4:l.length<=k:=by simp [ige,Qc] at h4;omega
  have h5:(k:Int)≥l.length:=by omega
  simp [Qh,Qe,h5]
 ·have h4:k<l.length:=by simp [ige,Qc] at h4;omega
  have h5: ¬ (k:Int)≥l.length:=by omega
  have e1:Qj .i64 (k:Int) 1=((k+1:Nat):Int):=QO (by omega)
  have e2:Qw .i64 ((k+1:Nat):Int) 1=(k:Int):=by rw [JO (by omega)];omega
  rw [e1,e2,QK,Yv h4,Qf]
  have e3:Qcu (lgt tI l (Int.toNat (k:Int))) n=true:=Be (by omega)
  rw [e3,Qf]
  simp only [Qh,Qe,h5,Dc]
  rfl
def Xl:Ent:=Xx Qt (.pr tI .nil) (fun d x=>(Qz d x.1)) (fun d x=>(.t tI (Qh d x.1))) (fun d x=>(Qe d x.1))
theorem XM:EM 32 Xl:=mS g_f32 tc_f32 [((.t 4),some tI)] false (gB (gD ms_f28 gN)) fun m=>WA m rfl fun d x hok=>kT (s_f32 d x.1 hok)
def done (d:Dice)(n:Int):Bool:=Qh d n==n-1
def QT (d:Dice)(n:Int):Bool:=Qz d n&&decide (0<=n)
def tc_f35:TC:=aF Tryz.f35 []
def g_f35:G:=gG 11 [(32,Xl)] (fun _ _=>none)
def r_f35 (d0:Dice)(p1:Int):OV:=br (Qz d0 p1) (some (.t .bool (ieq (Qh d0 p1) (Qw .i64 p1 1)),[.box (.t Qt (Qe d0 p1))])) none
theorem s_f35 (d:Dice)(n:Int)(h:QT d n=true):r_f35 d n=some (.t .bool (done d n),[.box (.t Qt (Qe d n))]):=by
 simp only [QT,Bc,Ba] at h
 simp only [r_f35]
 rw [h.1,Qf]
 have h2:=h.1
 simp only [Qz,Bc,Ba] at h2
 rw [JO (by omega)]
 rfl
def F5:Ent:=Xx Qt (.pr tI .nil) (fun d x=>(QT d x.1)) (fun d x=>(.t .bool (done d x.1))) (fun d x=>(Qe d x.1))
theorem E5:EM 35 F5:=mS g_f35 tc_f35 [((.t 4),some .bool)] false (gB (gD XM gN)) fun m=>WA m rfl fun d x hok=>kT (s_f35 d x.1 hok)
def dof (d:Dice)(l:List Int):Int:=l.getD (Qh d l.length).toNat 0
def Ql (d:Dice)(l:List Int):Dice:=Qe d l.length
def QM (d:Dice)(l:List Int):Bool:=dOk d&&decide (0<l.length/\l.length<4611686018427387904)
def tc_f50:TC:=aF Tryz.f50 []
def g_f50:G:=gG 12 [(32,Xl)] (fun _ _=>none)
def r_f50 (d0:Dice)(p1:List Int):OV:=br (Qz d0 (Qc p1)) (br (cIx p1 (Qh d0 (Qc p1))) (some (.t tI (lgt tI p1 (Int.toNat (Qh d0 (Qc p1)))),[.box (.t Qt (Qe d0 (Qc p1)))])) none) none
theorem Q7 {d:Dice}{n:Int}(h:0<n):0<=Qh d n/\Qh d n<n:=by
 unfold Qh
 split
 ·omega
 ·unfold E4
  rw [if_neg (by omega)]
  exact ⟨Int.emod_nonneg _ (by omega),Int.emod_lt_of_pos _ (by omega)⟩
theorem s_f50 (d:Dice)(l:List Int)(h:QM d l=true):r_f50 d l=some (.t tI (dof d l),[.box (.t Qt (Ql d l))]):=by
 simp only [QM,Bc,Ba] at h
 obtain ⟨h1,h2,h3⟩:=h
 simp only [r_f50]
 have e1:Qz d (Qc l)=true:=by simp only [Qz,h1,Qc,Bu,Ba];omega
 rw [e1,Qf]
 have h4:=Q7 (d:=d) (n:=Qc l) (by unfold Qc;omega)
 have e2:cIx l (Qh d (Qc l))=true:=by simp only [cIx,Ba];exact h4
 rw [e2,Qf]
 rfl
def WZ:Ent:=Xx Qt (.pr (.sl tI) .nil) (fun d x=>(QM d x.1)) (fun d x=>(.t tI (dof d x.1))) (fun d x=>(Ql d x.1))
theorem UB:EM 50 WZ:=mS g_f50 tc_f50 [((.t 4),some tI)] false (gB (gD XM gN)) fun m=>WA m rfl fun d x hok=>kT (s_f50 d x.1 hok)
theorem QB {d:Dice}{n:Int}(h:dOk d=true):dOk (Qe d n)=true:=by
 simp only [dOk,Ba] at h ⊢
 unfold Qe
 split
 ·exact h
 ·exact ⟨by simp only;omega,h.2⟩
theorem QVd {l:List Int}(h:E3 l=true):dOk (XL l)=true:=by
 simp only [E3,Ba] at h
 simp [dOk,XL,h]
def IG (l:List SV)(bs:List Ty)(yr:Ty)(ok:GC bs->Bool)(f:GC bs->List yr.T):Itr:=fun caps objs=>
 match Es l caps,Xz bs objs with
 |some _,some d=>some (ok d,⟨yr,f d⟩)
 |_,_=>none
end Go.Proofs.YthlcobdnemhcdaaGreat.K
noncomputable section
namespace Go.Proofs
open Go.Shelf
def Tryz.lays189_ren:Go.Shelf.Ren:=⟨fun|189=>252|125=>274|257=>273|128=>288|129=>289|294=>279|295=>280|296=>281|297=>282|298=>283|299=>284|216=>285|300=>286|301=>287|328=>294|329=>295|330=>296|331=>297|332=>298|215=>299|343=>304|n=>n,fun|28=>22|3=>3|46=>272|0=>0|51=>238|53=>337|4=>4|183=>329|182=>328|131=>226|5=>5|9=>9|218=>339|222=>343|228=>346|229=>304|n=>n,fun|n=>n⟩
theorem Tryz.lays189:Go.Proofs.Lays.n189 Tryz.prog Tryz.lays189_ren:={
 mixed:=by kernel_rfl
 f125:=Tryz.func274.trans (congrArg some (by kernel_rfl))
 f128:=Tryz.func288.trans (congrArg some (by kernel_rfl))
 f129:=Tryz.func289.trans (congrArg some (by kernel_rfl))
 f189:=Tryz.func252.trans (congrArg some (by kernel_rfl))
 f215:=Tryz.func299.trans (congrArg some (by kernel_rfl))
 f216:=Tryz.func285.trans (congrArg some (by kernel_rfl))
 f257:=Tryz.func273.trans (congrArg some (by kernel_rfl))
 f294:=Tryz.func279.trans (congrArg some (by kernel_rfl))
 f295:=Tryz.func280.trans (congrArg some (by kernel_rfl))
 f296:=Tryz.func281.trans (congrArg some (by kernel_rfl))
 f297:=Tryz.func282.trans (congrArg some (by kernel_rfl))
 f298:=Tryz.func283.trans (congrArg some (by kernel_rfl))
 f299:=Tryz.func284.trans (congrArg some (by kernel_rfl))
 f300:=Tryz.func286.trans (congrArg some (by kernel_rfl))
 f301:=Tryz.func287.trans (congrArg some (by kernel_rfl))
 f328:=Tryz.func294.trans (congrArg some (by kernel_rfl))
 f329:=Tryz.func295.trans (congrArg some (by kernel_rfl))
 f330:=Tryz.func296.trans (congrArg some (by kernel_rfl))
 f331:=Tryz.func297.trans (congrArg some (by kernel_rfl))
 f332:=Tryz.func298.trans (congrArg some (by kernel_rfl))
 f343:=Tryz.func304.trans (congrArg some (by kernel_rfl))
 t0:=Tryz.underlying0
 a0:=Tryz.isAgg0
 z0:=Tryz.sizeOf0
 v0:=Tryz.zeroValue0
 t3:=Tryz.underlying3
 a3:=Tryz.isAgg3
 z3:=Tryz.sizeOf3
 v3:=Tryz.zeroValue3
 t4:=Tryz.underlying4
 a4:=Tryz.isAgg4
 z4:=Tryz.sizeOf4
 v4:=Tryz.zeroValue4
 t5:=Tryz.underlying5
 a5:=Tryz.isAgg5
 z5:=Tryz.sizeOf5
 v5:=Tryz.zeroValue5
 t9:=Tryz.underlying9
 a9:=Tryz.isAgg9
 z9:=Tryz.sizeOf9
 v9:=Tryz.zeroValue9
 t28:=Tryz.underlying22
 a28:=Tryz.isAgg22
 z28:=Tryz.sizeOf22
 v28:=Tryz.zeroValue22
 t46:=Tryz.underlying272
 a46:=Tryz.isAgg272
 z46:=Tryz.sizeOf272
 v46:=Tryz.zeroValue272
 t51:=Tryz.underlying238
 a51:=Tryz.isAgg238
 z51:=Tryz.sizeOf238
 v51:=Tryz.zeroValue238
 t53:=Tryz.underlying337
 a53:=Tryz.isAgg337
 z53:=Tryz.sizeOf337
 v53:=Tryz.zeroValue337
 t131:=Tryz.underlying226
 a131:=Tryz.isAgg226
 z131:=Tryz.sizeOf226
 v131:=Tryz.zeroValue226
 t182:=Tryz.underlying328
 a182:=Tryz.isAgg328
 z182:=Tryz.sizeOf328
 v182:=Tryz.zeroValue328
 t183:=Tryz.underlying329
 a183:=Tryz.isAgg329
 z183:=Tryz.sizeOf329
 v183:=Tryz.zeroValue329
 t218:=Tryz.underlying339
 a218:=Tryz.isAgg339
 z218:=Tryz.sizeOf339
 v218:=Tryz.zeroValue339
 t222:=Tryz.underlying343
 a222:=Tryz.isAgg343
 z222:=Tryz.sizeOf343
 v222:=Tryz.zeroValue343
 t228:=Tryz.underlying346
 a228:=Tryz.isAgg346
 z228:=Tryz.sizeOf346
 v228:=Tryz.zeroValue346
 t229:=Tryz.underlying304
 a229:=Tryz.isAgg304
 z229:=Tryz.sizeOf304
 v229:=Tryz.zeroValue304}
def Tryz.lays2_20_ren:Go.Shelf.Ren:=⟨fun|20=>264|n=>n,fun|22=>22|3=>3|4=>4|0=>0|n=>n,fun|n=>n⟩
theorem Tryz.lays2_20:Go.Proofs.Lays2.n20 Tryz.prog Tryz.lays2_20_ren:={
 mixed:=by kernel_rfl
 f20:=Tryz.func264.trans (congrArg some (by kernel_rfl))
 t0:=Tryz.underlying0
 a0:=Tryz.isAgg0
 z0:=Tryz.sizeOf0
 v0:=Tryz.zeroValue0
 t3:=Tryz.underlying3
 a3:=Tryz.isAgg3
 z3:=Tryz.sizeOf3
 v3:=Tryz.zeroValue3
 t4:=Tryz.underlying4
 a4:=Tryz.isAgg4
 z4:=Tryz.sizeOf4
 v4:=Tryz.zeroValue4
 t22:=Tryz.underlying22
 a22:=Tryz.isAgg22
 z22:=Tryz.sizeOf22
 v22:=Tryz.zeroValue22
 i3:=by kernel_rfl}
end Go.Proofs
namespace Go.Proofs.YthlcobdnemhcdaaGreat.K
open Go.RowKit Go.Shelf
def QvY:Ent:=XA [.ms 50000] [.arr 3 tI] (fun _ y=>(UN y.1)) (fun _ _=> .tu []) (fun _ y=>[.arr 3 tI (Y5 y.1)])
theorem QKJ:Ja Tryz.prog 252:= .inr ⟨by decide,_,Tryz.func252,by kernel_rfl,by kernel_rfl⟩
def QvZ:Ent:=XA [.ms 50000] [.arr 3 tI] (fun _ y=>(UN y.1)) (fun _ y=> .t (.sl tI) (Lib.compact y.1)) (fun _ _=>[.no])
theorem QKK:Ja Tryz.prog 264:= .inr ⟨by decide,_,Tryz.func264,by kernel_rfl,by kernel_rfl⟩
theorem QKL:Qu Tryz.prog 252 (Qv QvY):=
 QMt (by decide) (Any.slices_Sort_int Tryz.lays189) (Any.slices_Sort_int_none Tryz.lays189)
theorem QKM:Qu Tryz.prog 264 (Qv QvZ):=
 QMu (by decide) (Any.slices_Compact_int Tryz.lays2_20) (Any.slices_Compact_int_empty Tryz.lays2_20)
end Go.Proofs.YthlcobdnemhcdaaGreat.K
