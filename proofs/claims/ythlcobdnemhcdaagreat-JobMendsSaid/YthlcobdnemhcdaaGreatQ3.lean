import Derived.Test.YthlcobdnemhcdaaGreatQ2
import Derived.WalkKit
import Derived.ProofKit
import Derived.OpenShut
import Derived.ShutString
import Derived.ChangeOld
import Derived.Below
import Derived.Deep.Slices
import Derived.Deep.Fields
import Derived.Laws.BytesString
import Derived.Sort.OwnSortedInts
import Derived.Lib.SlicesCompact
import Derived.Test.YthlcobdnemhcdaaGreatProg
import Derived.KernelRfl
import Derived.IntWalk
import Derived.Shelf.Sort.Plain
import Derived.Ground.NamesProg
import Derived.Ground.Names2Prog
import Derived.Shelf.Slices.In.SortNone
import Derived.Shelf.Slices.CompactI
set_option linter.unusedSimpArgs false
set_option linter.unusedVariables false
noncomputable section
/-
 A run through a function's text:what it makes,the program's function makes.
-/
namespace Go.Proofs.YthlcobdnemhcdaaGreat.K
open Go.RowKit
section
variable {P:Program}{B:Base}{X X':Nat->Nat->Prop}{w w':World}{σ σ':Pl}{n:Nat}{S:VS}{us:List Value}
theorem QCI {g:G}(hg:GOk P g)(hm:P.follows .mixedOrders=true): ∀ (tc:TC) {B:Base} {ro:Option Nat} {β:Type} {S:VS} {K:Exit->VS->Option β} {r:β},ro=none∨tc.nrf=true->tc.lok g->ev g tc S K=some r->JV P B g.n ro (fun e S'=>K e S'=some r) tc.er S:=by
 intro tc
 induction tc with
 |sk=>
  intro B ro β S K r hro lk h c hc nn X w σ us ms ha
  cases c with
  |skip=>exact wpIn_skip ⟨S,X,σ,us,ms,ha,rfl,h⟩
  |region id ops d=>cases d<;>simp [trC,TC.er] at hc
  |cond x a b=>simp only [trC,TC.er] at hc;split at hc<;>cases hc
  |rangeFunc x p a b=>simp only [trC,TC.er] at hc;split at hc<;>cases hc
  |_=>simp [trC,TC.er] at hc
 |rt=>
  intro B ro β S K r hro lk h c hc nn X w σ us ms ha
  cases c with
  |ret=>exact wpIn_ret ⟨S,X,σ,us,ms,ha,rfl,h⟩
  |region id ops d=>cases d<;>simp [trC,TC.er] at hc
  |cond x a b=>simp only [trC,TC.er] at hc;split at hc<;>cases hc
  |rangeFunc x p a b=>simp only [trC,TC.er] at hc;split at hc<;>cases hc
  |_=>simp [trC,TC.er] at hc
 |ex id=>
  intro B ro β S K r hro lk h c hc nn X w σ us ms ha
  cases c with
  |exit i=>
   simp only [trC,TC.er,AC.ex.injEq] at hc
   subst hc
   exact wpIn_exit ⟨S,X,σ,us,ms,ha,rfl,h⟩
  |region id ops d=>cases d<;>simp [trC,TC.er] at hc
  |cond x a b=>simp only [trC,TC.er] at hc;split at hc<;>cases hc
  |rangeFunc x p a b=>simp only [trC,TC.er] at hc;split at hc<;>cases hc
  |_=>simp [trC,TC.er] at hc
 |reg rs=>
  intro B ro β S K r hro lk h c hc nn X w σ us ms ha
  cases c with
  |region id ops d=>
   cases d with
   |true=>simp [trC,TC.er] at hc
   |false=>
    simp only [trC,TC.er,AC.reg.injEq] at hc
    refine wpIn_region_list ?_
    exact QlP hg h hc ha fun S' X' w' σ' us' ha' hk=>⟨S',X',σ',us',ms,ha',rfl,hk⟩
  |cond x a b=>simp only [trC,TC.er] at hc;split at hc<;>cases hc
  |rangeFunc x p a b=>simp only [trC,TC.er] at hc;split at hc<;>cases hc
  |_=>simp [trC,TC.er] at hc
 |dr ds os t=>
  intro B ro β S K r _ _ h
  exact QJp hg hm h fun S' hk=>hk
 |sq a b iha ihb=>
  intro B ro β S K r hro lk h c hc nn X w σ us ms ha
  cases c with
  |seq x y=>
   simp only [trC,TC.er,AC.sq.injEq] at hc
   refine wpIn_seq (wpIn_mono (iha (hro.imp_right fun q=>(Bg.1 q).1) lk.1 h x hc.1 nn X w σ us ms ha) ?_)
   rintro e a' w' ⟨S',X',σ',us',ms',h1,rfl,h4⟩
   cases e with
   |normal=>exact ihb (hro.imp_right fun q=>(Bg.1 q).2) lk.2 h4 y hc.2 nn X' w' σ' us' ms' h1
   |_=>exact ⟨S',X',σ',us',ms',h1,rfl,h4⟩
  |region id ops d=>cases d<;>simp [trC,TC.er] at hc
  |cond x a b=>simp only [trC,TC.er] at hc;split at hc<;>cases hc
  |rangeFunc x p a b=>simp only [trC,TC.er] at hc;split at hc<;>cases hc
  |_=>simp [trC,TC.er] at hc
 |cd x a b iha ihb=>
  intro B ro β S K r hro lk h c hc nn X w σ us ms ha
  cases c with
  |cond o p q=>
   simp only [trC,TC.er] at hc
   split at hc
   ·rename_i x' hx
    simp only [AC.cd.injEq] at hc
    obtain ⟨rfl,h2,h3⟩:=hc
    simp only [ev] at h
    split at h
    ·rename_i t ht
     have hu:=J0 hx (by rw [ht];rfl) ha.rel
     rw [ht] at hu
     have hu:=(C.v hu).1
     rcases WM h with ⟨rfl,h⟩|⟨rfl,h⟩
     ·exact wpIn_cond_true hu (iha (hro.imp_right fun q=>(Bg.1 q).1) lk.1 h p h2 nn X w σ us ms ha)
     ·exact wpIn_cond_false hu (ihb (hro.imp_right fun q=>(Bg.1 q).2) lk.2 h q h3 nn X w σ us ms ha)
    ·cases h
   ·cases hc
  |region id ops d=>cases d<;>simp [trC,TC.er] at hc
  |rangeFunc x p a b=>simp only [trC,TC.er] at hc;split at hc<;>cases hc
  |_=>simp [trC,TC.er] at hc
 |bk id a iha=>
  intro B ro β S K r hro lk h c hc nn X w σ us ms ha
  cases c with
  |block i x=>
   simp only [trC,TC.er,AC.bk.injEq] at hc
   obtain ⟨rfl,hc⟩:=hc
   refine wpIn_block (wpIn_mono (iha hro lk h x hc nn X w σ us ms ha) ?_)
   rintro e a' w' ⟨S',X',σ',us',ms',h1,rfl,h4⟩
   cases e with
   |exit j=>
    simp only [Exit.inBlock]
    simp only at h4
    split at h4
    ·rename_i hj
     rw [if_pos hj]
     exact ⟨S',X',σ',us',ms',h1,rfl,h4⟩
    ·rename_i hj
     rw [if_neg hj]
     exact ⟨S',X',σ',us',ms',h1,rfl,h4⟩
   |_=>exact ⟨S',X',σ',us',ms',h1,rfl,h4⟩
  |region id ops d=>cases d<;>simp [trC,TC.er] at hc
  |cond x a b=>simp only [trC,TC.er] at hc;split at hc<;>cases hc
  |rangeFunc x p a b=>simp only [trC,TC.er] at hc;split at hc<;>cases hc
  |_=>simp [trC,TC.er] at hc
 |lp j f a iha=>
  intro B ro β S K r hro lk h c hc nn X w σ us ms ha
  cases c with
  |loop x=>
   simp only [trC,TC.er,AC.lp.injEq] at hc
   simp only [ev] at h
   split at h
   ·rename_i q l hL
    obtain ⟨rfl,h⟩:=JZ h
    obtain ⟨e1,S1,hp,h⟩:=Qen h
    have hl:=lk.1 S l (e1,S1) hL hp
    obtain ⟨m,hn⟩:=GK.1 hl
    refine wpIn_mono (Q:=QlM B g.n (fun e S'=>(e,S')=(e1,S1))) ?_ ?_
    ·refine QIR (fun m a' w'=> ∃ S X' σ' us' ms',a'=⟨us'.toArray,mks ms'⟩/\At (B.mk' ms') X' w' σ' g.n S us'/\YR (QC g f a) m S=some (e1,S1)) ?_ m _ _ ⟨S,X,σ,us,ms,rfl,ha,hn⟩
     rintro m a' w' ⟨S0,X',σ',us',ms',rfl,ha',hm'⟩
     cases m with
     |zero=>cases hm'
     |succ m=>
      simp only [YR] at hm'
      split at hm'
      ·rename_i S2 hb
       refine wpIn_mono (iha hro lk.2 hb x hc nn X' w' σ' us' ms' (ha'.fgt f)) ?_
       rintro e a2 w2 ⟨S3,X2,σ2,us2,ms2,k1,rfl,k3⟩
       cases e with
       |normal=>
        simp only [VX,Bc,Bo,true_and] at k3
        subst k3
        exact ⟨m,by omega,_,X2,σ2,us2,ms2,rfl,k1.fgt f,hm'⟩
       |_=>simp [VX] at k3
      ·rename_i hne
       refine wpIn_mono (iha hro lk.2 hm' x hc nn X' w' σ' us' ms' (ha'.fgt f)) ?_
       rintro e a2 w2 ⟨S3,X2,σ2,us2,ms2,k1,rfl,k3⟩
       cases e with
       |normal=>
        simp only [VX,Bc,Bo] at k3
        obtain ⟨rfl,rfl⟩:=k3
        exact absurd hm' (hne _)
       |_=>
        simp only [VX,Bc,Bo] at k3
        obtain ⟨rfl,rfl⟩:=k3
        exact ⟨S3,X2,σ2,us2,ms2,k1,rfl,rfl⟩
    ·rintro e a' w' ⟨S',X',σ',us',ms',h1,rfl,h3⟩
     injection h3 with h4 h5
     subst h4 h5
     exact ⟨S',X',σ',us',ms',h1,rfl,h⟩
   ·cases h
  |region id ops d=>cases d<;>simp [trC,TC.er] at hc
  |cond x a b=>simp only [trC,TC.er] at hc;split at hc<;>cases hc
  |rangeFunc x p a b=>simp only [trC,TC.er] at hc;split at hc<;>cases hc
  |_=>simp [trC,TC.er] at hc
 |fg f a iha=>
  intro B ro β S K r hro lk h c hc nn X w σ us ms ha
  exact iha hro lk h c hc nn X w σ us ms (ha.fgt f)
 |nw s e a iha=>
  intro B ro β S K r hro lk h c hc nn X w σ us ms ha
  obtain ⟨S',σ',h1,h2⟩:=QIU h ha
  exact iha hro lk h1 c hc nn X w σ' us ms h2
 |nf j i e k a iha=>
  intro B ro β S K r hro lk h c hc nn X w σ us ms ha
  obtain ⟨S',σ',h1,h2⟩:=QIX h ha
  exact iha hro lk h1 c hc nn X w σ' us ms h2
 |fz ks a iha=>
  intro B ro β S K r hro lk h c hc nn X w σ us ms ha
  obtain ⟨X',h1,_⟩:=ha.fzs ks
  exact iha hro lk h c hc nn X' w σ us ms h1
 |ad l a iha=>
  intro B ro β S K r hro lk h c hc nn X w σ us ms ha
  obtain ⟨σ',h1⟩:=ha.mvks l
  exact iha hro lk h c hc nn X w σ' us ms h1
 |mv l a iha=>
  intro B ro β S K r hro lk h c hc nn X w σ us ms ha
  refine wpIn_mono (iha hro lk h c hc nn X w σ us ms ha) ?_
  rintro e a' w' ⟨S',X',σ',us',ms',h1,rfl,h4⟩
  cases e with
  |normal=>
   obtain ⟨X2,S2,σ2,h4,h2⟩:=QIW h4 h1
   exact ⟨S2,X2,σ2,us',ms',h2,rfl,h4⟩
  |_=>exact ⟨S',X',σ',us',ms',h1,rfl,h4⟩
 |rg j f f2 a iha=>
  intro B ro β S K r hro lk h c hc nn X w σ us ms ha
  simp only [ev] at h
  split at h
  ·rename_i q l hL
   obtain ⟨rfl,h⟩:=JZ h
   obtain ⟨e1,S1,hp,h⟩:=Qen h
   have hl:=lk.1 S l (e1,S1) hL hp
   refine wpIn_mono (iha hro lk.2 hl c hc nn X w σ us ms (ha.fgt f)) ?_
   rintro e a' w' ⟨S',X',σ',us',ms',h1,rfl,h3⟩
   simp only [Bc,Bo] at h3
   obtain ⟨rfl,rfl⟩:=h3
   exact ⟨_,X',σ',us',ms',h1.fgt f2,rfl,h⟩
  ·cases h
 |rf j f x yr ps pr a b iha ihb=>
  intro B ro β S K r hro lk h c hc nn X w σ us ms ha
  rcases hro with rfl|hro
  ·exact QJy hg iha ihb lk h c hc nn X w σ us ms ha
  ·cases hro
end
inductive RV where
 |t (i:Nat)
 |c (i:Nat) (agg:Bool) (n:Nat)
def trV (P:Program):ResultVar->Option RV
 |.tmp t=>some (.t t)
 |.cell a t=>match P.underlying t,P.info? t with
  |some d,some inf=>some (.c a (isRow d) inf.size)
  |_,_=>none
def XV (P:Program):List ResultVar->Option (List RV)
 | []=>some []
 |r::l=>match trV P r,XV P l with
  |some a,some b=>some (a::b)
  |_,_=>none
section
variable {β:Type}
def RV.run (S:VS)(K:V->Option β):RV->Option β
 |.t i=>nz (S.ts i) K
 |.c i agg n=>match S.ts i with
  |.ptr j o=>match S.st j with
   |.box z=>match z.sub true o n agg with
    |some v=>nz v K
    |none=>none
   |_=>none
  |_=>none
def castR (t:Option Ty)(v:V)(K:V->Option β):Option β:=
 match t with
 |none=>K v
 |some y=>match v.as y with
  |some x=>K (.t y x)
  |none=>none
def Ei (S:VS):List (RV×Option Ty)->(List V->Option β)->Option β
 | [],K=>K []
 |r::l,K=>r.1.run S fun v=>castR r.2 v fun v=>Ei S l fun vs=>K (v::vs)
end
def Ej:List V->V
 | [v]=>v
 |vs=> .tu vs
def exs (vs:List V):List Nat:=((V.refss vs).filter fun k=>decide (k<50000)).eraseDups
def exr (es:List Nat)(m k:Nat):Nat:=if 50000<=k then k else 50000+m+es.idxOf k
def retOk (S:VS)(m:Nat)(es:List Nat)(vs:List V):Bool:=
 decide es.Nodup&&(((V.refss vs).all fun k=>decide (50000<=k/\k<50000+m)||es.contains k)&&((es.all fun k=>decide (k<50000)&&((match S.st k with|.no=>false|_=>true)&&(S.st k).refs.isEmpty))&&
  (List.range m).all fun j=>(S.st (50000+j)).refs.all fun k=>decide (50000<=k/\k<50000+m)))
def QbX (S:VS)(m:Nat)(es:List Nat)(vs:List V):Option (V×List VO):=
 if retOk S m es vs=true then some ((Ej vs).ren (exr es m),((List.range m).map fun j=>S.st (50000+j))++es.map fun k=>S.st k) else none
def QbY (rv:List (RV×Option Ty))(ro:Bool)(m:Nat)(S:VS):Option (V×List VO):=
 Ei S (rv.map fun r=>(r.1,none)) fun vs=>if ro=true then QbX S m (exs vs) vs else Ei (S.fzs (V.msss vs)) rv fun vs'=>QbX (S.fzs (V.msss vs)) m (exs vs') vs'
def G3:Nat->List V->List (Nat×V)
 |_,[]=>[]
 |i,v::r=>(i,v)::G3 (i+1) r
def YX:Nat->List VO->List (Nat×VO)
 |_,[]=>[]
 |i,v::r=>(i,v)::YX (i+1) r
def inS (args:List V)(objs:List VO):VS:=⟨YA (G3 0 args),Z1 (YX 50000 objs),(YX 50000 objs).map Prod.fst⟩
def QP (g:G)(tc:TC)(rv:List (RV×Option Ty))(ro:Bool):Fun:=fun args objs=>
 if args.length<=g.n then ev g tc (inS args objs) fun e S=>match e with
  |.ret=>QbY rv ro objs.length S
  |.normal=>QbY rv ro objs.length S
  |_=>none
 else none
section
variable {P:Program}{B:Base}{X X':Nat->Nat->Prop}{w w':World}{σ σ':Pl}{n:Nat}{S:VS}{us:List Value}
def G4 (us:List Value):ResultVar->Sem Value
 |.tmp t=>pure (us.toArray.getD t undef)
 |.cell a t=>do loadVar t (←asAddr (us.toArray.getD a undef))
theorem QCJ {β:Type}{K:V->Option β}{x:β}{r:ResultVar}{rv:RV}(ht:trV P r=some rv)(he:rv.run S K=some x): ∃ v,K v=some x∧ ∀ {B:Base} {X:Nat->Nat->Prop} {w:World} {σ:Pl} {n:Nat} {us:List Value},At B X w σ n S us→ ∃ u,C X w σ v.d u/\(G4 us r).run P w= .ok u w:=by
 cases r with
 |tmp t=>
  simp only [trV,Bc] at ht
  subst ht
  obtain ⟨h1,h2⟩:=WR he
  refine ⟨_,h2,fun {B X w σ n us} ha=>⟨_,J0 (o:= .tmp t) (x:= .t t) rfl h1 ha.rel, ?_⟩⟩
  simp [Act.eval,G4]
 |cell a t=>
  simp only [trV] at ht
  split at ht
  ·rename_i dd inf hd hin
   simp only [Bc] at ht
   subst ht
   simp only [RV.run] at he
   split at he
   ·rename_i j o hx
    split at he
    ·rename_i c hst
     split at he
     ·rename_i v hs
      obtain ⟨h1,h2⟩:=WR he
      refine ⟨v,h2,fun {B X w σ n us} ha=> ?_⟩
      have k1:=J0 (o:= .tmp a) (x:= .t a) rfl (by simp only [AX.xv,hx];rfl) ha.rel
      simp only [AX.xv,hx,V.d,C] at k1
      obtain ⟨b,e1,e2⟩:=k1
      have hat:=ha.ti.obj j
      rw [hst] at hat
      obtain ⟨b',ty,vs,g1,g2,g3,g4⟩:=hat
      rw [g1] at e1
      injection e1 with e1
      subst e1
      obtain ⟨s1,s2⟩:=V.sub_spec hs
      have hl:=g3.len
      obtain ⟨u,q1,q2⟩:=Qvz (P:=P) (b:=b') (off:=o) (vs:=vs.drop o) (ds:=c.d.cells.drop o) (d:=v.d) hd hin (g3.drop_ _) (fun i u hu=>by
       rw [Df] at hu
       rw [cell_of_row w b' (o+i) vs.toArray ty (0,0) g2]
       simpa using hu) (fun ha=>by
        obtain ⟨t1,t2⟩:=s1 ha
        exact ⟨t1,by rw [DE];omega⟩) (fun ha=>by
        rw [Df]
        exact s2 ha)
      refine ⟨u,q2, ?_⟩
      simp only [Act.eval] at e2
      simp only [G4,Sem.run_bind,e2,asAddr,Sem.run_pure,Result.andThen_ok,q1]
     ·cases he
    ·cases he
   ·cases he
  ·cases ht
theorem Qib {β:Type}{x:β}: ∀ {rs:List ResultVar} {rv:List (RV×Option Ty)} {K:List V->Option β},XV P rs=some (rv.map Prod.fst)->Ei S rv K=some x→ ∃ vs,K vs=some x∧ ∀ {B:Base} {X:Nat->Nat->Prop} {w:World} {σ:Pl} {n:Nat} {us:List Value},At B X w σ n S us→
  ∃ xs,Cs X w σ (V.ds vs) xs/\(rs.mapM (G4 us)).run P w= .ok xs w
 | [],rv,K,ht,he=>by
  simp only [XV,Bc] at ht
  have:rv=[]:=List.map_eq_nil_iff.1 ht.symm
  subst this
  exact ⟨[],he,fun _=>⟨[],by simp [V.ds,Cs],by simp⟩⟩
 |r::rs,rv,K,ht,he=>by
  simp only [XV] at ht
  split at ht
  ·rename_i a b ha hb
   simp only [Bc] at ht
   cases rv with
   |nil=>cases ht
   |cons q rv=>
    simp only [BI,List.cons.injEq] at ht
    obtain ⟨rfl,rfl⟩:=ht
    simp only [Ei] at he
    obtain ⟨v0,h0,h2⟩:=QCJ ha he
    have hcast: ∃ v,Ei S rv (fun vs=>K (v::vs))=some x∧ ∀ {X:Nat->Nat->Prop} {w:World} {σ:Pl} {u:Value},C X w σ v0.d u->C X w σ v.d u:=by
     unfold castR at h0
     split at h0
     ·exact ⟨v0,h0,fun h=>h⟩
     ·split at h0
      ·rename_i y z hz
       exact ⟨_,h0,fun h=>C.up _ _ (V.as_spec hz h)⟩
      ·cases h0
    obtain ⟨v,h1,hcv⟩:=hcast
    obtain ⟨vs,h3,h4⟩:=Qib hb h1
    refine ⟨v::vs,h3,fun {B X w σ n us} hat=> ?_⟩
    obtain ⟨u,q1,q2⟩:=h2 hat
    obtain ⟨xs,q3,q4⟩:=h4 hat
    refine ⟨u::xs,by simp only [V.ds];exact Cs.cons (hcv q1) q3, ?_⟩
    rw [List.mapM_cons]
    simp only [Sem.run_bind,q2,q4,Result.andThen_ok,Sem.run_pure]
  ·cases ht
theorem Qri {fn:Func}{vs:List V}{xs:List Value}(hc:Cs X w σ (V.ds vs) xs)(h:(fn.results.toList.mapM (G4 us)).run P w= .ok xs w): ∃ u,C X w σ (Ej vs).d u/\(results fn us.toArray).run P w= .ok u w:=by
 have hm:(fn.results.mapM (G4 us)).run P w= .ok xs.toArray w:=by
  rw [Array.mapM_eq_mapM_toList]
  rw [map_eq_pure_bind,Sem.run_bind,h]
  rfl
 have hf:results fn us.toArray=(do let vs ← fn.results.mapM (G4 us);pure (if h:vs.size=1 then vs[0] else .tuple vs)):=by
  unfold results
  congr 1
 rw [hf,Sem.run_bind,hm]
 have hlen:=hc.len
 rw [V.ds_eq,BL] at hlen
 unfold Ej
 split
 ·rename_i v
  simp only [V.ds] at hc
  obtain ⟨u,rfl,hu⟩:=hc.one
  exact ⟨u,hu,by simp⟩
 ·rename_i hne
  have h0:xs.toArray.size≠1:=by
   intro h
   rcases vs with _|⟨d,_|⟨d2,r⟩⟩
   ·simp at hlen;simp [hlen] at h
   ·exact hne d rfl
   ·simp at hlen h;omega
  refine ⟨.tuple xs.toArray,by simp only [V.d,C];exact ⟨xs,rfl,hc⟩, ?_⟩
  simp only [Result.andThen_ok,dif_neg h0,Sem.run_pure]
theorem OAt.pl {k k':Nat}{o:VO}(h:OAt X w σ k o)(hk:σ' k'=σ k)(hr: ∀ r∈o.refs,σ' r=σ r):OAt X w σ' k' o:=by
 cases o with
 |no=>trivial
 |box v=>
  obtain ⟨b,ty,vs,h1,h2,h3,h4⟩:=h
  exact ⟨b,ty,vs,hk.trans h1,h2,Cs.ext (Ext.refl X w) _ _ (fun r hr'=>hr r (by rw [V.refs_dcells] at hr';exact hr')) h3,h4⟩
 |arr e y l=>
  obtain ⟨u,xs,h1,h2⟩:=h
  exact ⟨u,xs,hk.trans h1,h2⟩
theorem QCK (vs:List V):(Ej vs).refs=V.refss vs:=by
 unfold Ej
 split
 ·simp [V.refss]
 ·rfl
theorem Qrj {σ0:Pl}{m:Nat}{es:List Nat}{vs:List V}{rv:V}{os:List VO}{u:Value}{X0 X1:Nat->Nat->Prop}{w0 w1:World}(h:QbX S m es vs=some (rv,os))(ha:At ⟨X0,w0,Y8 σ0 m,σ0,[],X1,w1⟩ X w σ n S us)(hu:C X w σ (Ej vs).d u):
  ∃ σ',C X w σ' rv.d u/\Ends X0 w0 σ0 m X w σ' os:=by
 unfold QbX at h
 split at h
 ·rename_i hok
  simp only [Bc,Bo] at h
  obtain ⟨rfl,rfl⟩:=h
  simp only [retOk,Bb,Ba,Bh,Dh,BH,DZ,Db] at hok
  obtain ⟨k1,k2,k3,k4⟩:=hok
  let τ:Pl:=fun k=>if 50000+m<=k/\k-50000-m<es.length then σ (es.getD (k-50000-m) 0) else σ k
  have τ0: ∀ k,k<50000+m->τ k=σ k:=fun k hk=>if_neg (by omega)
  have τ1: ∀ (i:Nat) k,es[i]? = some k->τ (50000+m+i)=σ k:=by
   intro i k hi
   have hlt:=(BD.1 hi).1
   have e1:50000+m+i-50000-m=i:=by omega
   simp only [τ,e1]
   rw [if_pos ⟨by omega,hlt⟩,Bm,hi]
   rfl
  have live1: ∀ k∈es,S.st k≠ .no:=fun k hk hn=>by have:=(k3 k hk).2.1;rw [hn] at this;cases this
  have hlen:(((List.range m).map fun j=>S.st (50000+j))++es.map fun k=>S.st k).length=m+es.length:=by simp
  -- the number of a thing that is handed out
  have src: ∀ j,j<m+es.length→ ∃ k,(((List.range m).map fun j=>S.st (50000+j))++es.map fun k=>S.st k)[j]? = some (S.st k)/\τ (50000+j)=σ k/\(m<=j->S.st k≠ .no)/\(j<m->k=50000+j)/\(m<=j->es[j-m]? = some k):=by
   intro j hj
   rcases Dc j m with hlt|hge
   ·exact ⟨50000+j,by rw [Dg (by simpa using hlt),Dp,List.getElem?_range hlt];rfl,τ0 _ (by omega),fun h=>by omega,fun _=>rfl,fun h=>by omega⟩
   ·have hl:j-m<es.length:=by omega
    refine ⟨es[j-m],by rw [Dn (by simpa using hge),Dp];simp [Bj hl], ?_,fun _=>live1 _ (Bx hl),fun h=>by omega,fun _=>Bj hl⟩
    have:=τ1 (j-m) _ (Bj hl)
    rw [←this]
    congr 1
    omega
  refine ⟨τ,GJ _ u (fun k hk=> ?_) hu,⟨ha.ti.fin,fun j o hj=> ?_,fun i j b hij hi hj ni nj hb hb'=> ?_,by rw [hlen];omega,fun j hj=> ?_,fun j b hj hj2 hb=> ?_,ha.ti.fr,fun b q hb=>(ha.ti.old b q hb).1,fun b q hb hu hx=> ?_⟩⟩
  ·rw [QCK] at hk
   rcases k2 k hk with hk'|hk'
   ·rw [exr,if_pos hk'.1]
    exact τ0 k hk'.2
   ·have hlt:=(k3 k hk').1
    rw [exr,if_neg (by omega)]
    obtain ⟨i,hi⟩:=List.mem_iff_getElem?.1 hk'
    rw [WY k1 hi]
    exact τ1 i k hi
  ·have hjl:j<m+es.length:=by rw [←hlen];exact (BD.1 hj).1
   obtain ⟨k,q1,q2,q3,q4,q5⟩:=src j hjl
   rw [q1] at hj
   injection hj with hj
   subst hj
   refine ⟨(ha.ti.obj k).pl q2 (fun r hr=> ?_),q3⟩
   rcases Dc j m with hlt|hge
   ·have:=k4 j hlt r (by rw [←q4 hlt];exact hr)
    exact τ0 r this.2
   ·have:=(k3 k (DF (q5 hge))).2.2
    rw [this] at hr
    cases hr
  ·rw [hlen] at hi hj
   obtain ⟨k,q1,q2,_,q4,q5⟩:=src i hi
   obtain ⟨k',p1,p2,_,p4,p5⟩:=src j hj
   rw [q2] at hb
   rw [p2] at hb'
   have q3:S.st k≠ .no:=fun he=>ni (by rw [q1,he])
   have p3:S.st k'≠ .no:=fun he=>nj (by rw [p1,he])
   refine ha.ti.apart k k' b (fun he=> ?_) q3 p3 hb hb'
   subst he
   rcases Dc i m with h1|h1
   ·rcases Dc j m with h2|h2
    ·have:=q4 h1;have:=p4 h2;omega
    ·have e1:=q4 h1
     have:=(k3 k (DF (p5 h2))).1
     omega
   ·rcases Dc j m with h2|h2
    ·have e1:=p4 h2
     have:=(k3 k (DF (q5 h1))).1
     omega
    ·have e1:=WY k1 (q5 h1)
     have e2:=WY k1 (p5 h2)
     omega
  ·rw [τ0 _ (by omega)]
   exact ha.ti.lnt _ (by simp only [Xu];omega)
  ·rw [hlen] at hj2
   obtain ⟨k,_,q2,q3,_,q5⟩:=src j hj2
   have q3:=q3 hj
   rw [q2] at hb
   rcases ha.ti.own k b q3 hb with h1|h1
   ·right
    simp only [Y8,D2,Db] at h1
    obtain ⟨i,hi,hib⟩:=h1
    refine ⟨i,hi, ?_,hib⟩
    obtain ⟨k',p1,p2,_,p4,_⟩:=src i (by omega)
    rw [p1]
    by_cases hn:S.st k'= .no
    ·rw [hn]
    ·refine absurd hb (ha.ti.apart k' k b (fun he=> ?_) hn q3 ?_)
     ·have:=(k3 k (DF (q5 hj))).1
      have:=p4 hi
      omega
     ·rw [p4 hi,ha.ti.lnt _ (by simp only [Xu];omega)]
      exact hib
   ·exact .inl h1
  ·by_cases hl:b∈Y8 σ0 m
   ·simp only [Y8,D2,Db] at hl
    obtain ⟨i,hi,hib⟩:=hl
    obtain ⟨k',p1,p2,_,p4,_⟩:=src i (by omega)
    by_cases hn:S.st k'= .no
    ·exact absurd hib (hu i hi (by rw [p1,hn]))
    ·refine (ha.ti.obj k').all hn ?_ q
     rw [p4 hi,ha.ti.lnt _ (by simp only [Xu];omega)]
     exact hib
   ·exact (ha.ti.old b q hb).2 hl hx
 ·cases h
theorem Qrk: ∀ (args:List V) (i j:Nat),YA (G3 i args) (i+j)=args.getD j .un
 | [],i,j=>rfl
 |v::r,i,0=>by simp [G3,YA]
 |v::r,i,j+1=>by
  simp only [G3,YA]
  rw [if_neg (by omega)]
  have:=Qrk r (i+1) j
  rw [show i+(j+1)=i+1+j from by omega,this]
  simp
theorem Qic: ∀ (args:List V) (i k:Nat),i+args.length<=k->YA (G3 i args) k= .un
 | [],i,k,_=>rfl
 |v::r,i,k,h=>by
  simp only [Bq] at h
  simp only [G3,YA]
  rw [if_neg (by omega)]
  exact Qic r (i+1) k (by omega)
theorem Qrl: ∀ (objs:List VO) (i j:Nat),Z1 (YX i objs) (i+j)=objs.getD j .no
 | [],i,j=>rfl
 |v::r,i,0=>by simp [YX,Z1]
 |v::r,i,j+1=>by
  simp only [YX,Z1]
  rw [if_neg (by omega)]
  have:=Qrl r (i+1) j
  rw [show i+(j+1)=i+1+j from by omega,this]
  simp
theorem Qrm: ∀ (objs:List VO) (i k:Nat),k<i->Z1 (YX i objs) k= .no
 | [],i,k,_=>rfl
 |v::r,i,k,h=>by
  simp only [YX,Z1]
  rw [if_neg (by omega)]
  exact Qrm r (i+1) k (by omega)
theorem Qrn: ∀ (objs:List VO) (i k:Nat),Z1 (YX i objs) k≠ .no->k∈(YX i objs).map Prod.fst
 | [],i,k,h=>absurd rfl h
 |v::r,i,k,h=>by
  simp only [YX,Z1] at h
  simp only [YX,BI]
  split at h
  ·rename_i hk;rw [hk];exact Dw
  ·exact B1 _ (Qrn r (i+1) k h)
theorem QCL {g:G}{f:FuncId}{fn:Func}{c:Code}{tc:TC}{rv:List (RV×Option Ty)}{ro:Bool}(hlt:f<1000000)(hf:P.funcs[f]? = some fn)(hb:fn.body=some c)(hc:trC P c=tc.er)(hn:fn.ntmps=g.n)(hr:XV P fn.results.toList=some (rv.map Prod.fst))(hg:GOk P g)(hl:tc.lok g)(hm:P.follows .mixedOrders=true):
  Qp P f (QP g tc rv ro):=by
 intro args objs r os h X w σ vs hfin hlent hargs
 unfold QP at h
 split at h
 ·rename_i hle
  have hal:=hargs.len
  rw [V.ds_eq,BL] at hal
  have obj0: ∀ k,Z1 (YX 50000 objs) k= .no∨ ∃ j,k=50000+j/\objs[j]? = some (Z1 (YX 50000 objs) k):=by
   intro k
   rcases Dc k 50000 with hlt|hge
   ·exact .inl (Qrm objs 50000 k hlt)
   ·obtain ⟨j,rfl⟩: ∃ j,k=50000+j:=⟨k-50000,by omega⟩
    rw [Qrl]
    rcases Dc j objs.length with hj|hj
    ·exact .inr ⟨j,rfl,by rw [Bm,Bj hj];rfl⟩
    ·left
     rw [Bm,DH hj]
     rfl
  have hat:At ⟨X,w,Y8 σ objs.length,σ,[],X,w⟩ X w σ g.n (inS args objs) (vs++List.replicate (g.n-vs.length) undef):=by
   refine ⟨⟨hfin,fun k=> ?_,fun i j b hij hi hj hbi hbj=> ?_,fun k b hk hbk=> ?_,Fr.refl _ _,fun _ _ _=>⟨fun h=>h,fun _ h=>h⟩,fun _ _=>rfl,(fun p hp=>by cases hp),⟨List.nodup_nil,fun p hp=>by cases hp⟩,Ext0.refl X w⟩,⟨by simp;omega,fun i u hu=> ?_,fun i hi=> ?_⟩,fun j hj=>Qrn objs 50000 j hj⟩
   ·simp only [inS]
    rcases obj0 k with h0|⟨j,rfl,h0⟩
    ·rw [h0];trivial
    ·exact (hlent.at_ j _ h0).1
   ·simp only [inS] at hi hj
    rcases obj0 i with h0|⟨i',rfl,h0⟩
    ·exact absurd h0 hi
    ·rcases obj0 j with h1|⟨j',rfl,h1⟩
     ·exact absurd h1 hj
     ·exact hlent.apart i' j' b (by omega) (BD.1 h0).1 (BD.1 h1).1 hbi hbj
   ·simp only [inS] at hk
    rcases obj0 k with h0|⟨j,rfl,h0⟩
    ·exact absurd h0 hk
    ·refine .inl ?_
     simp only [Y8,D2,Db]
     exact ⟨j,(BD.1 h0).1,hbk⟩
   ·simp only [inS]
    rcases Dc i vs.length with hi|hi
    ·rw [Dg hi] at hu
     have ha:args[i]? = some args[i]:=Bj (by omega)
     have hl:=Qrk args 0 i
     rw [DW,Bm,ha] at hl
     rw [hl]
     obtain ⟨u',hu',hc'⟩:=hargs.at_ (i:=i) (d:=args[i].d) (by rw [V.ds_eq,Dp,ha];rfl)
     rw [hu] at hu'
     injection hu' with hu'
     subst hu'
     exact hc'
    ·rw [Qic args 0 i (by omega)]
     exact C.any_ u
   ·simp only [inS]
    exact Qic args 0 i (by omega)
  have hw:=QCI (B:=⟨X,w,Y8 σ objs.length,σ,[],X,w⟩) hg hm tc (.inl rfl) hl h c hc 9 X w σ _ [] hat
  refine VT hlt (callsIn_wide.1 (callsIn_of_wp_marks (F:=Fw none) (n:=9) hf hb trivial ?_))
  have he:(vs.toArray++Array.replicate (fn.ntmps-vs.toArray.size) undef)=(vs++List.replicate (g.n-vs.length) undef).toArray:=by
   apply Array.ext'
   simp [hn]
  rw [he]
  refine wpIn_mono hw ?_
  rintro e a w1 ⟨S,X',σ',us',ms',h0,rfl,h3⟩
  obtain ⟨w',h1,hleave⟩:=Qxa h0
  have hret:QbY rv ro objs.length S=some (r,os)→ ∃ u,(results fn us'.toArray).run P w'= .ok u w'∧ ∃ X1 σ1,C X1 w' σ1 r.d u/\Ends X w σ objs.length X1 w' σ1 os:=by
   intro hret
   unfold QbY at hret
   obtain ⟨vs1,q1,q2⟩:=Qib (rv:=rv.map fun r=>(r.1,none)) (by rw [hr,List.map_map];rfl) hret
   split at q1
   ·obtain ⟨xs,q3,q4⟩:=q2 h1
    obtain ⟨u,q5,q6⟩:=Qri q3 q4
    obtain ⟨σ1,q7,q8⟩:=Qrj q1 h1 q5
    exact ⟨u,q6,X',σ1,q7,q8⟩
   ·obtain ⟨X2,h2,_⟩:=h1.fzs (V.msss vs1)
    obtain ⟨vs2,q3,q4⟩:=Qib hr q1
    obtain ⟨xs,q5,q6⟩:=q4 h2
    obtain ⟨u,q7,q8⟩:=Qri q5 q6
    obtain ⟨σ1,q9,q10⟩:=Qrj q3 h2 q7
    exact ⟨u,q8,X2,σ1,q9,q10⟩
  cases e with
  |ret=>
   obtain ⟨u,p1,X1,σ1,p2,p3⟩:=hret h3
   exact hleave ⟨u,p1,u,X1,σ1,rfl,p2,p3⟩
  |normal=>
   obtain ⟨u,p1,X1,σ1,p2,p3⟩:=hret h3
   exact hleave ⟨u,p1,u,X1,σ1,rfl,p2,p3⟩
  |_=>cases h3
 ·cases h
end
end Go.Proofs.YthlcobdnemhcdaaGreat.K
/-
 What is said of functions and of loops in types,and how it serves in the runs of others.
-/
namespace Go.Proofs.YthlcobdnemhcdaaGreat.K
open Go.RowKit
def Ty.args:(y:Ty)->List V->Option y.T
 |.pr f r,v::vs=>match v.as f,r.args vs with
  |some x,some z=>some (x,z)
  |_,_=>none
 |.nil,[]=>some ()
 |_,_=>none
abbrev Ent:=List V->List VO->Option (Bool×V×List VO)
def Qo (a:Ty)(ok:a.T->Bool)(F:a.T->V):Ent:=fun args objs=>
 match objs with
 | []=>match a.args args with
  |some x=>some (ok x,F x,[])
  |none=>none
 |_=>none
def Gi (b a:Ty)(ok:b.T->a.T->Bool)(F:b.T->a.T->V)(H:b.T->a.T->b.T):Ent:=fun args objs=>
 match args,objs with
 |.ptr 50000 0::args,[.box c]=>match c.as b,a.args args with
  |some d,some x=>some (ok d x,F d x,[.box (.t b (H d x))])
  |_,_=>none
 |_,_=>none
def Qid (b a:Ty)(ok:a.T->Bool)(H:a.T->b.T):Ent:=fun args objs=>
 match objs with
 | []=>match a.args args with
  |some x=>some (ok x,.ptr 50000 0,[.box (.t b (H x))])
  |none=>none
 |_=>none
def XW (a:Ty)(ok:a.T->Bool)(F:a.T->V)(O:a.T->List VO):Ent:=fun args objs=>
 match objs with
 | []=>match a.args args with
  |some x=>some (ok x,F x,O x)
  |none=>none
 |_=>none
class Fuel where
 n:Nat
abbrev Jh [f:Fuel]:Nat:=f.n
def Qq (F:Ent):Fun:=fun args objs=>
 match F args objs with
 |some (true,r,os)=>some (r,os)
 |_=>none
def EL:List (Nat×Ent)->Nat->Ent
 | [],_=>fun _ _=>none
 |(g,F)::r,f=>if f=g then fun args objs=>match F args objs with
   |some x=>some x
   |none=>EL r f args objs
  else EL r f
theorem QbZ: ∀ {l:List (Nat×Ent)} {f:Nat} {args:List V} {objs:List VO} {x:Bool×V×List VO},EL l f args objs=some x→ ∃ F,(f,F)∈l/\F args objs=some x
 |(g,F)::r,f,args,objs,x,h=>by
  simp only [EL] at h
  split at h
  ·rename_i hfg
   subst hfg
   simp only at h
   split at h
   ·rename_i y hy
    simp only [Bc] at h
    subst h
    exact ⟨F,Dw,hy⟩
   ·obtain ⟨F',h1,h2⟩:=QbZ h
    exact ⟨F',B1 _ h1,h2⟩
  ·obtain ⟨F',h1,h2⟩:=QbZ h
   exact ⟨F',B1 _ h1,h2⟩
def IL (li:List (Nat×Itr))(f:Nat):Itr:=match li.lookup f with
 |some F=>F
 |none=>fun _ _=>none
def RL (l:List ((yr:Ty)×(VS->List yr.T->Option (Bool×List (Bool×Exit×VS)))))(j:Nat)(S:VS)(yr:Ty)(rows:List yr.T):Option (Bool×List (Bool×Exit×VS)):=
 match l[j]? with
 |some ⟨y,F⟩=>if h:yr=y then F S (h▸rows) else none
 |none=>none
section
variable {P:Program}{X:Nat->Nat->Prop}{w:World}{σ:Pl}
theorem Qro {α:Type}: ∀ {l:List (Nat×α)} {f:Nat} {x:α},l.lookup f=some x->(f,x)∈l
 |(k,y)::l,f,x,h=>by
  rw [List.lookup_cons] at h
  split at h
  ·rename_i hk
   have hk:f=k:=by simpa using hk
   simp only [Bc] at h
   rw [hk,h]
   exact Dw
  ·exact B1 _ (Qro h)
theorem Jw {TY:Nat->Option Ty}{own:List Nat}{n:Nat}{keep:List Nat}{L:Nat->VS->Option (Bool×List (Bool×Exit×VS))}{R:Nat->VS->(yr:Ty)->List yr.T->Option (Bool×List (Bool×Exit×VS))}(l:List (Nat×Ent))(h: ∀ p∈l,Q6 P p.1/\Qp P p.1 (Qq p.2))(li:List (Nat×Itr):=[])(hi: ∀ p∈li,Iters P p.1 p.2:=by intro p hp;cases hp):GOk P ⟨TY,own,n,EL l,keep,L,IL li,R⟩:=by
 refine ⟨?_,fun f caps objs x hx=> ?_⟩
 rotate_left
 ·simp only [IL] at hx ⊢
  cases hl:li.lookup f with
  |none=>rw [hl] at hx;cases hx
  |some F=>exact hi _ (Qro hl)
 intro f args objs x hx
 simp only at hx ⊢
 obtain ⟨F,hF,_⟩:=QbZ hx
 refine ⟨(h _ hF).1, ?_⟩
 intro args' objs' r os hr
 simp only at hr
 split at hr
 ·rename_i r' os' hq
  simp only [Bc,Bo] at hr
  obtain ⟨rfl,rfl⟩:=hr
  obtain ⟨F2,h1,h2⟩:=QbZ hq
  exact (h _ h1).2 args' objs' r' os' (by simp only [Qq,h2])
 ·cases hr
theorem Ur: ∀ {a:Ty} {args:List V} {x:a.T} {vs:List Value},a.args args=some x->Cs X w σ (V.ds args) vs->Cs X w σ (V.ds (a.canon x)) vs
 |.pr f r,v::args,x,vs,h,hc=>by
  simp only [Ty.args] at h
  split at h
  ·rename_i x1 z1 h1 h2
   simp only [Bc] at h
   subst h
   simp only [V.ds,Cs] at hc
   obtain ⟨u,us,rfl,q1,q2⟩:=hc
   simp only [Ty.canon,V.ds]
   exact Cs.cons (C.up _ _ (V.as_spec h1 q1)) (Ur h2 q2)
  ·cases h
 |.nil,[],x,vs,h,hc=>hc
 |.pr f r,[],_,_,h,_=>by cases h
 |.nil,_::_,_,_,h,_=>by cases h
 |.int _,_,_,_,h,_=>by simp only [Ty.args] at h;cases h
 |.bool,_,_,_,h,_=>by simp only [Ty.args] at h;cases h
 |.str,_,_,_,h,_=>by simp only [Ty.args] at h;cases h
 |.sl _,_,_,_,h,_=>by simp only [Ty.args] at h;cases h
 |.rv,_,_,_,h,_=>by simp only [Ty.args] at h;cases h
 |.rb,_,_,_,h,_=>by simp only [Ty.args] at h;cases h
theorem Qt {f:FuncId}{R:Fun}{a:Ty}{ok:a.T->Bool}{F:a.T->V}(hM:Qp P f R)(h: ∀ x,ok x=true->R (a.canon x) []=some (F x,[])):Qp P f (Qq (Qo a ok F)):=by
 intro args objs r os hF X w σ vs hfin hl hc
 unfold Qq Qo at hF
 cases objs with
 |cons o os'=>simp at hF
 |nil=>
  simp only at hF
  cases ha:a.args args with
  |none=>rw [ha] at hF;cases hF
  |some x=>
   rw [ha] at hF
   simp only at hF
   split at hF
   ·rename_i r' os' hq
    simp only [Bc,Bo] at hF hq
    obtain ⟨rfl,rfl⟩:=hF
    obtain ⟨h1,rfl,rfl⟩:=hq
    exact hM _ [] _ _ (h x h1) X w σ vs hfin hl (Ur ha hc)
   ·cases hF
theorem Ek {f:FuncId}{a:Ty}{ok:a.T->Bool}{F:a.T->V}(h: ∀ x,ok x=false):Qp P f (Qq (Qo a ok F)):=by
 intro args objs r os hF
 unfold Qq Qo at hF
 cases objs with
 |cons o os'=>simp at hF
 |nil=>
  simp only at hF
  cases ha:a.args args with
  |none=>rw [ha] at hF;cases hF
  |some x=>
   rw [ha] at hF
   simp only [h] at hF
   cases hF
theorem Qb0 {f:FuncId}{a:Ty}{okN:Nat->a.T->Bool}{ok:a.T->Bool}{F:a.T->V}(hN: ∀ N,Qp P f (Qq (Qo a (okN N) F)))(h: ∀ x,ok x=true→ ∃ N,okN N x=true):Qp P f (Qq (Qo a ok F)):=by
 intro args objs r os hF
 have hF0:=hF
 unfold Qq Qo at hF
 cases objs with
 |cons o os'=>simp at hF
 |nil=>
  simp only at hF
  cases ha:a.args args with
  |none=>rw [ha] at hF;cases hF
  |some x=>
   rw [ha] at hF
   cases hx:ok x with
   |false=>simp only [hx] at hF;cases hF
   |true=>
    obtain ⟨N,hok⟩:=h x hx
    refine hN N args [] r os ?_
    simp only [hx] at hF
    unfold Qq Qo
    simp only [ha,hok]
    exact hF
theorem Qrp {f:FuncId}{R:Fun}{a:Ty}{ok:a.T->Bool}{F:a.T->V}{O:a.T->List VO}(hM:Qp P f R)(h: ∀ x,ok x=true->R (a.canon x) []=some (F x,O x)):Qp P f (Qq (XW a ok F O)):=by
 intro args objs r os hF X w σ vs hfin hl hc
 unfold Qq XW at hF
 cases objs with
 |cons o os'=>simp at hF
 |nil=>
  simp only at hF
  cases ha:a.args args with
  |none=>rw [ha] at hF;cases hF
  |some x=>
   rw [ha] at hF
   simp only at hF
   split at hF
   ·rename_i r' os' hq
    simp only [Bc,Bo] at hF hq
    obtain ⟨rfl,rfl⟩:=hF
    obtain ⟨h1,rfl,rfl⟩:=hq
    exact hM _ [] _ _ (h x h1) X w σ vs hfin hl (Ur ha hc)
   ·cases hF
theorem QCM {f:FuncId}{R:Fun}{b a:Ty}{ok:a.T->Bool}{H:a.T->b.T}(hM:Qp P f R)(hb:b.row=true)(h: ∀ x,ok x=true→ ∃ c,R (a.canon x) []=some (.ptr 50000 0,[.box c])/\c.as b=some (H x)):Qp P f (Qq (Qid b a ok H)):=by
 intro args objs r os hF X w σ vs hfin hl hc
 unfold Qq Qid at hF
 cases objs with
 |cons o os'=>simp at hF
 |nil=>
  simp only at hF
  cases ha:a.args args with
  |none=>rw [ha] at hF;cases hF
  |some x=>
   rw [ha] at hF
   simp only at hF
   split at hF
   ·rename_i r' os' hq
    simp only [Bc,Bo] at hF hq
    obtain ⟨rfl,rfl⟩:=hF
    obtain ⟨h1,rfl,rfl⟩:=hq
    obtain ⟨c,h2,h3⟩:=h x h1
    refine (hM _ [] _ _ h2 X w σ vs hfin hl (Ur ha hc)).mono ?_
    rintro e w' ⟨u,X',σ',e1,e2,e3⟩
    refine ⟨u,X',σ',e1,e2,e3.fin,fun j o hj=> ?_,fun i j bb hij hi hj=>by simp at hi hj;omega,e3.le,e3.same,fun j bb hj hl hb=> .inl ((e3.new j bb hj hl hb).resolve_right fun ⟨i,hi,_⟩=>absurd hi (Nat.not_lt_zero _)),e3.fr,e3.sub,fun b q hb _ hx=>e3.old b q hb (fun i hi=>absurd hi (Nat.not_lt_zero _)) hx⟩
    cases j with
    |zero=>
     simp only [BR,Bc] at hj
     subst hj
     exact ⟨Qeo hb h3 (e3.at_ 0 _ rfl).1,fun _=>by simp⟩
    |succ j=>simp at hj
   ·cases hF
theorem El {f:FuncId}{R:Fun}{b a:Ty}{ok:b.T->a.T->Bool}{F:b.T->a.T->V}{H:b.T->a.T->b.T}(hM:Qp P f R)(hb:b.row=true)
  (h: ∀ d x,ok d x=true->R (.ptr 50000 0::a.canon x) [.box (.t b d)]=some (F d x,[.box (.t b (H d x))])):Qp P f (Qq (Gi b a ok F H)):=by
 intro args objs r os hF X w σ vs hfin hl hc
 unfold Qq Gi at hF
 split at hF
 ·rename_i r0 os0 hq
  split at hq
  ·rename_i args' c
   split at hq
   ·rename_i d x hd hx
    simp only [Bc,Bo] at hF hq
    obtain ⟨h1,h2⟩:=hF
    obtain ⟨h3,h4,h5⟩:=hq
    subst h1 h2 h4 h5
    refine hM _ [.box (.t b d)] _ _ (h d x h3) X w σ vs hfin ⟨fun j o hj=> ?_,fun i j bb hij hi hj=>hl.apart i j bb hij hi hj⟩ ?_
    ·cases j with
     |zero=>
      simp only [BR,Bc] at hj
      subst hj
      exact ⟨Qeo hb hd (hl.at_ 0 _ rfl).1,by simp⟩
     |succ j=>simp at hj
    ·simp only [V.ds,Cs] at hc ⊢
     obtain ⟨u,us,rfl,q1,q2⟩:=hc
     exact ⟨u,us,rfl,q1,Ur hx q2⟩
   ·cases hq
  ·cases hq
 ·cases hF
end
inductive SV where
 |ty (t:Ty)
 |ptr (k o:Nat)
 |ms (k:Nat)
 |cf (f:Nat)
 |fn (f:Nat) (ks:List (Nat×Nat))
 |nl
 |ni
 |bf (f:Nat) (t:Ty)
inductive SO where
 |box (t:Ty)
 |bag (l:List SV)
 |arr (e:Nat) (t:Ty)
 |no
 |bc (f:Nat)
 |bm (k:Nat)
@[reducible] def SV.T:SV->Type
 |.ty t=>t.T
 |.ptr _ _=>Unit
 |.ms _=>Unit
 |.cf _=>Unit
 |.fn _ _=>Unit
 |.nl=>Unit
 |.ni=>Unit
 |.bf _ t=>t.T
@[reducible] def SVt:List SV->Type
 | []=>Unit
 |s::r=>s.T×SVt r
@[reducible] def SO.T:SO->Type
 |.box t=>t.T
 |.bag l=>SVt l
 |.arr _ t=>List t.T
 |.no=>Unit
 |.bc _=>Unit
 |.bm _=>Unit
def SV.mk:(s:SV)->s.T->V
 |.ty t,x=> .t t x
 |.ptr k o,_=> .ptr k o
 |.ms k,_=> .ms k
 |.cf f,_=> .c (.func (.func f) ⟨[]⟩ ⟨[]⟩)
 |.fn f ks,_=> .fn f (ks.map fun p=> .ptr p.1 p.2)
 |.nl,_=> .c (.slice none 0 0)
 |.ni,_=> .c .nilIface
 |.bf f t,x=> .fn (f+1000000) [.t t x]
def Qie:Value->Bool
 |.nilIface=>true
 |_=>false
theorem QCN {x:Value}(h:Qie x=true):x= .nilIface:=by
 unfold Qie at h
 split at h
 ·rfl
 ·cases h
def Qif:Value->Bool
 |.slice none 0 0=>true
 |_=>false
theorem QCO {x:Value}(h:Qif x=true):x= .slice none 0 0:=by
 unfold Qif at h
 split at h
 ·rfl
 ·cases h
def Qb1:Value->Option Nat
 |.func (.func g) ⟨[]⟩ ⟨[]⟩=>some g
 |_=>none
theorem Qrq {x:Value}{f:Nat}(h:Qb1 x=some f):x= .func (.func f) ⟨[]⟩ ⟨[]⟩:=by
 unfold Qb1 at h
 split at h
 ·simp only [Bc] at h
  rw [h]
 ·cases h
def Em:List V->Option (List (Nat×Nat))
 | []=>some []
 |.ptr k o::r=>match Em r with
  |some l=>some ((k,o)::l)
  |none=>none
 |_=>none
theorem Qrr: ∀ {vs:List V} {ks:List (Nat×Nat)},Em vs=some ks->vs=ks.map fun p=> .ptr p.1 p.2
 | [],ks,h=>by
  simp only [Em,Bc] at h
  subst h
  rfl
 |v::r,ks,h=>by
  cases v with
  |ptr k o=>
   simp only [Em] at h
   split at h
   ·rename_i l hl
    simp only [Bc] at h
    subst h
    rw [Qrr hl]
    rfl
   ·cases h
  |_=>simp only [Em] at h;cases h
def G5:(l:List SV)->SVt l->List V
 | [],_=>[]
 |s::r,x=>s.mk x.1::G5 r x.2
def SO.mk:(s:SO)->s.T->VO
 |.box t,x=> .box (.t t x)
 |.bag l,x=> .box (.ag (G5 l x))
 |.arr e t,l=> .arr e t l
 |.no,_=> .no
 |.bc f,_=> .box (.c (.func (.func f) ⟨[]⟩ ⟨[]⟩))
 |.bm k,_=> .box (.ms k)
def Qig (t:Ty):List V->Option t.T
 | [.t t' x]=>if h:t'=t then some (h▸x) else none
 |_=>none
theorem QCP {t:Ty}{vs:List V}{x:t.T}(h:Qig t vs=some x):vs=[.t t x]:=by
 unfold Qig at h
 split at h
 ·split at h
  ·rename_i ht
   subst ht
   simp only [Bc] at h
   rw [h]
  ·cases h
 ·cases h
def SV.rd:(s:SV)->V->Option s.T
 |.ty t,.t t' x=>if h:t'=t then some (h▸x) else none
 |.ptr k o,.ptr k' o'=>if k'=k/\o'=o then some () else none
 |.ms k,.ms k'=>if k'=k then some () else none
 |.cf f,.c x=>if Qb1 x=some f then some () else none
 |.fn f ks,.fn g vs=>if g=f/\Em vs=some ks then some () else none
 |.nl,.c x=>if Qif x=true then some () else none
 |.ni,.c x=>if Qie x=true then some () else none
 |.bf f t,.fn g vs=>if g=f+1000000 then Qig t vs else none
 |_,_=>none
def G6:(l:List SV)->List V->Option (SVt l)
 | [],[]=>some ()
 |s::r,v::vs=>match s.rd v,G6 r vs with
  |some x,some y=>some (x,y)
  |_,_=>none
 |_,_=>none
def SO.rd:(s:SO)->VO->Option s.T
 |.box t,.box v=>(SV.ty t).rd v
 |.bag l,.box (.ag vs)=>G6 l vs
 |.arr e t,.arr e' t' l=>if h:t'=t then (if e'=e then some (h▸l) else none) else none
 |.no,.no=>some ()
 |.bc f,.box (.c x)=>if Qb1 x=some f then some () else none
 |.bm k,.box (.ms j)=>if j=k then some () else none
 |_,_=>none
theorem SV.rd_mk {s:SV}{v:V}{x:s.T}(h:s.rd v=some x):v=s.mk x:=by
 cases s with
 |ty t=>
  cases v with
  |t t' y=>
   simp only [SV.rd] at h
   split at h
   ·rename_i ht
    subst ht
    simp only [Bc] at h
    subst h
    rfl
   ·cases h
  |_=>simp only [SV.rd] at h;cases h
 |ptr k o=>
  cases v with
  |ptr k' o'=>
   simp only [SV.rd] at h
   split at h
   ·rename_i hk
    rw [hk.1,hk.2]
    rfl
   ·cases h
  |_=>simp only [SV.rd] at h;cases h
 |ms k=>
  cases v with
  |ms k'=>
   simp only [SV.rd] at h
   split at h
   ·rename_i hk
    rw [hk]
    rfl
   ·cases h
  |_=>simp only [SV.rd] at h;cases h
 |cf f=>
  cases v with
  |c x=>
   simp only [SV.rd] at h
   split at h
   ·rename_i hk
    rw [Qrq hk]
    rfl
   ·cases h
  |_=>simp only [SV.rd] at h;cases h
 |fn f ks=>
  cases v with
  |fn g vs=>
   simp only [SV.rd] at h
   split at h
   ·rename_i hk
    rw [hk.1,Qrr hk.2]
    rfl
   ·cases h
  |_=>simp only [SV.rd] at h;cases h
 |nl=>
  cases v with
  |c x=>
   simp only [SV.rd] at h
   split at h
   ·rename_i hk
    rw [QCO hk]
    rfl
   ·cases h
  |_=>simp only [SV.rd] at h;cases h
 |ni=>
  cases v with
  |c x=>
   simp only [SV.rd] at h
   split at h
   ·rename_i hk
    rw [QCN hk]
    rfl
   ·cases h
  |_=>simp only [SV.rd] at h;cases h
 |bf f t=>
  cases v with
  |fn g vs=>
   simp only [SV.rd] at h
   split at h
   ·rename_i hk
    rw [hk,QCP h]
    rfl
   ·cases h
  |_=>simp only [SV.rd] at h;cases h
theorem OD: ∀ {l:List SV} {vs:List V} {x:SVt l},G6 l vs=some x->vs=G5 l x
 | [],[],_,_=>rfl
 | [],_::_,_,h=>by cases h
 |_::_,[],_,h=>by cases h
 |s::r,v::vs,x,h=>by
  simp only [G6] at h
  split at h
  ·rename_i x1 y1 h1 h2
   simp only [Bc] at h
   subst h
   rw [SV.rd_mk h1,OD h2]
   rfl
  ·cases h
theorem SO.rd_mk {s:SO}{v:VO}{x:s.T}(h:s.rd v=some x):v=s.mk x:=by
 cases s with
 |box t=>
  cases v with
  |box v=>
   simp only [SO.rd] at h
   have:=SV.rd_mk h
   rw [this]
   rfl
  |_=>simp only [SO.rd] at h;cases h
 |bag l=>
  cases v with
  |box v=>
   cases v with
   |ag vs=>
    simp only [SO.rd] at h
    rw [OD h]
    rfl
   |_=>simp only [SO.rd] at h;cases h
  |_=>simp only [SO.rd] at h;cases h
 |arr e t=>
  cases v with
  |arr e' t' l=>
   simp only [SO.rd] at h
   split at h
   ·rename_i ht
    subst ht
    split at h
    ·rename_i he
     simp only [Bc] at h
     subst h
     rw [he]
     rfl
    ·cases h
   ·cases h
  |_=>simp only [SO.rd] at h;cases h
 |no=>
  cases v with
  |no=>rfl
  |_=>simp only [SO.rd] at h;cases h
 |bc f=>
  cases v with
  |box c=>
   cases c with
   |c x=>
    simp only [SO.rd] at h
    split at h
    ·rename_i hk
     rw [Qrq hk]
     rfl
    ·cases h
   |_=>simp only [SO.rd] at h;cases h
  |_=>simp only [SO.rd] at h;cases h
 |bm k=>
  cases v with
  |box c=>
   cases c with
   |ms j=>
    simp only [SO.rd] at h
    split at h
    ·rename_i hk
     rw [hk]
     rfl
    ·cases h
   |_=>simp only [SO.rd] at h;cases h
  |_=>simp only [SO.rd] at h;cases h
@[reducible] def SVs:List (Nat×SV)->Type
 | []=>Unit
 |(_,s)::r=>s.T×SVs r
@[reducible] def SOs:List (Nat×SO)->Type
 | []=>Unit
 |(_,s)::r=>s.T×SOs r
def Qb2:(l:List (Nat×SV))->SVs l->List (Nat×V)
 | [],_=>[]
 |(i,s)::r,x=>(i,s.mk x.1)::Qb2 r x.2
def Qb3:(l:List (Nat×SO))->SOs l->List (Nat×VO)
 | [],_=>[]
 |(i,s)::r,x=>(i,s.mk x.1)::Qb3 r x.2
def OE (f:Nat->V):(l:List (Nat×SV))->Option (SVs l)
 | []=>some ()
 |(i,s)::r=>match s.rd (f i),OE f r with
  |some x,some y=>some (x,y)
  |_,_=>none
def OF (f:Nat->VO):(l:List (Nat×SO))->Option (SOs l)
 | []=>some ()
 |(i,s)::r=>match s.rd (f i),OF f r with
  |some x,some y=>some (x,y)
  |_,_=>none
structure Sh where
 vs:List (Nat×SV)
 os:List (Nat×SO)
def SV.t? : SV->Option Ty
 |.ty t=>some t
 |_=>none
def SO.t? : SO->Option Ty
 |.box t=>some t
 |_=>none
def Sh.f (s:Sh):Fg:=⟨s.vs.map fun p=>(p.1,p.2.t?),s.os.map fun p=>(p.1,p.2.t?)⟩
def Sh.st (s:Sh)(x:SVs s.vs)(y:SOs s.os):VS:=⟨YA (Qb2 s.vs x),Z1 (Qb3 s.os y),s.os.map Prod.fst⟩
theorem nrm_mk {s:SV}{x:s.T}:JQ s.t? (s.mk x)=s.mk x:=by
 cases s with
 |ty t=>simp only [SV.t?, SV.mk,JQ,V.as,dite_true]
 |_=>rfl
theorem QCQ {s:SO}{x:s.T}:Zv s.t? (s.mk x)=s.mk x:=by
 cases s with
 |box t=>
  simp only [SO.t?, SO.mk,Zv,JQ,V.as,dite_true]
  split<;>rfl
 |_=>rfl
theorem Qih {f:Nat->V}: ∀ {l:List (Nat×SV)} {x:SVs l},OE f l=some x->(l.map fun p=>(p.1,p.2.t?)).map (fun p=>(p.1,JQ p.2 (f p.1)))=Qb2 l x
 | [],_,_=>rfl
 |(i,s)::r,x,h=>by
  simp only [OE] at h
  split at h
  ·rename_i x1 y1 h1 h2
   simp only [Bc] at h
   subst h
   simp only [BI,Qb2,SV.rd_mk h1,nrm_mk,Qih h2]
  ·cases h
theorem Qii {f:Nat->VO}: ∀ {l:List (Nat×SO)} {x:SOs l},OF f l=some x->(l.map fun p=>(p.1,p.2.t?)).map (fun p=>(p.1,Zv p.2 (f p.1)))=Qb3 l x
 | [],_,_=>rfl
 |(i,s)::r,x,h=>by
  simp only [OF] at h
  split at h
  ·rename_i x1 y1 h1 h2
   simp only [Bc] at h
   subst h
   simp only [BI,Qb3,SO.rd_mk h1,QCQ,Qii h2]
  ·cases h
def mkL (s:Sh)(ok:SVs s.vs->SOs s.os->Bool)(Z2:SVs s.vs->SOs s.os->List (Bool×Exit×VS))(S:VS):Option (Bool×List (Bool×Exit×VS)):=
 match OE S.ts s.vs,OF S.st s.os with
 |some x,some y=>some (ok x y,Z2 x y)
 |_,_=>none
theorem lok_of {g:G}{s:Sh}{f:Fg}{a:TC}{ok:SVs s.vs->SOs s.os->Bool}{Z2:SVs s.vs->SOs s.os->List (Bool×Exit×VS)}(hok:f.ok)(hf:f=s.f)(h: ∀ x y,ok x y=true→ ∀ p,YB (Z2 x y)=some p->QA (QC g f a) (s.st x y)=some p):
  ∀ S l p,mkL s ok Z2 (fgt f S)=some (true,l)->YB l=some p->QA (QC g f a) S=some p:=by
 intro S l p hL hp
 unfold mkL at hL
 split at hL
 ·rename_i x y hx hy
  simp only [Bc,Bo] at hL
  obtain ⟨h1,rfl⟩:=hL
  rw [QIQ hok]
  have e1:=Qih hx
  have e2:=Qii hy
  have:fgt f S=s.st x y:=by
   rw [←QlL hok S]
   have e3:(fgt f S).ts=(fgt f S).ts:=rfl
   generalize fgt f S=T at e1 e2
   subst hf
   unfold fgt Sh.st
   simp only [Sh.f]
   rw [e1,e2]
   simp only [List.map_map]
   rfl
  rw [this]
  exact h x y h1 p hp
 ·cases hL
def mkR {yr:Ty}(s:Sh)(ok:List yr.T->SVs s.vs->SOs s.os->Bool)(Z2:List yr.T->SVs s.vs->SOs s.os->List (Bool×Exit×VS))(S:VS)(rows:List yr.T):Option (Bool×List (Bool×Exit×VS)):=
 match OE S.ts s.vs,OF S.st s.os with
 |some x,some y=>some (ok rows x y,Z2 rows x y)
 |_,_=>none
theorem QCR {g:G}{s:Sh}{f:Fg}{yr:Ty}{ps:List Nat}{a b:TC}{ok:List yr.T->SVs s.vs->SOs s.os->Bool}{Z2:List yr.T->SVs s.vs->SOs s.os->List (Bool×Exit×VS)}(hok:f.ok)(hf:f=s.f)
  (h: ∀ rows x y,ok rows x y=true→ ∀ p,YB (Z2 rows x y)=some p->XP (GN g f yr ps a b) rows (s.st x y)=some p):
  ∀ S rows l p,mkR s ok Z2 (fgt f S) rows=some (true,l)->YB l=some p->XP (GN g f yr ps a b) rows (fgt f S)=some p:=by
 intro S rows l p hL hp
 unfold mkR at hL
 split at hL
 ·rename_i x y hx hy
  simp only [Bc,Bo] at hL
  obtain ⟨h1,rfl⟩:=hL
  have e1:=Qih hx
  have e2:=Qii hy
  have:fgt f S=s.st x y:=by
   rw [←QlL hok S]
   generalize fgt f S=T at e1 e2
   subst hf
   unfold fgt Sh.st
   simp only [Sh.f]
   rw [e1,e2]
   simp only [List.map_map]
   rfl
  rw [this]
  exact h rows x y h1 p hp
 ·cases hL
theorem RL_at {l:List ((yr:Ty)×(VS->List yr.T->Option (Bool×List (Bool×Exit×VS))))}{j:Nat}{y:Ty}{F:VS->List y.T->Option (Bool×List (Bool×Exit×VS))}(h:l[j]? = some ⟨y,F⟩)(S:VS)(rows:List y.T):RL l j S y rows=F S rows:=by
 unfold RL
 rw [h]
 simp only [dite_true]
def Ls (l:List (VS->Option (Bool×List (Bool×Exit×VS))))(j:Nat)(S:VS):Option (Bool×List (Bool×Exit×VS)):=
 match l[j]? with
 |some F=>F S
 |none=>none
def nxt (f:VS->Option (Exit×VS)):Option (Exit×VS)->Option (Exit×VS)
 |some (.normal,S)=>f S
 |x=>x
theorem G7 (b:VS->Option (Exit×VS))(S:VS):QA b S=nxt (QA b) (b S):=by
 rw [QIM]
 cases b S with
 |none=>rfl
 |some x=>
  obtain ⟨e,S'⟩:=x
  cases e<;>rfl
theorem QCS {α:Type}(rd:α->VS->Option (Exit×VS))(z:α)(zs:List α)(S:VS):XP rd (z::zs) S=nxt (XP rd zs) (rd z S):=by
 simp only [XP]
 cases rd z S with
 |none=>rfl
 |some x=>
  obtain ⟨e,S'⟩:=x
  cases e<;>rfl
theorem YJ {f:VS->Option (Exit×VS)}{q:Bool}{a b:Option (Exit×VS)}:nxt f (br q a b)=br q (nxt f a) (nxt f b):=by cases q<;>rfl
theorem YY {f:VS->Option (Exit×VS)}{S:VS}:nxt f (some (.normal,S))=f S:=rfl
theorem YZ {f:VS->Option (Exit×VS)}{S:VS}:nxt f (some (.ret,S))=some (.ret,S):=rfl
theorem Y0 {f:VS->Option (Exit×VS)}{S:VS}{i:Nat}:nxt f (some (.exit i,S))=some (.exit i,S):=rfl
theorem Y2 {f:VS->Option (Exit×VS)}:nxt f none=none:=rfl
theorem QK {q q2:Bool}{e e2:Exit}{S S2:VS}{l:List (Bool×Exit×VS)}:YB ((q,e,S)::(q2,e2,S2)::l)=br q (some (e,S)) (YB ((q2,e2,S2)::l)):=by cases q<;>rfl
theorem QL {q:Bool}{e:Exit}{S:VS}:YB [(q,e,S)]=some (e,S):=rfl
theorem Qf {β:Type}{a b:Option β}:br true a b=a:=rfl
theorem Qj {β:Type}{a b:Option β}:br false a b=b:=rfl
abbrev Qh (k:IntKind)(a b:Int):Int:=k.wrap (a+b)
abbrev Qs (k:IntKind)(a b:Int):Int:=k.wrap (a-b)
abbrev Qij (k:IntKind)(a b:Int):Int:=k.wrap (a*b)
abbrev G8 (k:IntKind)(a b:Int):Int:=k.wrap (a.tdiv b)
abbrev XC (a b:Int):Int:=a.tmod b
abbrev icv (k:IntKind)(a:Int):Int:=k.wrap a
abbrev imx (a b:Int):Int:=if b > a then b else a
abbrev ieq (a b:Int):Bool:=a==b
abbrev ine (a b:Int):Bool:=a != b
abbrev ilt (a b:Int):Bool:=decide (a<b)
abbrev ile (a b:Int):Bool:=decide (a<=b)
abbrev igt (a b:Int):Bool:=decide (a > b)
abbrev ige (a b:Int):Bool:=decide (a≥b)
abbrev seq (a b:ByteArray):Bool:=a.toList==b.toList
abbrev sne (a b:ByteArray):Bool:= !(a.toList==b.toList)
abbrev beqq (a b:Bool):Bool:=a==b
abbrev En (a b:Bool):Bool:= !(a==b)
abbrev cNz (b:Int):Bool:=decide (b≠0)
abbrev cIx {α:Type}(l:List α)(j:Int):Bool:=decide (0<=j/\j<(l.length:Nat))
abbrev cSx (z:ByteArray)(j:Int):Bool:=decide (0<=j/\j<(z.size:Nat))
abbrev cSl {α:Type}(l:List α)(a h m:Int):Bool:=decide (0<=a/\a<=h/\h<=m/\m<=(l.length:Nat))
abbrev Qx {α:Type}(l l2:List α)(bytes:Nat):Bool:=decide ((l.length+l2.length)*(bytes+1)<=140737488355328)
abbrev cLd {α:Type}(l:List α)(i:Nat):Bool:=decide (i<l.length)
abbrev lgt (y:Ty)(l:List y.T)(j:Nat):y.T:=l.getD j y.zero
abbrev lsl {α:Type}(l:List α)(a h:Int):List α:=(l.drop a.toNat).take (h.toNat-a.toNat)
abbrev Qc {α:Type}(l:List α):Int:=((l.length:Nat):Int)
abbrev ZZ (z:ByteArray):Int:=((z.size:Nat):Int)
abbrev sgt (z:ByteArray)(j:Int):Int:=(((z.data.toList.getD j.toNat 0).toNat:Nat):Int)
abbrev scat (a b:ByteArray):ByteArray:=a++b
abbrev Us (bs:List Ty):Type:=SVt (bs.map SV.ty)
def Qb4 (b:Ty)(c:V):Option b.T:=if b.row=true then c.as b else (SV.ty b).rd c
def Y3:(bs:List Ty)->List VO->Option (Us bs)
 | [],[]=>some ()
 |b::bs,.box c::os=>match Qb4 b c,Y3 bs os with
  |some x,some y=>some (x,y)
  |_,_=>none
 |_,_=>none
def Wz:(bs:List Ty)->Us bs->List VO
 | [],_=>[]
 |b::bs,x=> .box (.t b x.1)::Wz bs x.2
def WA (l:List SV)(bs:List Ty)(ok:SVt l->Us bs->Bool)(F:SVt l->Us bs->V):Ent:=fun args objs=>
 match G6 l args,Y3 bs objs with
 |some x,some d=>some (ok x d,F x d,Wz bs d)
 |_,_=>none
section
variable {P:Program}{X:Nat->Nat->Prop}{w:World}{σ:Pl}
theorem QCT {b:Ty}{c:V}{d:b.T}{k:Nat}(h:Qb4 b c=some d)(hat:OAt X w σ k (.box c)):OAt X w σ k (.box (.t b d)):=by
 unfold Qb4 at h
 split at h
 ·rename_i hb
  exact Qeo hb h hat
 ·have:=SV.rd_mk h
  rw [this] at hat
  exact hat
theorem Qik: ∀ {bs:List Ty} {os:List VO} {d:Us bs},Y3 bs os=some d->(Wz bs d).length=os.length∧ ∀ (j k:Nat) (o:VO),(Wz bs d)[j]? = some o->o≠ .no∧ ∃ o',os[j]? = some o'/\(OAt X w σ k o'->OAt X w σ k o)
 | [],[],d,_=>⟨rfl,fun j k o h=>by simp [Wz] at h⟩
 | [],_::_,d,h=>by simp [Y3] at h
 |_::_,[],d,h=>by simp [Y3] at h
 |b::bs,o::os,d,h=>by
  cases o with
  |box c=>
   simp only [Y3] at h
   split at h
   ·rename_i x y hx hy
    simp only [Bc] at h
    subst h
    obtain ⟨h1,h2⟩:=Qik hy
    refine ⟨by simp only [Wz,Bq,h1],fun j k o hj=> ?_⟩
    cases j with
    |zero=>
     simp only [Wz,BR,Bc] at hj
     subst hj
     exact ⟨by simp,_,rfl,QCT hx⟩
    |succ j=>
     simp only [Wz,BV] at hj
     obtain ⟨q1,o',q2,q3⟩:=h2 j k o hj
     exact ⟨q1,o',by simpa using q2,q3⟩
   ·cases h
  |no=>simp [Y3] at h
  |arr e t l=>simp [Y3] at h
theorem Gj {f:FuncId}{R:Fun}{l:List SV}{bs:List Ty}{ok:SVt l->Us bs->Bool}{F:SVt l->Us bs->V}(hM:Qp P f R)(h: ∀ x d,ok x d=true->R (G5 l x) (Wz bs d)=some (F x d,Wz bs d)):Qp P f (Qq (WA l bs ok F)):=by
 intro args objs r os hF X w σ vs hfin hl hc
 unfold Qq WA at hF
 split at hF
 ·rename_i r' os' hq
  split at hq
  ·rename_i x d hx hd
   simp only [Bc,Bo] at hF hq
   obtain ⟨rfl,rfl⟩:=hF
   obtain ⟨h1,rfl,rfl⟩:=hq
   have ha:=OD hx
   subst ha
   have hb:=fun j k o=>(Qik (X:=X) (w:=w) (σ:=σ) hd).2 j k o
   have hlen:=(Qik (X:=X) (w:=w) (σ:=σ) hd).1
   have:=hM _ _ _ _ (h x d h1) X w σ vs hfin ⟨fun j o hj=>by
    obtain ⟨q1,o',q2,q3⟩:=hb j (50000+j) o hj
    exact ⟨q3 (hl.at_ j o' q2).1,q1⟩,fun i j b hij hi hj=>hl.apart i j b hij (by omega) (by omega)⟩ hc
   rw [hlen] at this
   exact this
  ·cases hq
 ·cases hF
end
def oK (d:Nat)(k:RK):RO:=⟨some d,none,k⟩
def oM (d:Nat)(m:MO):RO:=⟨some d,none,.m m⟩
def oP (d:Nat)(a:AO):RO:=⟨some d,none,.m (.pu a)⟩
def oV (d i:Nat):RO:=⟨some d,none,.m (.pu (.mv (.t i)))⟩
def oL (d i:Nat):RO:=⟨some d,none,.m (.ld false 1 (.t i))⟩
def oC (d f:Nat)(l:List AX):RO:=⟨some d,none,.call f l⟩
def oG (d j:Nat)(b:Bool)(k:RK):RO:=⟨some d,some (j,b),k⟩
def oQ (d j:Nat)(b:Bool)(a:AO):RO:=⟨some d,some (j,b),.m (.pu a)⟩
def cI (n:Int):AX:= .c (.v (.int .i64 n))
def cB (b:Bool):AX:= .c (.v (.bool b))
end Go.Proofs.YthlcobdnemhcdaaGreat.K
/-
 From a contract of calls to what is said in types,and from there to a law's row.
-/
namespace Go.Proofs.YthlcobdnemhcdaaGreat.K
open Go.RowKit
section
variable {P:Program}{X:Nat->Nat->Prop}{w:World}{σ:Pl}
theorem Qrs {w w':World}(h:Below w.heap.size w w'):Fr [] w w':=⟨h.os,h.tape,h.output,h.size,fun b hb _=>h.block b hb⟩
theorem Qb5 {w w':World}{m:Nat}(hm:m=0)(hfin: ∀ b q,X b q->b<w.heap.size)(h:Below w.heap.size w w'):Ends X w σ m X w' σ []:=by
 subst hm
 exact ⟨fun b q hq=>BZ (hfin b q hq) h.size,fun j o hj=>by simp at hj,fun i j b _ hi=>by simp at hi,by simp,fun _ _=>rfl,fun j b _ hj=>by simp at hj,Qrs h,fun _ _ _ h=>h,fun _ _ _ _ h=>h⟩
theorem Qil {f:FuncId}{a:Ty}{ok:a.T->Bool}{F:a.T->V}(h: ∀ x,ok x=true→ ∀ X w σ vs,(∀ b q,X b q->b<w.heap.size)->Cs X w σ (V.ds (a.canon x)) vs→
  Calls P f vs.toArray w fun e w'=> ∃ u,e= .returned u/\C X w' σ (F x).d u/\Below w.heap.size w w') (hlt:f<1000000:=by decide):Qp P f (Qq (Qo a ok F)):=by
 intro args objs r os hF X w σ vs hfin hl hc
 unfold Qq Qo at hF
 cases objs with
 |cons o os'=>simp at hF
 |nil=>
  simp only at hF
  cases ha:a.args args with
  |none=>rw [ha] at hF;cases hF
  |some x=>
   rw [ha] at hF
   simp only at hF
   split at hF
   ·rename_i r' os' hq
    simp only [Bc,Bo] at hF hq
    obtain ⟨rfl,rfl⟩:=hF
    obtain ⟨h1,rfl,rfl⟩:=hq
    refine (VT hlt (h x h1 X w σ vs hfin (Ur ha hc))).mono ?_
    rintro e w' ⟨u,e1,e2,e3⟩
    exact ⟨u,X,σ,e1,e2,Qb5 rfl hfin e3⟩
   ·cases hF
theorem Qrt {f:FuncId}{F:Fun}(hlt:f<1000000)(h:Qp P f F){args:List V}(hF:F args []=some (.t .bool true,[])){W:World}{vs:List Value}(hc:Cs (fun _ _=>False) W (fun _=> .no) (V.ds args) vs):
  Calls P f vs.toArray W fun r w'=>r= .returned (.bool true)/\Below W.heap.size W w':=by
 refine (WX hlt (h args [] _ _ hF (fun _ _=>False) W (fun _=> .no) vs (fun _ _ h=>h.elim) ⟨fun j o hj=>by simp at hj,fun i j b _ hi=>by simp at hi⟩ hc)).mono ?_
 rintro e w' ⟨u,X',σ',rfl,h1,h2⟩
 simp only [V.d,Ty.d,C] at h1
 rw [h1.1]
 exact ⟨rfl,h2.fr.os,h2.fr.tape,h2.fr.output,h2.fr.size,fun b hb=>h2.fr.keep b hb (by simp [Y8])⟩
theorem Qru {k:IntKind}: ∀ (zs:List Int),Cs X w σ (zs.flatMap (Ty.int k).cells) (zs.map (Value.int k))
 | []=>by simp [Cs]
 |z::zs=>by
  simp only [BO,Ty.cells,BM,BI,Cs]
  exact ⟨_,_,rfl,⟨rfl,rfl⟩,Qru zs⟩
theorem introw_c {k:IntKind}{W:World}{a:Option Addr}{len cap:Nat}{zs:List Int}(hr:IsRow k W a len cap zs):C (fun _ _=>False) W σ (V.t (.sl (.int k)) (zs.take len)).d (.slice a len cap):=by
 rcases hr with ⟨rfl,rfl,rfl,rfl⟩|⟨x,rfl,h1,h2,h3,h4,h5⟩
 ·simp only [V.d,Ty.d,C,List.take_nil,BG]
  exact ⟨none,0,rfl,Bw _,by simp [maxLen],fun _=>rfl,fun h=>absurd h (by omega)⟩
 ·have hlen:(zs.take len).length=len:=by rw [B6];omega
  simp only [V.d,Ty.d,C,hlen]
  refine ⟨some x,cap,rfl,h1,h2,fun h=>by subst h;simp,fun h=> ?_⟩
  obtain ⟨b,off,sp⟩:=x
  have h0:=h4 0 (by omega)
  have hsp:sp=none:=by
   simp only [World.cell?, Addr.add] at h0
   cases sp with
   |none=>rfl
   |some s=>split at h0<;>simp at h0
  subst hsp
  refine ⟨b,off,_,rfl,Qru _, ?_,fun j _ h=>h,fun j u hu=> ?_,fun u hu=> ?_⟩
  ·rcases Dc b W.heap.size with hlt|hge
   ·exact hlt
   ·simp [World.cell?, Addr.add,Array.getElem?_eq_none hge] at h0
  ·rw [Dp] at hu
   have hj:j<len:=by
    rcases Dc j len with hlt|hge
    ·exact hlt
    ·rw [DH (by omega)] at hu;cases hu
   have:=h4 j (by omega)
   rw [DX hj,Bj (by omega)] at hu
   rw [Bm,Bj (by omega)] at this
   simp only [B7,Bc] at hu
   subst hu
   have ha:(Addr.mk b off none).add j=⟨b,off+j,none⟩:=by by_cases h0:j=0<;>simp [Addr.add,h0]
   rw [ha] at this
   simpa using this
  ·simp only [Dd] at hu
   obtain ⟨z,_,rfl⟩:=hu
   rfl
theorem Qb6 {a:Ty}{ok:a.T->Bool}{F:a.T->V}{args:List V}{x:a.T}(h:a.args args=some x)(hok:ok x=true):Qq (Qo a ok F) args []=some (F x,[]):=by
 simp [Qq,Qo,h,hok]
theorem wf_u8 {n:Int}(h:(Lit.int .u8 n).wf=true):0<=n/\n<=255:=by
 simp [Lit.wf,IntKind.min,IntKind.max,IntKind.bits,IntKind.signed] at h
 omega
end
end Go.Proofs.YthlcobdnemhcdaaGreat.K
/-
 What is handed to a law,whatever its types of plain data:the datum that is read is a typed value.
-/
namespace Go.Proofs.YthlcobdnemhcdaaGreat.K
open Go.RowKit Go.ChangeShapes Go.WideShapes Go.Deep
def Ty.wf:(y:Ty)->y.T->Prop
 |.int k,n=>(Lit.int k n).wf=true
 |.bool,_=>True
 |.str,s=>s.size<=maxLen
 |.sl e,l=>List.length l<=maxLen∧ ∀ x∈l,e.wf x
 |.nil,_=>True
 |.pr f r,x=>f.wf x.1/\r.wf x.2
 |.rv,_=>True
 |.rb,_=>True
def Eo (P:Program)(T:TypeId->Ty->Bool):List Field->Nat->Ty->Bool
 | [],_,.nil=>true
 |f::r,o,.pr a b=>decide (f.offset=o)&&decide (P.cellsOf f.type=a.sz)&&T f.type a&&Eo P T r (o+a.sz) b
 |_,_,_=>false
def WB (P:Program):Nat->TypeId->Ty->Bool
 |0,_,_=>false
 |n+1,t,y=>match P.underlying t with
  |some (.int k)=>decide (y= .int k)
  |some .bool=>decide (y= .bool)
  |some .string=>decide (y= .str)
  |some (.slice e)=>match y with
   |.sl z=>WB P n e z&&decide (P.cellsOf e=z.sz)&&decide (0<z.sz)
   |_=>false
  |some (.struct fs)=>y.row&&decide (P.cellsOf t=y.sz)&&Eo P (WB P n) fs.toList 0 y
  |_=>false
abbrev noX:Nat->Nat->Prop:=fun _ _=>False
section
variable {H:Type}{enc:TypeId×Value->H}{P:Program}{w:World}{base:Nat}{sp:Nat->Bool}{held:Bool}{σ:Pl}
theorem Qim {X:Nat->Nat->Prop}: ∀ (y:Ty) (x:y.T) (vs:List Value),Cs X w σ (y.cells x) vs->vs.length=y.sz∧ ∀ v∈vs,v.oneCell'=true
 |.int k,n,vs,h=>by
  simp only [Ty.cells,Cs] at h
  obtain ⟨u,us,rfl,h1,rfl⟩:=h
  simp only [C] at h1
  exact ⟨rfl,fun v hv=>by simp at hv;subst hv;rw [h1.1];exact h1.2⟩
 |.bool,n,vs,h=>by
  simp only [Ty.cells,Cs] at h
  obtain ⟨u,us,rfl,h1,rfl⟩:=h
  simp only [C] at h1
  exact ⟨rfl,fun v hv=>by simp at hv;subst hv;rw [h1.1];exact h1.2⟩
 |.str,n,vs,h=>by
  simp only [Ty.cells,Cs] at h
  obtain ⟨u,us,rfl,h1,rfl⟩:=h
  simp only [C] at h1
  exact ⟨rfl,fun v hv=>by simp at hv;subst hv;rw [h1.1];exact h1.2⟩
 |.sl e,l,vs,h=>by
  simp only [Ty.cells,Cs] at h
  obtain ⟨u,us,rfl,h1,rfl⟩:=h
  simp only [C] at h1
  obtain ⟨A,c,rfl,_⟩:=h1
  exact ⟨rfl,fun v hv=>by simp at hv;subst hv;rfl⟩
 |.rv,l,vs,h=>by
  simp only [Ty.cells,Cs] at h
  obtain ⟨u,us,rfl,h1,rfl⟩:=h
  simp only [C] at h1
  obtain ⟨A,c,rfl,_⟩:=h1
  exact ⟨rfl,fun v hv=>by simp at hv;subst hv;rfl⟩
 |.rb,l,vs,h=>by
  simp only [Ty.cells,Cs] at h
  obtain ⟨u,us,rfl,h1,rfl⟩:=h
  simp only [C] at h1
  obtain ⟨A,c,rfl,_⟩:=h1
  exact ⟨rfl,fun v hv=>by simp at hv;subst hv;rfl⟩
 |.nil,_,vs,h=>by
  simp only [Ty.cells,Cs] at h
  subst h
  exact ⟨rfl,fun v hv=>by cases hv⟩
 |.pr f r,x,vs,h=>by
  simp only [Ty.cells] at h
  obtain ⟨v1,v2,rfl,h1,h2⟩:=Cs.split h
  obtain ⟨a1,a2⟩:=Qim f x.1 v1 h1
  obtain ⟨b1,b2⟩:=Qim r x.2 v2 h2
  refine ⟨by simp only [Bl,Ty.sz,a1,b1],fun v hv=> ?_⟩
  rcases Bv.1 hv with hv|hv
  ·exact a2 v hv
  ·exact b2 v hv
theorem Qrv {X:Nat->Nat->Prop}{z:Ty}: ∀ (l:List z.T) (vs:List Value),Cs X w σ (l.flatMap z.cells) vs→ ∀ v∈vs,v.oneCell'=true
 | [],vs,h=>by
  simp only [List.flatMap_nil,Cs] at h
  subst h
  intro v hv
  cases hv
 |x::l,vs,h=>by
  rw [BO] at h
  obtain ⟨v1,v2,rfl,h1,h2⟩:=Cs.split h
  intro v hv
  rcases Bv.1 hv with hv|hv
  ·exact (Qim z x v1 h1).2 v hv
  ·exact Qrv l v2 h2 v hv
theorem Qrw {T:TypeId->Ty->Bool}{n:Nat}{cs:List Value}(hT: ∀ t y cs x,T t y=true->DataW.trod enc P w base sp held n t cs=some x→ ∃ z:y.T,Cs noX w σ (y.cells z) cs/\y.wf z):
  ∀ (fs:List Field) (o:Nat) (y:Ty),Eo P T fs o y=true->(∀ (i:Nat) (f:Field),fs[i]? = some f→ ∃ x,DataW.trod enc P w base sp held n f.type ((cs.drop f.offset).take (P.cellsOf f.type))=some x)->o+y.sz=cs.length→
   ∃ z:y.T,Cs noX w σ (y.cells z) (cs.drop o)/\y.wf z
 | [],o,y,h,_,hl=>by
  cases y<;>simp only [Eo,BE] at h
  refine ⟨(), ?_,trivial⟩
  simp only [Ty.sz] at hl
  rw [Dq (by omega)]
  simp only [Ty.cells,Cs]
 |f::r,o,y,h,hf,hl=>by
  cases y with
  |pr a b=>
   simp only [Eo,Bb,Ba] at h
   obtain ⟨⟨⟨h1,h2⟩,h3⟩,h4⟩:=h
   obtain ⟨x,hx⟩:=hf 0 f rfl
   rw [h1,h2] at hx
   obtain ⟨z1,c1,w1⟩:=hT _ _ _ _ h3 hx
   simp only [Ty.sz] at hl
   obtain ⟨z2,c2,w2⟩:=Qrw hT r (o+a.sz) b h4 (fun i f' hi=>hf (i+1) f' (by simpa using hi)) (by omega)
   refine ⟨(z1,z2), ?_,w1,w2⟩
   have:=c1.app c2
   rw [←List.drop_drop,List.take_append_drop] at this
   exact this
  |_=>simp only [Eo,BE] at h
theorem Qrx {z:Ty}{a:Addr}: ∀ (len:Nat),(∀ i,i<len→ ∃ cs',w.cells? base (a.add (i*z.sz)) z.sz=some cs'∧ ∃ z1:z.T,Cs noX w QT (z.cells z1) cs'/\z.wf z1)→
  ∃ (l:List z.T) (vs:List Value),l.length=len/\Cs noX w QT (l.flatMap z.cells) vs/\vs.length=len*z.sz/\(∀ j,j<len*z.sz->w.cell? (a.add j)=vs[j]?)∧ ∀ x∈l,z.wf x
 |0,_=>⟨[],[],rfl,by simp [Cs],by simp,fun j hj=>by omega,fun x hx=>by cases hx⟩
 |k+1,h=>by
  obtain ⟨l,vs,h1,h2,h3,h4,h5⟩:=Qrx k fun i hi=>h i (by omega)
  obtain ⟨cs',hc,z1,c1,w1⟩:=h k (by omega)
  obtain ⟨_,hl,hat⟩:=World.cells?_some hc
  have e:(k+1)*z.sz=k*z.sz+z.sz:=Nat.succ_mul k z.sz
  refine ⟨l++[z1],vs++cs',by simp [h1], ?_,by rw [Bl,h3,hl,e],fun j hj=> ?_,fun x hx=> ?_⟩
  ·rw [DY]
   exact h2.app (by simpa using c1)
  ·by_cases hj2:j<k*z.sz
   ·rw [Dg (by omega)]
    exact h4 j hj2
   ·obtain ⟨i,rfl⟩: ∃ i,j=k*z.sz+i:=⟨j-k*z.sz,by omega⟩
    rw [Dn (by omega),h3,Nat.add_sub_cancel_left, ← hat i (by omega),Go.Deep.add_add]
  ·rcases Bv.1 hx with hx|hx
   ·exact h5 x hx
   ·simp at hx
    subst hx
    exact w1
theorem Qin: ∀ (n:Nat) (t:TypeId) (y:Ty) (Jh:Nat) (cs:List Value) (x:DataW H×List MemPlace) (σ:Pl),WB P n t y=true->DataW.trod enc P w base sp held Jh t cs=some x→
  ∃ z:y.T,Cs noX w σ (y.cells z) cs/\y.wf z
 |0,t,y,_,_,_,_,h,_=>by simp [WB] at h
 |n+1,t,y,Jh,cs,x,σ,h,hx=>by
  simp only [WB] at h
  cases hu:P.underlying t with
  |none=>rw [hu] at h;cases h
  |some d=>
   rw [hu] at h
   cases d<;>simp only [BE] at h
   case int k=>
    simp only [Ba] at h
    subst h
    obtain ⟨m,rfl,_,hw⟩:=DataW.trod_int hu hx
    exact ⟨m,by simp only [Ty.cells];exact Cs.mk1 (show _/\_ from ⟨rfl,rfl⟩),hw⟩
   case bool=>
    simp only [Ba] at h
    subst h
    obtain ⟨m,rfl,_⟩:=DataW.trod_bool hu hx
    exact ⟨m,by simp only [Ty.cells];exact Cs.mk1 (show _/\_ from ⟨rfl,rfl⟩),trivial⟩
   case string=>
    simp only [Ba] at h
    subst h
    obtain ⟨m,rfl,_,hw⟩:=DataW.trod_string hu hx
    exact ⟨m,by simp only [Ty.cells];exact Cs.mk1 (show _/\_ from ⟨rfl,rfl⟩),hw⟩
   case slice e=>
    cases y<;>simp only [BE] at h
    case sl z=>
     simp only [Bb,Ba] at h
     obtain ⟨⟨h1,h2⟩,h3⟩:=h
     rcases open_slice hu hx with ⟨rfl,_⟩|⟨a,len,cap,m,f2,D,Pl,rfl,_,hl,hm,hmm,_,hi⟩
     ·refine ⟨[], ?_,by simp [maxLen],fun x hx=>by cases hx⟩
      simp only [Ty.cells]
      refine Cs.mk1 ?_
      simp only [C,BG]
      exact ⟨none,0,rfl,Bw _,by simp [maxLen],fun _=>rfl,fun h=>absurd h (by omega)⟩
     ·have hle:len<=m:=by rw [hmm];split<;>omega
      obtain ⟨l,vs,q1,q2,q3,q4,q5⟩:=Qrx (w:=w) (base:=base) (z:=z) (a:=a) len fun i hil=>by
       obtain ⟨cs',g1,g2⟩:=hi i (by omega)
       rw [h2] at g1
       exact ⟨cs',g1,Qin n e z f2 cs' _ QT h1 g2⟩
      refine ⟨l, ?_,⟨by omega,q5⟩⟩
      simp only [Ty.cells]
      refine Cs.mk1 ?_
      simp only [C]
      refine ⟨some a,cap,by rw [q1],by omega,hm,fun h0=>by have:l=[]:=Bt h0;subst this;rfl,fun hp=> ?_⟩
      rw [q1] at hp
      obtain ⟨v0,hv0⟩: ∃ v,vs[0]? = some v:=by
       have:0<vs.length:=by rw [q3];exact Nat.mul_pos hp h3
       exact ⟨_,Bj this⟩
      have h0:=q4 0 (Nat.mul_pos hp h3)
      rw [hv0] at h0
      obtain ⟨b,off,spot⟩:=a
      have hsp:spot=none:=by
       simp only [World.cell?, Addr.add] at h0
       cases spot with
       |none=>rfl
       |some s=>split at h0<;>simp at h0
      subst hsp
      refine ⟨b,off,vs,rfl,q2, ?_,fun j _ h=>h,fun j u hu'=> ?_,fun u hu'=> ?_⟩
      ·rcases Dc b w.heap.size with hlt|hge
       ·exact hlt
       ·simp [World.cell?, Addr.add,Array.getElem?_eq_none hge] at h0
      ·have hj:j<len*z.sz:=by rw [←q3];exact (BD.1 hu').1
       have:=q4 j hj
       have ha:(Addr.mk b off none).add j=⟨b,off+j,none⟩:=by by_cases h0:j=0<;>simp [Addr.add,h0]
       rw [ha,hu'] at this
       exact this
      ·exact (Qrv l vs q2) u hu'
   case struct fs=>
    simp only [Bb,Ba] at h
    obtain ⟨⟨_,h2⟩,h3⟩:=h
    obtain ⟨xs,m,_,_,hlen,hxl,hf⟩:=DataW.trod_struct hu hx
    have:=Qrw (n:=m) (cs:=cs) (σ:=σ) (fun t y cs x=>Qin n t y m cs x σ) fs.toList 0 y h3 (fun i f hi=>by
     have hi':fs[i]? = some f:=by simpa using hi
     have hlt:=(BQ.1 hi').1
     exact ⟨xs[i]'(by omega),(hf i f hi').trans (Bj _)⟩) (by omega)
    simpa using this
theorem Qio {n:Nat}{t:TypeId}{y:Ty}{v:Value}{r:Reach}{b0:Nat}{d:DataW H}{ps:List MemPlace}(h:WB P (n+1) t y=true)(hval:Value.okWide P w r b0 t v)(hd:DataW.Trod enc P w base sp held t v d ps):
  ∃ z:y.T,C noX w σ (V.t y z).d v/\y.wf z:=by
 have h':=h
 obtain ⟨Jh,hf⟩:=hd
 obtain ⟨z,hz,hw⟩:=Qin (n+1) t y Jh _ _ σ h hf
 refine ⟨z, ?_,hw⟩
 simp only [WB] at h
 simp only [V.d]
 cases hu:P.underlying t with
 |none=>rw [hu] at h;cases h
 |some dsc=>
  rw [hu] at h
  cases dsc<;>simp only [BE] at h
  case int k=>
   simp only [Ba] at h
   subst h
   obtain ⟨m,rfl,_⟩:=open_int hu hval ⟨Jh,hf⟩
   simp only [Ty.cells,Value.cells] at hz
   obtain ⟨u,e,hc⟩:=hz.one
   simp at e
   subst e
   exact hc
  case bool=>
   simp only [Ba] at h
   subst h
   obtain ⟨m,rfl,_⟩:=open_bool hu hval ⟨Jh,hf⟩
   simp only [Ty.cells,Value.cells] at hz
   obtain ⟨u,e,hc⟩:=hz.one
   simp at e
   subst e
   exact hc
  case string=>
   simp only [Ba] at h
   subst h
   obtain ⟨m,rfl,_⟩:=Go.ChangeMaps.open_string hu hval ⟨Jh,hf⟩
   simp only [Ty.cells,Value.cells] at hz
   obtain ⟨u,e,hc⟩:=hz.one
   simp at e
   subst e
   exact hc
  case slice e=>
   cases y<;>simp only [BE] at h
   case sl z'=>
    obtain ⟨a,len,cap,rfl⟩:=okWide_slice hu hval
    simp only [Ty.cells,Value.cells] at hz
    obtain ⟨u,e,hc⟩:=hz.one
    simp at e
    subst e
    exact hc
  case struct fs=>
   simp only [Bb] at h
   obtain ⟨cs,rfl,_⟩:=okWide_struct hu hval
   rw [y.d_row z h.1.1]
   simp only [C]
   exact ⟨cs.toList,by simp,by simpa [Value.cells] using hz⟩
end
end Go.Proofs.YthlcobdnemhcdaaGreat.K
/-
 Operations that are taken like calls:what they make.
-/
namespace Go.Proofs.YthlcobdnemhcdaaGreat.K
open Go.RowKit
def tyR (y:Ty):Nat->Ty
 |0=> .nil
 |n+1=> .pr y (tyR y n)
def Ep (y:Ty):(n:Nat)->(tyR y n).T->Nat->y.T
 |0,_,_=>y.zero
 |n+1,x,0=>(show y.T×(tyR y n).T from x).1
 |n+1,x,j+1=>Ep y n (show y.T×(tyR y n).T from x).2 j
theorem QCU (y:Ty)(n:Nat):(tyR y n).row=true:=by cases n<;>rfl
theorem Qry (y:Ty): ∀ (n:Nat) (x:(tyR y n).T) (j:Nat),j<n->(((tyR y n).cells x).drop (j*y.sz)).take y.sz=y.cells (Ep y n x j)/\j*y.sz+y.sz<=((tyR y n).cells x).length
 |0,_,j,h=>by omega
 |n+1,x,0,_=>by
  have e:(tyR y (n+1)).cells x=y.cells (show y.T×(tyR y n).T from x).1++(tyR y n).cells (show y.T×(tyR y n).T from x).2:=rfl
  have hl:=y.cells_len (show y.T×(tyR y n).T from x).1
  rw [e,DR,BF,List.take_left' hl]
  exact ⟨rfl,by rw [Bl];omega⟩
 |n+1,x,j+1,h=>by
  have e:(tyR y (n+1)).cells x=y.cells (show y.T×(tyR y n).T from x).1++(tyR y n).cells (show y.T×(tyR y n).T from x).2:=rfl
  have hl:=y.cells_len (show y.T×(tyR y n).T from x).1
  obtain ⟨h1,h2⟩:=Qry y n (show y.T×(tyR y n).T from x).2 j (by omega)
  have e2:(j+1)*y.sz=y.sz+j*y.sz:=by rw [Nat.succ_mul,Nat.add_comm]
  rw [e,e2]
  refine ⟨?_,by rw [Bl];omega⟩
  rw [←List.drop_drop,List.drop_left' hl]
  exact h1
section
variable {P:Program}
theorem QCV {f:FuncId}{a:Ty}{ok:a.T->Bool}{F:a.T->V}{g:List Value->Sem Value}(hg:Yo f=some g)
  (h: ∀ x,ok x=true→ ∀ (X:Nat->Nat->Prop) (w:World) (σ:Pl) vs,Cs X w σ (V.ds (a.canon x)) vs→ ∃ u,(g vs).run P w= .ok u w/\C X w σ (F x).d u):Qp P f (Qq (Qo a ok F)):=by
 intro args objs r os hF X w σ vs hfin hl hc
 unfold Qq Qo at hF
 cases objs with
 |cons o os'=>simp at hF
 |nil=>
  simp only at hF
  cases ha:a.args args with
  |none=>rw [ha] at hF;cases hF
  |some x=>
   rw [ha] at hF
   simp only at hF
   split at hF
   ·rename_i r' os' hq
    simp only [Bc,Bo] at hF hq
    obtain ⟨rfl,rfl⟩:=hF
    obtain ⟨h1,rfl,rfl⟩:=hq
    obtain ⟨u,e1,e2⟩:=h x h1 X w σ vs (Ur ha hc)
    unfold Does
    rw [hg]
    exact ⟨u,w,e1,u,X,σ,rfl,e2,Qb5 rfl hfin (Below.refl _ _)⟩
   ·cases hF
theorem QCW {t e n:Nat}{k:IntKind}{y:Ty}{d:TypeDesc}{inf:TypeInfo}(ht:P.underlying t=some (.array n e))(he:P.underlying e=some d)(hr:isRow d=y.row)(hi:P.info? e=some inf)(hsz:inf.size=y.sz)
  (arr:(tyR y n).T) (i:Int) (hok:0<=i/\i<(n:Int)) (X:Nat->Nat->Prop) (w:World) (σ:Pl) (vs:List Value) (hc:Cs X w σ (V.ds [.t (tyR y n) arr,.t (.int k) i]) vs):
  ∃ u,(match vs with|[x,y]=>Instr.index t x y|_=>stuck "operands").run P w= .ok u w/\C X w σ (V.t y (Ep y n arr i.toNat)).d u:=by
  simp only [Ty.canon,V.ds,Cs] at hc
  obtain ⟨u,us,rfl,h1,u2,us2,rfl,h2,rfl⟩:=hc
  simp only [V.d] at h1
  rw [Ty.d_row _ _ (QCU y n)] at h1
  simp only [C] at h1
  obtain ⟨cs,rfl,hcs⟩:=h1
  simp only [V.d,Ty.d,C] at h2
  rw [h2.1]
  obtain ⟨q1,q2⟩:=Qry y n arr i.toNat (by omega)
  have hlen:=hcs.len
  have hcs2:=(hcs.drop_ (i.toNat*y.sz)).take_ y.sz
  rw [q1] at hcs2
  cases hrow:y.row with
  |true=>
   refine ⟨.agg ((cs.drop (i.toNat*y.sz)).take y.sz).toArray, ?_, ?_⟩
   ·rw [hrow] at hr
    simp [Instr.index,asIntOf,run_underlying ht,hok.1,hok.2,sizeOf,typeInfo,hi,hsz,part,GD he,hr,List.take_drop]
   ·simp only [V.d]
    rw [Ty.d_row _ _ hrow]
    simp only [C]
    exact ⟨_,rfl,hcs2⟩
  |false=>
   have hd:=y.d_one (Ep y n arr i.toNat) hrow
   have h1:y.sz=1:=by have:=y.cells_len (Ep y n arr i.toNat);rw [hd] at this;exact this.symm
   rw [hd] at hcs2
   obtain ⟨v,hv,hcv⟩:=hcs2.one
   have hv0:cs[i.toNat*y.sz]? = some v:=by
    have:((cs.drop (i.toNat*y.sz)).take y.sz)[0]? = some v:=by rw [hv];rfl
    rw [DX (by omega),Df,DK] at this
    exact this
   refine ⟨v, ?_,hcv⟩
   rw [hrow] at hr
   simp [Instr.index,asIntOf,run_underlying ht,hok.1,hok.2,sizeOf,typeInfo,hi,hsz,part,GD he,hr,hv0]
def Er (y:Ty)(n:Nat)(x:(tyR y n).T)(i:Int):y.T:=Ep y n x i.toNat
def Ut (y:Ty)(n:Nat)(_x:(tyR y n).T)(i:Int):Bool:=decide ((0:Int)<=i/\i<(n:Int))
theorem Qrz {t e n:Nat}{k:IntKind}{y:Ty}(ht:P.underlying t=some (.array n e))(hr:(P.underlying e).map isRow=some y.row)(hi:(P.info? e).map TypeInfo.size=some y.sz)(hlt:t<10000):
  Qp P (Jj 2 t 0) (Qq (Qo (.pr (tyR y n) (.pr (.int k) .nil)) (fun x=>Ut y n x.1 x.2.1) (fun x=> .t y (Er y n x.1 x.2.1)))):=by
 obtain ⟨d,he,hr⟩:=Bf.1 hr
 obtain ⟨inf,hi,hsz⟩:=Bf.1 hi
 exact QCV (QwP hlt) fun x hok X w σ vs hc=>QCW ht he hr hi hsz x.1 x.2.1 (BJ hok) X w σ vs hc
theorem QrA {X:Nat->Nat->Prop}{w:World}{σ:Pl}: ∀ (l:List UInt8),Cs X w σ (List.flatMap (Ty.int .u8).cells (l.map fun b=>(b.toNat:Int))) (l.map fun b=>Value.int .u8 (b.toNat:Int))
 | []=>by simp [Cs]
 |b::l=>by
  simp only [BI,BO,Ty.cells,BM,Cs,C]
  exact ⟨_,_,rfl,⟨rfl,rfl⟩,QrA l⟩
def Xe (s:ByteArray):Bool:=decide (s.size<=9223372036854775807)
theorem QCX {a b e:Nat}(ha:P.underlying a=some .string)(hb:P.underlying b=some (.slice e))(he:P.underlying e=some (.int .u8))(hlt:a<10000):
  Qp P (Jj 0 a b) (Qq (Qo (.pr .str .nil) (fun x=>Xe x.1) (fun x=> .t (.sl (.int .u8)) (Q3 x.1)))):=by
 intro args objs r os hF X w σ vs hfin hl hc
 unfold Qq Qo at hF
 cases objs with
 |cons o os'=>simp at hF
 |nil=>
  simp only at hF
  cases ha':(Ty.pr .str .nil).args args with
  |none=>rw [ha'] at hF;cases hF
  |some x=>
   rw [ha'] at hF
   simp only at hF
   split at hF
   ·rename_i r' os' hq
    simp only [Bc,Bo] at hF hq
    obtain ⟨rfl,rfl⟩:=hF
    obtain ⟨h1,rfl,rfl⟩:=hq
    have hc2:=Ur ha' hc
    obtain ⟨s,u0⟩:=x
    have h1:s.size<=9223372036854775807:=BJ h1
    simp only [Ty.canon,V.ds,V.d,Ty.d,Cs,C] at hc2
    obtain ⟨u,us,rfl,⟨rfl,_⟩,rfl⟩:=hc2
    have hr:=run_bytes_of_string (P:=P) w a b e s ha hb he
    have hge:=grownCap_ge w s.size 0 e
    have hle:=grownCap_le_maxLen w s.size 0 e (by simp [maxLen];omega)
    generalize grownCap w s.size 0 e=cap at hr hge hle
    have hbel:Below w.heap.size w (w.drew.alloc (.cells (bytesRow s cap) e ((bytesRow s cap).size,(bytesRow s cap).size+1))):=((Below.refl _ _).drew).alloc (Bw _) _
    have hblk:(w.drew.alloc (.cells (bytesRow s cap) e ((bytesRow s cap).size,(bytesRow s cap).size+1))).heap[w.heap.size]? = some (.cells (bytesRow s cap) e ((bytesRow s cap).size,(bytesRow s cap).size+1)):=heap_alloc_new _ _
    have hlen:(Q3 s).length=s.size:=by simp [Q3]
    unfold Does
    rw [QwO hlt]
    refine ⟨_,_,hr,_,X,σ,rfl, ?_,Qb5 rfl hfin hbel⟩
    simp only [V.d,Ty.d,C]
    refine ⟨some ⟨w.heap.size,0,none⟩,cap,by rw [hlen],by rw [hlen];exact hge,hle,fun h0=>by rw [Bt h0];rfl,fun _=>⟨w.heap.size,0,s.data.toList.map fun b=>Value.int .u8 (b.toNat:Int),rfl,QrA _, ?_,fun j _ hx=> ?_,fun j v hj=> ?_,fun v hv=> ?_⟩⟩
    ·exact (BQ.1 hblk).1
    ·exact absurd (hfin _ _ hx) (BX _)
    ·have hjl:=(BD.1 hj).1
     rw [BL] at hjl
     have:(bytesRow s cap)[j]? = some v:=by
      unfold bytesRow
      rw [Array.getElem?_append_left (by simpa using hjl)]
      rw [Dp] at hj
      simpa using hj
     simp only [World.cell?, hblk,DW]
     exact this
    ·simp only [Dd] at hv
     obtain ⟨b,_,rfl⟩:=hv
     rfl
   ·cases hF
end
end Go.Proofs.YthlcobdnemhcdaaGreat.K
/-
 Own slices that are handed to a function:it writes them,or uses them up.
-/
namespace Go.Proofs.YthlcobdnemhcdaaGreat.K
open Go.RowKit Go.Sort
@[reducible] def SOt:List SO->Type
 | []=>Unit
 |s::r=>s.T×SOt r
def Xg:(l:List SO)->SOt l->List VO
 | [],_=>[]
 |s::r,x=>s.mk x.1::Xg r x.2
def VO.wk (s:SO)(o:VO):VO:=
 match s,o with
 |.arr e _,.arr e' t l=>if e=e'+1000000/\e'<1000000 then .arr e t l else o
 |_,_=>o
def OG:(l:List SO)->List VO->Option (SOt l)
 | [],[]=>some ()
 |s::r,o::os=>match s.rd (o.wk s),OG r os with
  |some x,some y=>some (x,y)
  |_,_=>none
 |_,_=>none
theorem wk_at {X:Nat->Nat->Prop}{w:World}{σ:Pl}{k:Nat}{s:SO}{o:VO}(h:OAt X w σ k o)(hn:o≠ .no):OAt X w σ k (o.wk s)/\o.wk s≠ .no:=by
 unfold VO.wk
 split
 ·split
  ·rename_i hc
   obtain ⟨u,xs,h1,h2,h3⟩:=h
   exact ⟨⟨u,xs,h1,by rw [hc.1];exact h2.weak hc.2,h3⟩,by simp⟩
  ·exact ⟨h,hn⟩
 ·exact ⟨h,hn⟩
theorem Qip: ∀ {l:List SO} {os:List VO} {x:SOt l},OG l os=some x->(Xg l x).length=os.length∧ ∀ (j:Nat) o,(Xg l x)[j]? = some o→ ∃ s o',os[j]? = some o'/\o=o'.wk s
 | [],[],_,_=>⟨rfl,fun j o h=>by simp [Xg] at h⟩
 | [],_::_,_,h=>by cases h
 |_::_,[],_,h=>by cases h
 |s::r,v::vs,x,h=>by
  simp only [OG] at h
  split at h
  ·rename_i x1 y1 h1 h2
   simp only [Bc] at h
   subst h
   obtain ⟨q1,q2⟩:=Qip h2
   refine ⟨by simp only [Xg,Bq,q1],fun j o hj=> ?_⟩
   cases j with
   |zero=>
    simp only [Xg,BR,Bc] at hj
    exact ⟨s,v,rfl,by rw [←hj, ← SO.rd_mk h1]⟩
   |succ j=>
    simp only [Xg,BV] at hj ⊢
    exact q2 j o hj
  ·cases h
theorem QCY {X:Nat->Nat->Prop}{w:World}{σ:Pl}{l:List SO}{os:List VO}{x:SOt l}(h:OG l os=some x)(hl:Lent X w σ os):Lent X w σ (Xg l x):=by
 obtain ⟨h1,h2⟩:=Qip h
 refine ⟨fun j o hj=> ?_,fun i j b hij hi hj=>hl.apart i j b hij (by omega) (by omega)⟩
 obtain ⟨s,o',q1,rfl⟩:=h2 j o hj
 obtain ⟨a,b⟩:=hl.at_ j o' q1
 exact wk_at a b
def XD (l:List SV)(os:List SO)(ok:SVt l->SOt os->Bool)(F:SVt l->SOt os->V)(O:SVt l->SOt os->List VO):Ent:=fun args objs=>
 match G6 l args,OG os objs with
 |some x,some y=>some (ok x y,F x y,O x y)
 |_,_=>none
def Qiq:SV->V->V
 |.ty t,v=>if t.row=true then (match v.as t with|some x=> .t t x|none=>v) else v
 |.bf _ t,.fn g [v]=>if t.row=true then (match v.as t with|some x=> .fn g [.t t x]|none=> .fn g [v]) else .fn g [v]
 |_,v=>v
def OH:List SV->List V->List V
 |s::r,v::vs=>Qiq s v::OH r vs
 |_,vs=>vs
def Uu (l:List SV)(os:List SO)(ok:SVt l->SOt os->Bool)(F:SVt l->SOt os->V)(O:SVt l->SOt os->List VO):Ent:=fun args objs=>XD l os ok F O (OH l args) objs
theorem as_cs {X:Nat->Nat->Prop}{w:World}{σ:Pl}{t:Ty}{v:V}{x:t.T}{u:Value}(h:v.as t=some x)(hc:C X w σ v.d u):C X w σ (V.t t x).d u:=
 C.up _ _ (V.as_spec h hc)
theorem coeV_c {X:Nat->Nat->Prop}{w:World}{σ:Pl}{u:Value}(s:SV)(v:V)(hc:C X w σ v.d u):C X w σ (Qiq s v).d u:=by
 unfold Qiq
 split
 ·split
  ·split
   ·rename_i x h
    exact as_cs h hc
   ·exact hc
  ·exact hc
 ·split
  ·split
   ·rename_i x h
    simp only [V.d,V.ds,C,Cs] at hc ⊢
    obtain ⟨vs,h1,u1,us,h2,h3,h4⟩:=hc
    exact ⟨vs,h1,u1,us,h2,as_cs h h3,h4⟩
   ·exact hc
  ·exact hc
 ·exact hc
theorem QrB {X:Nat->Nat->Prop}{w:World}{σ:Pl}: ∀ (l:List SV) (vs:List V) (us:List Value),Cs X w σ (V.ds vs) us->Cs X w σ (V.ds (OH l vs)) us
 | [],vs,us,h=>h
 |s::r,[],us,h=>h
 |s::r,v::vs,us,h=>by
  simp only [OH,V.ds,Cs] at h ⊢
  obtain ⟨u,us',rfl,h2,h3⟩:=h
  exact ⟨u,us',rfl,coeV_c s v h2,QrB r vs us' h3⟩
section
variable {P:Program}
theorem Gk {f:FuncId}{l:List SV}{os:List SO}{ok:SVt l->SOt os->Bool}{F:SVt l->SOt os->V}{O:SVt l->SOt os->List VO}(hM:Qp P f (Qq (XD l os ok F O))):Qp P f (Qq (Uu l os ok F O)):=
 fun args objs r os' hF X w σ vs hfin hl hc=>hM (OH l args) objs r os' hF X w σ vs hfin hl (QrB l args vs hc)
theorem Qir {f:FuncId}{l:List SV}{os:List SO}{ok:SVt l->SOt os->Bool}{F:SVt l->SOt os->V}{O:SVt l->SOt os->List VO}
  (h: ∀ x y,ok x y=true→ ∀ X w σ vs,(∀ b q,X b q->b<w.heap.size)->Lent X w σ (Xg os y)->Cs X w σ (V.ds (G5 l x)) vs→
   Does P f vs.toArray w fun e w'=> ∃ u X' σ',e= .returned u/\C X' w' σ' (F x y).d u/\Ends X w σ (Xg os y).length X' w' σ' (O x y)):Qp P f (Qq (XD l os ok F O)):=by
 intro args objs r os' hF X w σ vs hfin hl hc
 unfold Qq XD at hF
 split at hF
 ·rename_i r' os'' hq
  split at hq
  ·rename_i x y hx hy
   simp only [Bc,Bo] at hF hq
   obtain ⟨rfl,rfl⟩:=hF
   obtain ⟨h1,rfl,rfl⟩:=hq
   have ha:=OD hx
   subst ha
   have:=h x y h1 X w σ vs hfin (QCY hy hl) hc
   rw [(Qip hy).1] at this
   exact this
  ·cases hq
 ·cases hF
theorem XX {f:FuncId}{R:Fun}{l:List SV}{os:List SO}{ok:SVt l->SOt os->Bool}{F:SVt l->SOt os->V}{O:SVt l->SOt os->List VO}(hM:Qp P f R)
  (h: ∀ x y,ok x y=true->R (G5 l x) (Xg os y)=some (F x y,O x y)):Qp P f (Qq (XD l os ok F O)):=
 Qir fun x y hok X w σ vs hfin hl hc=>hM _ _ _ _ (h x y hok) X w σ vs hfin hl hc
variable {X:Nat->Nat->Prop}{w w':World}{σ:Pl}
theorem QrC {o o':VO}{row:Option Nat}(hfin: ∀ b q,X b q->b<w.heap.size)(hat:OAt X w' σ 50000 o')(hg:w.grownBy w' row)(hr:row=none∨row=(σ 50000).blk):Ends X w σ [o].length X w' σ [o']:=by
 refine ⟨fun b q hq=>BZ (hfin b q hq) hg.size,fun j o hj=> ?_,fun i j b hij hi hj=>by simp at hi hj;omega,by simp,fun _ _=>rfl,fun j b hj hl=>by simp at hj hl;omega,⟨hg.os,hg.tape,hg.output,hg.size,fun b hb hm=>hg.block b hb fun he=>hm ?_⟩,fun _ _ _ h=>h,fun _ _ _ _ h=>h⟩
 ·cases j with
  |zero=>
   simp only [BR,Bc] at hj
   subst hj
   exact ⟨hat,fun h=>absurd h (by simp)⟩
  |succ j=>simp at hj
 ·rcases hr with hr|hr
  ·rw [hr] at he;cases he
  ·simp only [Y8,Bk,D2,Db]
   exact ⟨0,by omega,by rw [←hr];exact he.symm⟩
theorem QrD {o:VO}{row:Option Nat}(hfin: ∀ b q,X b q->b<w.heap.size)(hg:w.grownBy w' row)(hr:row=none∨row=(σ 50000).blk):Ends X w σ [o].length (fun b q=>X b q/\(σ 50000).blk≠some b) w' σ [.no]:=by
 refine ⟨fun b q hq=>BZ (hfin b q hq.1) hg.size,fun j o hj=> ?_,fun i j b hij hi hj=>by simp at hi hj;omega,by simp,fun _ _=>rfl,fun j b hj hl=>by simp at hj hl;omega,⟨hg.os,hg.tape,hg.output,hg.size,fun b hb hm=>hg.block b hb fun he=>hm ?_⟩,fun _ _ _ h=>h.1,fun b q _ hn h=>⟨h,hn 0 (by simp) rfl⟩⟩
 ·cases j with
  |zero=>
   simp only [BR,Bc] at hj
   subst hj
   exact ⟨trivial,fun h=>absurd h (by simp)⟩
  |succ j=>simp at hj
 ·rcases hr with hr|hr
  ·rw [hr] at he;cases he
  ·simp only [Y8,Bk,D2,Db]
   exact ⟨0,by omega,by rw [←hr];exact he.symm⟩
theorem QrE {k:IntKind}: ∀ (l:List Int) (vs:List Value),Cs X w σ (List.flatMap (Ty.int k).cells l) vs->vs=l.map (Value.int k)
 | [],vs,h=>by simpa [Cs] using h
 |z::zs,vs,h=>by
  simp only [BO,Ty.cells,BM,Cs] at h
  obtain ⟨u,us,rfl,h1,h2⟩:=h
  simp only [C] at h1
  rw [h1.1,QrE zs us h2]
  rfl
theorem Qis {k:IntKind}: ∀ (l:List Int),Cs X w σ (List.flatMap (Ty.int k).cells l) (l.map (Value.int k))
 | []=>by simp [Cs]
 |z::zs=>by
  simp only [BO,Ty.cells,BM,Cs,C,BI]
  exact ⟨_,_,rfl,⟨rfl,rfl⟩,Qis zs⟩
def WC {α:Type}(l:List α):Bool:=decide (l.length<4611686018427387904)
def YK (l:List Int):List Int:=l.mergeSort fun x y=>decide (x<=y)
theorem QrF {e:Nat}{k:IntKind}{l:List Int}{vs:List Value}(hl:Lent X w σ [.arr e (.int k) l])(hc:Cs X w σ (V.ds [.ms 50000]) vs)(he:e<1000000):
  ∃ u,vs=[u]/\σ 50000= .arr u/\w.ownsRow 0 e 1 u l.length (l.map (Value.int k))∧ ∀ b,u.ownBlock=some b→ ∀ o,X b o:=by
 obtain ⟨⟨u,xs,h1,h2,h3,h4,h5⟩,_⟩:=hl.at_ 0 _ rfl
 simp only [V.ds,V.d,Cs,C] at hc
 obtain ⟨u',us,rfl,⟨g1,_⟩,rfl⟩:=hc
 rw [h1] at g1
 injection g1 with g1
 subst g1
 have:=QrE l xs h3
 subst this
 exact ⟨u,rfl,h1,h2.own he,h5⟩
theorem QCZ {f:FuncId}{e:Nat}(hlt:f<1000000)
  (hs: ∀ (blk off cap:Nat) (zs:List Int) (w:World),Holds (Value.int .i64) w blk off zs.toArray->blk<w.heap.size->zs.length<4611686018427387904→
   Calls P f #[.slice (some ⟨blk,off,none⟩) zs.length cap] w fun e w'=>e= .returned (.tuple #[])∧ ∃ n os,w'=grow (putRow (Value.int .i64) (Sort.ahead w n) blk off (zs.mergeSort fun x y=>decide (x<=y)).toArray) os)
  (h0: ∀ (p:Option Addr) (cap:Nat) (w:World),Calls P f #[.slice p 0 cap] w fun e w'=>e= .returned (.tuple #[])/\w'=w) (he:e<1000000:=by decide):
  Qp P f (Qq (XD [.ms 50000] [.arr e (.int .i64)] (fun _ y=>WC y.1) (fun _ _=> .tu []) (fun _ y=>[.arr e (.int .i64) (YK y.1)]))):=by
 refine Qir fun x y hok X w σ vs hfin hl hc=> ?_
 obtain ⟨l,u0⟩:=y
 obtain ⟨u,rfl,h1,h2,h3⟩:=QrF hl hc he
 have hok:l.length<4611686018427387904:=BJ hok
 have htu: ∀ (w':World),C X w' σ (V.tu []).d (.tuple #[]):=fun w'=>by
  simp only [V.d,V.ds,C,Cs]
  exact ⟨[],rfl,rfl⟩
 have hlen:(YK l).length=l.length:=List.length_mergeSort _
 refine VT hlt ?_
 have none_case: ∀ (p:Option Addr) cap,l=[]->u= .slice p 0 cap->Calls P f [u].toArray w fun e' w'=> ∃ u X' σ',e'= .returned u/\C X' w' σ' (V.tu []).d u/\Ends X w σ (Xg [.arr e (.int .i64)] (l,u0)).length X' w' σ' [.arr e (.int .i64) (YK l)]:=by
  intro p cap hl0 hu
  subst hl0 hu
  refine (h0 p cap w).mono ?_
  rintro _ _ ⟨rfl,rfl⟩
  refine ⟨_,X,σ,rfl,htu _,QrC (row:=none) hfin ?_ ⟨rfl,rfl,rfl,Bw _,fun _ _ _=>rfl⟩ (.inl rfl)⟩
  have h9:=(hl.at_ 0 _ rfl).1
  have e0:YK []=[]:=by simp [YK]
  rw [e0]
  exact h9
 rcases h2.2 with ⟨q1,q2⟩|⟨g,cap,cur,rfl,q2,q3,q4,q5,q6,q7⟩
 ·exact none_case none 0 (Bt q2) q1
 ·by_cases hz:l=[]
  ·exact none_case _ _ hz (by subst hz;rfl)
  ·have ht:cur.toList.take l.length=l.map (Value.int .i64):=by rw [Nat.mul_one] at q7;exact q7
   have hb:g<w.heap.size:=(BQ.1 q3).1
   refine (hs g 0 cap l w (holds_of_blockI q3 ht) hb hok).mono ?_
   rintro _ _ ⟨rfl,n,os,rfl⟩
   refine ⟨_,X,σ,rfl,htu _,QrC (row:=some g) hfin ?_ (grownBy_sortedI _) (.inr (by rw [h1];rfl))⟩
   have hown:=ownsRow_sortedI (n:=n) (os:=os) (ss:=l) (ts:=YK l) hlen (B3 g) q3 q4 q5 q6
   refine ⟨_,(YK l).map (Value.int .i64),h1,by rw [hlen];exact .of hown,Qis _,fun x hx=> ?_,h3⟩
   obtain ⟨z,_,rfl⟩:=Dd.1 hx
   rfl
theorem QC0 {f:FuncId}{e:Nat}(hlt:f<1000000)
  (hs: ∀ (blk off cap:Nat) (zs:List Int) (w:World),Holds (Value.int .i64) w blk off zs.toArray->zs.length<=9223372036854775807->zs.length<=cap→
   Calls P f #[.slice (some ⟨blk,off,none⟩) zs.length cap] w fun e w'=>e= .returned (.slice (some ⟨blk,off,none⟩) (Lib.compact zs).length cap)∧ ∃ q,w'=putRow (Value.int .i64) (Sort.ahead w q) blk off (Lib.compact zs++List.replicate (zs.length-(Lib.compact zs).length) 0).toArray)
  (h0: ∀ (a:Option Addr) (cap:Nat) (w:World),Calls P f #[.slice a 0 cap] w fun e w'=>e= .returned (.slice a 0 cap)/\w'=w) (he:e<1000000:=by decide):
  Qp P f (Qq (XD [.ms 50000] [.arr e (.int .i64)] (fun _ y=>WC y.1) (fun _ y=> .t (.sl (.int .i64)) (Lib.compact y.1)) (fun _ _=>[.no]))):=by
 refine Qir fun x y hok X w σ vs hfin hl hc=> ?_
 obtain ⟨l,u0⟩:=y
 obtain ⟨u,rfl,h1,h2,h3⟩:=QrF hl hc he
 have hok:l.length<4611686018427387904:=BJ hok
 have hmx:maxLen=9223372036854775807:=rfl
 have hle:(Lib.compact l).length<=l.length:=by
  unfold Lib.compact Lib.compactUpTo
  rw [BL]
  exact Do (List.length_filter_le _ _) (by simp)
 refine VT hlt ?_
 have none_case: ∀ (p:Option Addr) cap,cap<=maxLen->l=[]->u= .slice p 0 cap->Calls P f [u].toArray w fun e' w'=> ∃ u X' σ',e'= .returned u/\C X' w' σ' (V.t (.sl (.int .i64)) (Lib.compact l)).d u/\Ends X w σ (Xg [.arr e (.int .i64)] (l,u0)).length X' w' σ' [.no]:=by
  intro p cap hcap hl0 hu
  subst hl0 hu
  refine (h0 p cap w).mono ?_
  rintro _ _ ⟨rfl,rfl⟩
  refine ⟨_,_,σ,rfl, ?_,QrD (row:=none) hfin ⟨rfl,rfl,rfl,Bw _,fun _ _ _=>rfl⟩ (.inl rfl)⟩
  simp only [V.d,Ty.d,C]
  exact ⟨p,cap,rfl,B3 _,hcap,fun _=>rfl,fun h=>absurd h (by decide)⟩
 rcases h2.2 with ⟨q1,q2⟩|⟨g,cap,cur,rfl,q2,q3,q4,q5,q6,q7⟩
 ·exact none_case none 0 (B3 _) (Bt q2) q1
 ·by_cases hz:l=[]
  ·exact none_case _ _ q5 hz (by subst hz;rfl)
  ·have ht:cur.toList.take l.length=l.map (Value.int .i64):=by rw [Nat.mul_one] at q7;exact q7
   have hb:g<w.heap.size:=(BQ.1 q3).1
   refine (hs g 0 cap l w (holds_of_blockI q3 ht) (by have:=hok;omega) q4).mono ?_
   rintro _ _ ⟨rfl,q,rfl⟩
   have e1:putRow (Value.int .i64) (Sort.ahead w q) g 0 (Lib.compact l++List.replicate (l.length-(Lib.compact l).length) 0).toArray=grow (putRow (Value.int .i64) (Sort.ahead w q) g 0 (Lib.compact l++List.replicate (l.length-(Lib.compact l).length) 0).toArray) #[]:=(grow_empty _).symm
   rw [e1]
   have hg:=grownBy_sortedI (w:=w) (g:=g) (n:=q) (os:= #[]) (Lib.compact l++List.replicate (l.length-(Lib.compact l).length) 0).toArray
   have q4':l.length<=cap:=q4
   have hblk:=heap_sortedI (n:=q) (os:= #[]) (Lib.compact l++List.replicate (l.length-(Lib.compact l).length) 0).toArray q3
   have hbk:(σ 50000).blk=some g:=by rw [h1];rfl
   refine ⟨_,_,σ,rfl, ?_,QrD (row:=some g) hfin hg (.inr hbk.symm)⟩
   generalize grow (putRow (Value.int .i64) (Sort.ahead w q) g 0 (Lib.compact l++List.replicate (l.length-(Lib.compact l).length) 0).toArray) #[]=w' at hg hblk ⊢
   simp only [V.d,Ty.d,C]
   refine ⟨some ⟨g,0,none⟩,cap,rfl,by omega,q5,fun h=>by rw [Bt h];rfl,fun _=>⟨g,0,(Lib.compact l).map (Value.int .i64),rfl,Qis _,BZ hb hg.size,fun j _ hx=>hx.2 hbk,fun j v hj=> ?_,fun v hv=> ?_⟩⟩
   ·have hjl:=(BD.1 hj).1
    rw [BL] at hjl
    have hts:=take_putCellsI cur (Lib.compact l++List.replicate (l.length-(Lib.compact l).length) 0) (by rw [Bl,List.length_replicate,q6];omega)
    have h4:(putCells (Value.int .i64) 0 (Lib.compact l++List.replicate (l.length-(Lib.compact l).length) 0).toArray cur).toList[j]? = some v:=by
     have this:(List.take _ _)[j]? = (List.map _ _)[j]? :=congrArg (fun l:List Value=>l[j]?) hts
     rw [DX (by rw [Bl];omega),List.map_append,Dg (by rw [BL];exact hjl),hj] at this
     exact this
    simp only [World.cell?, hblk,DW]
    rw [Array.getElem?_toList] at h4
    exact h4
   ·obtain ⟨z,_,rfl⟩:=Dd.1 hv
    rfl
end
end Go.Proofs.YthlcobdnemhcdaaGreat.K
/-
 Interfaces:values that are put into them,methods that are called through them;functions of which there is more than one word.
-/
namespace Go.Proofs.YthlcobdnemhcdaaGreat.K
open Go.RowKit
section
variable {P:Program}
def spI (t:Nat):Ent:=fun args objs=>
 match args,objs with
 | [.t y x],[]=>some (true,.ifc t (.t y x),[])
 |_,_=>none
theorem QrG {t e:Nat}(ht:P.underlying t=some (.slice e))(hlt:t<10000):Qp P (Jj 3 t 0) (Qq (spI t)):=by
 intro args objs r os hF X w σ vs hfin hl hc
 unfold Qq spI at hF
 split at hF
 ·rename_i r' os' hq
  split at hq
  ·rename_i y x
   simp only [Bc,Bo] at hF hq
   obtain ⟨rfl,rfl⟩:=hF
   obtain ⟨_,rfl,rfl⟩:=hq
   simp only [V.ds,Cs] at hc
   obtain ⟨u,us,rfl,h1,rfl⟩:=hc
   unfold Does
   rw [QwQ hlt]
   refine ⟨.iface t u,w, ?_,_,X,σ,rfl, ?_,Qb5 rfl hfin (Below.refl _ _)⟩
   ·show (Instr.makeInterface t u).run P w= .ok (.iface t u) w
    simp [Instr.makeInterface,run_underlying ht]
   ·simp only [V.d,C]
    exact ⟨u,rfl,h1⟩
  ·cases hq
 ·cases hF
def spM (t:Nat)(F:Ent):Ent:=fun args objs=>
 match args with
 |.ifc t' v::rest=>if t'=t then F (v::rest) objs else none
 |_=>none
theorem Qb7 {t i fn:Nat}{name:String}{F:Ent}(hn:GI[i]? = some name)(hm: ∀ v,QlB P t v name fn v)(he: ∃ fd,P.funcs[fn]? = some fd/\fd.body.isSome=true/\(fd.name== "runtime.NumGoroutine")=false)(hlt:fn<1000000)(hM:Qp P fn (Qq F)):Qp P (Jj 15 i 0) (Qq (spM t F)):=by
 intro args objs r os hF X w σ vs hfin hl hc
 have key: ∃ v rest,args= .ifc t v::rest/\Qq F (v::rest) objs=some (r,os):=by
  unfold Qq at hF
  split at hF
  ·rename_i r' os' hq
   unfold spM at hq
   split at hq
   ·rename_i t' v rest
    split at hq
    ·rename_i ht
     subst ht
     refine ⟨v,rest,rfl, ?_⟩
     unfold Qq
     rw [hq]
     exact hF
    ·cases hq
   ·cases hq
  ·cases hF
 obtain ⟨v,rest,rfl,hF'⟩:=key
 simp only [V.ds,Cs] at hc
 obtain ⟨u,us,rfl,h1,h2⟩:=hc
 simp only [V.d,C] at h1
 obtain ⟨x,rfl,h1⟩:=h1
 have hd:=WX hlt (hM _ _ _ _ hF' X w σ (x::us) hfin hl (Cs.cons h1 h2))
 unfold Does
 rw [Qek.1]
 simp only [Qek.2,hn]
 exact ⟨t,x,fn,x,us,rfl,hm x,he,hd⟩
def orF (R1 R2:Fun):Fun:=fun a o=>match R1 a o with
 |some x=>some x
 |none=>R2 a o
theorem Es {f:FuncId}{R1 R2:Fun}(h1:Qp P f R1)(h2:Qp P f R2):Qp P f (orF R1 R2):=by
 intro args objs r os hF
 unfold orF at hF
 split at hF
 ·rename_i x hx
  simp only [Bc] at hF
  subst hF
  exact h1 _ _ _ _ hx
 ·exact h2 _ _ _ _ hF
end
end Go.Proofs.YthlcobdnemhcdaaGreat.K
noncomputable section
namespace Go.Proofs.YthlcobdnemhcdaaGreat.K
open Go.RowKit
def Uo:Code->List (Array Oper)
 |.region _ ops _=>[ops]
 |.seq a b=>Uo a++Uo b
 |.cond _ a b=>Uo a++Uo b
 |.rangeFunc _ _ a b=>Uo a++Uo b
 |.block _ c=>Uo c
 |.loop c=>Uo c
 |_=>[]
noncomputable def QbS (f:Func)(i:Nat):Array Oper:=match f.body with
 |some c=>(Uo c).getD i #[]
 |none=> #[]
noncomputable def rT (f:Func)(i:Nat):List RO:=(QbS f i).toList.map (trR Tryz.prog (QbS f i))
noncomputable def dT (f:Func)(i:Nat):List DO:=(QbS f i).toList.map (trD Tryz.prog (QbS f i))
abbrev tI:Ty:= .int .i64
abbrev Qra:Ty:=(.pr tI (.pr tI (.pr .bool (.pr (.int .u8) .nil))))
abbrev Qrb:Ty:=(.pr .str (.pr (.int .u64) .nil))
abbrev Qi:Ty:=(.pr tI (.pr tI .nil))
abbrev Keep:Type:=Int×(Int×Unit)
abbrev Keep.Alg (x:Keep):Int:=x.1
abbrev Keep.Bits (x:Keep):Int:=x.2.1
abbrev Jg:Ty:=(.pr tI (.pr .str (.pr .str (.pr Qi (.pr tI (.pr Qi (.pr tI (.pr tI (.pr .bool (.pr tI (.pr (.sl .str) (.pr Qi .nil))))))))))))
abbrev Certificate:Type:=Int×(ByteArray×(ByteArray×(Keep×(Int×(Keep×(Int×(Int×(Bool×(Int×((List ByteArray)×(Keep×Unit)))))))))))
abbrev Certificate.Serial (x:Certificate):Int:=x.1
abbrev Certificate.Issuer (x:Certificate):ByteArray:=x.2.1
abbrev Certificate.Subject (x:Certificate):ByteArray:=x.2.2.1
abbrev Certificate.Key (x:Certificate):Keep:=x.2.2.2.1
abbrev Certificate.KeyId (x:Certificate):Int:=x.2.2.2.2.1
abbrev Certificate.Hash (x:Certificate):Keep:=x.2.2.2.2.2.1
abbrev Certificate.From (x:Certificate):Int:=x.2.2.2.2.2.2.1
abbrev Certificate.To (x:Certificate):Int:=x.2.2.2.2.2.2.2.1
abbrev Certificate.Authority (x:Certificate):Bool:=x.2.2.2.2.2.2.2.2.1
abbrev Certificate.Path (x:Certificate):Int:=x.2.2.2.2.2.2.2.2.2.1
abbrev Certificate.Names (x:Certificate):(List ByteArray):=x.2.2.2.2.2.2.2.2.2.2.1
abbrev Certificate.Seal (x:Certificate):Keep:=x.2.2.2.2.2.2.2.2.2.2.2.1
abbrev J4:Ty:=(.pr Qi (.pr tI (.pr (.sl Jg) .nil)))
abbrev Identity:Type:=Keep×(Int×((List Certificate)×Unit))
abbrev Identity.Key (x:Identity):Keep:=x.1
abbrev Identity.KeyId (x:Identity):Int:=x.2.1
abbrev Identity.Chain (x:Identity):(List Certificate):=x.2.2.1
abbrev QJ:Ty:=(.pr .str (.pr tI (.pr tI (.pr (.sl tI) (.pr .bool (.pr (.sl J4) (.pr (.sl tI) (.pr (.sl tI) (.pr .bool .nil)))))))))
abbrev Endpoint:Type:=ByteArray×(Int×(Int×((List Int)×(Bool×((List Identity)×((List Int)×((List Int)×(Bool×Unit))))))))
abbrev Endpoint.Name (x:Endpoint):ByteArray:=x.1
abbrev Endpoint.Least (x:Endpoint):Int:=x.2.1
abbrev Endpoint.Most (x:Endpoint):Int:=x.2.2.1
abbrev Endpoint.Suites (x:Endpoint):(List Int):=x.2.2.2.1
abbrev Endpoint.OwnOrder (x:Endpoint):Bool:=x.2.2.2.2.1
abbrev Endpoint.Identities (x:Endpoint):(List Identity):=x.2.2.2.2.2.1
abbrev Endpoint.Anchors (x:Endpoint):(List Int):=x.2.2.2.2.2.2.1
abbrev Endpoint.Hashes (x:Endpoint):(List Int):=x.2.2.2.2.2.2.2.1
abbrev Endpoint.Fallback (x:Endpoint):Bool:=x.2.2.2.2.2.2.2.2.1
abbrev QH:Ty:=(.pr Qi (.pr tI .nil))
abbrev Link:Type:=Keep×(Int×Unit)
abbrev Link.Use (x:Link):Keep:=x.1
abbrev Link.Day (x:Link):Int:=x.2.1
abbrev Qm:Ty:=(.pr .str (.pr tI (.pr tI (.pr (.sl QH) (.pr tI .nil)))))
abbrev Item:Type:=ByteArray×(Int×(Int×((List Link)×(Int×Unit))))
abbrev Item.Name (x:Item):ByteArray:=x.1
abbrev Item.Kind (x:Item):Int:=x.2.1
abbrev Item.Purpose (x:Item):Int:=x.2.2.1
abbrev Item.Links (x:Item):(List Link):=x.2.2.2.1
abbrev Item.Until (x:Item):Int:=x.2.2.2.2.1
abbrev Qr:Ty:=(.pr (.sl QJ) (.pr (.sl Qi) (.pr (.sl Qm) .nil)))
abbrev Estate:Type:=(List Endpoint)×((List Keep)×((List Item)×Unit))
abbrev Estate.Endpoints (x:Estate):(List Endpoint):=x.1
abbrev Estate.Edges (x:Estate):(List Keep):=x.2.1
abbrev Estate.Items (x:Estate):(List Item):=x.2.2.1
abbrev QU:Ty:=(.pr .bool (.pr tI (.pr tI (.pr tI (.pr tI (.pr tI .nil))))))
abbrev Rule:Type:=Bool×(Int×(Int×(Int×(Int×(Int×Unit)))))
abbrev Rule.Allow (x:Rule):Bool:=x.1
abbrev Rule.Alg (x:Rule):Int:=x.2.1
abbrev Rule.Below (x:Rule):Int:=x.2.2.1
abbrev Rule.Purpose (x:Rule):Int:=x.2.2.2.1
abbrev Rule.From (x:Rule):Int:=x.2.2.2.2.1
abbrev Rule.To (x:Rule):Int:=x.2.2.2.2.2.1
abbrev QE:Ty:=(.pr (.sl QU) (.pr (.sl Qi) .nil))
abbrev Policy:Type:=(List Rule)×((List Keep)×Unit)
abbrev Policy.Rules (x:Policy):(List Rule):=x.1
abbrev Policy.Keeps (x:Policy):(List Keep):=x.2.1
abbrev Zq:Ty:=(.pr tI (.pr QH .nil))
abbrev Job:Type:=Int×(Link×Unit)
abbrev Job.Item (x:Job):Int:=x.1
abbrev Job.Link (x:Job):Link:=x.2.1
abbrev QbT:Ty:=(.pr Qi (.pr tI (.pr .str (.pr Qi (.pr (.sl Qi) .nil)))))
abbrev Exception:Type:=Keep×(Int×(ByteArray×(Keep×((List Keep)×Unit))))
abbrev Exception.Use (x:Exception):Keep:=x.1
abbrev Exception.Purpose (x:Exception):Int:=x.2.1
abbrev Exception.Endpoint (x:Exception):ByteArray:=x.2.2.1
abbrev Exception.Days (x:Exception):Keep:=x.2.2.2.1
abbrev Exception.Seals (x:Exception):(List Keep):=x.2.2.2.2.1
abbrev QF:Ty:=(.pr (.sl tI) (.pr tI .nil))
abbrev Dice:Type:=(List Int)×(Int×Unit)
abbrev Dice.L (x:Dice):(List Int):=x.1
abbrev Dice.At (x:Dice):Int:=x.2.1
abbrev Qrc:Ty:=(.pr tI (.pr tI (.pr tI (.pr tI (.pr J4 .nil)))))
abbrev Change:Type:=Int×(Int×(Int×(Int×(Identity×Unit))))
abbrev Change.Endpoint (x:Change):Int:=x.1
abbrev Change.Kind (x:Change):Int:=x.2.1
abbrev Change.Number (x:Change):Int:=x.2.2.1
abbrev Change.At (x:Change):Int:=x.2.2.2.1
abbrev Change.Identity (x:Change):Identity:=x.2.2.2.2.1
abbrev Qrd:Ty:=(.pr QE (.pr (.sl QbT) (.pr QF (.pr tI .nil))))
abbrev Rules:Type:=Policy×((List Exception)×(Dice×(Int×Unit)))
abbrev Rules.p (x:Rules):Policy:=x.1
abbrev Rules.l (x:Rules):(List Exception):=x.2.1
abbrev Rules.o (x:Rules):Dice:=x.2.2.1
abbrev Rules.day (x:Rules):Int:=x.2.2.2.1
abbrev Qre:Ty:=(.pr Qi (.pr (.pr Qi (.pr Qi (.pr Qi (.pr Qi .nil)))) .nil))
abbrev Method:Type:=Keep×((Keep×(Keep×(Keep×(Keep×Unit))))×Unit)
abbrev Method.outcome (x:Method):Keep:=x.1
abbrev Method.uses (x:Method):(Keep×(Keep×(Keep×(Keep×Unit)))):=x.2.1
abbrev Jq:Ty:=(.pr tI (.pr tI (.pr .bool .nil)))
abbrev LinkX:Type:=Int×(Int×(Bool×Unit))
abbrev LinkX.day (x:LinkX):Int:=x.1
abbrev LinkX.fall (x:LinkX):Int:=x.2.1
abbrev LinkX.falls (x:LinkX):Bool:=x.2.2.1
abbrev Zr:Ty:=(.pr tI (.pr .str (.pr Qi (.pr Qi (.pr Qi (.pr Qi (.pr tI (.pr tI .nil))))))))
abbrev Suite:Type:=Int×(ByteArray×(Keep×(Keep×(Keep×(Keep×(Int×(Int×Unit)))))))
abbrev Suite.Code (x:Suite):Int:=x.1
abbrev Suite.Name (x:Suite):ByteArray:=x.2.1
abbrev Suite.Exchange (x:Suite):Keep:=x.2.2.1
abbrev Suite.Sign (x:Suite):Keep:=x.2.2.2.1
abbrev Suite.Cipher (x:Suite):Keep:=x.2.2.2.2.1
abbrev Suite.Mac (x:Suite):Keep:=x.2.2.2.2.2.1
abbrev Suite.Least (x:Suite):Int:=x.2.2.2.2.2.2.1
abbrev Suite.Most (x:Suite):Int:=x.2.2.2.2.2.2.2.1
abbrev Qn:Ty:=(.pr .str (.pr tI (.pr tI (.pr (.sl tI) (.pr (.sl tI) .nil)))))
abbrev Row:Type:=ByteArray×(Int×(Int×((List Int)×((List Int)×Unit))))
abbrev Row.name (x:Row):ByteArray:=x.1
abbrev Row.kind (x:Row):Int:=x.2.1
abbrev Row.way (x:Row):Int:=x.2.2.1
abbrev Row.sizes (x:Row):(List Int):=x.2.2.2.1
abbrev Row.strengths (x:Row):(List Int):=x.2.2.2.2.1
abbrev Qrf:Ty:=(.pr QJ (.pr tI (.pr (.sl tI) .nil)))
abbrev Talk:Type:=Endpoint×(Int×((List Int)×Unit))
abbrev Talk.server (x:Talk):Endpoint:=x.1
abbrev Talk.version (x:Talk):Int:=x.2.1
abbrev Talk.suites (x:Talk):(List Int):=x.2.2.1
abbrev Uq:Ty:=(.pr .str (.pr tI .nil))
abbrev Symbol:Type:=ByteArray×(Int×Unit)
abbrev Symbol.name (x:Symbol):ByteArray:=x.1
abbrev Symbol.kind (x:Symbol):Int:=x.2.1
def TYl:List (Nat×Ty):=[(2,tI),(3,tI),(4,.bool),(5,(.int .u8)),(6,(.int .u8)),(7,Qra),(8,Qra),(9,.str),(10,.str),(11,.str),(12,(.int .u64)),(13,Qrb),(14,Qrb),(21,(.int .i32)),(22,(.sl tI)),(25,(.sl QJ)),(26,(.sl Qi)),(27,(.sl Qm)),(28,Qr),(29,Qr),(30,(.sl QU)),(31,(.sl Qi)),(32,QE),(33,QE),(34,(.sl Zq)),(39,tI),(42,Qi),(43,Qi),(44,QH),(45,QH),(46,Zq),(47,Zq),(53,(.sl Qr)),(60,(.sl QH)),(61,Qm),(62,Qm),(65,QU),(66,QU),(69,Qi),(70,Qi),(71,(.sl Qi)),(72,QbT),(73,QbT),(78,(.sl QbT)),(79,QF),(80,QF),(84,(.sl Qi)),(97,(.sl Qi)),(98,QF),(99,QF),(109,(.sl J4)),(110,QJ),(111,QJ),(112,Qi),(113,Qi),(115,(.sl .str)),(124,(.sl Jg)),(125,J4),(126,J4),(127,Qrc),(128,Qrc),(130,Qi),(131,Qi),(135,Qrd),(136,Qrd),(142,Qi),(143,Qi),(149,(.sl (.sl tI))),(172,(.sl Qi)),(175,(.sl (.int .u8))),(179,Qi),(180,Qi),(196,(.pr Qi (.pr Qi (.pr Qi (.pr Qi .nil))))),(197,Qre),(198,Qre),(203,Jg),(204,Jg),(213,(.sl Jq)),(214,Jq),(215,Jq),(216,(.sl Jq)),(217,(.sl Jq)),(231,(.sl Qz)),(232,(.pr tI (.pr (.sl (.int .u8)) (.pr .bool (.pr (.sl Qz) .nil))))),(233,Qz),(238,(.int .u32)),(248,Zr),(249,Zr),(261,Qn),(262,Qn),(272,(.int .u64)),(283,Qrf),(284,Qrf),(287,(.sl Zr)),(289,Uq),(290,Uq),(291,(.sl Uq)),(296,(.pr Qn (.pr Qn (.pr Qn (.pr Qn (.pr Qn (.pr Qn (.pr Qn (.pr Qn (.pr Qn (.pr Qn (.pr Qn (.pr Qn (.pr Qn (.pr Qn (.pr Qn (.pr Qn (.pr Qn (.pr Qn (.pr Qn (.pr Qn (.pr Qn (.pr Qn (.pr Qn .nil)))))))))))))))))))))))),(298,Qi),(299,(.pr Qi (.pr Qi (.pr Qi (.pr Qi (.pr Qi .nil)))))),(328,tI),(337,(.int .u64)),(339,(.int .u64)),(359,(.int .u8)),(360,(.int .u8)),(363,(.int .i32)),(364,(.int .i32))]
def TYs (e:Nat):Option Ty:=TYl.lookup e
def keeps:List Nat:=[252,264]
theorem mixed:Tryz.prog.follows .mixedOrders=true:=by kernel_rfl
def Qrg:Ent:=Qo (.pr (.pr Qn (.pr Qn (.pr Qn (.pr Qn (.pr Qn (.pr Qn (.pr Qn (.pr Qn (.pr Qn (.pr Qn (.pr Qn (.pr Qn (.pr Qn (.pr Qn (.pr Qn (.pr Qn (.pr Qn (.pr Qn (.pr Qn (.pr Qn (.pr Qn (.pr Qn (.pr Qn .nil))))))))))))))))))))))) (.pr tI .nil)) (fun x=>(Ut Qn 23 x.1 x.2.1)) (fun x=>(.t Qn (Er Qn 23 x.1 x.2.1)))
theorem QCE:Q6 Tryz.prog 1004738:= .inl (by kernel_rfl)
theorem QCF:Qp Tryz.prog 1004738 (Qq Qrg):=Qrz (t:=296) (e:=262) (n:=23) (y:=Qn) (k:= .i64) (by kernel_rfl) (by kernel_rfl) (by kernel_rfl) (by decide)
def Qrh:Ent:=Qo (.pr (.pr Qi (.pr Qi (.pr Qi (.pr Qi (.pr Qi .nil))))) (.pr tI .nil)) (fun x=>(Ut Qi 5 x.1 x.2.1)) (fun x=>(.t Qi (Er Qi 5 x.1 x.2.1)))
theorem QCG:Q6 Tryz.prog 1004786:= .inl (by kernel_rfl)
theorem QCH:Qp Tryz.prog 1004786 (Qq Qrh):=Qrz (t:=299) (e:=298) (n:=5) (y:=Qi) (k:= .i64) (by kernel_rfl) (by kernel_rfl) (by kernel_rfl) (by decide)
def OC:Ent:=Qo (.pr .str .nil) (fun x=>(Xe x.1)) (fun x=>(.t (.sl (.int .u8)) (Q3 x.1)))
theorem QbU:Q6 Tryz.prog 29000144:= .inl (by kernel_rfl)
theorem QbV:Qp Tryz.prog 29000144 (Qq OC):=QCX (a:=9) (b:=175) (e:=5) (by kernel_rfl) (by kernel_rfl) (by kernel_rfl) (by decide)
theorem mG {g:G}{f:FuncId}{fn:Func}{tc:TC}{rv:List (RV×Option Ty)}{ro:Bool}(hf:Tryz.prog.funcs[f]? = some fn)(ok:Option.map (trC Tryz.prog) fn.body=some tc.er)(hn:fn.ntmps=g.n)(hr:XV Tryz.prog fn.results.toList=some (rv.map Prod.fst))(hg:GOk Tryz.prog g)(hl:tc.lok g)(hlt:f<1000000:=by decide):Qp Tryz.prog f (QP g tc rv ro):=by
 obtain ⟨c,hc,hi⟩:=Bf.1 ok
 exact QCL hlt hf hc hi hn hr hg hl mixed
def Gh:List (Nat×Ent)->Prop
 | []=>True
 |p::l=>(Q6 Tryz.prog p.1/\Qp Tryz.prog p.1 (Qq p.2))/\Gh l
theorem gA: ∀ {l:List (Nat×Ent)},Gh l→ ∀ p∈l,Q6 Tryz.prog p.1/\Qp Tryz.prog p.1 (Qq p.2)
 | [],_,p,hp=>by cases hp
 |q::l,h,p,hp=>by
  rcases BB.1 hp with rfl|hp
  ·exact h.1
  ·exact gA h.2 p hp
theorem gC {k:Nat}{e:Ent}{l:List (Nat×Ent)}(h1:Q6 Tryz.prog k)(h2:Qp Tryz.prog k (Qq e))(h:Gh l):Gh ((k,e)::l):=⟨⟨h1,h2⟩,h⟩
theorem gN:Gh []:=trivial
abbrev OX:Type:=Option (Exit×VS)
abbrev OV:Type:=Option (V×List VO)
theorem nxA (f:VS->OX):(∀ q a b,nxt f (br q a b)=br q (nxt f a) (nxt f b))/\(∀ S,nxt f (some (.normal,S))=f S)/\(∀ S,nxt f (some (.ret,S))=some (.ret,S))/\(∀ i S,nxt f (some (.exit i,S))=some (.exit i,S))/\nxt f none=none:=⟨fun _ _ _=>YJ,fun _=>rfl,fun _=>rfl,fun _ _=>rfl,rfl⟩
theorem lnT {b:VS->OX}{S:VS}{x y:OX}(k:nxt (QA b) x=y)(h:b S=x:=by kernel_rfl):QA b S=y:=(G7 b S).trans (by rw [h];exact k)
theorem kT {α:Type}{a b c:α}(k:b=c)(h:a=b:=by kernel_rfl):a=c:=h.trans k
abbrev LO (g:G)(fg:Fg)(tb:TC)(j:Nat):Prop:= ∀ S l p,g.L j (fgt fg S)=some (true,l)->YB l=some p->QA (QC g fg tb) S=some p
def gG (n:Nat)(e:List (Nat×Ent))(L:Nat->VS->Option (Bool×List (Bool×Exit×VS))):G:=⟨TYs,[],n,EL e,keeps,L,IL [],RL []⟩
theorem QN {g:G}{s:Sh}{a:TC}{ok:SVs s.vs->SOs s.os->Bool}{Z2:SVs s.vs->SOs s.os->List (Bool×Exit×VS)}(h: ∀ x y,ok x y=true→ ∀ p,YB (Z2 x y)=some p->QA (QC g s.f a) (s.st x y)=some p)(hok:s.f.ok:=by exact ⟨by decide,by decide⟩):
 ∀ S l p,mkL s ok Z2 (fgt s.f S)=some (true,l)->YB l=some p->QA (QC g s.f a) S=some p:=lok_of (s:=s) hok rfl h
def ap:List (Nat×(TC->TC))->Nat->TC->TC
 | [],_,t=>t
 |(k,f)::r,n,t=>if k==n then f (ap r n t) else ap r n t
def aA (l:List (Nat×(TC->TC))):AC->Nat->TC
 |.sk,n=>ap l n .sk
 |.reg rs,n=>ap l n (.reg rs)
 |.dr ds,n=>ap l n (.dr ds [] .nil)
 |.sq a b,n=>ap l n (.sq (aA l a (2*n)) (aA l b (2*n+1)))
 |.cd x a b,n=>ap l n (.cd x (aA l a (2*n)) (aA l b (2*n+1)))
 |.bk i a,n=>ap l n (.bk i (aA l a (2*n)))
 |.lp a,n=>ap l n (.lp 0 ⟨[],[]⟩ (aA l a (2*n)))
 |.ex i,n=>ap l n (.ex i)
 |.rt,n=>ap l n .rt
 |_,_=> .sk
def pL (j:Nat)(f:Fg):TC->TC
 |.lp _ _ a=> .lp j f a
 |t=>t
def pD (o:List (Nat×List Nat))(p:PT):TC->TC
 |.dr ds _ _=> .dr ds o p
 |t=>t
noncomputable def aF (f:Func)(l:List (Nat×(TC->TC))):TC:=match f.body with
 |some c=>aA l (trC Tryz.prog c) 1
 |none=> .sk
def lbO (j:Nat):TC->Option TC
 |.lp i _ a=>if i==j then some a else lbO j a
 |.sq a b|.cd _ a b=>match lbO j a with
  |some x=>some x
  |none=>lbO j b
 |.bk _ a|.fg _ a|.nw _ _ a|.nf _ _ _ _ a|.fz _ a|.ad _ a|.mv _ a=>lbO j a
 |_=>none
def lb (j:Nat)(t:TC):TC:=(lbO j t).getD .sk
def lps:TC->Option (List (Nat×Fg×TC))
 |.lp j f a=>(lps a).map fun l=>(j,f,a)::l
 |.sq a b|.cd _ a b=>match lps a,lps b with
  |some x,some y=>some (x++y)
  |_,_=>none
 |.bk _ a|.fg _ a|.nw _ _ a|.nf _ _ _ _ a|.fz _ a|.ad _ a|.mv _ a=>lps a
 |.rg _ _ _ _|.rf _ _ _ _ _ _ _ _=>none
 |_=>some []
def XB (g:G):List (Nat×Fg×TC)->Prop
 | []=>True
 |x::l=>LO g x.2.1 x.2.2 x.1/\XB g l
theorem QbW {g:G}: ∀ {a b:List (Nat×Fg×TC)},XB g (a++b)->XB g a/\XB g b
 | [],_,h=>⟨trivial,h⟩
 |_::_,_,h=>⟨⟨h.1,(QbW h.2).1⟩,(QbW h.2).2⟩
theorem lok2 {g:G}{a b:TC}{l:List (Nat×Fg×TC)}(ia: ∀ l,lps a=some l->XB g l->a.lok g)(ib: ∀ l,lps b=some l->XB g l->b.lok g)
  (h:(match lps a,lps b with|some x,some y=>some (x++y)|_,_=>none)=some l) (k:XB g l):a.lok g/\b.lok g:=by
 split at h
 · rename_i x y h1 h2
   simp only [Bc] at h
   subst h
   exact ⟨ia _ h1 (QbW k).1,ib _ h2 (QbW k).2⟩
 · cases h
theorem G2 {g:G}: ∀ (t:TC) (l:List (Nat×Fg×TC)),lps t=some l->XB g l->t.lok g
 |.lp j f a,l,h,k=>by
  unfold lps at h
  obtain ⟨l',h1,rfl⟩:=Bf.1 h
  exact ⟨k.1,G2 a l' h1 k.2⟩
 |.sq a b,l,h,k=>lok2 (G2 a) (G2 b) h k
 |.cd _ a b,l,h,k=>lok2 (G2 a) (G2 b) h k
 |.bk _ a,l,h,k|.fg _ a,l,h,k|.nw _ _ a,l,h,k|.nf _ _ _ _ a,l,h,k|.fz _ a,l,h,k|.ad _ a,l,h,k|.mv _ a,l,h,k=>G2 a l h k
 |.rg _ _ _ _,l,h,k=>by cases h
 |.rf _ _ _ _ _ _ _ _,l,h,k=>by cases h
 |.sk,_,_,_|.reg _,_,_,_|.dr _ _ _,_,_,_|.ex _,_,_,_|.rt,_,_,_=>trivial
theorem lkL {g:G}{t:TC}{l:List (Nat×Fg×TC)}(k:XB g l)(h:lps t=some l:=by kernel_rfl):t.lok g:=G2 t l h k
theorem lkn {g:G}:XB g []:=trivial
theorem lkc {g:G}{f:Fg}{a:TC}{j:Nat}{l:List (Nat×Fg×TC)}(h:LO g f a j)(k:XB g l):XB g ((j,f,a)::l):=⟨h,k⟩
def EM (f:FuncId)(e:Ent):Prop:=Q6 Tryz.prog f/\Qp Tryz.prog f (Qq e)
theorem gD {k:Nat}{e:Ent}{l:List (Nat×Ent)}(h:EM k e)(t:Gh l):Gh ((k,e)::l):=⟨h,t⟩
theorem gB {n:Nat}{e:List (Nat×Ent)}{L:Nat->VS->Option (Bool×List (Bool×Exit×VS))}(h:Gh e):GOk Tryz.prog (gG n e L):=Jw _ (gA h)
theorem mS {k:FuncId}{e:Ent}(g:G)(tc:TC)(rv:List (RV×Option Ty))(ro:Bool)(gk:GOk Tryz.prog g)(hs:Qp Tryz.prog k (QP g tc rv ro)->Qp Tryz.prog k (Qq e))(lk:tc.lok g:=by exact lkL lkn)
  (hc:Tryz.prog.funcs[k]?.map (fun fn=>(Option.map (trC Tryz.prog) fn.body,XV Tryz.prog fn.results.toList,fn.name== "runtime.NumGoroutine", fn.ntmps))=some (some tc.er,some (rv.map Prod.fst),false,g.n):=by kernel_rfl) (hlt:k<1000000:=by decide):EM k e:=by
 obtain ⟨fn,hf,hc⟩:=Bf.1 hc
 simp only [Bo] at hc
 refine ⟨.inr ⟨hlt,fn,hf, ?_,hc.2.2.1⟩,hs (mG hf hc.1 hc.2.2.2 hc.2.1 gk lk hlt)⟩
 cases hb:fn.body with
 |none=>rw [hb] at hc;cases hc.1
 |some c=>rfl
end Go.Proofs.YthlcobdnemhcdaaGreat.K
noncomputable section
namespace Go.Proofs.YthlcobdnemhcdaaGreat.K
open Go.RowKit
theorem QO {y:Ty}{l:List y.T}{j:Nat}(h:j<l.length):lgt y l j=l[j]:=by
 unfold lgt
 rw [Bm,Bj h]
 rfl
theorem QW {k:Nat}(h:k<4611686018427387904):Qh .i64 (k:Int) 1=((k+1:Nat):Int):=by
 unfold Qh
 rw [Go.IntWalk.i64_in _ (by omega)]
 rfl
theorem JU {a b:Int}(h: -9223372036854775808<=a+b/\a+b<=9223372036854775807):Qh .i64 a b=a+b:=Go.IntWalk.i64_in _ h
theorem J5 {a b:Int}(h: -9223372036854775808<=a-b/\a-b<=9223372036854775807):Qs .i64 a b=a-b:=Go.IntWalk.i64_in _ h
theorem QI {α:Type}{l:List α}{k:Nat}:cIx l (k:Int)=decide (k<l.length):=by
 unfold cIx
 congr 1
 exact propext ⟨fun h=>by omega,fun h=>by omega⟩
theorem QD {a b:Nat}:ilt (a:Int) (b:Int)=decide (a<b):=by
 unfold ilt
 congr 1
 exact propext ⟨fun h=>by omega,fun h=>by omega⟩
theorem Yq {p:Prop}[Decidable p](h:p):decide p=true:=by simp [h]
theorem QKJ {p:Prop}[Decidable p](h: ¬ p):decide p=false:=by simp [h]
theorem Q5 {α:Type}(l:List α)(P:Nat->Prop)(h0:P l.length)(hs: ∀ k,k<l.length->P (k+1)->P k): ∀ k,k<=l.length->P k:=by
 intro k hk
 induction hn:l.length-k generalizing k with
 |zero=>
  have:k=l.length:=by omega
  subst this
  exact h0
 |succ n ih=>exact hs k (by omega) (ih (k+1) (by omega) (by omega))
theorem Qae (N:Nat)(P:Nat->Prop)(h0:P N)(hs: ∀ k,k<N->P (k+1)->P k): ∀ k,k<=N->P k:=by
 intro k hk
 induction hn:N-k generalizing k with
 |zero=>
  have:k=N:=by omega
  subst this
  exact h0
 |succ n ih=>exact hs k (by omega) (ih (k+1) (by omega) (by omega))
def W9 {α:Type}(l:List α)(i:Int):Bool:=decide (0<=i/\i<=l.length/\l.length<=100000)
def Qy {α:Type}(l:List α)(n i:Int):Bool:=decide (n=l.length/\0<=i/\i<=n/\l.length<=100000)
theorem JR {α:Type}{l:List α}{n i:Int}(h:Qy l n i=true):n=l.length/\l.length<=100000∧ ∃ k:Nat,i=k/\k<=l.length:=by
 simp only [Qy,Ba] at h
 obtain ⟨h1,h2,h3,h4⟩:=h
 exact ⟨h1,h4,i.toNat,by omega,by omega⟩
theorem JS {α:Type}{l:List α}(h:l.length<=100000):Qy l (Qc l) 0=true:=by
 simp only [Qy,Ba,Qc]
 exact ⟨trivial,by omega,by omega,h⟩
theorem QKK {a b:Nat}:igt (a:Int) (b:Int)=decide (b<a):=by
 unfold igt
 congr 1
 exact propext ⟨fun h=>by omega,fun h=>by omega⟩
theorem Wr {α:Type}{l l2:List α}{b:Nat}(h:l.length+l2.length<=1000000)(hb:b<=1000):Qx l l2 b=true:=by
 unfold Qx
 rw [Ba]
 calc (l.length+l2.length)*(b+1)<=1000000*1001:=Nat.mul_le_mul h (by omega)
  _<=140737488355328:=by decide
theorem GR {x y:Bool}{l:List VO}(h:x=y):some (V.t .bool x,l)=some (V.t .bool y,l):=by rw [h]
theorem Qfa {a b:Int}:ine a b=decide (a≠b):=by
 unfold ine
 simp [bne,Bool.beq_eq_decide_eq]
theorem Zw {a b:Int}:ieq a b=decide (a=b):=by
 unfold ieq
 rw [Bool.beq_eq_decide_eq]
def U0 (l:List Int):Bool:=decide (l.length<=400)
def tc_f8:TC:=aF Tryz.f8 []
def g_f8:G:=gG 6 [] (fun _ _=>none)
def r_f8 (p0:List Int):OV:=some (.t .bool (ile (Qc p0) 400),[])
theorem s_f8 (l:List Int):r_f8 l=some (.t .bool (U0 l),[]):=by
 simp only [r_f8,U0]
 congr 3
 unfold ile Qc
 congr 1
 exact propext ⟨fun h=>by omega,fun h=>by omega⟩
def QmJ:Ent:=Qo (.pr (.sl tI) .nil) (fun x=>true) (fun x=>(.t .bool (U0 x.1)))
theorem ms_f8:EM 8 QmJ:=mS g_f8 tc_f8 [((.t 2),some .bool)] false (gB gN) fun m=>Qt m fun x _=>kT (s_f8 x.1)
def Yi (n k:Int):Int:=if k<1 then 0 else n % k
def GS (_n k:Int):Bool:=decide (k.toNat<4611686018427387904)
def tc_f28:TC:=aF Tryz.f28 []
def g_f28:G:=gG 14 [] (fun _ _=>none)
def r_f28 (p0 p1:Int):OV:=br (ilt p1 1) (some (.t tI 0,[])) (br (cNz p1) (br (cNz p1) (some (.t tI (XC (Qh .i64 (XC p0 p1) p1) p1),[])) none) none)
theorem s_f28 (n k:Int)(h:GS n k=true):r_f28 n k=some (.t tI (Yi n k),[]):=by
 simp only [GS,Ba] at h
 simp only [r_f28]
 refine QV (fun h1=> ?_) (fun h1=> ?_)
 ·have h1:k<1:=by simpa [ilt] using h1
  simp [Yi,h1]
 ·have h1: ¬ k<1:=by simpa [ilt] using h1
  have hk:cNz k=true:=by simp [cNz];omega
  simp only [hk,Qf]
  have h3: -k<n.tmod k:=by
   have:=Int.lt_tmod_of_pos n (show 0<k by omega)
   exact this
  have h4:n.tmod k<k:=Int.tmod_lt_of_pos n (by omega)
  have e1:Qh .i64 (XC n k) k=n.tmod k+k:=JU (by unfold XC;omega)
  rw [e1]
  have e2:XC (n.tmod k+k) k=n % k:=by
   unfold XC
   rw [Int.tmod_eq_emod_of_nonneg (by omega),Int.add_emod_right,Int.tmod_def]
   exact Int.sub_mul_emod_self_left n k _
  rw [e2]
  simp [Yi,h1]
def QmK:Ent:=Qo (.pr tI (.pr tI .nil)) (fun x=>(GS x.1 x.2.1)) (fun x=>(.t tI (Yi x.1 x.2.1)))
theorem Qyd:EM 28 QmK:=mS g_f28 tc_f28 [((.t 4),some tI)] false (gB gN) fun m=>Qt m fun x hok=>kT (s_f28 x.1 x.2.1 hok)
def ZU (l:List Int):Dice:=(l,0,())
def Qye:TC:=aF Tryz.f11 []
def Qyf:List (RV×Option Ty):=[((.t 2),none)]
def g_f11:G:=gG 6 [] (fun _ _=>none)
def r_f11 (p0:List Int):OV:=some (.ptr 50000 0,[.box (.ag [(.t (.sl tI) p0),(.t tI 0)])])
theorem e_f11 (p0:List Int):QP g_f11 Qye Qyf false [.t (.sl tI) p0] []=r_f11 p0:=by kernel_rfl
theorem s_f11 (l:List Int): ∃ c,r_f11 l=some (.ptr 50000 0,[.box c])/\c.as QF=some (ZU l):=⟨_,rfl,rfl⟩
def QmL:Ent:=Qid QF (.pr (.sl tI) .nil) (fun x=>true) (fun x=>(ZU x.1))
theorem Qyg:EM 11 QmL:=mS g_f11 Qye Qyf false (gB gN) fun m=>QCM m rfl fun x _=>(s_f11 x.1).imp fun c h=>⟨(e_f11 x.1).trans h.1,h.2⟩
def Ql (d:Dice)(n:Int):Int:=if d.2.1≥d.1.length then 0 else Yi (d.1.getD d.2.1.toNat 0) n
def Qe (d:Dice)(_n:Int):Dice:=if d.2.1≥d.1.length then d else (d.1,d.2.1+1,())
def dOk (d:Dice):Bool:=decide (0<=d.2.1/\d.1.length<=400)
def QG (d:Dice)(n:Int):Bool:=dOk d&&decide (n<4611686018427387904)
def tc_f32:TC:=aF Tryz.f32 [(12,pD [(0,[50000]),(1,[50000]),(2,[50000]),(3,[50000]),(4,[50000]),(5,[50000]),(6,[50000]),(7,[50000]),(8,[]),(9,[])] (.of [0,1,2,3,4,5,6,7,8,9])),(30,pD [(0,[50000]),(1,[50000]),(2,[50000]),(3,[50000]),(4,[50000]),(5,[50000]),(6,[50000]),(7,[50000]),(8,[]),(9,[]),(10,[]),(11,[]),(12,[]),(13,[])] (.of [0,1,2,3,4,5,6,7,8,9,10,11,12,13]))]
def g_f32:G:=gG 35 [(28,QmK)] (fun _ _=>none)
def r_f32 (d0:Dice)(p1:Int):OV:=
 let a1:=Qs .i64 (Qh .i64 d0.2.1 1) 1
 let a2:=lgt tI d0.1 (Int.toNat a1)
 br (ige d0.2.1 (Qc d0.1)) (some (.t tI 0,[.box (.t QF d0)])) (br (cIx d0.1 a1) (br (GS a2 p1) (some (.t tI (Yi a2 p1),[.box (.t QF (d0.1,((Qh .i64 d0.2.1 1),d0.2.2)))])) none) none)
theorem s_f32 (d:Dice)(n:Int)(h:QG d n=true):r_f32 d n=some (.t tI (Ql d n),[.box (.t QF (Qe d n))]):=by
 simp only [QG,dOk,Bb,Ba] at h
 obtain ⟨⟨h1,h2⟩,h3⟩:=h
 obtain ⟨l,at_,_⟩:=d
 simp only at h1 h2
 obtain ⟨k,rfl⟩: ∃ k:Nat,at_=k:=⟨at_.toNat,by omega⟩
 simp only [r_f32]
 refine QV (fun h4=> ?_) (fun h4=> ?_)
 ·have h4:l.length<=k:=by simp [ige,Qc] at h4;omega
  have h5:(k:Int)≥l.length:=by omega
  simp [Ql,Qe,h5]
 ·have h4:k<l.length:=by simp [ige,Qc] at h4;omega
  have h5: ¬ (k:Int)≥l.length:=by omega
  have e1:Qh .i64 (k:Int) 1=((k+1:Nat):Int):=QW (by omega)
  have e2:Qs .i64 ((k+1:Nat):Int) 1=(k:Int):=by rw [J5 (by omega)];omega
  rw [e1,e2,QI,Yq h4,Qf]
  have e3:GS (lgt tI l (Int.toNat (k:Int))) n=true:=Be (by omega)
  rw [e3,Qf]
  simp only [Ql,Qe,h5,B8]
  rfl
def U1:Ent:=Gi QF (.pr tI .nil) (fun d x=>(QG d x.1)) (fun d x=>(.t tI (Ql d x.1))) (fun d x=>(Qe d x.1))
theorem GT:EM 32 U1:=mS g_f32 tc_f32 [((.t 4),some tI)] false (gB (gD Qyd gN)) fun m=>El m rfl fun d x hok=>kT (s_f32 d x.1 hok)
def done (d:Dice)(n:Int):Bool:=Ql d n==n-1
def Jm (d:Dice)(n:Int):Bool:=QG d n&&decide (0<=n)
def tc_f35:TC:=aF Tryz.f35 []
def g_f35:G:=gG 11 [(32,U1)] (fun _ _=>none)
def r_f35 (d0:Dice)(p1:Int):OV:=br (QG d0 p1) (some (.t .bool (ieq (Ql d0 p1) (Qs .i64 p1 1)),[.box (.t QF (Qe d0 p1))])) none
theorem s_f35 (d:Dice)(n:Int)(h:Jm d n=true):r_f35 d n=some (.t .bool (done d n),[.box (.t QF (Qe d n))]):=by
 simp only [Jm,Bb,Ba] at h
 simp only [r_f35]
 rw [h.1,Qf]
 have h2:=h.1
 simp only [QG,Bb,Ba] at h2
 rw [J5 (by omega)]
 rfl
def Qfb:Ent:=Gi QF (.pr tI .nil) (fun d x=>(Jm d x.1)) (fun d x=>(.t .bool (done d x.1))) (fun d x=>(Qe d x.1))
theorem QmM:EM 35 Qfb:=mS g_f35 tc_f35 [((.t 4),some .bool)] false (gB (gD GT gN)) fun m=>El m rfl fun d x hok=>kT (s_f35 d x.1 hok)
def dof (d:Dice)(l:List Int):Int:=l.getD (Ql d l.length).toNat 0
def Qu (d:Dice)(l:List Int):Dice:=Qe d l.length
def Jc (d:Dice)(l:List Int):Bool:=dOk d&&decide (0<l.length/\l.length<4611686018427387904)
def tc_f50:TC:=aF Tryz.f50 []
def g_f50:G:=gG 12 [(32,U1)] (fun _ _=>none)
def r_f50 (d0:Dice)(p1:List Int):OV:=br (QG d0 (Qc p1)) (br (cIx p1 (Ql d0 (Qc p1))) (some (.t tI (lgt tI p1 (Int.toNat (Ql d0 (Qc p1)))),[.box (.t QF (Qe d0 (Qc p1)))])) none) none
theorem JC {d:Dice}{n:Int}(h:0<n):0<=Ql d n/\Ql d n<n:=by
 unfold Ql
 split
 ·omega
 ·unfold Yi
  rw [if_neg (by omega)]
  exact ⟨Int.emod_nonneg _ (by omega),Int.emod_lt_of_pos _ (by omega)⟩
theorem s_f50 (d:Dice)(l:List Int)(h:Jc d l=true):r_f50 d l=some (.t tI (dof d l),[.box (.t QF (Qu d l))]):=by
 simp only [Jc,Bb,Ba] at h
 obtain ⟨h1,h2,h3⟩:=h
 simp only [r_f50]
 have e1:QG d (Qc l)=true:=by simp only [QG,h1,Qc,By,Ba];omega
 rw [e1,Qf]
 have h4:=JC (d:=d) (n:=Qc l) (by unfold Qc;omega)
 have e2:cIx l (Ql d (Qc l))=true:=by simp only [cIx,Ba];exact h4
 rw [e2,Qf]
 rfl
def IA:Ent:=Gi QF (.pr (.sl tI) .nil) (fun d x=>(Jc d x.1)) (fun d x=>(.t tI (dof d x.1))) (fun d x=>(Qu d x.1))
theorem Qaf:EM 50 IA:=mS g_f50 tc_f50 [((.t 4),some tI)] false (gB (gD GT gN)) fun m=>El m rfl fun d x hok=>kT (s_f50 d x.1 hok)
theorem Q1 {d:Dice}{n:Int}(h:dOk d=true):dOk (Qe d n)=true:=by
 simp only [dOk,Ba] at h ⊢
 unfold Qe
 split
 ·exact h
 ·exact ⟨by simp only;omega,h.2⟩
theorem Qyh {l:List Int}(h:U0 l=true):dOk (ZU l)=true:=by
 simp only [U0,Ba] at h
 simp [dOk,ZU,h]
def QmN (l:List SV)(bs:List Ty)(yr:Ty)(ok:Us bs->Bool)(f:Us bs->List yr.T):Itr:=fun caps objs=>
 match G6 l caps,Y3 bs objs with
 |some _,some d=>some (ok d,⟨yr,f d⟩)
 |_,_=>none
end Go.Proofs.YthlcobdnemhcdaaGreat.K
noncomputable section
namespace Go.Proofs
open Go.Shelf
def Tryz.lays189_ren:Go.Shelf.Ren:=⟨fun|189=>252|125=>274|257=>273|128=>288|129=>289|294=>279|295=>280|296=>281|297=>282|298=>283|299=>284|216=>285|300=>286|301=>287|328=>294|329=>295|330=>296|331=>297|332=>298|215=>299|343=>304|n=>n,fun|28=>22|3=>3|46=>272|0=>0|51=>238|53=>337|4=>4|183=>329|182=>328|131=>226|5=>5|9=>9|218=>339|222=>343|228=>346|229=>304|n=>n,fun|n=>n⟩
theorem Tryz.lays189:Go.Proofs.Lays.n189 Tryz.prog Tryz.lays189_ren:={
 mixed:=by kernel_rfl
 f125:=Tryz.func274.trans (congrArg some (by kernel_rfl))
 f128:=Tryz.func288.trans (congrArg some (by kernel_rfl))
 f129:=Tryz.func289.trans (congrArg some (by kernel_rfl))
 f189:=Tryz.func252.trans (congrArg some (by kernel_rfl))
 f215:=Tryz.func299.trans (congrArg some (by kernel_rfl))
 f216:=Tryz.func285.trans (congrArg some (by kernel_rfl))
 f257:=Tryz.func273.trans (congrArg some (by kernel_rfl))
 f294:=Tryz.func279.trans (congrArg some (by kernel_rfl))
 f295:=Tryz.func280.trans (congrArg some (by kernel_rfl))
 f296:=Tryz.func281.trans (congrArg some (by kernel_rfl))
 f297:=Tryz.func282.trans (congrArg some (by kernel_rfl))
 f298:=Tryz.func283.trans (congrArg some (by kernel_rfl))
 f299:=Tryz.func284.trans (congrArg some (by kernel_rfl))
 f300:=Tryz.func286.trans (congrArg some (by kernel_rfl))
 f301:=Tryz.func287.trans (congrArg some (by kernel_rfl))
 f328:=Tryz.func294.trans (congrArg some (by kernel_rfl))
 f329:=Tryz.func295.trans (congrArg some (by kernel_rfl))
 f330:=Tryz.func296.trans (congrArg some (by kernel_rfl))
 f331:=Tryz.func297.trans (congrArg some (by kernel_rfl))
 f332:=Tryz.func298.trans (congrArg some (by kernel_rfl))
 f343:=Tryz.func304.trans (congrArg some (by kernel_rfl))
 t0:=Tryz.underlying0
 a0:=Tryz.isAgg0
 z0:=Tryz.sizeOf0
 v0:=Tryz.zeroValue0
 t3:=Tryz.underlying3
 a3:=Tryz.isAgg3
 z3:=Tryz.sizeOf3
 v3:=Tryz.zeroValue3
 t4:=Tryz.underlying4
 a4:=Tryz.isAgg4
 z4:=Tryz.sizeOf4
 v4:=Tryz.zeroValue4
 t5:=Tryz.underlying5
 a5:=Tryz.isAgg5
 z5:=Tryz.sizeOf5
 v5:=Tryz.zeroValue5
 t9:=Tryz.underlying9
 a9:=Tryz.isAgg9
 z9:=Tryz.sizeOf9
 v9:=Tryz.zeroValue9
 t28:=Tryz.underlying22
 a28:=Tryz.isAgg22
 z28:=Tryz.sizeOf22
 v28:=Tryz.zeroValue22
 t46:=Tryz.underlying272
 a46:=Tryz.isAgg272
 z46:=Tryz.sizeOf272
 v46:=Tryz.zeroValue272
 t51:=Tryz.underlying238
 a51:=Tryz.isAgg238
 z51:=Tryz.sizeOf238
 v51:=Tryz.zeroValue238
 t53:=Tryz.underlying337
 a53:=Tryz.isAgg337
 z53:=Tryz.sizeOf337
 v53:=Tryz.zeroValue337
 t131:=Tryz.underlying226
 a131:=Tryz.isAgg226
 z131:=Tryz.sizeOf226
 v131:=Tryz.zeroValue226
 t182:=Tryz.underlying328
 a182:=Tryz.isAgg328
 z182:=Tryz.sizeOf328
 v182:=Tryz.zeroValue328
 t183:=Tryz.underlying329
 a183:=Tryz.isAgg329
 z183:=Tryz.sizeOf329
 v183:=Tryz.zeroValue329
 t218:=Tryz.underlying339
 a218:=Tryz.isAgg339
 z218:=Tryz.sizeOf339
 v218:=Tryz.zeroValue339
 t222:=Tryz.underlying343
 a222:=Tryz.isAgg343
 z222:=Tryz.sizeOf343
 v222:=Tryz.zeroValue343
 t228:=Tryz.underlying346
 a228:=Tryz.isAgg346
 z228:=Tryz.sizeOf346
 v228:=Tryz.zeroValue346
 t229:=Tryz.underlying304
 a229:=Tryz.isAgg304
 z229:=Tryz.sizeOf304
 v229:=Tryz.zeroValue304}
def Tryz.lays2_20_ren:Go.Shelf.Ren:=⟨fun|20=>264|n=>n,fun|22=>22|3=>3|4=>4|0=>0|n=>n,fun|n=>n⟩
theorem Tryz.lays2_20:Go.Proofs.Lays2.n20 Tryz.prog Tryz.lays2_20_ren:={
 mixed:=by kernel_rfl
 f20:=Tryz.func264.trans (congrArg some (by kernel_rfl))
 t0:=Tryz.underlying0
 a0:=Tryz.isAgg0
 z0:=Tryz.sizeOf0
 v0:=Tryz.zeroValue0
 t3:=Tryz.underlying3
 a3:=Tryz.isAgg3
 z3:=Tryz.sizeOf3
 v3:=Tryz.zeroValue3
 t4:=Tryz.underlying4
 a4:=Tryz.isAgg4
 z4:=Tryz.sizeOf4
 v4:=Tryz.zeroValue4
 t22:=Tryz.underlying22
 a22:=Tryz.isAgg22
 z22:=Tryz.sizeOf22
 v22:=Tryz.zeroValue22
 i3:=by kernel_rfl}
end Go.Proofs
namespace Go.Proofs.YthlcobdnemhcdaaGreat.K
open Go.RowKit Go.Shelf
def QpK:Ent:=XD [.ms 50000] [.arr 3 tI] (fun _ y=>(WC y.1)) (fun _ _=> .tu []) (fun _ y=>[.arr 3 tI (YK y.1)])
theorem QBr:Q6 Tryz.prog 252:= .inr ⟨by decide,_,Tryz.func252,by kernel_rfl,by kernel_rfl⟩
def QpL:Ent:=XD [.ms 50000] [.arr 3 tI] (fun _ y=>(WC y.1)) (fun _ y=> .t (.sl tI) (Lib.compact y.1)) (fun _ _=>[.no])
theorem QBs:Q6 Tryz.prog 264:= .inr ⟨by decide,_,Tryz.func264,by kernel_rfl,by kernel_rfl⟩
theorem QBt:Qp Tryz.prog 252 (Qq QpK):=
 QCZ (by decide) (Any.slices_Sort_int Tryz.lays189) (Any.slices_Sort_int_none Tryz.lays189)
theorem QBu:Qp Tryz.prog 264 (Qq QpL):=
 QC0 (by decide) (Any.slices_Compact_int Tryz.lays2_20) (Any.slices_Compact_int_empty Tryz.lays2_20)
end Go.Proofs.YthlcobdnemhcdaaGreat.K
