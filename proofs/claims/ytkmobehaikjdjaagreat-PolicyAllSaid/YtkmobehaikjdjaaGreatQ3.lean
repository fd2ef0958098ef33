import Derived.Test.YtkmobehaikjdjaaGreatQ2
import Derived.WalkKit
import Derived.ProofKit
import Derived.OpenShut
import Derived.ShutString
import Derived.ChangeOld
import Derived.Below
import Derived.Deep.Slices
import Derived.Deep.Fields
import Derived.Laws.BytesString
import Derived.Sort.OwnSortedInts
import Derived.Lib.SlicesCompact
import Derived.Test.YtkmobehaikjdjaaGreatProg
import Derived.KernelRfl
import Derived.IntWalk
import Derived.Shelf.Sort.Plain
import Derived.Ground.NamesProg
import Derived.Ground.Names2Prog
import Derived.Shelf.Slices.In.SortNone
import Derived.Shelf.Slices.CompactI
set_option linter.unusedSimpArgs false
set_option linter.unusedVariables false
noncomputable section
/-
 A run through a function's text:what it makes,the program's function makes.
-/
namespace Go.Proofs.YtkmobehaikjdjaaGreat.K
open Go.RowKit
section
variable {P:Program}{B:Base}{X X':Nat->Nat->Prop}{w w':World}{Z Z':Pl}{n:Nat}{S:VS}{us:List Value}
theorem QS0 {g:G}(hg:GOk P g)(hm:P.follows .mixedOrders=true): ∀ (tc:TC) {B:Base} {ro:Option Nat} {M:Type} {S:VS} {K:Exit->VS->Option M} {r:M},ro=none∨tc.nrf=true->tc.lok g->ev g tc S K=some r->JV P B g.n ro (fun e S'=>K e S'=some r) tc.er S:=by
 intro tc
 induction tc with
 |sk=>
  intro B ro M S K r hro lk h c hc nn X w Z us ms ha
  cases c with
  |skip=>exact wpIn_skip ⟨S,X,Z,us,ms,ha,rfl,h⟩
  |region id ops d=>cases d<;>simp [trC,TC.er] at hc
  |cond x a b=>simp only [trC,TC.er] at hc;split at hc<;>cases hc
  |rangeFunc x p a b=>simp only [trC,TC.er] at hc;split at hc<;>cases hc
  |_=>simp [trC,TC.er] at hc
 |rt=>
  intro B ro M S K r hro lk h c hc nn X w Z us ms ha
  cases c with
  |ret=>exact wpIn_ret ⟨S,X,Z,us,ms,ha,rfl,h⟩
  |region id ops d=>cases d<;>simp [trC,TC.er] at hc
  |cond x a b=>simp only [trC,TC.er] at hc;split at hc<;>cases hc
  |rangeFunc x p a b=>simp only [trC,TC.er] at hc;split at hc<;>cases hc
  |_=>simp [trC,TC.er] at hc
 |ex id=>
  intro B ro M S K r hro lk h c hc nn X w Z us ms ha
  cases c with
  |exit i=>
   simp only [trC,TC.er,AC.ex.injEq] at hc
   subst hc
   exact wpIn_exit ⟨S,X,Z,us,ms,ha,rfl,h⟩
  |region id ops d=>cases d<;>simp [trC,TC.er] at hc
  |cond x a b=>simp only [trC,TC.er] at hc;split at hc<;>cases hc
  |rangeFunc x p a b=>simp only [trC,TC.er] at hc;split at hc<;>cases hc
  |_=>simp [trC,TC.er] at hc
 |reg rs=>
  intro B ro M S K r hro lk h c hc nn X w Z us ms ha
  cases c with
  |region id ops d=>
   cases d with
   |true=>simp [trC,TC.er] at hc
   |false=>
    simp only [trC,TC.er,AC.reg.injEq] at hc
    refine wpIn_region_list ?_
    exact QuH hg h hc ha fun S' X' w' Z' us' ha' hk=>⟨S',X',Z',us',ms,ha',rfl,hk⟩
  |cond x a b=>simp only [trC,TC.er] at hc;split at hc<;>cases hc
  |rangeFunc x p a b=>simp only [trC,TC.er] at hc;split at hc<;>cases hc
  |_=>simp [trC,TC.er] at hc
 |dr ds os t=>
  intro B ro M S K r _ _ h
  exact Q1m hg hm h fun S' hk=>hk
 |sq a b iha ihb=>
  intro B ro M S K r hro lk h c hc nn X w Z us ms ha
  cases c with
  |seq x y=>
   simp only [trC,TC.er,AC.sq.injEq] at hc
   refine wpIn_seq (wpIn_mono (iha (hro.imp_right fun q=>(Bf.1 q).1) lk.1 h x hc.1 nn X w Z us ms ha) ?_)
   rintro e a' w' ⟨S',X',Z',us',ms',h1,rfl,h4⟩
   cases e with
   |normal=>exact ihb (hro.imp_right fun q=>(Bf.1 q).2) lk.2 h4 y hc.2 nn X' w' Z' us' ms' h1
   |_=>exact ⟨S',X',Z',us',ms',h1,rfl,h4⟩
  |region id ops d=>cases d<;>simp [trC,TC.er] at hc
  |cond x a b=>simp only [trC,TC.er] at hc;split at hc<;>cases hc
  |rangeFunc x p a b=>simp only [trC,TC.er] at hc;split at hc<;>cases hc
  |_=>simp [trC,TC.er] at hc
 |cd x a b iha ihb=>
  intro B ro M S K r hro lk h c hc nn X w Z us ms ha
  cases c with
  |cond o p q=>
   simp only [trC,TC.er] at hc
   split at hc
   ·rename_i x' hx
    simp only [AC.cd.injEq] at hc
    obtain ⟨rfl,h2,h3⟩:=hc
    simp only [ev] at h
    split at h
    ·rename_i t ht
     have hu:=Zi hx (by rw [ht];rfl) ha.rel
     rw [ht] at hu
     have hu:=(C.v hu).1
     rcases U2 h with ⟨rfl,h⟩|⟨rfl,h⟩
     ·exact wpIn_cond_true hu (iha (hro.imp_right fun q=>(Bf.1 q).1) lk.1 h p h2 nn X w Z us ms ha)
     ·exact wpIn_cond_false hu (ihb (hro.imp_right fun q=>(Bf.1 q).2) lk.2 h q h3 nn X w Z us ms ha)
    ·cases h
   ·cases hc
  |region id ops d=>cases d<;>simp [trC,TC.er] at hc
  |rangeFunc x p a b=>simp only [trC,TC.er] at hc;split at hc<;>cases hc
  |_=>simp [trC,TC.er] at hc
 |bk id a iha=>
  intro B ro M S K r hro lk h c hc nn X w Z us ms ha
  cases c with
  |block i x=>
   simp only [trC,TC.er,AC.bk.injEq] at hc
   obtain ⟨rfl,hc⟩:=hc
   refine wpIn_block (wpIn_mono (iha hro lk h x hc nn X w Z us ms ha) ?_)
   rintro e a' w' ⟨S',X',Z',us',ms',h1,rfl,h4⟩
   cases e with
   |exit j=>
    simp only [Exit.inBlock]
    simp only at h4
    split at h4
    ·rename_i hj
     rw [if_pos hj]
     exact ⟨S',X',Z',us',ms',h1,rfl,h4⟩
    ·rename_i hj
     rw [if_neg hj]
     exact ⟨S',X',Z',us',ms',h1,rfl,h4⟩
   |_=>exact ⟨S',X',Z',us',ms',h1,rfl,h4⟩
  |region id ops d=>cases d<;>simp [trC,TC.er] at hc
  |cond x a b=>simp only [trC,TC.er] at hc;split at hc<;>cases hc
  |rangeFunc x p a b=>simp only [trC,TC.er] at hc;split at hc<;>cases hc
  |_=>simp [trC,TC.er] at hc
 |lp j f a iha=>
  intro B ro M S K r hro lk h c hc nn X w Z us ms ha
  cases c with
  |loop x=>
   simp only [trC,TC.er,AC.lp.injEq] at hc
   simp only [ev] at h
   split at h
   ·rename_i q l hL
    obtain ⟨rfl,h⟩:=Zh h
    obtain ⟨e1,S1,hp,h⟩:=QkZ h
    have hl:=lk.1 S l (e1,S1) hL hp
    obtain ⟨m,hn⟩:=FW.1 hl
    refine wpIn_mono (Q:=QuE B g.n (fun e S'=>(e,S')=(e1,S1))) ?_ ?_
    ·refine Q0O (fun m a' w'=> ∃ S X' Z' us' ms',a'=⟨us'.toArray,mks ms'⟩/\At (B.mk' ms') X' w' Z' g.n S us'/\XE (Qx g f a) m S=some (e1,S1)) ?_ m _ _ ⟨S,X,Z,us,ms,rfl,ha,hn⟩
     rintro m a' w' ⟨S0,X',Z',us',ms',rfl,ha',hm'⟩
     cases m with
     |zero=>cases hm'
     |succ m=>
      simp only [XE] at hm'
      split at hm'
      ·rename_i S2 hb
       refine wpIn_mono (iha hro lk.2 hb x hc nn X' w' Z' us' ms' (ha'.fgt f)) ?_
       rintro e a2 w2 ⟨S3,X2,Z2,us2,ms2,k1,rfl,k3⟩
       cases e with
       |normal=>
        simp only [QdH,Be,Bq,true_and] at k3
        subst k3
        exact ⟨m,by omega,_,X2,Z2,us2,ms2,rfl,k1.fgt f,hm'⟩
       |_=>simp [QdH] at k3
      ·rename_i hne
       refine wpIn_mono (iha hro lk.2 hm' x hc nn X' w' Z' us' ms' (ha'.fgt f)) ?_
       rintro e a2 w2 ⟨S3,X2,Z2,us2,ms2,k1,rfl,k3⟩
       cases e with
       |normal=>
        simp only [QdH,Be,Bq] at k3
        obtain ⟨rfl,rfl⟩:=k3
        exact absurd hm' (hne _)
       |_=>
        simp only [QdH,Be,Bq] at k3
        obtain ⟨rfl,rfl⟩:=k3
        exact ⟨S3,X2,Z2,us2,ms2,k1,rfl,rfl⟩
    ·rintro e a' w' ⟨S',X',Z',us',ms',h1,rfl,h3⟩
     injection h3 with h4 h5
     subst h4 h5
     exact ⟨S',X',Z',us',ms',h1,rfl,h⟩
   ·cases h
  |region id ops d=>cases d<;>simp [trC,TC.er] at hc
  |cond x a b=>simp only [trC,TC.er] at hc;split at hc<;>cases hc
  |rangeFunc x p a b=>simp only [trC,TC.er] at hc;split at hc<;>cases hc
  |_=>simp [trC,TC.er] at hc
 |fg f a iha=>
  intro B ro M S K r hro lk h c hc nn X w Z us ms ha
  exact iha hro lk h c hc nn X w Z us ms (ha.fgt f)
 |nw s e a iha=>
  intro B ro M S K r hro lk h c hc nn X w Z us ms ha
  obtain ⟨S',Z',h1,h2⟩:=Q0R h ha
  exact iha hro lk h1 c hc nn X w Z' us ms h2
 |nf j i e k a iha=>
  intro B ro M S K r hro lk h c hc nn X w Z us ms ha
  obtain ⟨S',Z',h1,h2⟩:=Q0U h ha
  exact iha hro lk h1 c hc nn X w Z' us ms h2
 |fz ks a iha=>
  intro B ro M S K r hro lk h c hc nn X w Z us ms ha
  obtain ⟨X',h1,_⟩:=ha.fzs ks
  exact iha hro lk h c hc nn X' w Z us ms h1
 |ad l a iha=>
  intro B ro M S K r hro lk h c hc nn X w Z us ms ha
  obtain ⟨Z',h1⟩:=ha.mvks l
  exact iha hro lk h c hc nn X w Z' us ms h1
 |mv l a iha=>
  intro B ro M S K r hro lk h c hc nn X w Z us ms ha
  refine wpIn_mono (iha hro lk h c hc nn X w Z us ms ha) ?_
  rintro e a' w' ⟨S',X',Z',us',ms',h1,rfl,h4⟩
  cases e with
  |normal=>
   obtain ⟨X2,S2,Z2,h4,h2⟩:=Q0T h4 h1
   exact ⟨S2,X2,Z2,us',ms',h2,rfl,h4⟩
  |_=>exact ⟨S',X',Z',us',ms',h1,rfl,h4⟩
 |rg j f f2 a iha=>
  intro B ro M S K r hro lk h c hc nn X w Z us ms ha
  simp only [ev] at h
  split at h
  ·rename_i q l hL
   obtain ⟨rfl,h⟩:=Zh h
   obtain ⟨e1,S1,hp,h⟩:=QkZ h
   have hl:=lk.1 S l (e1,S1) hL hp
   refine wpIn_mono (iha hro lk.2 hl c hc nn X w Z us ms (ha.fgt f)) ?_
   rintro e a' w' ⟨S',X',Z',us',ms',h1,rfl,h3⟩
   simp only [Be,Bq] at h3
   obtain ⟨rfl,rfl⟩:=h3
   exact ⟨_,X',Z',us',ms',h1.fgt f2,rfl,h⟩
  ·cases h
 |rf j f x yr ps pr a b iha ihb=>
  intro B ro M S K r hro lk h c hc nn X w Z us ms ha
  rcases hro with rfl|hro
  ·exact Q1v hg iha ihb lk h c hc nn X w Z us ms ha
  ·cases hro
end
inductive RV where
 |t (i:Nat)
 |c (i:Nat) (agg:Bool) (n:Nat)
def trV (P:Program):ResultVar->Option RV
 |.tmp t=>some (.t t)
 |.cell a t=>match P.underlying t,P.info? t with
  |some d,some inf=>some (.c a (isRow d) inf.size)
  |_,_=>none
def Ey (P:Program):List ResultVar->Option (List RV)
 | []=>some []
 |r::l=>match trV P r,Ey P l with
  |some a,some b=>some (a::b)
  |_,_=>none
section
variable {M:Type}
def RV.run (S:VS)(K:V->Option M):RV->Option M
 |.t i=>nz (S.ts i) K
 |.c i agg n=>match S.ts i with
  |.ptr j o=>match S.st j with
   |.box z=>match z.sub true o n agg with
    |some v=>nz v K
    |none=>none
   |_=>none
  |_=>none
def castR (t:Option Ty)(v:V)(K:V->Option M):Option M:=
 match t with
 |none=>K v
 |some y=>match v.as y with
  |some x=>K (.t y x)
  |none=>none
def Ot (S:VS):List (RV×Option Ty)->(List V->Option M)->Option M
 | [],K=>K []
 |r::l,K=>r.1.run S fun v=>castR r.2 v fun v=>Ot S l fun vs=>K (v::vs)
end
def Ou:List V->V
 | [v]=>v
 |vs=> .tu vs
def exs (vs:List V):List Nat:=((V.refss vs).filter fun k=>decide (k<50000)).eraseDups
def exr (es:List Nat)(m k:Nat):Nat:=if 50000<=k then k else 50000+m+es.idxOf k
def retOk (S:VS)(m:Nat)(es:List Nat)(vs:List V):Bool:=
 decide es.Nodup&&(((V.refss vs).all fun k=>decide (50000<=k/\k<50000+m)||es.contains k)&&((es.all fun k=>decide (k<50000)&&((match S.st k with|.no=>false|_=>true)&&(S.st k).refs.isEmpty))&&
  (List.range m).all fun j=>(S.st (50000+j)).refs.all fun k=>decide (50000<=k/\k<50000+m)))
def QgT (S:VS)(m:Nat)(es:List Nat)(vs:List V):Option (V×List VO):=
 if retOk S m es vs=true then some ((Ou vs).ren (exr es m),((List.range m).map fun j=>S.st (50000+j))++es.map fun k=>S.st k) else none
def QgU (rv:List (RV×Option Ty))(ro:Bool)(m:Nat)(S:VS):Option (V×List VO):=
 Ot S (rv.map fun r=>(r.1,none)) fun vs=>if ro=true then QgT S m (exs vs) vs else Ot (S.fzs (V.msss vs)) rv fun vs'=>QgT (S.fzs (V.msss vs)) m (exs vs') vs'
def Ez:Nat->List V->List (Nat×V)
 |_,[]=>[]
 |i,v::r=>(i,v)::Ez (i+1) r
def XN:Nat->List VO->List (Nat×VO)
 |_,[]=>[]
 |i,v::r=>(i,v)::XN (i+1) r
def inS (args:List V)(objs:List VO):VS:=⟨Xl (Ez 0 args),Yu (XN 50000 objs),(XN 50000 objs).map Prod.fst⟩
def JL (g:G)(tc:TC)(rv:List (RV×Option Ty))(ro:Bool):Fun:=fun args objs=>
 if args.length<=g.n then ev g tc (inS args objs) fun e S=>match e with
  |.ret=>QgU rv ro objs.length S
  |.normal=>QgU rv ro objs.length S
  |_=>none
 else none
section
variable {P:Program}{B:Base}{X X':Nat->Nat->Prop}{w w':World}{Z Z':Pl}{n:Nat}{S:VS}{us:List Value}
def EA (us:List Value):ResultVar->Sem Value
 |.tmp t=>pure (us.toArray.getD t undef)
 |.cell a t=>do loadVar t (<-asAddr (us.toArray.getD a undef))
theorem QS1 {M:Type}{K:V->Option M}{x:M}{r:ResultVar}{rv:RV}(ht:trV P r=some rv)(he:rv.run S K=some x): ∃ v,K v=some x∧ ∀ {B:Base} {X:Nat->Nat->Prop} {w:World} {Z:Pl} {n:Nat} {us:List Value},At B X w Z n S us→ ∃ u,C X w Z v.d u/\(EA us r).run P w= .ok u w:=by
 cases r with
 |tmp t=>
  simp only [trV,Be] at ht
  subst ht
  obtain ⟨h1,h2⟩:=U5 he
  refine ⟨_,h2,fun {B X w Z n us} ha=>⟨_,Zi (o:= .tmp t) (x:= .t t) rfl h1 ha.rel, ?_⟩⟩
  simp [Act.eval,EA]
 |cell a t=>
  simp only [trV] at ht
  split at ht
  ·rename_i dd inf hd hin
   simp only [Be] at ht
   subst ht
   simp only [RV.run] at he
   split at he
   ·rename_i j o hx
    split at he
    ·rename_i c hst
     split at he
     ·rename_i v hs
      obtain ⟨h1,h2⟩:=U5 he
      refine ⟨v,h2,fun {B X w Z n us} ha=> ?_⟩
      have k1:=Zi (o:= .tmp a) (x:= .t a) rfl (by simp only [AX.xv,hx];rfl) ha.rel
      simp only [AX.xv,hx,V.d,C] at k1
      obtain ⟨b,e1,e2⟩:=k1
      have hat:=ha.ti.obj j
      rw [hst] at hat
      obtain ⟨b',ty,vs,g1,g2,g3,g4⟩:=hat
      rw [g1] at e1
      injection e1 with e1
      subst e1
      obtain ⟨s1,s2⟩:=V.sub_spec hs
      have hl:=g3.len
      obtain ⟨u,q1,q2⟩:=QF2 (P:=P) (b:=b') (off:=o) (vs:=vs.drop o) (ds:=c.d.cells.drop o) (d:=v.d) hd hin (g3.drop_ _) (fun i u hu=>by
       rw [Dn] at hu
       rw [cell_of_row w b' (o+i) vs.toArray ty (0,0) g2]
       simpa using hu) (fun ha=>by
        obtain ⟨t1,t2⟩:=s1 ha
        exact ⟨t1,by rw [Di];omega⟩) (fun ha=>by
        rw [Dn]
        exact s2 ha)
      refine ⟨u,q2, ?_⟩
      simp only [Act.eval] at e2
      simp only [EA,Sem.run_bind,e2,asAddr,Sem.run_pure,Result.andThen_ok,q1]
     ·cases he
    ·cases he
   ·cases he
  ·cases ht
theorem Qpz {M:Type}{x:M}: ∀ {rs:List ResultVar} {rv:List (RV×Option Ty)} {K:List V->Option M},Ey P rs=some (rv.map Prod.fst)->Ot S rv K=some x→ ∃ vs,K vs=some x∧ ∀ {B:Base} {X:Nat->Nat->Prop} {w:World} {Z:Pl} {n:Nat} {us:List Value},At B X w Z n S us→
  ∃ xs,Cs X w Z (V.ds vs) xs/\(rs.mapM (EA us)).run P w= .ok xs w
 | [],rv,K,ht,he=>by
  simp only [Ey,Be] at ht
  have:rv=[]:=List.map_eq_nil_iff.1 ht.symm
  subst this
  exact ⟨[],he,fun _=>⟨[],by simp [V.ds,Cs],by simp⟩⟩
 |r::rs,rv,K,ht,he=>by
  simp only [Ey] at ht
  split at ht
  ·rename_i a b ha hb
   simp only [Be] at ht
   cases rv with
   |nil=>cases ht
   |cons q rv=>
    simp only [BO,List.cons.injEq] at ht
    obtain ⟨rfl,rfl⟩:=ht
    simp only [Ot] at he
    obtain ⟨v0,h0,h2⟩:=QS1 ha he
    have hcast: ∃ v,Ot S rv (fun vs=>K (v::vs))=some x∧ ∀ {X:Nat->Nat->Prop} {w:World} {Z:Pl} {u:Value},C X w Z v0.d u->C X w Z v.d u:=by
     unfold castR at h0
     split at h0
     ·exact ⟨v0,h0,fun h=>h⟩
     ·split at h0
      ·rename_i y z hz
       exact ⟨_,h0,fun h=>C.up _ _ (V.as_spec hz h)⟩
      ·cases h0
    obtain ⟨v,h1,hcv⟩:=hcast
    obtain ⟨vs,h3,h4⟩:=Qpz hb h1
    refine ⟨v::vs,h3,fun {B X w Z n us} hat=> ?_⟩
    obtain ⟨u,q1,q2⟩:=h2 hat
    obtain ⟨xs,q3,q4⟩:=h4 hat
    refine ⟨u::xs,by simp only [V.ds];exact Cs.cons (hcv q1) q3, ?_⟩
    rw [List.mapM_cons]
    simp only [Sem.run_bind,q2,q4,Result.andThen_ok,Sem.run_pure]
  ·cases ht
theorem QCG {fn:Func}{vs:List V}{xs:List Value}(hc:Cs X w Z (V.ds vs) xs)(h:(fn.results.toList.mapM (EA us)).run P w= .ok xs w): ∃ u,C X w Z (Ou vs).d u/\(results fn us.toArray).run P w= .ok u w:=by
 have hm:(fn.results.mapM (EA us)).run P w= .ok xs.toArray w:=by
  rw [Array.mapM_eq_mapM_toList]
  rw [map_eq_pure_bind,Sem.run_bind,h]
  rfl
 have hf:results fn us.toArray=(do let vs <- fn.results.mapM (EA us);pure (if h:vs.size=1 then vs[0] else .tuple vs)):=by
  unfold results
  congr 1
 rw [hf,Sem.run_bind,hm]
 have hlen:=hc.len
 rw [V.ds_eq,BT] at hlen
 unfold Ou
 split
 ·rename_i v
  simp only [V.ds] at hc
  obtain ⟨u,rfl,hu⟩:=hc.one
  exact ⟨u,hu,by simp⟩
 ·rename_i hne
  have h0:xs.toArray.size≠1:=by
   intro h
   rcases vs with _|⟨d,_|⟨d2,r⟩⟩
   ·simp at hlen;simp [hlen] at h
   ·exact hne d rfl
   ·simp at hlen h;omega
  refine ⟨.tuple xs.toArray,by simp only [V.d,C];exact ⟨xs,rfl,hc⟩, ?_⟩
  simp only [Result.andThen_ok,dif_neg h0,Sem.run_pure]
theorem OAt.pl {k k':Nat}{o:VO}(h:OAt X w Z k o)(hk:Z' k'=Z k)(hr: ∀ r∈o.refs,Z' r=Z r):OAt X w Z' k' o:=by
 cases o with
 |no=>trivial
 |box v=>
  obtain ⟨b,ty,vs,h1,h2,h3,h4⟩:=h
  exact ⟨b,ty,vs,hk.trans h1,h2,Cs.ext (Ext.refl X w) _ _ (fun r hr'=>hr r (by rw [V.refs_dcells] at hr';exact hr')) h3,h4⟩
 |arr e y l=>
  obtain ⟨u,xs,h1,h2⟩:=h
  exact ⟨u,xs,hk.trans h1,h2⟩
theorem QS2 (vs:List V):(Ou vs).refs=V.refss vs:=by
 unfold Ou
 split
 ·simp [V.refss]
 ·rfl
theorem QCH {Z0:Pl}{m:Nat}{es:List Nat}{vs:List V}{rv:V}{os:List VO}{u:Value}{X0 X1:Nat->Nat->Prop}{w0 w1:World}(h:QgT S m es vs=some (rv,os))(ha:At ⟨X0,w0,X5 Z0 m,Z0,[],X1,w1⟩ X w Z n S us)(hu:C X w Z (Ou vs).d u):
  ∃ Z',C X w Z' rv.d u/\Ends X0 w0 Z0 m X w Z' os:=by
 unfold QgT at h
 split at h
 ·rename_i hok
  simp only [Be,Bq] at h
  obtain ⟨rfl,rfl⟩:=h
  simp only [retOk,Bd,Ba,Bi,Dj,BR,D3,Dl] at hok
  obtain ⟨k1,k2,k3,k4⟩:=hok
  let τ:Pl:=fun k=>if 50000+m<=k/\k-50000-m<es.length then Z (es.getD (k-50000-m) 0) else Z k
  have τ0: ∀ k,k<50000+m->τ k=Z k:=fun k hk=>if_neg (by omega)
  have τ1: ∀ (i:Nat) k,es[i]? = some k->τ (50000+m+i)=Z k:=by
   intro i k hi
   have hlt:=(BN.1 hi).1
   have e1:50000+m+i-50000-m=i:=by omega
   simp only [τ,e1]
   rw [if_pos ⟨by omega,hlt⟩,Bp,hi]
   rfl
  have live1: ∀ k∈es,S.st k≠ .no:=fun k hk hn=>by have:=(k3 k hk).2.1;rw [hn] at this;cases this
  have hlen:(((List.range m).map fun j=>S.st (50000+j))++es.map fun k=>S.st k).length=m+es.length:=by simp
  -- the number of a thing that is handed out
  have src: ∀ j,j<m+es.length→ ∃ k,(((List.range m).map fun j=>S.st (50000+j))++es.map fun k=>S.st k)[j]? = some (S.st k)/\τ (50000+j)=Z k/\(m<=j->S.st k≠ .no)/\(j<m->k=50000+j)/\(m<=j->es[j-m]? = some k):=by
   intro j hj
   rcases Dg j m with hlt|hge
   ·exact ⟨50000+j,by rw [DF (by simpa using hlt),Dm,List.getElem?_range hlt];rfl,τ0 _ (by omega),fun h=>by omega,fun _=>rfl,fun h=>by omega⟩
   ·have hl:j-m<es.length:=by omega
    refine ⟨es[j-m],by rw [List.getElem?_append_right (by simpa using hge),Dm];simp [Bl hl], ?_,fun _=>live1 _ (BC hl),fun h=>by omega,fun _=>Bl hl⟩
    have:=τ1 (j-m) _ (Bl hl)
    rw [<-this]
    congr 1
    omega
  refine ⟨τ,FU _ u (fun k hk=> ?_) hu,⟨ha.ti.fin,fun j o hj=> ?_,fun i j b hij hi hj ni nj hb hb'=> ?_,by rw [hlen];omega,fun j hj=> ?_,fun j b hj hj2 hb=> ?_,ha.ti.fr,fun b q hb=>(ha.ti.old b q hb).1,fun b q hb hu hx=> ?_⟩⟩
  ·rw [QS2] at hk
   rcases k2 k hk with hk'|hk'
   ·rw [exr,if_pos hk'.1]
    exact τ0 k hk'.2
   ·have hlt:=(k3 k hk').1
    rw [exr,if_neg (by omega)]
    obtain ⟨i,hi⟩:=DX.1 hk'
    rw [Ge k1 hi]
    exact τ1 i k hi
  ·have hjl:j<m+es.length:=by rw [<-hlen];exact (BN.1 hj).1
   obtain ⟨k,q1,q2,q3,q4,q5⟩:=src j hjl
   rw [q1] at hj
   injection hj with hj
   subst hj
   refine ⟨(ha.ti.obj k).pl q2 (fun r hr=> ?_),q3⟩
   rcases Dg j m with hlt|hge
   ·have:=k4 j hlt r (by rw [<-q4 hlt];exact hr)
    exact τ0 r this.2
   ·have:=(k3 k (Ds (q5 hge))).2.2
    rw [this] at hr
    cases hr
  ·rw [hlen] at hi hj
   obtain ⟨k,q1,q2,_,q4,q5⟩:=src i hi
   obtain ⟨k',p1,p2,_,p4,p5⟩:=src j hj
   rw [q2] at hb
   rw [p2] at hb'
   have q3:S.st k≠ .no:=fun he=>ni (by rw [q1,he])
   have p3:S.st k'≠ .no:=fun he=>nj (by rw [p1,he])
   refine ha.ti.apart k k' b (fun he=> ?_) q3 p3 hb hb'
   subst he
   rcases Dg i m with h1|h1
   ·rcases Dg j m with h2|h2
    ·have:=q4 h1;have:=p4 h2;omega
    ·have e1:=q4 h1
     have:=(k3 k (Ds (p5 h2))).1
     omega
   ·rcases Dg j m with h2|h2
    ·have e1:=p4 h2
     have:=(k3 k (Ds (q5 h1))).1
     omega
    ·have e1:=Ge k1 (q5 h1)
     have e2:=Ge k1 (p5 h2)
     omega
  ·rw [τ0 _ (by omega)]
   exact ha.ti.lnt _ (by simp only [Wq];omega)
  ·rw [hlen] at hj2
   obtain ⟨k,_,q2,q3,_,q5⟩:=src j hj2
   have q3:=q3 hj
   rw [q2] at hb
   rcases ha.ti.own k b q3 hb with h1|h1
   ·right
    simp only [X5,List.mem_filterMap,Dl] at h1
    obtain ⟨i,hi,hib⟩:=h1
    refine ⟨i,hi, ?_,hib⟩
    obtain ⟨k',p1,p2,_,p4,_⟩:=src i (by omega)
    rw [p1]
    by_cases hn:S.st k'= .no
    ·rw [hn]
    ·refine absurd hb (ha.ti.apart k' k b (fun he=> ?_) hn q3 ?_)
     ·have:=(k3 k (Ds (q5 hj))).1
      have:=p4 hi
      omega
     ·rw [p4 hi,ha.ti.lnt _ (by simp only [Wq];omega)]
      exact hib
   ·exact .inl h1
  ·by_cases hl:b∈X5 Z0 m
   ·simp only [X5,List.mem_filterMap,Dl] at hl
    obtain ⟨i,hi,hib⟩:=hl
    obtain ⟨k',p1,p2,_,p4,_⟩:=src i (by omega)
    by_cases hn:S.st k'= .no
    ·exact absurd hib (hu i hi (by rw [p1,hn]))
    ·refine (ha.ti.obj k').all hn ?_ q
     rw [p4 hi,ha.ti.lnt _ (by simp only [Wq];omega)]
     exact hib
   ·exact (ha.ti.old b q hb).2 hl hx
 ·cases h
theorem QCI: ∀ (args:List V) (i j:Nat),Xl (Ez i args) (i+j)=args.getD j .un
 | [],i,j=>rfl
 |v::r,i,0=>by simp [Ez,Xl]
 |v::r,i,j+1=>by
  simp only [Ez,Xl]
  rw [if_neg (by omega)]
  have:=QCI r (i+1) j
  rw [show i+(j+1)=i+1+j from by omega,this]
  simp
theorem QpA: ∀ (args:List V) (i k:Nat),i+args.length<=k->Xl (Ez i args) k= .un
 | [],i,k,_=>rfl
 |v::r,i,k,h=>by
  simp only [Br] at h
  simp only [Ez,Xl]
  rw [if_neg (by omega)]
  exact QpA r (i+1) k (by omega)
theorem QCJ: ∀ (objs:List VO) (i j:Nat),Yu (XN i objs) (i+j)=objs.getD j .no
 | [],i,j=>rfl
 |v::r,i,0=>by simp [XN,Yu]
 |v::r,i,j+1=>by
  simp only [XN,Yu]
  rw [if_neg (by omega)]
  have:=QCJ r (i+1) j
  rw [show i+(j+1)=i+1+j from by omega,this]
  simp
theorem QCK: ∀ (objs:List VO) (i k:Nat),k<i->Yu (XN i objs) k= .no
 | [],i,k,_=>rfl
 |v::r,i,k,h=>by
  simp only [XN,Yu]
  rw [if_neg (by omega)]
  exact QCK r (i+1) k (by omega)
theorem QCL: ∀ (objs:List VO) (i k:Nat),Yu (XN i objs) k≠ .no->k∈(XN i objs).map Prod.fst
 | [],i,k,h=>absurd rfl h
 |v::r,i,k,h=>by
  simp only [XN,Yu] at h
  simp only [XN,BO]
  split at h
  ·rename_i hk;rw [hk];exact Df
  ·exact B8 _ (QCL r (i+1) k h)
theorem QS3 {g:G}{f:FuncId}{fn:Func}{c:Code}{tc:TC}{rv:List (RV×Option Ty)}{ro:Bool}(hlt:f<1000000)(hf:P.funcs[f]? = some fn)(hb:fn.body=some c)(hc:trC P c=tc.er)(hn:fn.ntmps=g.n)(hr:Ey P fn.results.toList=some (rv.map Prod.fst))(hg:GOk P g)(hl:tc.lok g)(hm:P.follows .mixedOrders=true):
  QH P f (JL g tc rv ro):=by
 intro args objs r os h X w Z vs hfin hlent hargs
 unfold JL at h
 split at h
 ·rename_i hle
  have hal:=hargs.len
  rw [V.ds_eq,BT] at hal
  have obj0: ∀ k,Yu (XN 50000 objs) k= .no∨ ∃ j,k=50000+j/\objs[j]? = some (Yu (XN 50000 objs) k):=by
   intro k
   rcases Dg k 50000 with hlt|hge
   ·exact .inl (QCK objs 50000 k hlt)
   ·obtain ⟨j,rfl⟩: ∃ j,k=50000+j:=⟨k-50000,by omega⟩
    rw [QCJ]
    rcases Dg j objs.length with hj|hj
    ·exact .inr ⟨j,rfl,by rw [Bp,Bl hj];rfl⟩
    ·left
     rw [Bp,DV hj]
     rfl
  have hat:At ⟨X,w,X5 Z objs.length,Z,[],X,w⟩ X w Z g.n (inS args objs) (vs++List.replicate (g.n-vs.length) undef):=by
   refine ⟨⟨hfin,fun k=> ?_,fun i j b hij hi hj hbi hbj=> ?_,fun k b hk hbk=> ?_,Fr.refl _ _,fun _ _ _=>⟨fun h=>h,fun _ h=>h⟩,fun _ _=>rfl,(fun p hp=>by cases hp),⟨List.nodup_nil,fun p hp=>by cases hp⟩,Ext0.refl X w⟩,⟨by simp;omega,fun i u hu=> ?_,fun i hi=> ?_⟩,fun j hj=>QCL objs 50000 j hj⟩
   ·simp only [inS]
    rcases obj0 k with h0|⟨j,rfl,h0⟩
    ·rw [h0];trivial
    ·exact (hlent.at_ j _ h0).1
   ·simp only [inS] at hi hj
    rcases obj0 i with h0|⟨i',rfl,h0⟩
    ·exact absurd h0 hi
    ·rcases obj0 j with h1|⟨j',rfl,h1⟩
     ·exact absurd h1 hj
     ·exact hlent.apart i' j' b (by omega) (BN.1 h0).1 (BN.1 h1).1 hbi hbj
   ·simp only [inS] at hk
    rcases obj0 k with h0|⟨j,rfl,h0⟩
    ·exact absurd h0 hk
    ·refine .inl ?_
     simp only [X5,List.mem_filterMap,Dl]
     exact ⟨j,(BN.1 h0).1,hbk⟩
   ·simp only [inS]
    rcases Dg i vs.length with hi|hi
    ·rw [DF hi] at hu
     have ha:args[i]? = some args[i]:=Bl (by omega)
     have hl:=QCI args 0 i
     rw [DY,Bp,ha] at hl
     rw [hl]
     obtain ⟨u',hu',hc'⟩:=hargs.at_ (i:=i) (d:=args[i].d) (by rw [V.ds_eq,Dm,ha];rfl)
     rw [hu] at hu'
     injection hu' with hu'
     subst hu'
     exact hc'
    ·rw [QpA args 0 i (by omega)]
     exact C.any_ u
   ·simp only [inS]
    exact QpA args 0 i (by omega)
  have hw:=QS0 (B:=⟨X,w,X5 Z objs.length,Z,[],X,w⟩) hg hm tc (.inl rfl) hl h c hc 9 X w Z _ [] hat
  refine QkW hlt (callsIn_wide.1 (callsIn_of_wp_marks (F:=Fw none) (n:=9) hf hb trivial ?_))
  have he:(vs.toArray++Array.replicate (fn.ntmps-vs.toArray.size) undef)=(vs++List.replicate (g.n-vs.length) undef).toArray:=by
   apply Array.ext'
   simp [hn]
  rw [he]
  refine wpIn_mono hw ?_
  rintro e a w1 ⟨S,X',Z',us',ms',h0,rfl,h3⟩
  obtain ⟨w',h1,hleave⟩:=QLM h0
  have hret:QgU rv ro objs.length S=some (r,os)→ ∃ u,(results fn us'.toArray).run P w'= .ok u w'∧ ∃ X1 Z1,C X1 w' Z1 r.d u/\Ends X w Z objs.length X1 w' Z1 os:=by
   intro hret
   unfold QgU at hret
   obtain ⟨vs1,q1,q2⟩:=Qpz (rv:=rv.map fun r=>(r.1,none)) (by rw [hr,DR];rfl) hret
   split at q1
   ·obtain ⟨xs,q3,q4⟩:=q2 h1
    obtain ⟨u,q5,q6⟩:=QCG q3 q4
    obtain ⟨Z1,q7,q8⟩:=QCH q1 h1 q5
    exact ⟨u,q6,X',Z1,q7,q8⟩
   ·obtain ⟨X2,h2,_⟩:=h1.fzs (V.msss vs1)
    obtain ⟨vs2,q3,q4⟩:=Qpz hr q1
    obtain ⟨xs,q5,q6⟩:=q4 h2
    obtain ⟨u,q7,q8⟩:=QCG q5 q6
    obtain ⟨Z1,q9,q10⟩:=QCH q3 h2 q7
    exact ⟨u,q8,X2,Z1,q9,q10⟩
  cases e with
  |ret=>
   obtain ⟨u,p1,X1,Z1,p2,p3⟩:=hret h3
   exact hleave ⟨u,p1,u,X1,Z1,rfl,p2,p3⟩
  |normal=>
   obtain ⟨u,p1,X1,Z1,p2,p3⟩:=hret h3
   exact hleave ⟨u,p1,u,X1,Z1,rfl,p2,p3⟩
  |_=>cases h3
 ·cases h
end
end Go.Proofs.YtkmobehaikjdjaaGreat.K
/-
 What is said of functions and of loops in types,and how it serves in the runs of others.
-/
namespace Go.Proofs.YtkmobehaikjdjaaGreat.K
open Go.RowKit
def Ty.args:(y:Ty)->List V->Option y.T
 |.pr f r,v::vs=>match v.as f,r.args vs with
  |some x,some z=>some (x,z)
  |_,_=>none
 |.nil,[]=>some ()
 |_,_=>none
abbrev Ent:=List V->List VO->Option (Bool×V×List VO)
def Qm (a:Ty)(ok:a.T->Bool)(F:a.T->V):Ent:=fun args objs=>
 match objs with
 | []=>match a.args args with
  |some x=>some (ok x,F x,[])
  |none=>none
 |_=>none
def Yz (b a:Ty)(ok:b.T->a.T->Bool)(F:b.T->a.T->V)(H:b.T->a.T->b.T):Ent:=fun args objs=>
 match args,objs with
 |.ptr 50000 0::args,[.box c]=>match c.as b,a.args args with
  |some d,some x=>some (ok d x,F d x,[.box (.t b (H d x))])
  |_,_=>none
 |_,_=>none
def QpB (b a:Ty)(ok:a.T->Bool)(H:a.T->b.T):Ent:=fun args objs=>
 match objs with
 | []=>match a.args args with
  |some x=>some (ok x,.ptr 50000 0,[.box (.t b (H x))])
  |none=>none
 |_=>none
def UQ (a:Ty)(ok:a.T->Bool)(F:a.T->V)(O:a.T->List VO):Ent:=fun args objs=>
 match objs with
 | []=>match a.args args with
  |some x=>some (ok x,F x,O x)
  |none=>none
 |_=>none
class Fuel where
 n:Nat
abbrev Jg [f:Fuel]:Nat:=f.n
def QD (F:Ent):Fun:=fun args objs=>
 match F args objs with
 |some (true,r,os)=>some (r,os)
 |_=>none
def EL:List (Nat×Ent)->Nat->Ent
 | [],_=>fun _ _=>none
 |(g,F)::r,f=>if f=g then fun args objs=>match F args objs with
   |some x=>some x
   |none=>EL r f args objs
  else EL r f
theorem QgV: ∀ {l:List (Nat×Ent)} {f:Nat} {args:List V} {objs:List VO} {x:Bool×V×List VO},EL l f args objs=some x→ ∃ F,(f,F)∈l/\F args objs=some x
 |(g,F)::r,f,args,objs,x,h=>by
  simp only [EL] at h
  split at h
  ·rename_i hfg
   subst hfg
   simp only at h
   split at h
   ·rename_i y hy
    simp only [Be] at h
    subst h
    exact ⟨F,Df,hy⟩
   ·obtain ⟨F',h1,h2⟩:=QgV h
    exact ⟨F',B8 _ h1,h2⟩
  ·obtain ⟨F',h1,h2⟩:=QgV h
   exact ⟨F',B8 _ h1,h2⟩
def IL (li:List (Nat×Itr))(f:Nat):Itr:=match li.lookup f with
 |some F=>F
 |none=>fun _ _=>none
def RL (l:List ((yr:Ty)×(VS->List yr.T->Option (Bool×List (Bool×Exit×VS)))))(j:Nat)(S:VS)(yr:Ty)(rows:List yr.T):Option (Bool×List (Bool×Exit×VS)):=
 match l[j]? with
 |some ⟨y,F⟩=>if h:yr=y then F S (h▸rows) else none
 |none=>none
section
variable {P:Program}{X:Nat->Nat->Prop}{w:World}{Z:Pl}
theorem QCM {α:Type}: ∀ {l:List (Nat×α)} {f:Nat} {x:α},l.lookup f=some x->(f,x)∈l
 |(k,y)::l,f,x,h=>by
  rw [List.lookup_cons] at h
  split at h
  ·rename_i hk
   have hk:f=k:=by simpa using hk
   simp only [Be] at h
   rw [hk,h]
   exact Df
  ·exact B8 _ (QCM h)
theorem Zq {TY:Nat->Option Ty}{own:List Nat}{n:Nat}{keep:List Nat}{L:Nat->VS->Option (Bool×List (Bool×Exit×VS))}{R:Nat->VS->(yr:Ty)->List yr.T->Option (Bool×List (Bool×Exit×VS))}(l:List (Nat×Ent))(h: ∀ p∈l,J6 P p.1/\QH P p.1 (QD p.2))(li:List (Nat×Itr):=[])(hi: ∀ p∈li,Iters P p.1 p.2:=by intro p hp;cases hp):GOk P ⟨TY,own,n,EL l,keep,L,IL li,R⟩:=by
 refine ⟨?_,fun f caps objs x hx=> ?_⟩
 rotate_left
 ·simp only [IL] at hx ⊢
  cases hl:li.lookup f with
  |none=>rw [hl] at hx;cases hx
  |some F=>exact hi _ (QCM hl)
 intro f args objs x hx
 simp only at hx ⊢
 obtain ⟨F,hF,_⟩:=QgV hx
 refine ⟨(h _ hF).1, ?_⟩
 intro args' objs' r os hr
 simp only at hr
 split at hr
 ·rename_i r' os' hq
  simp only [Be,Bq] at hr
  obtain ⟨rfl,rfl⟩:=hr
  obtain ⟨F2,h1,h2⟩:=QgV hq
  exact (h _ h1).2 args' objs' r' os' (by simp only [QD,h2])
 ·cases hr
theorem Gy: ∀ {a:Ty} {args:List V} {x:a.T} {vs:List Value},a.args args=some x->Cs X w Z (V.ds args) vs->Cs X w Z (V.ds (a.canon x)) vs
 |.pr f r,v::args,x,vs,h,hc=>by
  simp only [Ty.args] at h
  split at h
  ·rename_i x1 z1 h1 h2
   simp only [Be] at h
   subst h
   simp only [V.ds,Cs] at hc
   obtain ⟨u,us,rfl,q1,q2⟩:=hc
   simp only [Ty.canon,V.ds]
   exact Cs.cons (C.up _ _ (V.as_spec h1 q1)) (Gy h2 q2)
  ·cases h
 |.nil,[],x,vs,h,hc=>hc
 |.pr f r,[],_,_,h,_=>by cases h
 |.nil,_::_,_,_,h,_=>by cases h
 |.int _,_,_,_,h,_=>by simp only [Ty.args] at h;cases h
 |.bool,_,_,_,h,_=>by simp only [Ty.args] at h;cases h
 |.str,_,_,_,h,_=>by simp only [Ty.args] at h;cases h
 |.sl _,_,_,_,h,_=>by simp only [Ty.args] at h;cases h
 |.rv,_,_,_,h,_=>by simp only [Ty.args] at h;cases h
 |.rb,_,_,_,h,_=>by simp only [Ty.args] at h;cases h
theorem Qq {f:FuncId}{R:Fun}{a:Ty}{ok:a.T->Bool}{F:a.T->V}(hM:QH P f R)(h: ∀ x,ok x=true->R (a.canon x) []=some (F x,[])):QH P f (QD (Qm a ok F)):=by
 intro args objs r os hF X w Z vs hfin hl hc
 unfold QD Qm at hF
 cases objs with
 |cons o os'=>simp at hF
 |nil=>
  simp only at hF
  cases ha:a.args args with
  |none=>rw [ha] at hF;cases hF
  |some x=>
   rw [ha] at hF
   simp only at hF
   split at hF
   ·rename_i r' os' hq
    simp only [Be,Bq] at hF hq
    obtain ⟨rfl,rfl⟩:=hF
    obtain ⟨h1,rfl,rfl⟩:=hq
    exact hM _ [] _ _ (h x h1) X w Z vs hfin hl (Gy ha hc)
   ·cases hF
theorem Fk {f:FuncId}{a:Ty}{ok:a.T->Bool}{F:a.T->V}(h: ∀ x,ok x=false):QH P f (QD (Qm a ok F)):=by
 intro args objs r os hF
 unfold QD Qm at hF
 cases objs with
 |cons o os'=>simp at hF
 |nil=>
  simp only at hF
  cases ha:a.args args with
  |none=>rw [ha] at hF;cases hF
  |some x=>
   rw [ha] at hF
   simp only [h] at hF
   cases hF
theorem Fl {f:FuncId}{a:Ty}{okN:Nat->a.T->Bool}{ok:a.T->Bool}{F:a.T->V}(hN: ∀ N,QH P f (QD (Qm a (okN N) F)))(h: ∀ x,ok x=true→ ∃ N,okN N x=true):QH P f (QD (Qm a ok F)):=by
 intro args objs r os hF
 have hF0:=hF
 unfold QD Qm at hF
 cases objs with
 |cons o os'=>simp at hF
 |nil=>
  simp only at hF
  cases ha:a.args args with
  |none=>rw [ha] at hF;cases hF
  |some x=>
   rw [ha] at hF
   cases hx:ok x with
   |false=>simp only [hx] at hF;cases hF
   |true=>
    obtain ⟨N,hok⟩:=h x hx
    refine hN N args [] r os ?_
    simp only [hx] at hF
    unfold QD Qm
    simp only [ha,hok]
    exact hF
theorem QgW {f:FuncId}{R:Fun}{a:Ty}{ok:a.T->Bool}{F:a.T->V}{O:a.T->List VO}(hM:QH P f R)(h: ∀ x,ok x=true->R (a.canon x) []=some (F x,O x)):QH P f (QD (UQ a ok F O)):=by
 intro args objs r os hF X w Z vs hfin hl hc
 unfold QD UQ at hF
 cases objs with
 |cons o os'=>simp at hF
 |nil=>
  simp only at hF
  cases ha:a.args args with
  |none=>rw [ha] at hF;cases hF
  |some x=>
   rw [ha] at hF
   simp only at hF
   split at hF
   ·rename_i r' os' hq
    simp only [Be,Bq] at hF hq
    obtain ⟨rfl,rfl⟩:=hF
    obtain ⟨h1,rfl,rfl⟩:=hq
    exact hM _ [] _ _ (h x h1) X w Z vs hfin hl (Gy ha hc)
   ·cases hF
theorem QS4 {f:FuncId}{R:Fun}{b a:Ty}{ok:a.T->Bool}{H:a.T->b.T}(hM:QH P f R)(hb:b.row=true)(h: ∀ x,ok x=true→ ∃ c,R (a.canon x) []=some (.ptr 50000 0,[.box c])/\c.as b=some (H x)):QH P f (QD (QpB b a ok H)):=by
 intro args objs r os hF X w Z vs hfin hl hc
 unfold QD QpB at hF
 cases objs with
 |cons o os'=>simp at hF
 |nil=>
  simp only at hF
  cases ha:a.args args with
  |none=>rw [ha] at hF;cases hF
  |some x=>
   rw [ha] at hF
   simp only at hF
   split at hF
   ·rename_i r' os' hq
    simp only [Be,Bq] at hF hq
    obtain ⟨rfl,rfl⟩:=hF
    obtain ⟨h1,rfl,rfl⟩:=hq
    obtain ⟨c,h2,h3⟩:=h x h1
    refine (hM _ [] _ _ h2 X w Z vs hfin hl (Gy ha hc)).mono ?_
    rintro e w' ⟨u,X',Z',e1,e2,e3⟩
    refine ⟨u,X',Z',e1,e2,e3.fin,fun j o hj=> ?_,fun i j bb hij hi hj=>by simp at hi hj;omega,e3.le,e3.same,fun j bb hj hl hb=> .inl ((e3.new j bb hj hl hb).resolve_right fun ⟨i,hi,_⟩=>absurd hi (Nat.not_lt_zero _)),e3.fr,e3.sub,fun b q hb _ hx=>e3.old b q hb (fun i hi=>absurd hi (Nat.not_lt_zero _)) hx⟩
    cases j with
    |zero=>
     simp only [BZ,Be] at hj
     subst hj
     exact ⟨Qk0 hb h3 (e3.at_ 0 _ rfl).1,fun _=>by simp⟩
    |succ j=>simp at hj
   ·cases hF
theorem Y7 {f:FuncId}{R:Fun}{b a:Ty}{ok:b.T->a.T->Bool}{F:b.T->a.T->V}{H:b.T->a.T->b.T}(hM:QH P f R)(hb:b.row=true)
  (h: ∀ d x,ok d x=true->R (.ptr 50000 0::a.canon x) [.box (.t b d)]=some (F d x,[.box (.t b (H d x))])):QH P f (QD (Yz b a ok F H)):=by
 intro args objs r os hF X w Z vs hfin hl hc
 unfold QD Yz at hF
 split at hF
 ·rename_i r0 os0 hq
  split at hq
  ·rename_i args' c
   split at hq
   ·rename_i d x hd hx
    simp only [Be,Bq] at hF hq
    obtain ⟨h1,h2⟩:=hF
    obtain ⟨h3,h4,h5⟩:=hq
    subst h1 h2 h4 h5
    refine hM _ [.box (.t b d)] _ _ (h d x h3) X w Z vs hfin ⟨fun j o hj=> ?_,fun i j bb hij hi hj=>hl.apart i j bb hij hi hj⟩ ?_
    ·cases j with
     |zero=>
      simp only [BZ,Be] at hj
      subst hj
      exact ⟨Qk0 hb hd (hl.at_ 0 _ rfl).1,by simp⟩
     |succ j=>simp at hj
    ·simp only [V.ds,Cs] at hc ⊢
     obtain ⟨u,us,rfl,q1,q2⟩:=hc
     exact ⟨u,us,rfl,q1,Gy hx q2⟩
   ·cases hq
  ·cases hq
 ·cases hF
end
inductive SV where
 |ty (t:Ty)
 |ptr (k o:Nat)
 |ms (k:Nat)
 |cf (f:Nat)
 |fn (f:Nat) (ks:List (Nat×Nat))
 |nl
 |ni
 |bf (f:Nat) (t:Ty)
inductive SO where
 |box (t:Ty)
 |bag (l:List SV)
 |arr (e:Nat) (t:Ty)
 |no
 |bc (f:Nat)
 |bm (k:Nat)
@[reducible] def SV.T:SV->Type
 |.ty t=>t.T
 |.ptr _ _=>Unit
 |.ms _=>Unit
 |.cf _=>Unit
 |.fn _ _=>Unit
 |.nl=>Unit
 |.ni=>Unit
 |.bf _ t=>t.T
@[reducible] def SVt:List SV->Type
 | []=>Unit
 |s::r=>s.T×SVt r
@[reducible] def SO.T:SO->Type
 |.box t=>t.T
 |.bag l=>SVt l
 |.arr _ t=>List t.T
 |.no=>Unit
 |.bc _=>Unit
 |.bm _=>Unit
def SV.mk:(s:SV)->s.T->V
 |.ty t,x=> .t t x
 |.ptr k o,_=> .ptr k o
 |.ms k,_=> .ms k
 |.cf f,_=> .c (.func (.func f) ⟨[]⟩ ⟨[]⟩)
 |.fn f ks,_=> .fn f (ks.map fun p=> .ptr p.1 p.2)
 |.nl,_=> .c (.slice none 0 0)
 |.ni,_=> .c .nilIface
 |.bf f t,x=> .fn (f+1000000) [.t t x]
def QpC:Value->Bool
 |.nilIface=>true
 |_=>false
theorem QS5 {x:Value}(h:QpC x=true):x= .nilIface:=by
 unfold QpC at h
 split at h
 ·rfl
 ·cases h
def QpD:Value->Bool
 |.slice none 0 0=>true
 |_=>false
theorem QS6 {x:Value}(h:QpD x=true):x= .slice none 0 0:=by
 unfold QpD at h
 split at h
 ·rfl
 ·cases h
def QgX:Value->Option Nat
 |.func (.func g) ⟨[]⟩ ⟨[]⟩=>some g
 |_=>none
theorem QCN {x:Value}{f:Nat}(h:QgX x=some f):x= .func (.func f) ⟨[]⟩ ⟨[]⟩:=by
 unfold QgX at h
 split at h
 ·simp only [Be] at h
  rw [h]
 ·cases h
def Ov:List V->Option (List (Nat×Nat))
 | []=>some []
 |.ptr k o::r=>match Ov r with
  |some l=>some ((k,o)::l)
  |none=>none
 |_=>none
theorem QCO: ∀ {vs:List V} {ks:List (Nat×Nat)},Ov vs=some ks->vs=ks.map fun p=> .ptr p.1 p.2
 | [],ks,h=>by
  simp only [Ov,Be] at h
  subst h
  rfl
 |v::r,ks,h=>by
  cases v with
  |ptr k o=>
   simp only [Ov] at h
   split at h
   ·rename_i l hl
    simp only [Be] at h
    subst h
    rw [QCO hl]
    rfl
   ·cases h
  |_=>simp only [Ov] at h;cases h
def Fm:(l:List SV)->SVt l->List V
 | [],_=>[]
 |s::r,x=>s.mk x.1::Fm r x.2
def SO.mk:(s:SO)->s.T->VO
 |.box t,x=> .box (.t t x)
 |.bag l,x=> .box (.ag (Fm l x))
 |.arr e t,l=> .arr e t l
 |.no,_=> .no
 |.bc f,_=> .box (.c (.func (.func f) ⟨[]⟩ ⟨[]⟩))
 |.bm k,_=> .box (.ms k)
def QpE (t:Ty):List V->Option t.T
 | [.t t' x]=>if h:t'=t then some (h▸x) else none
 |_=>none
theorem QS7 {t:Ty}{vs:List V}{x:t.T}(h:QpE t vs=some x):vs=[.t t x]:=by
 unfold QpE at h
 split at h
 ·split at h
  ·rename_i ht
   subst ht
   simp only [Be] at h
   rw [h]
  ·cases h
 ·cases h
def SV.rd:(s:SV)->V->Option s.T
 |.ty t,.t t' x=>if h:t'=t then some (h▸x) else none
 |.ptr k o,.ptr k' o'=>if k'=k/\o'=o then some () else none
 |.ms k,.ms k'=>if k'=k then some () else none
 |.cf f,.c x=>if QgX x=some f then some () else none
 |.fn f ks,.fn g vs=>if g=f/\Ov vs=some ks then some () else none
 |.nl,.c x=>if QpD x=true then some () else none
 |.ni,.c x=>if QpC x=true then some () else none
 |.bf f t,.fn g vs=>if g=f+1000000 then QpE t vs else none
 |_,_=>none
def EB:(l:List SV)->List V->Option (SVt l)
 | [],[]=>some ()
 |s::r,v::vs=>match s.rd v,EB r vs with
  |some x,some y=>some (x,y)
  |_,_=>none
 |_,_=>none
def SO.rd:(s:SO)->VO->Option s.T
 |.box t,.box v=>(SV.ty t).rd v
 |.bag l,.box (.ag vs)=>EB l vs
 |.arr e t,.arr e' t' l=>if h:t'=t then (if e'=e then some (h▸l) else none) else none
 |.no,.no=>some ()
 |.bc f,.box (.c x)=>if QgX x=some f then some () else none
 |.bm k,.box (.ms j)=>if j=k then some () else none
 |_,_=>none
theorem SV.rd_mk {s:SV}{v:V}{x:s.T}(h:s.rd v=some x):v=s.mk x:=by
 cases s with
 |ty t=>
  cases v with
  |t t' y=>
   simp only [SV.rd] at h
   split at h
   ·rename_i ht
    subst ht
    simp only [Be] at h
    subst h
    rfl
   ·cases h
  |_=>simp only [SV.rd] at h;cases h
 |ptr k o=>
  cases v with
  |ptr k' o'=>
   simp only [SV.rd] at h
   split at h
   ·rename_i hk
    rw [hk.1,hk.2]
    rfl
   ·cases h
  |_=>simp only [SV.rd] at h;cases h
 |ms k=>
  cases v with
  |ms k'=>
   simp only [SV.rd] at h
   split at h
   ·rename_i hk
    rw [hk]
    rfl
   ·cases h
  |_=>simp only [SV.rd] at h;cases h
 |cf f=>
  cases v with
  |c x=>
   simp only [SV.rd] at h
   split at h
   ·rename_i hk
    rw [QCN hk]
    rfl
   ·cases h
  |_=>simp only [SV.rd] at h;cases h
 |fn f ks=>
  cases v with
  |fn g vs=>
   simp only [SV.rd] at h
   split at h
   ·rename_i hk
    rw [hk.1,QCO hk.2]
    rfl
   ·cases h
  |_=>simp only [SV.rd] at h;cases h
 |nl=>
  cases v with
  |c x=>
   simp only [SV.rd] at h
   split at h
   ·rename_i hk
    rw [QS6 hk]
    rfl
   ·cases h
  |_=>simp only [SV.rd] at h;cases h
 |ni=>
  cases v with
  |c x=>
   simp only [SV.rd] at h
   split at h
   ·rename_i hk
    rw [QS5 hk]
    rfl
   ·cases h
  |_=>simp only [SV.rd] at h;cases h
 |bf f t=>
  cases v with
  |fn g vs=>
   simp only [SV.rd] at h
   split at h
   ·rename_i hk
    rw [hk,QS7 h]
    rfl
   ·cases h
  |_=>simp only [SV.rd] at h;cases h
theorem Ow: ∀ {l:List SV} {vs:List V} {x:SVt l},EB l vs=some x->vs=Fm l x
 | [],[],_,_=>rfl
 | [],_::_,_,h=>by cases h
 |_::_,[],_,h=>by cases h
 |s::r,v::vs,x,h=>by
  simp only [EB] at h
  split at h
  ·rename_i x1 y1 h1 h2
   simp only [Be] at h
   subst h
   rw [SV.rd_mk h1,Ow h2]
   rfl
  ·cases h
theorem SO.rd_mk {s:SO}{v:VO}{x:s.T}(h:s.rd v=some x):v=s.mk x:=by
 cases s with
 |box t=>
  cases v with
  |box v=>
   simp only [SO.rd] at h
   have:=SV.rd_mk h
   rw [this]
   rfl
  |_=>simp only [SO.rd] at h;cases h
 |bag l=>
  cases v with
  |box v=>
   cases v with
   |ag vs=>
    simp only [SO.rd] at h
    rw [Ow h]
    rfl
   |_=>simp only [SO.rd] at h;cases h
  |_=>simp only [SO.rd] at h;cases h
 |arr e t=>
  cases v with
  |arr e' t' l=>
   simp only [SO.rd] at h
   split at h
   ·rename_i ht
    subst ht
    split at h
    ·rename_i he
     simp only [Be] at h
     subst h
     rw [he]
     rfl
    ·cases h
   ·cases h
  |_=>simp only [SO.rd] at h;cases h
 |no=>
  cases v with
  |no=>rfl
  |_=>simp only [SO.rd] at h;cases h
 |bc f=>
  cases v with
  |box c=>
   cases c with
   |c x=>
    simp only [SO.rd] at h
    split at h
    ·rename_i hk
     rw [QCN hk]
     rfl
    ·cases h
   |_=>simp only [SO.rd] at h;cases h
  |_=>simp only [SO.rd] at h;cases h
 |bm k=>
  cases v with
  |box c=>
   cases c with
   |ms j=>
    simp only [SO.rd] at h
    split at h
    ·rename_i hk
     rw [hk]
     rfl
    ·cases h
   |_=>simp only [SO.rd] at h;cases h
  |_=>simp only [SO.rd] at h;cases h
@[reducible] def SVs:List (Nat×SV)->Type
 | []=>Unit
 |(_,s)::r=>s.T×SVs r
@[reducible] def SOs:List (Nat×SO)->Type
 | []=>Unit
 |(_,s)::r=>s.T×SOs r
def QgY:(l:List (Nat×SV))->SVs l->List (Nat×V)
 | [],_=>[]
 |(i,s)::r,x=>(i,s.mk x.1)::QgY r x.2
def QgZ:(l:List (Nat×SO))->SOs l->List (Nat×VO)
 | [],_=>[]
 |(i,s)::r,x=>(i,s.mk x.1)::QgZ r x.2
def QbD (f:Nat->V):(l:List (Nat×SV))->Option (SVs l)
 | []=>some ()
 |(i,s)::r=>match s.rd (f i),QbD f r with
  |some x,some y=>some (x,y)
  |_,_=>none
def QbE (f:Nat->VO):(l:List (Nat×SO))->Option (SOs l)
 | []=>some ()
 |(i,s)::r=>match s.rd (f i),QbE f r with
  |some x,some y=>some (x,y)
  |_,_=>none
structure Sh where
 vs:List (Nat×SV)
 os:List (Nat×SO)
def SV.t? : SV->Option Ty
 |.ty t=>some t
 |_=>none
def SO.t? : SO->Option Ty
 |.box t=>some t
 |_=>none
def Sh.f (s:Sh):Fg:=⟨s.vs.map fun p=>(p.1,p.2.t?),s.os.map fun p=>(p.1,p.2.t?)⟩
def Sh.st (s:Sh)(x:SVs s.vs)(y:SOs s.os):VS:=⟨Xl (QgY s.vs x),Yu (QgZ s.os y),s.os.map Prod.fst⟩
theorem nrm_mk {s:SV}{x:s.T}:J7 s.t? (s.mk x)=s.mk x:=by
 cases s with
 |ty t=>simp only [SV.t?, SV.mk,J7,V.as,dite_true]
 |_=>rfl
theorem QS8 {s:SO}{x:s.T}:ZO s.t? (s.mk x)=s.mk x:=by
 cases s with
 |box t=>
  simp only [SO.t?, SO.mk,ZO,J7,V.as,dite_true]
  split<;>rfl
 |_=>rfl
theorem QpF {f:Nat->V}: ∀ {l:List (Nat×SV)} {x:SVs l},QbD f l=some x->(l.map fun p=>(p.1,p.2.t?)).map (fun p=>(p.1,J7 p.2 (f p.1)))=QgY l x
 | [],_,_=>rfl
 |(i,s)::r,x,h=>by
  simp only [QbD] at h
  split at h
  ·rename_i x1 y1 h1 h2
   simp only [Be] at h
   subst h
   simp only [BO,QgY,SV.rd_mk h1,nrm_mk,QpF h2]
  ·cases h
theorem QpG {f:Nat->VO}: ∀ {l:List (Nat×SO)} {x:SOs l},QbE f l=some x->(l.map fun p=>(p.1,p.2.t?)).map (fun p=>(p.1,ZO p.2 (f p.1)))=QgZ l x
 | [],_,_=>rfl
 |(i,s)::r,x,h=>by
  simp only [QbE] at h
  split at h
  ·rename_i x1 y1 h1 h2
   simp only [Be] at h
   subst h
   simp only [BO,QgZ,SO.rd_mk h1,QS8,QpG h2]
  ·cases h
def mkL (s:Sh)(ok:SVs s.vs->SOs s.os->Bool)(Yv:SVs s.vs->SOs s.os->List (Bool×Exit×VS))(S:VS):Option (Bool×List (Bool×Exit×VS)):=
 match QbD S.ts s.vs,QbE S.st s.os with
 |some x,some y=>some (ok x y,Yv x y)
 |_,_=>none
theorem lok_of {g:G}{s:Sh}{f:Fg}{a:TC}{ok:SVs s.vs->SOs s.os->Bool}{Yv:SVs s.vs->SOs s.os->List (Bool×Exit×VS)}(hok:f.ok)(hf:f=s.f)(h: ∀ x y,ok x y=true→ ∀ p,Y0 (Yv x y)=some p->Qu (Qx g f a) (s.st x y)=some p):
  ∀ S l p,mkL s ok Yv (fgt f S)=some (true,l)->Y0 l=some p->Qu (Qx g f a) S=some p:=by
 intro S l p hL hp
 unfold mkL at hL
 split at hL
 ·rename_i x y hx hy
  simp only [Be,Bq] at hL
  obtain ⟨h1,rfl⟩:=hL
  rw [Q0N hok]
  have e1:=QpF hx
  have e2:=QpG hy
  have:fgt f S=s.st x y:=by
   rw [<-QuD hok S]
   have e3:(fgt f S).ts=(fgt f S).ts:=rfl
   generalize fgt f S=T at e1 e2
   subst hf
   unfold fgt Sh.st
   simp only [Sh.f]
   rw [e1,e2]
   simp only [DR]
   rfl
  rw [this]
  exact h x y h1 p hp
 ·cases hL
def mkR {yr:Ty}(s:Sh)(ok:List yr.T->SVs s.vs->SOs s.os->Bool)(Yv:List yr.T->SVs s.vs->SOs s.os->List (Bool×Exit×VS))(S:VS)(rows:List yr.T):Option (Bool×List (Bool×Exit×VS)):=
 match QbD S.ts s.vs,QbE S.st s.os with
 |some x,some y=>some (ok rows x y,Yv rows x y)
 |_,_=>none
theorem QCP {g:G}{s:Sh}{f:Fg}{yr:Ty}{ps:List Nat}{a b:TC}{ok:List yr.T->SVs s.vs->SOs s.os->Bool}{Yv:List yr.T->SVs s.vs->SOs s.os->List (Bool×Exit×VS)}(hok:f.ok)(hf:f=s.f)
  (h: ∀ rows x y,ok rows x y=true→ ∀ p,Y0 (Yv rows x y)=some p->X7 (UD g f yr ps a b) rows (s.st x y)=some p):
  ∀ S rows l p,mkR s ok Yv (fgt f S) rows=some (true,l)->Y0 l=some p->X7 (UD g f yr ps a b) rows (fgt f S)=some p:=by
 intro S rows l p hL hp
 unfold mkR at hL
 split at hL
 ·rename_i x y hx hy
  simp only [Be,Bq] at hL
  obtain ⟨h1,rfl⟩:=hL
  have e1:=QpF hx
  have e2:=QpG hy
  have:fgt f S=s.st x y:=by
   rw [<-QuD hok S]
   generalize fgt f S=T at e1 e2
   subst hf
   unfold fgt Sh.st
   simp only [Sh.f]
   rw [e1,e2]
   simp only [DR]
   rfl
  rw [this]
  exact h rows x y h1 p hp
 ·cases hL
theorem RL_at {l:List ((yr:Ty)×(VS->List yr.T->Option (Bool×List (Bool×Exit×VS))))}{j:Nat}{y:Ty}{F:VS->List y.T->Option (Bool×List (Bool×Exit×VS))}(h:l[j]? = some ⟨y,F⟩)(S:VS)(rows:List y.T):RL l j S y rows=F S rows:=by
 unfold RL
 rw [h]
 simp only [dite_true]
def Ls (l:List (VS->Option (Bool×List (Bool×Exit×VS))))(j:Nat)(S:VS):Option (Bool×List (Bool×Exit×VS)):=
 match l[j]? with
 |some F=>F S
 |none=>none
def nxt (f:VS->Option (Exit×VS)):Option (Exit×VS)->Option (Exit×VS)
 |some (.normal,S)=>f S
 |x=>x
theorem QS9 (b:VS->Option (Exit×VS))(S:VS):Qu b S=nxt (Qu b) (b S):=by
 rw [Q0J]
 cases b S with
 |none=>rfl
 |some x=>
  obtain ⟨e,S'⟩:=x
  cases e<;>rfl
theorem QCQ {α:Type}(rd:α->VS->Option (Exit×VS))(z:α)(zs:List α)(S:VS):X7 rd (z::zs) S=nxt (X7 rd zs) (rd z S):=by
 simp only [X7]
 cases rd z S with
 |none=>rfl
 |some x=>
  obtain ⟨e,S'⟩:=x
  cases e<;>rfl
theorem Ud {f:VS->Option (Exit×VS)}{q:Bool}{a b:Option (Exit×VS)}:nxt f (br q a b)=br q (nxt f a) (nxt f b):=by cases q<;>rfl
theorem UR {f:VS->Option (Exit×VS)}{S:VS}:nxt f (some (.normal,S))=f S:=rfl
theorem US {f:VS->Option (Exit×VS)}{S:VS}:nxt f (some (.ret,S))=some (.ret,S):=rfl
theorem UT {f:VS->Option (Exit×VS)}{S:VS}{i:Nat}:nxt f (some (.exit i,S))=some (.exit i,S):=rfl
theorem UU {f:VS->Option (Exit×VS)}:nxt f none=none:=rfl
theorem QA {q q2:Bool}{e e2:Exit}{S S2:VS}{l:List (Bool×Exit×VS)}:Y0 ((q,e,S)::(q2,e2,S2)::l)=br q (some (e,S)) (Y0 ((q2,e2,S2)::l)):=by cases q<;>rfl
theorem QB {q:Bool}{e:Exit}{S:VS}:Y0 [(q,e,S)]=some (e,S):=rfl
theorem Qd {M:Type}{a b:Option M}:br true a b=a:=rfl
theorem Qh {M:Type}{a b:Option M}:br false a b=b:=rfl
abbrev Qi (k:IntKind)(a b:Int):Int:=k.wrap (a+b)
abbrev QQ (k:IntKind)(a b:Int):Int:=k.wrap (a-b)
abbrev EC (k:IntKind)(a b:Int):Int:=k.wrap (a*b)
abbrev ED (k:IntKind)(a b:Int):Int:=k.wrap (a.tdiv b)
abbrev WN (a b:Int):Int:=a.tmod b
abbrev icv (k:IntKind)(a:Int):Int:=k.wrap a
abbrev imx (a b:Int):Int:=if b > a then b else a
abbrev imn (a b:Int):Int:=if b<a then b else a
abbrev ieq (a b:Int):Bool:=a==b
abbrev ine (a b:Int):Bool:=a != b
abbrev ilt (a b:Int):Bool:=decide (a<b)
abbrev ile (a b:Int):Bool:=decide (a<=b)
abbrev igt (a b:Int):Bool:=decide (a > b)
abbrev ige (a b:Int):Bool:=decide (a≥b)
abbrev seq (a b:ByteArray):Bool:=a.toList==b.toList
abbrev sne (a b:ByteArray):Bool:= !(a.toList==b.toList)
abbrev Qg0 (a b:Bool):Bool:=a==b
abbrev Ox (a b:Bool):Bool:= !(a==b)
abbrev cNz (b:Int):Bool:=decide (b≠0)
abbrev cIx {α:Type}(l:List α)(j:Int):Bool:=decide (0<=j/\j<(l.length:Nat))
abbrev cSx (z:ByteArray)(j:Int):Bool:=decide (0<=j/\j<(z.size:Nat))
abbrev cWn {α:Type}(l:List α)(a h:Int):Bool:=decide (0<=a/\a<=h/\h<=(l.length:Nat))
abbrev cSl {α:Type}(l:List α)(a h m:Int):Bool:=decide (0<=a/\a<=h/\h<=m/\m<=(l.length:Nat))
abbrev Qt {α:Type}(l l2:List α)(bytes:Nat):Bool:=decide ((l.length+l2.length)*(bytes+1)<=140737488355328)
abbrev cLd {α:Type}(l:List α)(i:Nat):Bool:=decide (i<l.length)
abbrev cCat (a b:ByteArray):Bool:=decide (((a.size+b.size:Nat):Int)<=9223372036854775807)
abbrev lgt (y:Ty)(l:List y.T)(j:Nat):y.T:=l.getD j y.zero
abbrev lsl {α:Type}(l:List α)(a h:Int):List α:=(l.drop a.toNat).take (h.toNat-a.toNat)
abbrev Qb {α:Type}(l:List α):Int:=((l.length:Nat):Int)
abbrev Zm (z:ByteArray):Int:=((z.size:Nat):Int)
abbrev sgt (z:ByteArray)(j:Int):Int:=(((z.data.toList.getD j.toNat 0).toNat:Nat):Int)
abbrev Fn (a b:ByteArray):ByteArray:=a++b
abbrev Wk (bs:List Ty):Type:=SVt (bs.map SV.ty)
def QbF (b:Ty)(c:V):Option b.T:=if b.row=true then c.as b else (SV.ty b).rd c
def Ym:(bs:List Ty)->List VO->Option (Wk bs)
 | [],[]=>some ()
 |b::bs,.box c::os=>match QbF b c,Ym bs os with
  |some x,some y=>some (x,y)
  |_,_=>none
 |_,_=>none
def UV:(bs:List Ty)->Wk bs->List VO
 | [],_=>[]
 |b::bs,x=> .box (.t b x.1)::UV bs x.2
def YA (l:List SV)(bs:List Ty)(ok:SVt l->Wk bs->Bool)(F:SVt l->Wk bs->V):Ent:=fun args objs=>
 match EB l args,Ym bs objs with
 |some x,some d=>some (ok x d,F x d,UV bs d)
 |_,_=>none
section
variable {P:Program}{X:Nat->Nat->Prop}{w:World}{Z:Pl}
theorem QTa {b:Ty}{c:V}{d:b.T}{k:Nat}(h:QbF b c=some d)(hat:OAt X w Z k (.box c)):OAt X w Z k (.box (.t b d)):=by
 unfold QbF at h
 split at h
 ·rename_i hb
  exact Qk0 hb h hat
 ·have:=SV.rd_mk h
  rw [this] at hat
  exact hat
theorem QpH: ∀ {bs:List Ty} {os:List VO} {d:Wk bs},Ym bs os=some d->(UV bs d).length=os.length∧ ∀ (j k:Nat) (o:VO),(UV bs d)[j]? = some o->o≠ .no∧ ∃ o',os[j]? = some o'/\(OAt X w Z k o'->OAt X w Z k o)
 | [],[],d,_=>⟨rfl,fun j k o h=>by simp [UV] at h⟩
 | [],_::_,d,h=>by simp [Ym] at h
 |_::_,[],d,h=>by simp [Ym] at h
 |b::bs,o::os,d,h=>by
  cases o with
  |box c=>
   simp only [Ym] at h
   split at h
   ·rename_i x y hx hy
    simp only [Be] at h
    subst h
    obtain ⟨h1,h2⟩:=QpH hy
    refine ⟨by simp only [UV,Br,h1],fun j k o hj=> ?_⟩
    cases j with
    |zero=>
     simp only [UV,BZ,Be] at hj
     subst hj
     exact ⟨by simp,_,rfl,QTa hx⟩
    |succ j=>
     simp only [UV,BX] at hj
     obtain ⟨q1,o',q2,q3⟩:=h2 j k o hj
     exact ⟨q1,o',by simpa using q2,q3⟩
   ·cases h
  |no=>simp [Ym] at h
  |arr e t l=>simp [Ym] at h
theorem Yn {f:FuncId}{R:Fun}{l:List SV}{bs:List Ty}{ok:SVt l->Wk bs->Bool}{F:SVt l->Wk bs->V}(hM:QH P f R)(h: ∀ x d,ok x d=true->R (Fm l x) (UV bs d)=some (F x d,UV bs d)):QH P f (QD (YA l bs ok F)):=by
 intro args objs r os hF X w Z vs hfin hl hc
 unfold QD YA at hF
 split at hF
 ·rename_i r' os' hq
  split at hq
  ·rename_i x d hx hd
   simp only [Be,Bq] at hF hq
   obtain ⟨rfl,rfl⟩:=hF
   obtain ⟨h1,rfl,rfl⟩:=hq
   have ha:=Ow hx
   subst ha
   have hb:=fun j k o=>(QpH (X:=X) (w:=w) (Z:=Z) hd).2 j k o
   have hlen:=(QpH (X:=X) (w:=w) (Z:=Z) hd).1
   have:=hM _ _ _ _ (h x d h1) X w Z vs hfin ⟨fun j o hj=>by
    obtain ⟨q1,o',q2,q3⟩:=hb j (50000+j) o hj
    exact ⟨q3 (hl.at_ j o' q2).1,q1⟩,fun i j b hij hi hj=>hl.apart i j b hij (by omega) (by omega)⟩ hc
   rw [hlen] at this
   exact this
  ·cases hq
 ·cases hF
end
def oK (d:Nat)(k:RK):RO:=⟨some d,none,k⟩
def oM (d:Nat)(m:MO):RO:=⟨some d,none,.m m⟩
def oP (d:Nat)(a:AO):RO:=⟨some d,none,.m (.pu a)⟩
def oV (d i:Nat):RO:=⟨some d,none,.m (.pu (.mv (.t i)))⟩
def oL (d i:Nat):RO:=⟨some d,none,.m (.ld false 1 (.t i))⟩
def oC (d f:Nat)(l:List AX):RO:=⟨some d,none,.call f l⟩
def oG (d j:Nat)(b:Bool)(k:RK):RO:=⟨some d,some (j,b),k⟩
def oQ (d j:Nat)(b:Bool)(a:AO):RO:=⟨some d,some (j,b),.m (.pu a)⟩
def cI (n:Int):AX:= .c (.v (.int .i64 n))
def cB (b:Bool):AX:= .c (.v (.bool b))
end Go.Proofs.YtkmobehaikjdjaaGreat.K
/-
 From a contract of calls to what is said in types,and from there to a law's row.
-/
namespace Go.Proofs.YtkmobehaikjdjaaGreat.K
open Go.RowKit
section
variable {P:Program}{X:Nat->Nat->Prop}{w:World}{Z:Pl}
theorem QCR {w w':World}(h:Below w.heap.size w w'):Fr [] w w':=⟨h.os,h.tape,h.output,h.size,fun b hb _=>h.block b hb⟩
theorem QpI {w w':World}{m:Nat}(hm:m=0)(hfin: ∀ b q,X b q->b<w.heap.size)(h:Below w.heap.size w w'):Ends X w Z m X w' Z []:=by
 subst hm
 exact ⟨fun b q hq=>BS (hfin b q hq) h.size,fun j o hj=>by simp at hj,fun i j b _ hi=>by simp at hi,by simp,fun _ _=>rfl,fun j b _ hj=>by simp at hj,QCR h,fun _ _ _ h=>h,fun _ _ _ _ h=>h⟩
theorem QpJ {f:FuncId}{a:Ty}{ok:a.T->Bool}{F:a.T->V}(h: ∀ x,ok x=true→ ∀ X w Z vs,(∀ b q,X b q->b<w.heap.size)->Cs X w Z (V.ds (a.canon x)) vs→
  Calls P f vs.toArray w fun e w'=> ∃ u,e= .returned u/\C X w' Z (F x).d u/\Below w.heap.size w w') (hlt:f<1000000:=by decide):QH P f (QD (Qm a ok F)):=by
 intro args objs r os hF X w Z vs hfin hl hc
 unfold QD Qm at hF
 cases objs with
 |cons o os'=>simp at hF
 |nil=>
  simp only at hF
  cases ha:a.args args with
  |none=>rw [ha] at hF;cases hF
  |some x=>
   rw [ha] at hF
   simp only at hF
   split at hF
   ·rename_i r' os' hq
    simp only [Be,Bq] at hF hq
    obtain ⟨rfl,rfl⟩:=hF
    obtain ⟨h1,rfl,rfl⟩:=hq
    refine (QkW hlt (h x h1 X w Z vs hfin (Gy ha hc))).mono ?_
    rintro e w' ⟨u,e1,e2,e3⟩
    exact ⟨u,X,Z,e1,e2,QpI rfl hfin e3⟩
   ·cases hF
theorem QTb {f:FuncId}{F:Fun}(hlt:f<1000000)(h:QH P f F){args:List V}(hF:F args []=some (.t .bool true,[])){W:World}{vs:List Value}(hc:Cs (fun _ _=>False) W (fun _=> .no) (V.ds args) vs):
  Calls P f vs.toArray W fun r w'=>r= .returned (.bool true)/\Below W.heap.size W w':=by
 refine (Uz hlt (h args [] _ _ hF (fun _ _=>False) W (fun _=> .no) vs (fun _ _ h=>h.elim) ⟨fun j o hj=>by simp at hj,fun i j b _ hi=>by simp at hi⟩ hc)).mono ?_
 rintro e w' ⟨u,X',Z',rfl,h1,h2⟩
 simp only [V.d,Ty.d,C] at h1
 rw [h1.1]
 exact ⟨rfl,h2.fr.os,h2.fr.tape,h2.fr.output,h2.fr.size,fun b hb=>h2.fr.keep b hb (by simp [X5])⟩
theorem QCS {k:IntKind}: ∀ (zs:List Int),Cs X w Z (zs.flatMap (Ty.int k).cells) (zs.map (Value.int k))
 | []=>by simp [Cs]
 |z::zs=>by
  simp only [BV,Ty.cells,BD,BO,Cs]
  exact ⟨_,_,rfl,⟨rfl,rfl⟩,QCS zs⟩
theorem introw_c {k:IntKind}{W:World}{a:Option Addr}{len cap:Nat}{zs:List Int}(hr:IsRow k W a len cap zs):C (fun _ _=>False) W Z (V.t (.sl (.int k)) (zs.take len)).d (.slice a len cap):=by
 rcases hr with ⟨rfl,rfl,rfl,rfl⟩|⟨x,rfl,h1,h2,h3,h4,h5⟩
 ·simp only [V.d,Ty.d,C,List.take_nil,Bv]
  exact ⟨none,0,rfl,BI _,by simp [maxLen],fun _=>rfl,fun h=>absurd h (by omega)⟩
 ·have hlen:(zs.take len).length=len:=by rw [B9];omega
  simp only [V.d,Ty.d,C,hlen]
  refine ⟨some x,cap,rfl,h1,h2,fun h=>by subst h;simp,fun h=> ?_⟩
  obtain ⟨b,off,sp⟩:=x
  have h0:=h4 0 (by omega)
  have hsp:sp=none:=by
   simp only [World.cell?, Addr.add] at h0
   cases sp with
   |none=>rfl
   |some s=>split at h0<;>simp at h0
  subst hsp
  refine ⟨b,off,_,rfl,QCS _, ?_,fun j _ h=>h,fun j u hu=> ?_,fun u hu=> ?_⟩
  ·rcases Dg b W.heap.size with hlt|hge
   ·exact hlt
   ·simp [World.cell?, Addr.add,Array.getElem?_eq_none hge] at h0
  ·rw [Dm] at hu
   have hj:j<len:=by
    rcases Dg j len with hlt|hge
    ·exact hlt
    ·rw [DV (by omega)] at hu;cases hu
   have:=h4 j (by omega)
   rw [List.getElem?_take_of_lt hj,Bl (by omega)] at hu
   rw [Bp,Bl (by omega)] at this
   simp only [B4,Be] at hu
   subst hu
   have ha:(Addr.mk b off none).add j=⟨b,off+j,none⟩:=by by_cases h0:j=0<;>simp [Addr.add,h0]
   rw [ha] at this
   simpa using this
  ·simp only [Dd] at hu
   obtain ⟨z,_,rfl⟩:=hu
   rfl
theorem EE {a:Ty}{ok:a.T->Bool}{F:a.T->V}{args:List V}{x:a.T}(h:a.args args=some x)(hok:ok x=true):QD (Qm a ok F) args []=some (F x,[]):=by
 simp [QD,Qm,h,hok]
end
end Go.Proofs.YtkmobehaikjdjaaGreat.K
/-
 What is handed to a law,whatever its types of plain data:the datum that is read is a typed value.
-/
namespace Go.Proofs.YtkmobehaikjdjaaGreat.K
open Go.RowKit Go.ChangeShapes Go.WideShapes Go.Deep
def Ty.wf:(y:Ty)->y.T->Prop
 |.int k,n=>(Lit.int k n).wf=true
 |.bool,_=>True
 |.str,s=>s.size<=maxLen
 |.sl e,l=>List.length l<=maxLen∧ ∀ x∈l,e.wf x
 |.nil,_=>True
 |.pr f r,x=>f.wf x.1/\r.wf x.2
 |.rv,_=>True
 |.rb,_=>True
def Oy (P:Program)(T:TypeId->Ty->Bool):List Field->Nat->Ty->Bool
 | [],_,.nil=>true
 |f::r,o,.pr a b=>decide (f.offset=o)&&decide (P.cellsOf f.type=a.sz)&&T f.type a&&Oy P T r (o+a.sz) b
 |_,_,_=>false
def Ue (P:Program):Nat->TypeId->Ty->Bool
 |0,_,_=>false
 |n+1,t,y=>match P.underlying t with
  |some (.int k)=>decide (y= .int k)
  |some .bool=>decide (y= .bool)
  |some .string=>decide (y= .str)
  |some (.slice e)=>match y with
   |.sl z=>Ue P n e z&&decide (P.cellsOf e=z.sz)&&decide (0<z.sz)
   |_=>false
  |some (.struct fs)=>y.row&&decide (P.cellsOf t=y.sz)&&Oy P (Ue P n) fs.toList 0 y
  |_=>false
abbrev noX:Nat->Nat->Prop:=fun _ _=>False
section
variable {H:Type}{enc:TypeId×Value->H}{P:Program}{w:World}{base:Nat}{sp:Nat->Bool}{held:Bool}{Z:Pl}
theorem QpK {X:Nat->Nat->Prop}: ∀ (y:Ty) (x:y.T) (vs:List Value),Cs X w Z (y.cells x) vs->vs.length=y.sz∧ ∀ v∈vs,v.oneCell'=true
 |.int k,n,vs,h=>by
  simp only [Ty.cells,Cs] at h
  obtain ⟨u,us,rfl,h1,rfl⟩:=h
  simp only [C] at h1
  exact ⟨rfl,fun v hv=>by simp at hv;subst hv;rw [h1.1];exact h1.2⟩
 |.bool,n,vs,h=>by
  simp only [Ty.cells,Cs] at h
  obtain ⟨u,us,rfl,h1,rfl⟩:=h
  simp only [C] at h1
  exact ⟨rfl,fun v hv=>by simp at hv;subst hv;rw [h1.1];exact h1.2⟩
 |.str,n,vs,h=>by
  simp only [Ty.cells,Cs] at h
  obtain ⟨u,us,rfl,h1,rfl⟩:=h
  simp only [C] at h1
  exact ⟨rfl,fun v hv=>by simp at hv;subst hv;rw [h1.1];exact h1.2⟩
 |.sl e,l,vs,h=>by
  simp only [Ty.cells,Cs] at h
  obtain ⟨u,us,rfl,h1,rfl⟩:=h
  simp only [C] at h1
  obtain ⟨A,c,rfl,_⟩:=h1
  exact ⟨rfl,fun v hv=>by simp at hv;subst hv;rfl⟩
 |.rv,l,vs,h=>by
  simp only [Ty.cells,Cs] at h
  obtain ⟨u,us,rfl,h1,rfl⟩:=h
  simp only [C] at h1
  obtain ⟨A,c,rfl,_⟩:=h1
  exact ⟨rfl,fun v hv=>by simp at hv;subst hv;rfl⟩
 |.rb,l,vs,h=>by
  simp only [Ty.cells,Cs] at h
  obtain ⟨u,us,rfl,h1,rfl⟩:=h
  simp only [C] at h1
  obtain ⟨A,c,rfl,_⟩:=h1
  exact ⟨rfl,fun v hv=>by simp at hv;subst hv;rfl⟩
 |.nil,_,vs,h=>by
  simp only [Ty.cells,Cs] at h
  subst h
  exact ⟨rfl,fun v hv=>by cases hv⟩
 |.pr f r,x,vs,h=>by
  simp only [Ty.cells] at h
  obtain ⟨v1,v2,rfl,h1,h2⟩:=Cs.split h
  obtain ⟨a1,a2⟩:=QpK f x.1 v1 h1
  obtain ⟨b1,b2⟩:=QpK r x.2 v2 h2
  refine ⟨by simp only [Bj,Ty.sz,a1,b1],fun v hv=> ?_⟩
  rcases BL.1 hv with hv|hv
  ·exact a2 v hv
  ·exact b2 v hv
theorem QCT {X:Nat->Nat->Prop}{z:Ty}: ∀ (l:List z.T) (vs:List Value),Cs X w Z (l.flatMap z.cells) vs→ ∀ v∈vs,v.oneCell'=true
 | [],vs,h=>by
  simp only [List.flatMap_nil,Cs] at h
  subst h
  intro v hv
  cases hv
 |x::l,vs,h=>by
  rw [BV] at h
  obtain ⟨v1,v2,rfl,h1,h2⟩:=Cs.split h
  intro v hv
  rcases BL.1 hv with hv|hv
  ·exact (QpK z x v1 h1).2 v hv
  ·exact QCT l v2 h2 v hv
theorem QCU {T:TypeId->Ty->Bool}{n:Nat}{cs:List Value}(hT: ∀ t y cs x,T t y=true->DataW.trod enc P w base sp held n t cs=some x→ ∃ z:y.T,Cs noX w Z (y.cells z) cs/\y.wf z):
  ∀ (fs:List Field) (o:Nat) (y:Ty),Oy P T fs o y=true->(∀ (i:Nat) (f:Field),fs[i]? = some f→ ∃ x,DataW.trod enc P w base sp held n f.type ((cs.drop f.offset).take (P.cellsOf f.type))=some x)->o+y.sz=cs.length→
   ∃ z:y.T,Cs noX w Z (y.cells z) (cs.drop o)/\y.wf z
 | [],o,y,h,_,hl=>by
  cases y<;>simp only [Oy,BE] at h
  refine ⟨(), ?_,trivial⟩
  simp only [Ty.sz] at hl
  rw [D4 (by omega)]
  simp only [Ty.cells,Cs]
 |f::r,o,y,h,hf,hl=>by
  cases y with
  |pr a b=>
   simp only [Oy,Bd,Ba] at h
   obtain ⟨⟨⟨h1,h2⟩,h3⟩,h4⟩:=h
   obtain ⟨x,hx⟩:=hf 0 f rfl
   rw [h1,h2] at hx
   obtain ⟨z1,c1,w1⟩:=hT _ _ _ _ h3 hx
   simp only [Ty.sz] at hl
   obtain ⟨z2,c2,w2⟩:=QCU hT r (o+a.sz) b h4 (fun i f' hi=>hf (i+1) f' (by simpa using hi)) (by omega)
   refine ⟨(z1,z2), ?_,w1,w2⟩
   have:=c1.app c2
   rw [<-List.drop_drop,List.take_append_drop] at this
   exact this
  |_=>simp only [Oy,BE] at h
theorem QCV {z:Ty}{a:Addr}: ∀ (len:Nat),(∀ i,i<len→ ∃ cs',w.cells? base (a.add (i*z.sz)) z.sz=some cs'∧ ∃ z1:z.T,Cs noX w Jl (z.cells z1) cs'/\z.wf z1)→
  ∃ (l:List z.T) (vs:List Value),l.length=len/\Cs noX w Jl (l.flatMap z.cells) vs/\vs.length=len*z.sz/\(∀ j,j<len*z.sz->w.cell? (a.add j)=vs[j]?)∧ ∀ x∈l,z.wf x
 |0,_=>⟨[],[],rfl,by simp [Cs],by simp,fun j hj=>by omega,fun x hx=>by cases hx⟩
 |k+1,h=>by
  obtain ⟨l,vs,h1,h2,h3,h4,h5⟩:=QCV k fun i hi=>h i (by omega)
  obtain ⟨cs',hc,z1,c1,w1⟩:=h k (by omega)
  obtain ⟨_,hl,hat⟩:=World.cells?_some hc
  have e:(k+1)*z.sz=k*z.sz+z.sz:=Nat.succ_mul k z.sz
  refine ⟨l++[z1],vs++cs',by simp [h1], ?_,by rw [Bj,h3,hl,e],fun j hj=> ?_,fun x hx=> ?_⟩
  ·rw [DN]
   exact h2.app (by simpa using c1)
  ·by_cases hj2:j<k*z.sz
   ·rw [DF (by omega)]
    exact h4 j hj2
   ·obtain ⟨i,rfl⟩: ∃ i,j=k*z.sz+i:=⟨j-k*z.sz,by omega⟩
    rw [List.getElem?_append_right (by omega),h3,Nat.add_sub_cancel_left, <- hat i (by omega),Go.Deep.add_add]
  ·rcases BL.1 hx with hx|hx
   ·exact h5 x hx
   ·simp at hx
    subst hx
    exact w1
theorem QpL: ∀ (n:Nat) (t:TypeId) (y:Ty) (Jg:Nat) (cs:List Value) (x:DataW H×List MemPlace) (Z:Pl),Ue P n t y=true->DataW.trod enc P w base sp held Jg t cs=some x→
  ∃ z:y.T,Cs noX w Z (y.cells z) cs/\y.wf z
 |0,t,y,_,_,_,_,h,_=>by simp [Ue] at h
 |n+1,t,y,Jg,cs,x,Z,h,hx=>by
  simp only [Ue] at h
  cases hu:P.underlying t with
  |none=>rw [hu] at h;cases h
  |some d=>
   rw [hu] at h
   cases d<;>simp only [BE] at h
   case int k=>
    simp only [Ba] at h
    subst h
    obtain ⟨m,rfl,_,hw⟩:=DataW.trod_int hu hx
    exact ⟨m,by simp only [Ty.cells];exact Cs.mk1 (show _/\_ from ⟨rfl,rfl⟩),hw⟩
   case bool=>
    simp only [Ba] at h
    subst h
    obtain ⟨m,rfl,_⟩:=DataW.trod_bool hu hx
    exact ⟨m,by simp only [Ty.cells];exact Cs.mk1 (show _/\_ from ⟨rfl,rfl⟩),trivial⟩
   case string=>
    simp only [Ba] at h
    subst h
    obtain ⟨m,rfl,_,hw⟩:=DataW.trod_string hu hx
    exact ⟨m,by simp only [Ty.cells];exact Cs.mk1 (show _/\_ from ⟨rfl,rfl⟩),hw⟩
   case slice e=>
    cases y<;>simp only [BE] at h
    case sl z=>
     simp only [Bd,Ba] at h
     obtain ⟨⟨h1,h2⟩,h3⟩:=h
     rcases open_slice hu hx with ⟨rfl,_⟩|⟨a,len,cap,m,f2,D,Pl,rfl,_,hl,hm,hmm,_,hi⟩
     ·refine ⟨[], ?_,by simp [maxLen],fun x hx=>by cases hx⟩
      simp only [Ty.cells]
      refine Cs.mk1 ?_
      simp only [C,Bv]
      exact ⟨none,0,rfl,BI _,by simp [maxLen],fun _=>rfl,fun h=>absurd h (by omega)⟩
     ·have hle:len<=m:=by rw [hmm];split<;>omega
      obtain ⟨l,vs,q1,q2,q3,q4,q5⟩:=QCV (w:=w) (base:=base) (z:=z) (a:=a) len fun i hil=>by
       obtain ⟨cs',g1,g2⟩:=hi i (by omega)
       rw [h2] at g1
       exact ⟨cs',g1,QpL n e z f2 cs' _ Jl h1 g2⟩
      refine ⟨l, ?_,⟨by omega,q5⟩⟩
      simp only [Ty.cells]
      refine Cs.mk1 ?_
      simp only [C]
      refine ⟨some a,cap,by rw [q1],by omega,hm,fun h0=>by have:l=[]:=BJ h0;subst this;rfl,fun hp=> ?_⟩
      rw [q1] at hp
      obtain ⟨v0,hv0⟩: ∃ v,vs[0]? = some v:=by
       have:0<vs.length:=by rw [q3];exact Nat.mul_pos hp h3
       exact ⟨_,Bl this⟩
      have h0:=q4 0 (Nat.mul_pos hp h3)
      rw [hv0] at h0
      obtain ⟨b,off,spot⟩:=a
      have hsp:spot=none:=by
       simp only [World.cell?, Addr.add] at h0
       cases spot with
       |none=>rfl
       |some s=>split at h0<;>simp at h0
      subst hsp
      refine ⟨b,off,vs,rfl,q2, ?_,fun j _ h=>h,fun j u hu'=> ?_,fun u hu'=> ?_⟩
      ·rcases Dg b w.heap.size with hlt|hge
       ·exact hlt
       ·simp [World.cell?, Addr.add,Array.getElem?_eq_none hge] at h0
      ·have hj:j<len*z.sz:=by rw [<-q3];exact (BN.1 hu').1
       have:=q4 j hj
       have ha:(Addr.mk b off none).add j=⟨b,off+j,none⟩:=by by_cases h0:j=0<;>simp [Addr.add,h0]
       rw [ha,hu'] at this
       exact this
      ·exact (QCT l vs q2) u hu'
   case struct fs=>
    simp only [Bd,Ba] at h
    obtain ⟨⟨_,h2⟩,h3⟩:=h
    obtain ⟨xs,m,_,_,hlen,hxl,hf⟩:=DataW.trod_struct hu hx
    have:=QCU (n:=m) (cs:=cs) (Z:=Z) (fun t y cs x=>QpL n t y m cs x Z) fs.toList 0 y h3 (fun i f hi=>by
     have hi':fs[i]? = some f:=by simpa using hi
     have hlt:=(B7.1 hi').1
     exact ⟨xs[i]'(by omega),(hf i f hi').trans (Bl _)⟩) (by omega)
    simpa using this
theorem Qg1 {n:Nat}{t:TypeId}{y:Ty}{v:Value}{r:Reach}{b0:Nat}{d:DataW H}{ps:List MemPlace}(h:Ue P (n+1) t y=true)(hval:Value.okWide P w r b0 t v)(hd:DataW.Trod enc P w base sp held t v d ps):
  ∃ z:y.T,C noX w Z (V.t y z).d v/\y.wf z:=by
 have h':=h
 obtain ⟨Jg,hf⟩:=hd
 obtain ⟨z,hz,hw⟩:=QpL (n+1) t y Jg _ _ Z h hf
 refine ⟨z, ?_,hw⟩
 simp only [Ue] at h
 simp only [V.d]
 cases hu:P.underlying t with
 |none=>rw [hu] at h;cases h
 |some dsc=>
  rw [hu] at h
  cases dsc<;>simp only [BE] at h
  case int k=>
   simp only [Ba] at h
   subst h
   obtain ⟨m,rfl,_⟩:=open_int hu hval ⟨Jg,hf⟩
   simp only [Ty.cells,Value.cells] at hz
   obtain ⟨u,e,hc⟩:=hz.one
   simp at e
   subst e
   exact hc
  case bool=>
   simp only [Ba] at h
   subst h
   obtain ⟨m,rfl,_⟩:=open_bool hu hval ⟨Jg,hf⟩
   simp only [Ty.cells,Value.cells] at hz
   obtain ⟨u,e,hc⟩:=hz.one
   simp at e
   subst e
   exact hc
  case string=>
   simp only [Ba] at h
   subst h
   obtain ⟨m,rfl,_⟩:=Go.ChangeMaps.open_string hu hval ⟨Jg,hf⟩
   simp only [Ty.cells,Value.cells] at hz
   obtain ⟨u,e,hc⟩:=hz.one
   simp at e
   subst e
   exact hc
  case slice e=>
   cases y<;>simp only [BE] at h
   case sl z'=>
    obtain ⟨a,len,cap,rfl⟩:=okWide_slice hu hval
    simp only [Ty.cells,Value.cells] at hz
    obtain ⟨u,e,hc⟩:=hz.one
    simp at e
    subst e
    exact hc
  case struct fs=>
   simp only [Bd] at h
   obtain ⟨cs,rfl,_⟩:=okWide_struct hu hval
   rw [y.d_row z h.1.1]
   simp only [C]
   exact ⟨cs.toList,by simp,by simpa [Value.cells] using hz⟩
end
end Go.Proofs.YtkmobehaikjdjaaGreat.K
/-
 Operations that are taken like calls:what they make.
-/
namespace Go.Proofs.YtkmobehaikjdjaaGreat.K
open Go.RowKit
def tyR (y:Ty):Nat->Ty
 |0=> .nil
 |n+1=> .pr y (tyR y n)
def Oz (y:Ty):(n:Nat)->(tyR y n).T->Nat->y.T
 |0,_,_=>y.zero
 |n+1,x,0=>(show y.T×(tyR y n).T from x).1
 |n+1,x,j+1=>Oz y n (show y.T×(tyR y n).T from x).2 j
theorem QTc (y:Ty)(n:Nat):(tyR y n).row=true:=by cases n<;>rfl
theorem QCW (y:Ty): ∀ (n:Nat) (x:(tyR y n).T) (j:Nat),j<n->(((tyR y n).cells x).drop (j*y.sz)).take y.sz=y.cells (Oz y n x j)/\j*y.sz+y.sz<=((tyR y n).cells x).length
 |0,_,j,h=>by omega
 |n+1,x,0,_=>by
  have e:(tyR y (n+1)).cells x=y.cells (show y.T×(tyR y n).T from x).1++(tyR y n).cells (show y.T×(tyR y n).T from x).2:=rfl
  have hl:=y.cells_len (show y.T×(tyR y n).T from x).1
  rw [e,Nat.zero_mul,Bx,List.take_left' hl]
  exact ⟨rfl,by rw [Bj];omega⟩
 |n+1,x,j+1,h=>by
  have e:(tyR y (n+1)).cells x=y.cells (show y.T×(tyR y n).T from x).1++(tyR y n).cells (show y.T×(tyR y n).T from x).2:=rfl
  have hl:=y.cells_len (show y.T×(tyR y n).T from x).1
  obtain ⟨h1,h2⟩:=QCW y n (show y.T×(tyR y n).T from x).2 j (by omega)
  have e2:(j+1)*y.sz=y.sz+j*y.sz:=by rw [Nat.succ_mul,Nat.add_comm]
  rw [e,e2]
  refine ⟨?_,by rw [Bj];omega⟩
  rw [<-List.drop_drop,List.drop_left' hl]
  exact h1
section
variable {P:Program}
theorem QTd {f:FuncId}{a:Ty}{ok:a.T->Bool}{F:a.T->V}{g:List Value->Sem Value}(hg:YZ f=some g)
  (h: ∀ x,ok x=true→ ∀ (X:Nat->Nat->Prop) (w:World) (Z:Pl) vs,Cs X w Z (V.ds (a.canon x)) vs→ ∃ u,(g vs).run P w= .ok u w/\C X w Z (F x).d u):QH P f (QD (Qm a ok F)):=by
 intro args objs r os hF X w Z vs hfin hl hc
 unfold QD Qm at hF
 cases objs with
 |cons o os'=>simp at hF
 |nil=>
  simp only at hF
  cases ha:a.args args with
  |none=>rw [ha] at hF;cases hF
  |some x=>
   rw [ha] at hF
   simp only at hF
   split at hF
   ·rename_i r' os' hq
    simp only [Be,Bq] at hF hq
    obtain ⟨rfl,rfl⟩:=hF
    obtain ⟨h1,rfl,rfl⟩:=hq
    obtain ⟨u,e1,e2⟩:=h x h1 X w Z vs (Gy ha hc)
    unfold Does
    rw [hg]
    exact ⟨u,w,e1,u,X,Z,rfl,e2,QpI rfl hfin (Below.refl _ _)⟩
   ·cases hF
theorem QTe {t e n:Nat}{k:IntKind}{y:Ty}{d:TypeDesc}{inf:TypeInfo}(ht:P.underlying t=some (.array n e))(he:P.underlying e=some d)(hr:isRow d=y.row)(hi:P.info? e=some inf)(hsz:inf.size=y.sz)
  (arr:(tyR y n).T) (i:Int) (hok:0<=i/\i<(n:Int)) (X:Nat->Nat->Prop) (w:World) (Z:Pl) (vs:List Value) (hc:Cs X w Z (V.ds [.t (tyR y n) arr,.t (.int k) i]) vs):
  ∃ u,(match vs with|[x,y]=>Instr.index t x y|_=>stuck "operands").run P w= .ok u w/\C X w Z (V.t y (Oz y n arr i.toNat)).d u:=by
  simp only [Ty.canon,V.ds,Cs] at hc
  obtain ⟨u,us,rfl,h1,u2,us2,rfl,h2,rfl⟩:=hc
  simp only [V.d] at h1
  rw [Ty.d_row _ _ (QTc y n)] at h1
  simp only [C] at h1
  obtain ⟨cs,rfl,hcs⟩:=h1
  simp only [V.d,Ty.d,C] at h2
  rw [h2.1]
  obtain ⟨q1,q2⟩:=QCW y n arr i.toNat (by omega)
  have hlen:=hcs.len
  have hcs2:=(hcs.drop_ (i.toNat*y.sz)).take_ y.sz
  rw [q1] at hcs2
  cases hrow:y.row with
  |true=>
   refine ⟨.agg ((cs.drop (i.toNat*y.sz)).take y.sz).toArray, ?_, ?_⟩
   ·rw [hrow] at hr
    simp [Instr.index,asIntOf,run_underlying ht,hok.1,hok.2,sizeOf,typeInfo,hi,hsz,part,FI he,hr,List.take_drop]
   ·simp only [V.d]
    rw [Ty.d_row _ _ hrow]
    simp only [C]
    exact ⟨_,rfl,hcs2⟩
  |false=>
   have hd:=y.d_one (Oz y n arr i.toNat) hrow
   have h1:y.sz=1:=by have:=y.cells_len (Oz y n arr i.toNat);rw [hd] at this;exact this.symm
   rw [hd] at hcs2
   obtain ⟨v,hv,hcv⟩:=hcs2.one
   have hv0:cs[i.toNat*y.sz]? = some v:=by
    have:((cs.drop (i.toNat*y.sz)).take y.sz)[0]? = some v:=by rw [hv];rfl
    rw [List.getElem?_take_of_lt (by omega),Dn,DS] at this
    exact this
   refine ⟨v, ?_,hcv⟩
   rw [hrow] at hr
   simp [Instr.index,asIntOf,run_underlying ht,hok.1,hok.2,sizeOf,typeInfo,hi,hsz,part,FI he,hr,hv0]
def OA (y:Ty)(n:Nat)(x:(tyR y n).T)(i:Int):y.T:=Oz y n x i.toNat
def Gz (y:Ty)(n:Nat)(_x:(tyR y n).T)(i:Int):Bool:=decide ((0:Int)<=i/\i<(n:Int))
theorem QCX {t e n:Nat}{k:IntKind}{y:Ty}(ht:P.underlying t=some (.array n e))(hr:(P.underlying e).map isRow=some y.row)(hi:(P.info? e).map TypeInfo.size=some y.sz)(hlt:t<10000):
  QH P (JA 2 t 0) (QD (Qm (.pr (tyR y n) (.pr (.int k) .nil)) (fun x=>Gz y n x.1 x.2.1) (fun x=> .t y (OA y n x.1 x.2.1)))):=by
 obtain ⟨d,he,hr⟩:=Bk.1 hr
 obtain ⟨inf,hi,hsz⟩:=Bk.1 hi
 exact QTd (QLr hlt) fun x hok X w Z vs hc=>QTe ht he hr hi hsz x.1 x.2.1 (Bw hok) X w Z vs hc
theorem QCY {X:Nat->Nat->Prop}{w:World}{Z:Pl}: ∀ (l:List UInt8),Cs X w Z (List.flatMap (Ty.int .u8).cells (l.map fun b=>(b.toNat:Int))) (l.map fun b=>Value.int .u8 (b.toNat:Int))
 | []=>by simp [Cs]
 |b::l=>by
  simp only [BO,BV,Ty.cells,BD,Cs,C]
  exact ⟨_,_,rfl,⟨rfl,rfl⟩,QCY l⟩
def YB (s:ByteArray):Bool:=decide (s.size<=9223372036854775807)
theorem QTf {a b e:Nat}(ha:P.underlying a=some .string)(hb:P.underlying b=some (.slice e))(he:P.underlying e=some (.int .u8))(hlt:a<10000):
  QH P (JA 0 a b) (QD (Qm (.pr .str .nil) (fun x=>YB x.1) (fun x=> .t (.sl (.int .u8)) (Q4 x.1)))):=by
 intro args objs r os hF X w Z vs hfin hl hc
 unfold QD Qm at hF
 cases objs with
 |cons o os'=>simp at hF
 |nil=>
  simp only at hF
  cases ha':(Ty.pr .str .nil).args args with
  |none=>rw [ha'] at hF;cases hF
  |some x=>
   rw [ha'] at hF
   simp only at hF
   split at hF
   ·rename_i r' os' hq
    simp only [Be,Bq] at hF hq
    obtain ⟨rfl,rfl⟩:=hF
    obtain ⟨h1,rfl,rfl⟩:=hq
    have hc2:=Gy ha' hc
    obtain ⟨s,u0⟩:=x
    have h1:s.size<=9223372036854775807:=Bw h1
    simp only [Ty.canon,V.ds,V.d,Ty.d,Cs,C] at hc2
    obtain ⟨u,us,rfl,⟨rfl,_⟩,rfl⟩:=hc2
    have hr:=run_bytes_of_string (P:=P) w a b e s ha hb he
    have hge:=grownCap_ge w s.size 0 e
    have hle:=grownCap_le_maxLen w s.size 0 e (by simp [maxLen];omega)
    generalize grownCap w s.size 0 e=cap at hr hge hle
    have hbel:Below w.heap.size w (w.drew.alloc (.cells (bytesRow s cap) e ((bytesRow s cap).size,(bytesRow s cap).size+1))):=((Below.refl _ _).drew).alloc (BI _) _
    have hblk:(w.drew.alloc (.cells (bytesRow s cap) e ((bytesRow s cap).size,(bytesRow s cap).size+1))).heap[w.heap.size]? = some (.cells (bytesRow s cap) e ((bytesRow s cap).size,(bytesRow s cap).size+1)):=heap_alloc_new _ _
    have hlen:(Q4 s).length=s.size:=by simp [Q4]
    unfold Does
    rw [QLq hlt]
    refine ⟨_,_,hr,_,X,Z,rfl, ?_,QpI rfl hfin hbel⟩
    simp only [V.d,Ty.d,C]
    refine ⟨some ⟨w.heap.size,0,none⟩,cap,by rw [hlen],by rw [hlen];exact hge,hle,fun h0=>by rw [BJ h0];rfl,fun _=>⟨w.heap.size,0,s.data.toList.map fun b=>Value.int .u8 (b.toNat:Int),rfl,QCY _, ?_,fun j _ hx=> ?_,fun j v hj=> ?_,fun v hv=> ?_⟩⟩
    ·exact (B7.1 hblk).1
    ·exact absurd (hfin _ _ hx) (BK _)
    ·have hjl:=(BN.1 hj).1
     rw [BT] at hjl
     have:(bytesRow s cap)[j]? = some v:=by
      unfold bytesRow
      rw [Array.getElem?_append_left (by simpa using hjl)]
      rw [Dm] at hj
      simpa using hj
     simp only [World.cell?, hblk,DY]
     exact this
    ·simp only [Dd] at hv
     obtain ⟨b,_,rfl⟩:=hv
     rfl
   ·cases hF
end
end Go.Proofs.YtkmobehaikjdjaaGreat.K
/-
 Own slices that are handed to a function:it writes them,or uses them up.
-/
namespace Go.Proofs.YtkmobehaikjdjaaGreat.K
open Go.RowKit Go.Sort
@[reducible] def SOt:List SO->Type
 | []=>Unit
 |s::r=>s.T×SOt r
def WO:(l:List SO)->SOt l->List VO
 | [],_=>[]
 |s::r,x=>s.mk x.1::WO r x.2
def VO.wk (s:SO)(o:VO):VO:=
 match s,o with
 |.arr e _,.arr e' t l=>if e=e'+1000000/\e'<1000000 then .arr e t l else o
 |_,_=>o
def QbG:(l:List SO)->List VO->Option (SOt l)
 | [],[]=>some ()
 |s::r,o::os=>match s.rd (o.wk s),QbG r os with
  |some x,some y=>some (x,y)
  |_,_=>none
 |_,_=>none
theorem wk_at {X:Nat->Nat->Prop}{w:World}{Z:Pl}{k:Nat}{s:SO}{o:VO}(h:OAt X w Z k o)(hn:o≠ .no):OAt X w Z k (o.wk s)/\o.wk s≠ .no:=by
 unfold VO.wk
 split
 ·split
  ·rename_i hc
   obtain ⟨u,xs,h1,h2,h3⟩:=h
   exact ⟨⟨u,xs,h1,by rw [hc.1];exact h2.weak hc.2,h3⟩,by simp⟩
  ·exact ⟨h,hn⟩
 ·exact ⟨h,hn⟩
theorem QpM: ∀ {l:List SO} {os:List VO} {x:SOt l},QbG l os=some x->(WO l x).length=os.length∧ ∀ (j:Nat) o,(WO l x)[j]? = some o→ ∃ s o',os[j]? = some o'/\o=o'.wk s
 | [],[],_,_=>⟨rfl,fun j o h=>by simp [WO] at h⟩
 | [],_::_,_,h=>by cases h
 |_::_,[],_,h=>by cases h
 |s::r,v::vs,x,h=>by
  simp only [QbG] at h
  split at h
  ·rename_i x1 y1 h1 h2
   simp only [Be] at h
   subst h
   obtain ⟨q1,q2⟩:=QpM h2
   refine ⟨by simp only [WO,Br,q1],fun j o hj=> ?_⟩
   cases j with
   |zero=>
    simp only [WO,BZ,Be] at hj
    exact ⟨s,v,rfl,by rw [<-hj, <- SO.rd_mk h1]⟩
   |succ j=>
    simp only [WO,BX] at hj ⊢
    exact q2 j o hj
  ·cases h
theorem QTg {X:Nat->Nat->Prop}{w:World}{Z:Pl}{l:List SO}{os:List VO}{x:SOt l}(h:QbG l os=some x)(hl:Lent X w Z os):Lent X w Z (WO l x):=by
 obtain ⟨h1,h2⟩:=QpM h
 refine ⟨fun j o hj=> ?_,fun i j b hij hi hj=>hl.apart i j b hij (by omega) (by omega)⟩
 obtain ⟨s,o',q1,rfl⟩:=h2 j o hj
 obtain ⟨a,b⟩:=hl.at_ j o' q1
 exact wk_at a b
def Uf (l:List SV)(os:List SO)(ok:SVt l->SOt os->Bool)(F:SVt l->SOt os->V)(O:SVt l->SOt os->List VO):Ent:=fun args objs=>
 match EB l args,QbG os objs with
 |some x,some y=>some (ok x y,F x y,O x y)
 |_,_=>none
def QpN:SV->V->V
 |.ty t,v=>if t.row=true then (match v.as t with|some x=> .t t x|none=>v) else v
 |.bf _ t,.fn g [v]=>if t.row=true then (match v.as t with|some x=> .fn g [.t t x]|none=> .fn g [v]) else .fn g [v]
 |_,v=>v
def QbH:List SV->List V->List V
 |s::r,v::vs=>QpN s v::QbH r vs
 |_,vs=>vs
def Wl (l:List SV)(os:List SO)(ok:SVt l->SOt os->Bool)(F:SVt l->SOt os->V)(O:SVt l->SOt os->List VO):Ent:=fun args objs=>Uf l os ok F O (QbH l args) objs
theorem as_cs {X:Nat->Nat->Prop}{w:World}{Z:Pl}{t:Ty}{v:V}{x:t.T}{u:Value}(h:v.as t=some x)(hc:C X w Z v.d u):C X w Z (V.t t x).d u:=
 C.up _ _ (V.as_spec h hc)
theorem coeV_c {X:Nat->Nat->Prop}{w:World}{Z:Pl}{u:Value}(s:SV)(v:V)(hc:C X w Z v.d u):C X w Z (QpN s v).d u:=by
 unfold QpN
 split
 ·split
  ·split
   ·rename_i x h
    exact as_cs h hc
   ·exact hc
  ·exact hc
 ·split
  ·split
   ·rename_i x h
    simp only [V.d,V.ds,C,Cs] at hc ⊢
    obtain ⟨vs,h1,u1,us,h2,h3,h4⟩:=hc
    exact ⟨vs,h1,u1,us,h2,as_cs h h3,h4⟩
   ·exact hc
  ·exact hc
 ·exact hc
theorem QCZ {X:Nat->Nat->Prop}{w:World}{Z:Pl}: ∀ (l:List SV) (vs:List V) (us:List Value),Cs X w Z (V.ds vs) us->Cs X w Z (V.ds (QbH l vs)) us
 | [],vs,us,h=>h
 |s::r,[],us,h=>h
 |s::r,v::vs,us,h=>by
  simp only [QbH,V.ds,Cs] at h ⊢
  obtain ⟨u,us',rfl,h2,h3⟩:=h
  exact ⟨u,us',rfl,coeV_c s v h2,QCZ r vs us' h3⟩
section
variable {P:Program}
theorem WP {f:FuncId}{l:List SV}{os:List SO}{ok:SVt l->SOt os->Bool}{F:SVt l->SOt os->V}{O:SVt l->SOt os->List VO}(hM:QH P f (QD (Uf l os ok F O))):QH P f (QD (Wl l os ok F O)):=
 fun args objs r os' hF X w Z vs hfin hl hc=>hM (QbH l args) objs r os' hF X w Z vs hfin hl (QCZ l args vs hc)
theorem QC0 {f:FuncId}{l:List SV}{os:List SO}{ok:SVt l->SOt os->Bool}{F:SVt l->SOt os->V}{O:SVt l->SOt os->List VO}
  (h: ∀ x y,ok x y=true→ ∀ X w Z vs,(∀ b q,X b q->b<w.heap.size)->Lent X w Z (WO os y)->Cs X w Z (V.ds (Fm l x)) vs→
   Does P f vs.toArray w fun e w'=> ∃ u X' Z',e= .returned u/\C X' w' Z' (F x y).d u/\Ends X w Z (WO os y).length X' w' Z' (O x y)):QH P f (QD (Uf l os ok F O)):=by
 intro args objs r os' hF X w Z vs hfin hl hc
 unfold QD Uf at hF
 split at hF
 ·rename_i r' os'' hq
  split at hq
  ·rename_i x y hx hy
   simp only [Be,Bq] at hF hq
   obtain ⟨rfl,rfl⟩:=hF
   obtain ⟨h1,rfl,rfl⟩:=hq
   have ha:=Ow hx
   subst ha
   have:=h x y h1 X w Z vs hfin (QTg hy hl) hc
   rw [(QpM hy).1] at this
   exact this
  ·cases hq
 ·cases hF
theorem Y8 {f:FuncId}{R:Fun}{l:List SV}{os:List SO}{ok:SVt l->SOt os->Bool}{F:SVt l->SOt os->V}{O:SVt l->SOt os->List VO}(hM:QH P f R)
  (h: ∀ x y,ok x y=true->R (Fm l x) (WO os y)=some (F x y,O x y)):QH P f (QD (Uf l os ok F O)):=
 QC0 fun x y hok X w Z vs hfin hl hc=>hM _ _ _ _ (h x y hok) X w Z vs hfin hl hc
variable {X:Nat->Nat->Prop}{w w':World}{Z:Pl}
theorem QC1 {o o':VO}{row:Option Nat}(hfin: ∀ b q,X b q->b<w.heap.size)(hat:OAt X w' Z 50000 o')(hg:w.grownBy w' row)(hr:row=none∨row=(Z 50000).blk):Ends X w Z [o].length X w' Z [o']:=by
 refine ⟨fun b q hq=>BS (hfin b q hq) hg.size,fun j o hj=> ?_,fun i j b hij hi hj=>by simp at hi hj;omega,by simp,fun _ _=>rfl,fun j b hj hl=>by simp at hj hl;omega,⟨hg.os,hg.tape,hg.output,hg.size,fun b hb hm=>hg.block b hb fun he=>hm ?_⟩,fun _ _ _ h=>h,fun _ _ _ _ h=>h⟩
 ·cases j with
  |zero=>
   simp only [BZ,Be] at hj
   subst hj
   exact ⟨hat,fun h=>absurd h (by simp)⟩
  |succ j=>simp at hj
 ·rcases hr with hr|hr
  ·rw [hr] at he;cases he
  ·simp only [X5,Bh,List.mem_filterMap,Dl]
   exact ⟨0,by omega,by rw [<-hr];exact he.symm⟩
theorem QC2 {k:IntKind}: ∀ (l:List Int) (vs:List Value),Cs X w Z (List.flatMap (Ty.int k).cells l) vs->vs=l.map (Value.int k)
 | [],vs,h=>by simpa [Cs] using h
 |z::zs,vs,h=>by
  simp only [BV,Ty.cells,BD,Cs] at h
  obtain ⟨u,us,rfl,h1,h2⟩:=h
  simp only [C] at h1
  rw [h1.1,QC2 zs us h2]
  rfl
theorem QC3 {k:IntKind}: ∀ (l:List Int),Cs X w Z (List.flatMap (Ty.int k).cells l) (l.map (Value.int k))
 | []=>by simp [Cs]
 |z::zs=>by
  simp only [BV,Ty.cells,BD,Cs,C,BO]
  exact ⟨_,_,rfl,⟨rfl,rfl⟩,QC3 zs⟩
def Qg2 {α:Type}(l:List α):Bool:=decide (l.length<4611686018427387904)
def YS (l:List Int):List Int:=l.mergeSort fun x y=>decide (x<=y)
theorem QTh {e:Nat}{k:IntKind}{l:List Int}{vs:List Value}(hl:Lent X w Z [.arr e (.int k) l])(hc:Cs X w Z (V.ds [.ms 50000]) vs)(he:e<1000000):
  ∃ u,vs=[u]/\Z 50000= .arr u/\w.ownsRow 0 e 1 u l.length (l.map (Value.int k))∧ ∀ b,u.ownBlock=some b→ ∀ o,X b o:=by
 obtain ⟨⟨u,xs,h1,h2,h3,h4,h5⟩,_⟩:=hl.at_ 0 _ rfl
 simp only [V.ds,V.d,Cs,C] at hc
 obtain ⟨u',us,rfl,⟨g1,_⟩,rfl⟩:=hc
 rw [h1] at g1
 injection g1 with g1
 subst g1
 have:=QC2 l xs h3
 subst this
 exact ⟨u,rfl,h1,h2.own he,h5⟩
theorem QTi {f:FuncId}{e:Nat}(hlt:f<1000000)
  (hs: ∀ (blk off cap:Nat) (zs:List Int) (w:World),Holds (Value.int .i64) w blk off zs.toArray->blk<w.heap.size->zs.length<4611686018427387904→
   Calls P f #[.slice (some ⟨blk,off,none⟩) zs.length cap] w fun e w'=>e= .returned (.tuple #[])∧ ∃ n os,w'=grow (putRow (Value.int .i64) (Sort.ahead w n) blk off (zs.mergeSort fun x y=>decide (x<=y)).toArray) os)
  (h0: ∀ (p:Option Addr) (cap:Nat) (w:World),Calls P f #[.slice p 0 cap] w fun e w'=>e= .returned (.tuple #[])/\w'=w) (he:e<1000000:=by decide):
  QH P f (QD (Uf [.ms 50000] [.arr e (.int .i64)] (fun _ y=>Qg2 y.1) (fun _ _=> .tu []) (fun _ y=>[.arr e (.int .i64) (YS y.1)]))):=by
 refine QC0 fun x y hok X w Z vs hfin hl hc=> ?_
 obtain ⟨l,u0⟩:=y
 obtain ⟨u,rfl,h1,h2,h3⟩:=QTh hl hc he
 have hok:l.length<4611686018427387904:=Bw hok
 have htu: ∀ (w':World),C X w' Z (V.tu []).d (.tuple #[]):=fun w'=>by
  simp only [V.d,V.ds,C,Cs]
  exact ⟨[],rfl,rfl⟩
 have hlen:(YS l).length=l.length:=List.length_mergeSort _
 refine QkW hlt ?_
 have none_case: ∀ (p:Option Addr) cap,l=[]->u= .slice p 0 cap->Calls P f [u].toArray w fun e' w'=> ∃ u X' Z',e'= .returned u/\C X' w' Z' (V.tu []).d u/\Ends X w Z (WO [.arr e (.int .i64)] (l,u0)).length X' w' Z' [.arr e (.int .i64) (YS l)]:=by
  intro p cap hl0 hu
  subst hl0 hu
  refine (h0 p cap w).mono ?_
  rintro _ _ ⟨rfl,rfl⟩
  refine ⟨_,X,Z,rfl,htu _,QC1 (row:=none) hfin ?_ ⟨rfl,rfl,rfl,BI _,fun _ _ _=>rfl⟩ (.inl rfl)⟩
  have h9:=(hl.at_ 0 _ rfl).1
  have e0:YS []=[]:=by simp [YS]
  rw [e0]
  exact h9
 rcases h2.2 with ⟨q1,q2⟩|⟨g,cap,cur,rfl,q2,q3,q4,q5,q6,q7⟩
 ·exact none_case none 0 (BJ q2) q1
 ·by_cases hz:l=[]
  ·exact none_case _ _ hz (by subst hz;rfl)
  ·have ht:cur.toList.take l.length=l.map (Value.int .i64):=by rw [Nat.mul_one] at q7;exact q7
   have hb:g<w.heap.size:=(B7.1 q3).1
   refine (hs g 0 cap l w (holds_of_blockI q3 ht) hb hok).mono ?_
   rintro _ _ ⟨rfl,n,os,rfl⟩
   refine ⟨_,X,Z,rfl,htu _,QC1 (row:=some g) hfin ?_ (grownBy_sortedI _) (.inr (by rw [h1];rfl))⟩
   have hown:=ownsRow_sortedI (n:=n) (os:=os) (ss:=l) (ts:=YS l) hlen (B0 g) q3 q4 q5 q6
   refine ⟨_,(YS l).map (Value.int .i64),h1,by rw [hlen];exact .of hown,QC3 _,fun x hx=> ?_,h3⟩
   obtain ⟨z,_,rfl⟩:=Dd.1 hx
   rfl
end
end Go.Proofs.YtkmobehaikjdjaaGreat.K
/-
 Interfaces:values that are put into them,methods that are called through them;functions of which there is more than one word.
-/
namespace Go.Proofs.YtkmobehaikjdjaaGreat.K
open Go.RowKit
section
variable {P:Program}
end
end Go.Proofs.YtkmobehaikjdjaaGreat.K
namespace Go.Proofs.YtkmobehaikjdjaaGreat.K
open Go.RowKit
def Gp:Code->List (Array Oper)
 |.region _ ops _=>[ops]
 |.seq a b=>Gp a++Gp b
 |.cond _ a b=>Gp a++Gp b
 |.rangeFunc _ _ a b=>Gp a++Gp b
 |.block _ c=>Gp c
 |.loop c=>Gp c
 |_=>[]
noncomputable def Qfn (f:Func)(i:Nat):Array Oper:=match f.body with
 |some c=>(Gp c).getD i #[]
 |none=> #[]
noncomputable def rT (f:Func)(i:Nat):List RO:=(Qfn f i).toList.map (trR Tryz.prog (Qfn f i))
noncomputable def dT (f:Func)(i:Nat):List DO:=(Qfn f i).toList.map (trD Tryz.prog (Qfn f i))
abbrev tI:Ty:= .int .i64
abbrev Qyx:Ty:=(.pr tI (.pr tI (.pr .bool (.pr (.int .u8) .nil))))
abbrev Qyy:Ty:=(.pr .str (.pr (.int .u64) .nil))
abbrev Qe:Ty:=(.pr tI (.pr tI .nil))
abbrev Aa:Type:=Int×(Int×Unit)
abbrev Aa.Alg (x:Aa):Int:=x.1
abbrev QK:Ty:=(.pr Qe (.pr tI (.pr .str (.pr Qe (.pr (.sl Qe) .nil)))))
abbrev Ae:Type:=Aa×(Int×(ByteArray×(Aa×((List Aa)×Unit))))
abbrev Ae.Purpose (x:Ae):Int:=x.2.1
abbrev QW:Ty:=(.pr tI (.pr .str (.pr .str (.pr Qe (.pr tI (.pr Qe (.pr tI (.pr tI (.pr .bool (.pr tI (.pr (.sl .str) (.pr Qe .nil))))))))))))
abbrev Af:Type:=Int×(ByteArray×(ByteArray×(Aa×(Int×(Aa×(Int×(Int×(Bool×(Int×((List ByteArray)×(Aa×Unit)))))))))))
abbrev Af.From (x:Af):Int:=x.2.2.2.2.2.2.1
abbrev Af.To (x:Af):Int:=x.2.2.2.2.2.2.2.1
abbrev Q2:Ty:=(.pr Qe (.pr tI (.pr (.sl QW) .nil)))
abbrev Aj:Type:=Aa×(Int×((List Af)×Unit))
abbrev Qp:Ty:=(.pr .str (.pr tI (.pr tI (.pr (.sl tI) (.pr .bool (.pr (.sl Q2) (.pr (.sl tI) (.pr (.sl tI) (.pr .bool .nil)))))))))
abbrev Ac:Type:=ByteArray×(Int×(Int×((List Int)×(Bool×((List Aj)×((List Int)×((List Int)×(Bool×Unit))))))))
abbrev Zt:Ty:=(.pr Qe (.pr tI .nil))
abbrev Ap:Type:=Aa×(Int×Unit)
abbrev Jf:Ty:=(.pr .str (.pr tI (.pr tI (.pr (.sl Zt) (.pr tI .nil)))))
abbrev Ag:Type:=ByteArray×(Int×(Int×((List Ap)×(Int×Unit))))
abbrev Ag.Purpose (x:Ag):Int:=x.2.2.1
abbrev Qo:Ty:=(.pr (.sl Qp) (.pr (.sl Qe) (.pr (.sl Jf) .nil)))
abbrev Ad:Type:=(List Ac)×((List Aa)×((List Ag)×Unit))
abbrev Jz:Ty:=(.pr .bool (.pr tI (.pr tI (.pr tI (.pr tI (.pr tI .nil))))))
abbrev Ai:Type:=Bool×(Int×(Int×(Int×(Int×(Int×Unit)))))
abbrev Ai.Alg (x:Ai):Int:=x.2.1
abbrev Ai.Below (x:Ai):Int:=x.2.2.1
abbrev Ai.Purpose (x:Ai):Int:=x.2.2.2.1
abbrev Ai.From (x:Ai):Int:=x.2.2.2.2.1
abbrev Ai.To (x:Ai):Int:=x.2.2.2.2.2.1
abbrev Q3:Ty:=(.pr (.sl Jz) (.pr (.sl Qe) .nil))
abbrev Ah:Type:=(List Ai)×((List Aa)×Unit)
abbrev Qn:Ty:=(.pr (.sl tI) (.pr tI .nil))
abbrev Ab:Type:=(List Int)×(Int×Unit)
abbrev Ab.L (x:Ab):(List Int):=x.1
abbrev ZD:Ty:=(.pr tI (.pr tI (.pr tI (.pr tI (.pr Q2 .nil)))))
abbrev Am:Type:=Int×(Int×(Int×(Int×(Aj×Unit))))
abbrev Fc:Ty:=(.pr Q3 (.pr (.sl QK) (.pr Qn (.pr tI .nil))))
abbrev Ak:Type:=Ah×((List Ae)×(Ab×(Int×Unit)))
abbrev Ak.p (x:Ak):Ah:=x.1
abbrev Ak.l (x:Ak):(List Ae):=x.2.1
abbrev Ak.o (x:Ak):Ab:=x.2.2.1
abbrev Ak.day (x:Ak):Int:=x.2.2.2.1
abbrev Qyz:Ty:=(.pr Qe (.pr (.pr Qe (.pr Qe (.pr Qe (.pr Qe .nil)))) .nil))
abbrev Aq:Type:=Aa×((Aa×(Aa×(Aa×(Aa×Unit))))×Unit)
abbrev Aq.outcome (x:Aq):Aa:=x.1
abbrev Aq.uses (x:Aq):(Aa×(Aa×(Aa×(Aa×Unit)))):=x.2.1
abbrev Je:Ty:=(.pr tI (.pr .str (.pr Qe (.pr Qe (.pr Qe (.pr Qe (.pr tI (.pr tI .nil))))))))
abbrev Ao:Type:=Int×(ByteArray×(Aa×(Aa×(Aa×(Aa×(Int×(Int×Unit)))))))
abbrev QaL:Ty:=(.pr Qp (.pr tI (.pr (.sl tI) .nil)))
abbrev An:Type:=Ac×(Int×((List Int)×Unit))
abbrev An.server (x:An):Ac:=x.1
abbrev An.version (x:An):Int:=x.2.1
abbrev An.suites (x:An):(List Int):=x.2.2.1
abbrev Gq:Ty:=(.pr .str (.pr tI .nil))
abbrev Ar:Type:=ByteArray×(Int×Unit)
abbrev Ar.name (x:Ar):ByteArray:=x.1
abbrev Ar.kind (x:Ar):Int:=x.2.1
abbrev Qs:Ty:=(.pr .str (.pr tI (.pr tI (.pr (.sl tI) (.pr (.sl tI) .nil)))))
abbrev Al:Type:=ByteArray×(Int×(Int×((List Int)×((List Int)×Unit))))
abbrev Al.name (x:Al):ByteArray:=x.1
abbrev Al.kind (x:Al):Int:=x.2.1
abbrev Al.way (x:Al):Int:=x.2.2.1
abbrev Al.sizes (x:Al):(List Int):=x.2.2.2.1
abbrev Al.strengths (x:Al):(List Int):=x.2.2.2.2.1
def TYl:List (Nat×Ty):=[(2,tI),(3,tI),(4,.bool),(5,(.int .u8)),(6,(.int .u8)),(7,Qyx),(8,Qyx),(9,.str),(10,.str),(11,.str),(12,(.int .u64)),(13,Qyy),(14,Qyy),(21,(.int .i32)),(22,(.sl tI)),(23,Qe),(24,Qe),(25,Qe),(26,Qe),(27,(.sl Qe)),(28,QK),(29,QK),(34,(.sl Qp)),(35,(.sl Qe)),(36,(.sl Jf)),(37,Qo),(38,Qo),(42,(.sl Jz)),(43,(.sl Qe)),(44,Q3),(45,Q3),(48,(.sl QK)),(49,Qn),(50,Qn),(55,(.sl Qe)),(56,tI),(61,(.sl Qo)),(69,Qn),(70,Qn),(73,(.sl QW)),(74,Q2),(75,Q2),(76,ZD),(77,ZD),(79,(.sl .str)),(80,(.sl Q2)),(81,Qp),(82,Qp),(84,Qe),(85,Qe),(86,(.sl Zt)),(87,Jf),(88,Jf),(92,Jz),(93,Jz),(94,Qe),(95,Qe),(96,(.sl Qe)),(100,Fc),(101,Fc),(107,Qe),(108,Qe),(114,(.sl (.sl tI))),(121,Zt),(122,Zt),(123,(.sl (.int .u8))),(127,Qe),(128,Qe),(145,(.pr Qe (.pr Qe (.pr Qe (.pr Qe .nil))))),(146,Qyz),(147,Qyz),(152,QW),(153,QW),(162,(.sl Qy)),(163,(.pr tI (.pr (.sl (.int .u8)) (.pr .bool (.pr (.sl Qy) .nil))))),(164,Qy),(169,(.int .u32)),(184,Je),(185,Je),(195,(.int .u64)),(210,QaL),(211,QaL),(217,(.sl Je)),(219,Gq),(220,Gq),(221,(.sl Gq)),(237,Qs),(238,Qs),(258,(.pr Qs (.pr Qs (.pr Qs (.pr Qs (.pr Qs (.pr Qs (.pr Qs (.pr Qs (.pr Qs (.pr Qs (.pr Qs (.pr Qs (.pr Qs (.pr Qs (.pr Qs (.pr Qs (.pr Qs (.pr Qs (.pr Qs (.pr Qs (.pr Qs (.pr Qs (.pr Qs .nil)))))))))))))))))))))))),(262,Qe),(263,(.pr Qe (.pr Qe (.pr Qe (.pr Qe (.pr Qe .nil)))))),(275,tI),(284,(.int .u64)),(287,(.int .u64)),(307,(.int .u8)),(308,(.int .u8)),(311,(.int .i32)),(312,(.int .i32))]
def TYs (e:Nat):Option Ty:=TYl.lookup e
def Yx:List Nat:=[180]
theorem mixed:Tryz.prog.follows .mixedOrders=true:=by kernel_rfl
def QyA:Ent:=Qm (.pr (.pr Qs (.pr Qs (.pr Qs (.pr Qs (.pr Qs (.pr Qs (.pr Qs (.pr Qs (.pr Qs (.pr Qs (.pr Qs (.pr Qs (.pr Qs (.pr Qs (.pr Qs (.pr Qs (.pr Qs (.pr Qs (.pr Qs (.pr Qs (.pr Qs (.pr Qs (.pr Qs .nil))))))))))))))))))))))) (.pr tI .nil)) (fun x=>(Gz Qs 23 x.1 x.2.1)) (fun x=>(.t Qs (OA Qs 23 x.1 x.2.1)))
theorem QPj:J6 Tryz.prog 1004130:= .inl (by kernel_rfl)
theorem QPk:QH Tryz.prog 1004130 (QD QyA):=QCX (t:=258) (e:=238) (n:=23) (y:=Qs) (k:= .i64) (by kernel_rfl) (by kernel_rfl) (by kernel_rfl) (by decide)
def QyB:Ent:=Qm (.pr (.pr Qe (.pr Qe (.pr Qe (.pr Qe (.pr Qe .nil))))) (.pr tI .nil)) (fun x=>(Gz Qe 5 x.1 x.2.1)) (fun x=>(.t Qe (OA Qe 5 x.1 x.2.1)))
theorem QPl:J6 Tryz.prog 1004210:= .inl (by kernel_rfl)
theorem QPm:QH Tryz.prog 1004210 (QD QyB):=QCX (t:=263) (e:=262) (n:=5) (y:=Qe) (k:= .i64) (by kernel_rfl) (by kernel_rfl) (by kernel_rfl) (by decide)
def QaM:Ent:=Qm (.pr .str .nil) (fun x=>(YB x.1)) (fun x=>(.t (.sl (.int .u8)) (Q4 x.1)))
theorem Qfo:J6 Tryz.prog 20680144:= .inl (by kernel_rfl)
theorem Qfp:QH Tryz.prog 20680144 (QD QaM):=QTf (a:=9) (b:=123) (e:=5) (by kernel_rfl) (by kernel_rfl) (by kernel_rfl) (by decide)
theorem mG {g:G}{f:FuncId}{fn:Func}{tc:TC}{rv:List (RV×Option Ty)}{ro:Bool}(hf:Tryz.prog.funcs[f]? = some fn)(ok:Option.map (trC Tryz.prog) fn.body=some tc.er)(hn:fn.ntmps=g.n)(hr:Ey Tryz.prog fn.results.toList=some (rv.map Prod.fst))(hg:GOk Tryz.prog g)(hl:tc.lok g)(hlt:f<1000000:=by decide):QH Tryz.prog f (JL g tc rv ro):=by
 obtain ⟨c,hc,hi⟩:=Bk.1 ok
 exact QS3 hlt hf hc hi hn hr hg hl mixed
def Fd:List (Nat×Ent)->Prop
 | []=>True
 |p::l=>(J6 Tryz.prog p.1/\QH Tryz.prog p.1 (QD p.2))/\Fd l
theorem gA: ∀ {l:List (Nat×Ent)},Fd l→ ∀ p∈l,J6 Tryz.prog p.1/\QH Tryz.prog p.1 (QD p.2)
 | [],_,p,hp=>by cases hp
 |q::l,h,p,hp=>by
  rcases BQ.1 hp with rfl|hp
  ·exact h.1
  ·exact gA h.2 p hp
theorem gC {k:Nat}{e:Ent}{l:List (Nat×Ent)}(h1:J6 Tryz.prog k)(h2:QH Tryz.prog k (QD e))(h:Fd l):Fd ((k,e)::l):=⟨⟨h1,h2⟩,h⟩
theorem gN:Fd []:=trivial
abbrev OX:Type:=Option (Exit×VS)
abbrev OV:Type:=Option (V×List VO)
theorem nxA (f:VS->OX):(∀ q a b,nxt f (br q a b)=br q (nxt f a) (nxt f b))/\(∀ S,nxt f (some (.normal,S))=f S)/\(∀ S,nxt f (some (.ret,S))=some (.ret,S))/\(∀ i S,nxt f (some (.exit i,S))=some (.exit i,S))/\nxt f none=none:=⟨fun _ _ _=>Ud,fun _=>rfl,fun _=>rfl,fun _ _=>rfl,rfl⟩
theorem lnT {b:VS->OX}{S:VS}{x y:OX}(k:nxt (Qu b) x=y)(h:b S=x:=by kernel_rfl):Qu b S=y:=(QS9 b S).trans (by rw [h];exact k)
theorem kT {α:Type}{a b c:α}(k:b=c)(h:a=b:=by kernel_rfl):a=c:=h.trans k
abbrev LO (g:G)(fg:Fg)(tb:TC)(j:Nat):Prop:= ∀ S l p,g.L j (fgt fg S)=some (true,l)->Y0 l=some p->Qu (Qx g fg tb) S=some p
def gG (n:Nat)(e:List (Nat×Ent))(L:Nat->VS->Option (Bool×List (Bool×Exit×VS))):G:=⟨TYs,[],n,EL e,Yx,L,IL [],RL []⟩
theorem QC {g:G}{s:Sh}{a:TC}{ok:SVs s.vs->SOs s.os->Bool}{Yv:SVs s.vs->SOs s.os->List (Bool×Exit×VS)}(h: ∀ x y,ok x y=true→ ∀ p,Y0 (Yv x y)=some p->Qu (Qx g s.f a) (s.st x y)=some p)(hok:s.f.ok:=by exact ⟨by decide,by decide⟩):
 ∀ S l p,mkL s ok Yv (fgt s.f S)=some (true,l)->Y0 l=some p->Qu (Qx g s.f a) S=some p:=lok_of (s:=s) hok rfl h
def ap:List (Nat×(TC->TC))->Nat->TC->TC
 | [],_,t=>t
 |(k,f)::r,n,t=>if k==n then f (ap r n t) else ap r n t
def aA (l:List (Nat×(TC->TC))):AC->Nat->TC
 |.sk,n=>ap l n .sk
 |.reg rs,n=>ap l n (.reg rs)
 |.dr ds,n=>ap l n (.dr ds [] .nil)
 |.sq a b,n=>ap l n (.sq (aA l a (2*n)) (aA l b (2*n+1)))
 |.cd x a b,n=>ap l n (.cd x (aA l a (2*n)) (aA l b (2*n+1)))
 |.bk i a,n=>ap l n (.bk i (aA l a (2*n)))
 |.lp a,n=>ap l n (.lp 0 ⟨[],[]⟩ (aA l a (2*n)))
 |.ex i,n=>ap l n (.ex i)
 |.rt,n=>ap l n .rt
 |_,_=> .sk
def pL (j:Nat)(f:Fg):TC->TC
 |.lp _ _ a=> .lp j f a
 |t=>t
def pD (o:List (Nat×List Nat))(p:PT):TC->TC
 |.dr ds _ _=> .dr ds o p
 |t=>t
def pE (o:List (List Nat))(p:PT):TC->TC:=pD (o.zipIdx.map fun x=>(x.2,x.1)) p
def oN (n:Nat):PT:=.of (List.range n)
noncomputable def aF (f:Func)(l:List (Nat×(TC->TC))):TC:=match f.body with
 |some c=>aA l (trC Tryz.prog c) 1
 |none=> .sk
def lbO (j:Nat):TC->Option TC
 |.lp i _ a=>if i==j then some a else lbO j a
 |.sq a b|.cd _ a b=>match lbO j a with
  |some x=>some x
  |none=>lbO j b
 |.bk _ a|.fg _ a|.nw _ _ a|.nf _ _ _ _ a|.fz _ a|.ad _ a|.mv _ a=>lbO j a
 |_=>none
def lb (j:Nat)(t:TC):TC:=(lbO j t).getD .sk
def lps:TC->Option (List (Nat×Fg×TC))
 |.lp j f a=>(lps a).map fun l=>(j,f,a)::l
 |.sq a b|.cd _ a b=>match lps a,lps b with
  |some x,some y=>some (x++y)
  |_,_=>none
 |.bk _ a|.fg _ a|.nw _ _ a|.nf _ _ _ _ a|.fz _ a|.ad _ a|.mv _ a=>lps a
 |.rg _ _ _ _|.rf _ _ _ _ _ _ _ _=>none
 |_=>some []
def WF (g:G):List (Nat×Fg×TC)->Prop
 | []=>True
 |x::l=>LO g x.2.1 x.2.2 x.1/\WF g l
theorem Qfq {g:G}: ∀ {a b:List (Nat×Fg×TC)},WF g (a++b)->WF g a/\WF g b
 | [],_,h=>⟨trivial,h⟩
 |_::_,_,h=>⟨⟨h.1,(Qfq h.2).1⟩,(Qfq h.2).2⟩
theorem lok2 {g:G}{a b:TC}{l:List (Nat×Fg×TC)}(ia: ∀ l,lps a=some l->WF g l->a.lok g)(ib: ∀ l,lps b=some l->WF g l->b.lok g)
  (h:(match lps a,lps b with|some x,some y=>some (x++y)|_,_=>none)=some l) (k:WF g l):a.lok g/\b.lok g:=by
 split at h
 · rename_i x y h1 h2
   simp only [Be] at h
   subst h
   exact ⟨ia _ h1 (Qfq k).1,ib _ h2 (Qfq k).2⟩
 · cases h
theorem Ef {g:G}: ∀ (t:TC) (l:List (Nat×Fg×TC)),lps t=some l->WF g l->t.lok g
 |.lp j f a,l,h,k=>by
  unfold lps at h
  obtain ⟨l',h1,rfl⟩:=Bk.1 h
  exact ⟨k.1,Ef a l' h1 k.2⟩
 |.sq a b,l,h,k=>lok2 (Ef a) (Ef b) h k
 |.cd _ a b,l,h,k=>lok2 (Ef a) (Ef b) h k
 |.bk _ a,l,h,k|.fg _ a,l,h,k|.nw _ _ a,l,h,k|.nf _ _ _ _ a,l,h,k|.fz _ a,l,h,k|.ad _ a,l,h,k|.mv _ a,l,h,k=>Ef a l h k
 |.rg _ _ _ _,l,h,k=>by cases h
 |.rf _ _ _ _ _ _ _ _,l,h,k=>by cases h
 |.sk,_,_,_|.reg _,_,_,_|.dr _ _ _,_,_,_|.ex _,_,_,_|.rt,_,_,_=>trivial
theorem lkL {g:G}{t:TC}{l:List (Nat×Fg×TC)}(k:WF g l)(h:lps t=some l:=by kernel_rfl):t.lok g:=Ef t l h k
theorem lkn {g:G}:WF g []:=trivial
theorem lkc {g:G}{f:Fg}{a:TC}{j:Nat}{l:List (Nat×Fg×TC)}(h:LO g f a j)(k:WF g l):WF g ((j,f,a)::l):=⟨h,k⟩
def EM (f:FuncId)(e:Ent):Prop:=J6 Tryz.prog f/\QH Tryz.prog f (QD e)
theorem gD {k:Nat}{e:Ent}{l:List (Nat×Ent)}(h:EM k e)(t:Fd l):Fd ((k,e)::l):=⟨h,t⟩
theorem gB {n:Nat}{e:List (Nat×Ent)}{L:Nat->VS->Option (Bool×List (Bool×Exit×VS))}(h:Fd e):GOk Tryz.prog (gG n e L):=Zq _ (gA h)
theorem mS {k:FuncId}{e:Ent}(g:G)(tc:TC)(rv:List (RV×Option Ty))(ro:Bool)(gk:GOk Tryz.prog g)(hs:QH Tryz.prog k (JL g tc rv ro)->QH Tryz.prog k (QD e))(lk:tc.lok g:=by exact lkL lkn)
  (hc:Tryz.prog.funcs[k]?.map (fun fn=>(Option.map (trC Tryz.prog) fn.body,Ey Tryz.prog fn.results.toList,fn.name== "runtime.NumGoroutine", fn.ntmps))=some (some tc.er,some (rv.map Prod.fst),false,g.n):=by kernel_rfl) (hlt:k<1000000:=by decide):EM k e:=by
 obtain ⟨fn,hf,hc⟩:=Bk.1 hc
 simp only [Bq] at hc
 refine ⟨.inr ⟨hlt,fn,hf, ?_,hc.2.2.1⟩,hs (mG hf hc.1 hc.2.2.2 hc.2.1 gk lk hlt)⟩
 cases hb:fn.body with
 |none=>rw [hb] at hc;cases hc.1
 |some c=>rfl
end Go.Proofs.YtkmobehaikjdjaaGreat.K
namespace Go.Proofs.YtkmobehaikjdjaaGreat.K
open Go.RowKit
theorem QN {y:Ty}{l:List y.T}{j:Nat}(h:j<l.length):lgt y l j=l[j]:=by
 unfold lgt
 rw [Bp,Bl h]
 rfl
theorem QO {k:Nat}(h:k<4611686018427387904:=by omega):Qi .i64 (k:Int) 1=((k+1:Nat):Int):=by
 unfold Qi
 rw [Go.IntWalk.i64_in _ (by omega)]
 rfl
theorem Ja {a b:Int}(h: -9223372036854775808<=a+b/\a+b<=9223372036854775807):Qi .i64 a b=a+b:=Go.IntWalk.i64_in _ h
theorem Zv {a b:Int}(h: -9223372036854775808<=a-b/\a-b<=9223372036854775807):QQ .i64 a b=a-b:=Go.IntWalk.i64_in _ h
theorem QTj {a b:Int}(h: -9223372036854775808<=a*b/\a*b<=9223372036854775807):EC .i64 a b=a*b:=Go.IntWalk.i64_in _ h
theorem QM {α:Type}{l:List α}{k:Nat}:cIx l (k:Int)=decide (k<l.length):=by
 unfold cIx
 congr 1
 exact propext ⟨fun h=>by omega,fun h=>by omega⟩
theorem Qv {a b:Nat}:ilt (a:Int) (b:Int)=decide (a<b):=by
 unfold ilt
 congr 1
 exact propext ⟨fun h=>by omega,fun h=>by omega⟩
theorem GA {p:Prop}[Decidable p](h:p):decide p=true:=by simp [h]
theorem QTk {p:Prop}[Decidable p](h: ¬ p):decide p=false:=by simp [h]
theorem QP {α:Type}(l:List α)(P:Nat->Prop)(h0:P l.length)(hs: ∀ k,k<l.length->P (k+1)->P k): ∀ k,k<=l.length->P k:=by
 intro k hk
 induction hn:l.length-k generalizing k with
 |zero=>
  have:k=l.length:=by omega
  subst this
  exact h0
 |succ n ih=>exact hs k (by omega) (ih (k+1) (by omega) (by omega))
theorem QC5 (N:Nat)(P:Nat->Prop)(h0:P N)(hs: ∀ k,k<N->P (k+1)->P k): ∀ k,k<=N->P k:=by
 intro k hk
 induction hn:N-k generalizing k with
 |zero=>
  have:k=N:=by omega
  subst this
  exact h0
 |succ n ih=>exact hs k (by omega) (ih (k+1) (by omega) (by omega))
def UW {α:Type}(l:List α)(i:Int):Bool:=decide (0<=i/\i<=l.length/\l.length<=100000)
def Qw {α:Type}(l:List α)(n i:Int):Bool:=decide (n=l.length/\0<=i/\i<=n/\l.length<=100000)
theorem Jv {α:Type}{l:List α}{n i:Int}(h:Qw l n i=true):n=l.length/\l.length<=100000∧ ∃ k:Nat,i=k/\k<=l.length:=by
 simp only [Qw,Ba] at h
 obtain ⟨h1,h2,h3,h4⟩:=h
 exact ⟨h1,h4,i.toNat,by omega,by omega⟩
theorem Jw {α:Type}{l:List α}(h:l.length<=100000):Qw l (Qb l) 0=true:=by
 simp only [Qw,Ba,Qb]
 exact ⟨trivial,by omega,by omega,h⟩
theorem QTl {a b:Nat}:igt (a:Int) (b:Int)=decide (b<a):=by
 unfold igt
 congr 1
 exact propext ⟨fun h=>by omega,fun h=>by omega⟩
theorem QpP {α:Type}{l l2:List α}{b:Nat}(h:l.length+l2.length<=1000000)(hb:b<=1000):Qt l l2 b=true:=by
 unfold Qt
 rw [Ba]
 calc (l.length+l2.length)*(b+1)<=1000000*1001:=Nat.mul_le_mul h (by omega)
  _<=140737488355328:=by decide
theorem Fo {x y:Bool}{l:List VO}(h:x=y):some (V.t .bool x,l)=some (V.t .bool y,l):=by rw [h]
theorem QC6 {a b:Int}:ine a b=decide (a≠b):=by
 unfold ine
 simp [bne,Bool.beq_eq_decide_eq]
theorem Fp {a b:Int}:ieq a b=decide (a=b):=by
 unfold ieq
 rw [Bool.beq_eq_decide_eq]
def EF (l:List Int):Bool:=decide (l.length<=400)
def tc_f4:TC:=aF Tryz.f4 []
def g_f4:G:=gG 6 [] (fun _ _=>none)
def r_f4 (p0:List Int):OV:=some (.t .bool (ile (Qb p0) 400),[])
theorem s_f4 (l):r_f4 l=some (.t .bool (EF l),[]):=by
 simp only [r_f4,EF]
 congr 3
 unfold ile Qb
 congr 1
 exact propext ⟨fun h=>by omega,fun h=>by omega⟩
def sp_f4:Ent:=Qm (.pr (.sl tI) .nil) (fun x=>true) (fun x=>(.t .bool (EF x.1)))
theorem ms_f4:EM 4 sp_f4:=mS g_f4 tc_f4 [((.t 2),some .bool)] false (gB gN) fun m=>Qq m fun x _=>kT (s_f4 x.1)
def YC (n k:Int):Int:=if k<1 then 0 else n % k
def UX (_n k:Int):Bool:=decide (k.toNat<4611686018427387904)
def tc_f14:TC:=aF Tryz.f14 []
def g_f14:G:=gG 14 [] (fun _ _=>none)
def r_f14 (p0 p1:Int):OV:=br (ilt p1 1) (some (.t tI 0,[])) (br (cNz p1) (br (cNz p1) (some (.t tI (WN (Qi .i64 (WN p0 p1) p1) p1),[])) none) none)
theorem s_f14 (n k)(h:UX n k=true):r_f14 n k=some (.t tI (YC n k),[]):=by
 simp only [UX,Ba] at h
 simp only [r_f14]
 refine Q1 (fun h1=> ?_) (fun h1=> ?_)
 ·have h1:k<1:=by simpa [ilt] using h1
  simp [YC,h1]
 ·have h1: ¬ k<1:=by simpa [ilt] using h1
  have hk:cNz k=true:=by simp [cNz];omega
  simp only [hk,Qd]
  have h3: -k<n.tmod k:=by
   have:=Int.lt_tmod_of_pos n (show 0<k by omega)
   exact this
  have h4:n.tmod k<k:=Int.tmod_lt_of_pos n (by omega)
  have e1:Qi .i64 (WN n k) k=n.tmod k+k:=Ja (by unfold WN;omega)
  rw [e1]
  have e2:WN (n.tmod k+k) k=n % k:=by
   unfold WN
   rw [Int.tmod_eq_emod_of_nonneg (by omega),Int.add_emod_right,Int.tmod_def]
   exact Int.sub_mul_emod_self_left n k _
  rw [e2]
  simp [YC,h1]
def QpQ:Ent:=Qm (.pr tI (.pr tI .nil)) (fun x=>(UX x.1 x.2.1)) (fun x=>(.t tI (YC x.1 x.2.1)))
theorem QC7:EM 14 QpQ:=mS g_f14 tc_f14 [((.t 4),some tI)] false (gB gN) fun m=>Qq m fun x hok=>kT (s_f14 x.1 x.2.1 hok)
def GB (l:List Int):Ab:=(l,0,())
def tc_f6:TC:=aF Tryz.f6 []
def rv_f6:List (RV×Option Ty):=[((.t 2),none)]
def g_f6:G:=gG 6 [] (fun _ _=>none)
def r_f6 (p0:List Int):OV:=some (.ptr 50000 0,[.box (.ag [(.t (.sl tI) p0),(.t tI 0)])])
theorem e_f6 (p0:List Int):JL g_f6 tc_f6 rv_f6 false [.t (.sl tI) p0] []=r_f6 p0:=by kernel_rfl
theorem s_f6 (l:List Int): ∃ c,r_f6 l=some (.ptr 50000 0,[.box c])/\c.as Qn=some (GB l):=⟨_,rfl,rfl⟩
def sp_f6:Ent:=QpB Qn (.pr (.sl tI) .nil) (fun x=>true) (fun x=>(GB x.1))
theorem ms_f6:EM 6 sp_f6:=mS g_f6 tc_f6 rv_f6 false (gB gN) fun m=>QS4 m rfl fun x _=>(s_f6 x.1).imp fun c h=>⟨(e_f6 x.1).trans h.1,h.2⟩
def Qg (d:Ab)(n:Int):Int:=if d.2.1≥d.1.length then 0 else YC (d.1.getD d.2.1.toNat 0) n
def Qc (d:Ab)(_n:Int):Ab:=if d.2.1≥d.1.length then d else (d.1,d.2.1+1,())
def dOk (d:Ab):Bool:=decide (0<=d.2.1/\d.1.length<=400)
def QE (d:Ab)(n:Int):Bool:=dOk d&&decide (n<4611686018427387904)
def tc_f10:TC:=aF Tryz.f10 [(12,pE [[50000],[50000],[50000],[50000],[50000],[50000],[50000],[50000],[],[]] (oN 10)),(30,pE [[50000],[50000],[50000],[50000],[50000],[50000],[50000],[50000],[],[],[],[],[],[]] (oN 14))]
def g_f10:G:=gG 35 [(14,QpQ)] (fun _ _=>none)
def r_f10 (d0:Ab)(p1:Int):OV:=
 let a1:=QQ .i64 (Qi .i64 d0.2.1 1) 1
 let a2:=lgt tI d0.1 (Int.toNat a1)
 br (ige d0.2.1 (Qb d0.1)) (some (.t tI 0,[.box (.t Qn d0)])) (br (cIx d0.1 a1) (br (UX a2 p1) (some (.t tI (YC a2 p1),[.box (.t Qn (d0.1,((Qi .i64 d0.2.1 1),d0.2.2)))])) none) none)
theorem s_f10 (d n)(h:QE d n=true):r_f10 d n=some (.t tI (Qg d n),[.box (.t Qn (Qc d n))]):=by
 simp only [QE,dOk,Bd,Ba] at h
 obtain ⟨⟨h1,h2⟩,h3⟩:=h
 obtain ⟨l,at_,_⟩:=d
 simp only at h1 h2
 obtain ⟨k,rfl⟩: ∃ k:Nat,at_=k:=⟨at_.toNat,by omega⟩
 simp only [r_f10]
 refine Q1 (fun h4=> ?_) (fun h4=> ?_)
 ·have h4:l.length<=k:=by simp [ige,Qb] at h4;omega
  have h5:(k:Int)≥l.length:=by omega
  simp [Qg,Qc,h5]
 ·have h4:k<l.length:=by simp [ige,Qb] at h4;omega
  have h5: ¬ (k:Int)≥l.length:=by omega
  have e1:Qi .i64 (k:Int) 1=((k+1:Nat):Int):=QO (by omega)
  have e2:QQ .i64 ((k+1:Nat):Int) 1=(k:Int):=by rw [Zv (by omega)];omega
  rw [e1,e2,QM,GA h4,Qd]
  have e3:UX (lgt tI l (Int.toNat (k:Int))) n=true:=Bc (by omega)
  rw [e3,Qd]
  simp only [Qg,Qc,h5,Dc]
  rfl
def Y9:Ent:=Yz Qn (.pr tI .nil) (fun d x=>(QE d x.1)) (fun d x=>(.t tI (Qg d x.1))) (fun d x=>(Qc d x.1))
theorem Xq:EM 10 Y9:=mS g_f10 tc_f10 [((.t 4),some tI)] false (gB (gD QC7 gN)) fun m=>Y7 m rfl fun d x hok=>kT (s_f10 d x.1 hok)
def done (d:Ab)(n:Int):Bool:=Qg d n==n-1
def Jb (d:Ab)(n:Int):Bool:=QE d n&&decide (0<=n)
def tc_f13:TC:=aF Tryz.f13 []
def g_f13:G:=gG 11 [(10,Y9)] (fun _ _=>none)
def r_f13 (d0:Ab)(p1:Int):OV:=br (QE d0 p1) (some (.t .bool (ieq (Qg d0 p1) (QQ .i64 p1 1)),[.box (.t Qn (Qc d0 p1))])) none
theorem s_f13 (d n)(h:Jb d n=true):r_f13 d n=some (.t .bool (done d n),[.box (.t Qn (Qc d n))]):=by
 simp only [Jb,Bd,Ba] at h
 simp only [r_f13]
 rw [h.1,Qd]
 have h2:=h.1
 simp only [QE,Bd,Ba] at h2
 rw [Zv (by omega)]
 rfl
def Fq:Ent:=Yz Qn (.pr tI .nil) (fun d x=>(Jb d x.1)) (fun d x=>(.t .bool (done d x.1))) (fun d x=>(Qc d x.1))
theorem EG:EM 13 Fq:=mS g_f13 tc_f13 [((.t 4),some .bool)] false (gB (gD Xq gN)) fun m=>Y7 m rfl fun d x hok=>kT (s_f13 d x.1 hok)
def dof (d:Ab)(l:List Int):Int:=l.getD (Qg d l.length).toNat 0
def Qr (d:Ab)(l:List Int):Ab:=Qc d l.length
def QR (d:Ab)(l:List Int):Bool:=dOk d&&decide (0<l.length/\l.length<4611686018427387904)
def tc_f33:TC:=aF Tryz.f33 []
def g_f33:G:=gG 12 [(10,Y9)] (fun _ _=>none)
def r_f33 (d0:Ab)(p1:List Int):OV:=br (QE d0 (Qb p1)) (br (cIx p1 (Qg d0 (Qb p1))) (some (.t tI (lgt tI p1 (Int.toNat (Qg d0 (Qb p1)))),[.box (.t Qn (Qc d0 (Qb p1)))])) none) none
theorem Q8 {d:Ab}{n:Int}(h:0<n):0<=Qg d n/\Qg d n<n:=by
 unfold Qg
 split
 ·omega
 ·unfold YC
  rw [if_neg (by omega)]
  exact ⟨Int.emod_nonneg _ (by omega),Int.emod_lt_of_pos _ (by omega)⟩
theorem s_f33 (d l)(h:QR d l=true):r_f33 d l=some (.t tI (dof d l),[.box (.t Qn (Qr d l))]):=by
 simp only [QR,Bd,Ba] at h
 obtain ⟨h1,h2,h3⟩:=h
 simp only [r_f33]
 have e1:QE d (Qb l)=true:=by simp only [QE,h1,Qb,By,Ba];omega
 rw [e1,Qd]
 have h4:=Q8 (d:=d) (n:=Qb l) (by unfold Qb;omega)
 have e2:cIx l (Qg d (Qb l))=true:=by simp only [cIx,Ba];exact h4
 rw [e2,Qd]
 rfl
def Ug:Ent:=Yz Qn (.pr (.sl tI) .nil) (fun d x=>(QR d x.1)) (fun d x=>(.t tI (dof d x.1))) (fun d x=>(Qr d x.1))
theorem UY:EM 33 Ug:=mS g_f33 tc_f33 [((.t 4),some tI)] false (gB (gD Xq gN)) fun m=>Y7 m rfl fun d x hok=>kT (s_f33 d x.1 hok)
theorem Qz {d:Ab}{n:Int}(h:dOk d=true):dOk (Qc d n)=true:=by
 simp only [dOk,Ba] at h ⊢
 unfold Qc
 split
 ·exact h
 ·exact ⟨by simp only;omega,h.2⟩
theorem QTm {l:List Int}(h:EF l=true):dOk (GB l)=true:=by
 simp only [EF,Ba] at h
 simp [dOk,GB,h]
def Fs (l:List SV)(bs:List Ty)(yr:Ty)(ok:Wk bs->Bool)(f:Wk bs->List yr.T):Itr:=fun caps objs=>
 match EB l caps,Ym bs objs with
 |some _,some d=>some (ok d,⟨yr,f d⟩)
 |_,_=>none
end Go.Proofs.YtkmobehaikjdjaaGreat.K
namespace Go.Proofs
open Go.Shelf
def Tryz.lays189_ren:Go.Shelf.Ren:=⟨fun|189=>180|125=>211|257=>210|128=>228|129=>229|294=>219|295=>220|296=>221|297=>222|298=>223|299=>224|216=>225|300=>226|301=>227|328=>235|329=>236|330=>237|331=>238|332=>239|215=>240|343=>245|n=>n,fun|28=>22|3=>3|46=>195|0=>0|51=>169|53=>284|4=>4|183=>276|182=>275|131=>212|5=>5|9=>9|218=>287|222=>291|228=>294|229=>230|n=>n,fun|n=>n⟩
theorem Tryz.lays189:Go.Proofs.Lays.n189 Tryz.prog Tryz.lays189_ren:={
 mixed:=by kernel_rfl
 f125:=Tryz.func211.trans (congrArg some (by kernel_rfl))
 f128:=Tryz.func228.trans (congrArg some (by kernel_rfl))
 f129:=Tryz.func229.trans (congrArg some (by kernel_rfl))
 f189:=Tryz.func180.trans (congrArg some (by kernel_rfl))
 f215:=Tryz.func240.trans (congrArg some (by kernel_rfl))
 f216:=Tryz.func225.trans (congrArg some (by kernel_rfl))
 f257:=Tryz.func210.trans (congrArg some (by kernel_rfl))
 f294:=Tryz.func219.trans (congrArg some (by kernel_rfl))
 f295:=Tryz.func220.trans (congrArg some (by kernel_rfl))
 f296:=Tryz.func221.trans (congrArg some (by kernel_rfl))
 f297:=Tryz.func222.trans (congrArg some (by kernel_rfl))
 f298:=Tryz.func223.trans (congrArg some (by kernel_rfl))
 f299:=Tryz.func224.trans (congrArg some (by kernel_rfl))
 f300:=Tryz.func226.trans (congrArg some (by kernel_rfl))
 f301:=Tryz.func227.trans (congrArg some (by kernel_rfl))
 f328:=Tryz.func235.trans (congrArg some (by kernel_rfl))
 f329:=Tryz.func236.trans (congrArg some (by kernel_rfl))
 f330:=Tryz.func237.trans (congrArg some (by kernel_rfl))
 f331:=Tryz.func238.trans (congrArg some (by kernel_rfl))
 f332:=Tryz.func239.trans (congrArg some (by kernel_rfl))
 f343:=Tryz.func245.trans (congrArg some (by kernel_rfl))
 t0:=Tryz.underlying0
 a0:=Tryz.isAgg0
 z0:=Tryz.sizeOf0
 v0:=Tryz.zeroValue0
 t3:=Tryz.underlying3
 a3:=Tryz.isAgg3
 z3:=Tryz.sizeOf3
 v3:=Tryz.zeroValue3
 t4:=Tryz.underlying4
 a4:=Tryz.isAgg4
 z4:=Tryz.sizeOf4
 v4:=Tryz.zeroValue4
 t5:=Tryz.underlying5
 a5:=Tryz.isAgg5
 z5:=Tryz.sizeOf5
 v5:=Tryz.zeroValue5
 t9:=Tryz.underlying9
 a9:=Tryz.isAgg9
 z9:=Tryz.sizeOf9
 v9:=Tryz.zeroValue9
 t28:=Tryz.underlying22
 a28:=Tryz.isAgg22
 z28:=Tryz.sizeOf22
 v28:=Tryz.zeroValue22
 t46:=Tryz.underlying195
 a46:=Tryz.isAgg195
 z46:=Tryz.sizeOf195
 v46:=Tryz.zeroValue195
 t51:=Tryz.underlying169
 a51:=Tryz.isAgg169
 z51:=Tryz.sizeOf169
 v51:=Tryz.zeroValue169
 t53:=Tryz.underlying284
 a53:=Tryz.isAgg284
 z53:=Tryz.sizeOf284
 v53:=Tryz.zeroValue284
 t131:=Tryz.underlying212
 a131:=Tryz.isAgg212
 z131:=Tryz.sizeOf212
 v131:=Tryz.zeroValue212
 t182:=Tryz.underlying275
 a182:=Tryz.isAgg275
 z182:=Tryz.sizeOf275
 v182:=Tryz.zeroValue275
 t183:=Tryz.underlying276
 a183:=Tryz.isAgg276
 z183:=Tryz.sizeOf276
 v183:=Tryz.zeroValue276
 t218:=Tryz.underlying287
 a218:=Tryz.isAgg287
 z218:=Tryz.sizeOf287
 v218:=Tryz.zeroValue287
 t222:=Tryz.underlying291
 a222:=Tryz.isAgg291
 z222:=Tryz.sizeOf291
 v222:=Tryz.zeroValue291
 t228:=Tryz.underlying294
 a228:=Tryz.isAgg294
 z228:=Tryz.sizeOf294
 v228:=Tryz.zeroValue294
 t229:=Tryz.underlying230
 a229:=Tryz.isAgg230
 z229:=Tryz.sizeOf230
 v229:=Tryz.zeroValue230}
end Go.Proofs
namespace Go.Proofs.YtkmobehaikjdjaaGreat.K
open Go.RowKit Go.Shelf
def QEH:Ent:=Uf [.ms 50000] [.arr 3 tI] (fun _ y=>(Qg2 y.1)) (fun _ _=> .tu []) (fun _ y=>[.arr 3 tI (YS y.1)])
theorem QUC:J6 Tryz.prog 180:= .inr ⟨by decide,_,Tryz.func180,by kernel_rfl,by kernel_rfl⟩
theorem QUD:QH Tryz.prog 180 (QD QEH):=
 QTi (by decide) (Any.slices_Sort_int Tryz.lays189) (Any.slices_Sort_int_none Tryz.lays189)
end Go.Proofs.YtkmobehaikjdjaaGreat.K
