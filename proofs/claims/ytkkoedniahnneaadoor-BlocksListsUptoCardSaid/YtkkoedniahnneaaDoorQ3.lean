import Derived.Test.YtkkoedniahnneaaDoorQ2
import Derived.WalkKit
import Derived.ProofKit
import Derived.OpenShut
import Derived.ShutString
import Derived.ChangeOld
import Derived.Below
import Derived.Deep.Slices
import Derived.Deep.Fields
import Derived.Laws.BytesString
import Derived.Sort.OwnSortedInts
import Derived.Lib.SlicesCompact
import Derived.Test.YtkkoedniahnneaaDoorProg
import Derived.KernelRfl
import Derived.IntWalk
import Derived.Lib.SlTrimSet
import Derived.Shelf.Strings.Search3
import Derived.Shelf.Strings.Count
import Derived.Shelf.Strings.Prefix
import Derived.Shelf.Strings.Split
import Derived.Shelf.Strings.SlTrimAscii
import Derived.Ground.NamesProg
import Derived.Deep.RegionHeld3
import Derived.Lib.Hide
import Derived.Deep.DeepCutAuto
import Derived.Deep.DrawnRows
import Derived.StillTailTactics
import Derived.RangeFuncCalls
import Derived.RangeFuncBound
import Derived.Shelf.RegionOpen
import Derived.OwnWalkIn
import Derived.TacticsInMore
import Derived.LoopNIn
import Derived.LoopIn
import Derived.RangeFuncNested
import Derived.RangeFuncLeaves
import Derived.RangeFuncBox
import Derived.Shelf.Abstract
import Derived.Shelf.Strings.BuilderK
import Derived.Shelf.Strings.Repeat
set_option linter.unusedSimpArgs false
set_option linter.unusedVariables false
/-
 A run through a function's text:what it makes,the program's function makes.
-/
namespace Go.Proofs.YtkkoedniahnneaaDoor.K
open Go.RowKit
section
variable {P:Program}{B:Base}{X X':Nat->Nat->Prop}{w w':World}{σ σ':Pl}{n:Nat}{S:VS}{us:List Value}
theorem tc_sound {g:G}(hg:GOk P g)(hm:P.follows .mixedOrders=true): ∀ (tc:TC) {B:Base} {ro:Option Nat} {β:Type} {S:VS} {K:Exit->VS->Option β} {r:β},ro=none∨tc.nrf=true->tc.lok g->ev g tc S K=some r->JV P B g.n ro (fun e S'=>K e S'=some r) tc.er S:=by
 intro tc
 induction tc with
 |sk=>
  intro B ro β S K r hro lk h c hc nn X w σ us ms ha
  cases c with
  |skip=>exact wpIn_skip ⟨S,X,σ,us,ms,ha,rfl,h⟩
  |region id ops d=>cases d<;>simp [trC,TC.er] at hc
  |cond x a b=>simp only [trC,TC.er] at hc;split at hc<;>cases hc
  |rangeFunc x p a b=>simp only [trC,TC.er] at hc;split at hc<;>cases hc
  |_=>simp [trC,TC.er] at hc
 |rt=>
  intro B ro β S K r hro lk h c hc nn X w σ us ms ha
  cases c with
  |ret=>exact wpIn_ret ⟨S,X,σ,us,ms,ha,rfl,h⟩
  |region id ops d=>cases d<;>simp [trC,TC.er] at hc
  |cond x a b=>simp only [trC,TC.er] at hc;split at hc<;>cases hc
  |rangeFunc x p a b=>simp only [trC,TC.er] at hc;split at hc<;>cases hc
  |_=>simp [trC,TC.er] at hc
 |ex id=>
  intro B ro β S K r hro lk h c hc nn X w σ us ms ha
  cases c with
  |exit i=>
   simp only [trC,TC.er,AC.ex.injEq] at hc
   subst hc
   exact wpIn_exit ⟨S,X,σ,us,ms,ha,rfl,h⟩
  |region id ops d=>cases d<;>simp [trC,TC.er] at hc
  |cond x a b=>simp only [trC,TC.er] at hc;split at hc<;>cases hc
  |rangeFunc x p a b=>simp only [trC,TC.er] at hc;split at hc<;>cases hc
  |_=>simp [trC,TC.er] at hc
 |reg rs=>
  intro B ro β S K r hro lk h c hc nn X w σ us ms ha
  cases c with
  |region id ops d=>
   cases d with
   |true=>simp [trC,TC.er] at hc
   |false=>
    simp only [trC,TC.er,AC.reg.injEq] at hc
    refine wpIn_region_list ?_
    exact evL_sound hg h hc ha fun S' X' w' σ' us' ha' hk=>⟨S',X',σ',us',ms,ha',rfl,hk⟩
  |cond x a b=>simp only [trC,TC.er] at hc;split at hc<;>cases hc
  |rangeFunc x p a b=>simp only [trC,TC.er] at hc;split at hc<;>cases hc
  |_=>simp [trC,TC.er] at hc
 |dr ds os t=>
  intro B ro β S K r _ _ h
  exact evD_sound hg hm h fun S' hk=>hk
 |sq a b iha ihb=>
  intro B ro β S K r hro lk h c hc nn X w σ us ms ha
  cases c with
  |seq x y=>
   simp only [trC,TC.er,AC.sq.injEq] at hc
   refine wpIn_seq (wpIn_mono (iha (hro.imp_right fun q=>(Bool.and_eq_true_iff.1 q).1) lk.1 h x hc.1 nn X w σ us ms ha) ?_)
   rintro e a' w' ⟨S',X',σ',us',ms',h1,rfl,h4⟩
   cases e with
   |normal=>exact ihb (hro.imp_right fun q=>(Bool.and_eq_true_iff.1 q).2) lk.2 h4 y hc.2 nn X' w' σ' us' ms' h1
   |_=>exact ⟨S',X',σ',us',ms',h1,rfl,h4⟩
  |region id ops d=>cases d<;>simp [trC,TC.er] at hc
  |cond x a b=>simp only [trC,TC.er] at hc;split at hc<;>cases hc
  |rangeFunc x p a b=>simp only [trC,TC.er] at hc;split at hc<;>cases hc
  |_=>simp [trC,TC.er] at hc
 |cd x a b iha ihb=>
  intro B ro β S K r hro lk h c hc nn X w σ us ms ha
  cases c with
  |cond o p q=>
   simp only [trC,TC.er] at hc
   split at hc
   ·rename_i x' hx
    simp only [AC.cd.injEq] at hc
    obtain ⟨rfl,h2,h3⟩:=hc
    simp only [ev] at h
    split at h
    ·rename_i t ht
     have hu:=xv_sound hx (by rw [ht];rfl) ha.rel
     rw [ht] at hu
     have hu:=(C.v hu).1
     rcases br_some h with ⟨rfl,h⟩|⟨rfl,h⟩
     ·exact wpIn_cond_true hu (iha (hro.imp_right fun q=>(Bool.and_eq_true_iff.1 q).1) lk.1 h p h2 nn X w σ us ms ha)
     ·exact wpIn_cond_false hu (ihb (hro.imp_right fun q=>(Bool.and_eq_true_iff.1 q).2) lk.2 h q h3 nn X w σ us ms ha)
    ·cases h
   ·cases hc
  |region id ops d=>cases d<;>simp [trC,TC.er] at hc
  |rangeFunc x p a b=>simp only [trC,TC.er] at hc;split at hc<;>cases hc
  |_=>simp [trC,TC.er] at hc
 |bk id a iha=>
  intro B ro β S K r hro lk h c hc nn X w σ us ms ha
  cases c with
  |block i x=>
   simp only [trC,TC.er,AC.bk.injEq] at hc
   obtain ⟨rfl,hc⟩:=hc
   refine wpIn_block (wpIn_mono (iha hro lk h x hc nn X w σ us ms ha) ?_)
   rintro e a' w' ⟨S',X',σ',us',ms',h1,rfl,h4⟩
   cases e with
   |exit j=>
    simp only [Exit.inBlock]
    simp only at h4
    split at h4
    ·rename_i hj
     rw [if_pos hj]
     exact ⟨S',X',σ',us',ms',h1,rfl,h4⟩
    ·rename_i hj
     rw [if_neg hj]
     exact ⟨S',X',σ',us',ms',h1,rfl,h4⟩
   |_=>exact ⟨S',X',σ',us',ms',h1,rfl,h4⟩
  |region id ops d=>cases d<;>simp [trC,TC.er] at hc
  |cond x a b=>simp only [trC,TC.er] at hc;split at hc<;>cases hc
  |rangeFunc x p a b=>simp only [trC,TC.er] at hc;split at hc<;>cases hc
  |_=>simp [trC,TC.er] at hc
 |lp j f a iha=>
  intro B ro β S K r hro lk h c hc nn X w σ us ms ha
  cases c with
  |loop x=>
   simp only [trC,TC.er,AC.lp.injEq] at hc
   simp only [ev] at h
   split at h
   ·rename_i q l hL
    obtain ⟨rfl,h⟩:=br_none h
    obtain ⟨e1,S1,hp,h⟩:=alts_some h
    have hl:=lk.1 S l (e1,S1) hL hp
    obtain ⟨m,hn⟩:=loopF_some.1 hl
    refine wpIn_mono (Q:=lift B g.n (fun e S'=>(e,S')=(e1,S1))) ?_ ?_
    ·refine wpIn_loop_by (fun m a' w'=> ∃ S X' σ' us' ms',a'=⟨us'.toArray,mks ms'⟩/\At (B.mk' ms') X' w' σ' g.n S us'/\loopN (roundF g f a) m S=some (e1,S1)) ?_ m _ _ ⟨S,X,σ,us,ms,rfl,ha,hn⟩
     rintro m a' w' ⟨S0,X',σ',us',ms',rfl,ha',hm'⟩
     cases m with
     |zero=>cases hm'
     |succ m=>
      simp only [loopN] at hm'
      split at hm'
      ·rename_i S2 hb
       refine wpIn_mono (iha hro lk.2 hb x hc nn X' w' σ' us' ms' (ha'.fgt f)) ?_
       rintro e a2 w2 ⟨S3,X2,σ2,us2,ms2,k1,rfl,k3⟩
       cases e with
       |normal=>
        simp only [roundK,Option.some.injEq,Prod.mk.injEq,true_and] at k3
        subst k3
        exact ⟨m,by omega,_,X2,σ2,us2,ms2,rfl,k1.fgt f,hm'⟩
       |_=>simp [roundK] at k3
      ·rename_i hne
       refine wpIn_mono (iha hro lk.2 hm' x hc nn X' w' σ' us' ms' (ha'.fgt f)) ?_
       rintro e a2 w2 ⟨S3,X2,σ2,us2,ms2,k1,rfl,k3⟩
       cases e with
       |normal=>
        simp only [roundK,Option.some.injEq,Prod.mk.injEq] at k3
        obtain ⟨rfl,rfl⟩:=k3
        exact absurd hm' (hne _)
       |_=>
        simp only [roundK,Option.some.injEq,Prod.mk.injEq] at k3
        obtain ⟨rfl,rfl⟩:=k3
        exact ⟨S3,X2,σ2,us2,ms2,k1,rfl,rfl⟩
    ·rintro e a' w' ⟨S',X',σ',us',ms',h1,rfl,h3⟩
     injection h3 with h4 h5
     subst h4 h5
     exact ⟨S',X',σ',us',ms',h1,rfl,h⟩
   ·cases h
  |region id ops d=>cases d<;>simp [trC,TC.er] at hc
  |cond x a b=>simp only [trC,TC.er] at hc;split at hc<;>cases hc
  |rangeFunc x p a b=>simp only [trC,TC.er] at hc;split at hc<;>cases hc
  |_=>simp [trC,TC.er] at hc
 |fg f a iha=>
  intro B ro β S K r hro lk h c hc nn X w σ us ms ha
  exact iha hro lk h c hc nn X w σ us ms (ha.fgt f)
 |nw s e a iha=>
  intro B ro β S K r hro lk h c hc nn X w σ us ms ha
  obtain ⟨S',σ',h1,h2⟩:=nwR_sound h ha
  exact iha hro lk h1 c hc nn X w σ' us ms h2
 |nf j i e k a iha=>
  intro B ro β S K r hro lk h c hc nn X w σ us ms ha
  obtain ⟨S',σ',h1,h2⟩:=nfR_sound h ha
  exact iha hro lk h1 c hc nn X w σ' us ms h2
 |fz ks a iha=>
  intro B ro β S K r hro lk h c hc nn X w σ us ms ha
  obtain ⟨X',h1,_⟩:=ha.fzs ks
  exact iha hro lk h c hc nn X' w σ us ms h1
 |ad l a iha=>
  intro B ro β S K r hro lk h c hc nn X w σ us ms ha
  obtain ⟨σ',h1⟩:=ha.mvks l
  exact iha hro lk h c hc nn X w σ' us ms h1
 |mv l a iha=>
  intro B ro β S K r hro lk h c hc nn X w σ us ms ha
  refine wpIn_mono (iha hro lk h c hc nn X w σ us ms ha) ?_
  rintro e a' w' ⟨S',X',σ',us',ms',h1,rfl,h4⟩
  cases e with
  |normal=>
   obtain ⟨X2,S2,σ2,h4,h2⟩:=mvR_sound h4 h1
   exact ⟨S2,X2,σ2,us',ms',h2,rfl,h4⟩
  |_=>exact ⟨S',X',σ',us',ms',h1,rfl,h4⟩
 |rg j f f2 a iha=>
  intro B ro β S K r hro lk h c hc nn X w σ us ms ha
  simp only [ev] at h
  split at h
  ·rename_i q l hL
   obtain ⟨rfl,h⟩:=br_none h
   obtain ⟨e1,S1,hp,h⟩:=alts_some h
   have hl:=lk.1 S l (e1,S1) hL hp
   refine wpIn_mono (iha hro lk.2 hl c hc nn X w σ us ms (ha.fgt f)) ?_
   rintro e a' w' ⟨S',X',σ',us',ms',h1,rfl,h3⟩
   simp only [Option.some.injEq,Prod.mk.injEq] at h3
   obtain ⟨rfl,rfl⟩:=h3
   exact ⟨_,X',σ',us',ms',h1.fgt f2,rfl,h⟩
  ·cases h
 |rf j f x yr ps pr a b iha ihb=>
  intro B ro β S K r hro lk h c hc nn X w σ us ms ha
  rcases hro with rfl|hro
  ·exact rf_sound hg iha ihb lk h c hc nn X w σ us ms ha
  ·cases hro
end
inductive RV where
 |t (i:Nat)
 |c (i:Nat) (agg:Bool) (n:Nat)
def trV (P:Program):ResultVar->Option RV
 |.tmp t=>some (.t t)
 |.cell a t=>match P.underlying t,P.info? t with
  |some d,some inf=>some (.c a (isRow d) inf.size)
  |_,_=>none
def trVs (P:Program):List ResultVar->Option (List RV)
 | []=>some []
 |r::l=>match trV P r,trVs P l with
  |some a,some b=>some (a::b)
  |_,_=>none
section
variable {β:Type}
def RV.run (S:VS)(K:V->Option β):RV->Option β
 |.t i=>nz (S.ts i) K
 |.c i agg n=>match S.ts i with
  |.ptr j o=>match S.st j with
   |.box z=>match z.sub true o n agg with
    |some v=>nz v K
    |none=>none
   |_=>none
  |_=>none
def castR (t:Option Ty)(v:V)(K:V->Option β):Option β:=
 match t with
 |none=>K v
 |some y=>match v.as y with
  |some x=>K (.t y x)
  |none=>none
def resR (S:VS):List (RV×Option Ty)->(List V->Option β)->Option β
 | [],K=>K []
 |r::l,K=>r.1.run S fun v=>castR r.2 v fun v=>resR S l fun vs=>K (v::vs)
end
def resV:List V->V
 | [v]=>v
 |vs=> .tu vs
def exs (vs:List V):List Nat:=((V.refss vs).filter fun k=>decide (k<50000)).eraseDups
def exr (es:List Nat)(m k:Nat):Nat:=if 50000<=k then k else 50000+m+es.idxOf k
def retOk (S:VS)(m:Nat)(es:List Nat)(vs:List V):Bool:=
 decide es.Nodup&&(((V.refss vs).all fun k=>decide (50000<=k/\k<50000+m)||es.contains k)&&((es.all fun k=>decide (k<50000)&&((match S.st k with|.no=>false|_=>true)&&(S.st k).refs.isEmpty))&&
  (List.range m).all fun j=>(S.st (50000+j)).refs.all fun k=>decide (50000<=k/\k<50000+m)))
def retS (S:VS)(m:Nat)(es:List Nat)(vs:List V):Option (V×List VO):=
 if retOk S m es vs=true then some ((resV vs).ren (exr es m),((List.range m).map fun j=>S.st (50000+j))++es.map fun k=>S.st k) else none
def retR (rv:List (RV×Option Ty))(ro:Bool)(m:Nat)(S:VS):Option (V×List VO):=
 resR S (rv.map fun r=>(r.1,none)) fun vs=>if ro=true then retS S m (exs vs) vs else resR (S.fzs (V.msss vs)) rv fun vs'=>retS (S.fzs (V.msss vs)) m (exs vs') vs'
def argL:Nat->List V->List (Nat×V)
 |_,[]=>[]
 |i,v::r=>(i,v)::argL (i+1) r
def objL:Nat->List VO->List (Nat×VO)
 |_,[]=>[]
 |i,v::r=>(i,v)::objL (i+1) r
def inS (args:List V)(objs:List VO):VS:=⟨look (argL 0 args),lookO (objL 50000 objs),(objL 50000 objs).map Prod.fst⟩
noncomputable def runF (g:G)(tc:TC)(rv:List (RV×Option Ty))(ro:Bool):Fun:=fun args objs=>
 if args.length<=g.n then ev g tc (inS args objs) fun e S=>match e with
  |.ret=>retR rv ro objs.length S
  |.normal=>retR rv ro objs.length S
  |_=>none
 else none
section
variable {P:Program}{B:Base}{X X':Nat->Nat->Prop}{w w':World}{σ σ':Pl}{n:Nat}{S:VS}{us:List Value}
def rvRun (us:List Value):ResultVar->Sem Value
 |.tmp t=>pure (us.toArray.getD t undef)
 |.cell a t=>do loadVar t (←asAddr (us.toArray.getD a undef))
theorem rv_sound {β:Type}{K:V->Option β}{x:β}{r:ResultVar}{rv:RV}(ht:trV P r=some rv)(he:rv.run S K=some x): ∃ v,K v=some x∧ ∀ {B:Base} {X:Nat->Nat->Prop} {w:World} {σ:Pl} {n:Nat} {us:List Value},At B X w σ n S us→ ∃ u,C X w σ v.d u/\(rvRun us r).run P w= .ok u w:=by
 cases r with
 |tmp t=>
  simp only [trV,Option.some.injEq] at ht
  subst ht
  obtain ⟨h1,h2⟩:=nz_some he
  refine ⟨_,h2,fun {B X w σ n us} ha=>⟨_,xv_sound (o:= .tmp t) (x:= .t t) rfl h1 ha.rel, ?_⟩⟩
  simp [Act.eval,rvRun]
 |cell a t=>
  simp only [trV] at ht
  split at ht
  ·rename_i dd inf hd hin
   simp only [Option.some.injEq] at ht
   subst ht
   simp only [RV.run] at he
   split at he
   ·rename_i j o hx
    split at he
    ·rename_i c hst
     split at he
     ·rename_i v hs
      obtain ⟨h1,h2⟩:=nz_some he
      refine ⟨v,h2,fun {B X w σ n us} ha=> ?_⟩
      have k1:=xv_sound (o:= .tmp a) (x:= .t a) rfl (by simp only [AX.xv,hx];rfl) ha.rel
      simp only [AX.xv,hx,V.d,C] at k1
      obtain ⟨b,e1,e2⟩:=k1
      have hat:=ha.ti.obj j
      rw [hst] at hat
      obtain ⟨b',ty,vs,g1,g2,g3,g4⟩:=hat
      rw [g1] at e1
      injection e1 with e1
      subst e1
      obtain ⟨s1,s2⟩:=V.sub_spec hs
      have hl:=g3.len
      obtain ⟨u,q1,q2⟩:=load_at (P:=P) (b:=b') (off:=o) (vs:=vs.drop o) (ds:=c.d.cells.drop o) (d:=v.d) hd hin (g3.drop_ _) (fun i u hu=>by
       rw [List.getElem?_drop] at hu
       rw [cell_of_row w b' (o+i) vs.toArray ty (0,0) g2]
       simpa using hu) (fun ha=>by
        obtain ⟨t1,t2⟩:=s1 ha
        exact ⟨t1,by rw [List.length_drop];omega⟩) (fun ha=>by
        rw [List.getElem?_drop]
        exact s2 ha)
      refine ⟨u,q2, ?_⟩
      simp only [Act.eval] at e2
      simp only [rvRun,Sem.run_bind,e2,asAddr,Sem.run_pure,Result.andThen_ok,q1]
     ·cases he
    ·cases he
   ·cases he
  ·cases ht
theorem rvs_sound {β:Type}{x:β}: ∀ {rs:List ResultVar} {rv:List (RV×Option Ty)} {K:List V->Option β},trVs P rs=some (rv.map Prod.fst)->resR S rv K=some x→ ∃ vs,K vs=some x∧ ∀ {B:Base} {X:Nat->Nat->Prop} {w:World} {σ:Pl} {n:Nat} {us:List Value},At B X w σ n S us→
  ∃ xs,Cs X w σ (V.ds vs) xs/\(rs.mapM (rvRun us)).run P w= .ok xs w
 | [],rv,K,ht,he=>by
  simp only [trVs,Option.some.injEq] at ht
  have:rv=[]:=List.map_eq_nil_iff.1 ht.symm
  subst this
  exact ⟨[],he,fun _=>⟨[],by simp [V.ds,Cs],by simp⟩⟩
 |r::rs,rv,K,ht,he=>by
  simp only [trVs] at ht
  split at ht
  ·rename_i a b ha hb
   simp only [Option.some.injEq] at ht
   cases rv with
   |nil=>cases ht
   |cons q rv=>
    simp only [List.map_cons,List.cons.injEq] at ht
    obtain ⟨rfl,rfl⟩:=ht
    simp only [resR] at he
    obtain ⟨v0,h0,h2⟩:=rv_sound ha he
    have hcast: ∃ v,resR S rv (fun vs=>K (v::vs))=some x∧ ∀ {X:Nat->Nat->Prop} {w:World} {σ:Pl} {u:Value},C X w σ v0.d u->C X w σ v.d u:=by
     unfold castR at h0
     split at h0
     ·exact ⟨v0,h0,fun h=>h⟩
     ·split at h0
      ·rename_i y z hz
       exact ⟨_,h0,fun h=>C.up _ _ (V.as_spec hz h)⟩
      ·cases h0
    obtain ⟨v,h1,hcv⟩:=hcast
    obtain ⟨vs,h3,h4⟩:=rvs_sound hb h1
    refine ⟨v::vs,h3,fun {B X w σ n us} hat=> ?_⟩
    obtain ⟨u,q1,q2⟩:=h2 hat
    obtain ⟨xs,q3,q4⟩:=h4 hat
    refine ⟨u::xs,by simp only [V.ds];exact Cs.cons (hcv q1) q3, ?_⟩
    rw [List.mapM_cons]
    simp only [Sem.run_bind,q2,q4,Result.andThen_ok,Sem.run_pure]
  ·cases ht
theorem results_sound {fn:Func}{vs:List V}{xs:List Value}(hc:Cs X w σ (V.ds vs) xs)(h:(fn.results.toList.mapM (rvRun us)).run P w= .ok xs w): ∃ u,C X w σ (resV vs).d u/\(results fn us.toArray).run P w= .ok u w:=by
 have hm:(fn.results.mapM (rvRun us)).run P w= .ok xs.toArray w:=by
  rw [Array.mapM_eq_mapM_toList]
  rw [map_eq_pure_bind,Sem.run_bind,h]
  rfl
 have hf:results fn us.toArray=(do let vs ← fn.results.mapM (rvRun us);pure (if h:vs.size=1 then vs[0] else .tuple vs)):=by
  unfold results
  congr 1
 rw [hf,Sem.run_bind,hm]
 have hlen:=hc.len
 rw [V.ds_eq,List.length_map] at hlen
 unfold resV
 split
 ·rename_i v
  simp only [V.ds] at hc
  obtain ⟨u,rfl,hu⟩:=hc.one
  exact ⟨u,hu,by simp⟩
 ·rename_i hne
  have h0:xs.toArray.size≠1:=by
   intro h
   rcases vs with _|⟨d,_|⟨d2,r⟩⟩
   ·simp at hlen;simp [hlen] at h
   ·exact hne d rfl
   ·simp at hlen h;omega
  refine ⟨.tuple xs.toArray,by simp only [V.d,C];exact ⟨xs,rfl,hc⟩, ?_⟩
  simp only [Result.andThen_ok,dif_neg h0,Sem.run_pure]
theorem OAt.pl {k k':Nat}{o:VO}(h:OAt X w σ k o)(hk:σ' k'=σ k)(hr: ∀ r∈o.refs,σ' r=σ r):OAt X w σ' k' o:=by
 cases o with
 |no=>trivial
 |box v=>
  obtain ⟨b,ty,vs,h1,h2,h3,h4⟩:=h
  exact ⟨b,ty,vs,hk.trans h1,h2,Cs.ext (Ext.refl X w) _ _ (fun r hr'=>hr r (by rw [V.refs_dcells] at hr';exact hr')) h3,h4⟩
 |arr e y l=>
  obtain ⟨u,xs,h1,h2⟩:=h
  exact ⟨u,xs,hk.trans h1,h2⟩
theorem resV_refs (vs:List V):(resV vs).refs=V.refss vs:=by
 unfold resV
 split
 ·simp [V.refss]
 ·rfl
theorem retS_sound {σ0:Pl}{m:Nat}{es:List Nat}{vs:List V}{rv:V}{os:List VO}{u:Value}{X0 X1:Nat->Nat->Prop}{w0 w1:World}(h:retS S m es vs=some (rv,os))(ha:At ⟨X0,w0,lentB σ0 m,σ0,[],X1,w1⟩ X w σ n S us)(hu:C X w σ (resV vs).d u):
  ∃ σ',C X w σ' rv.d u/\Ends X0 w0 σ0 m X w σ' os:=by
 unfold retS at h
 split at h
 ·rename_i hok
  simp only [Option.some.injEq,Prod.mk.injEq] at h
  obtain ⟨rfl,rfl⟩:=h
  simp only [retOk,Bool.and_eq_true,decide_eq_true_eq,List.all_eq_true,Bool.or_eq_true,List.contains_iff_mem,List.isEmpty_iff,List.mem_range] at hok
  obtain ⟨k1,k2,k3,k4⟩:=hok
  let τ:Pl:=fun k=>if 50000+m<=k/\k-50000-m<es.length then σ (es.getD (k-50000-m) 0) else σ k
  have τ0: ∀ k,k<50000+m->τ k=σ k:=fun k hk=>if_neg (by omega)
  have τ1: ∀ (i:Nat) k,es[i]? = some k->τ (50000+m+i)=σ k:=by
   intro i k hi
   have hlt:=(List.getElem?_eq_some_iff.1 hi).1
   have e1:50000+m+i-50000-m=i:=by omega
   simp only [τ,e1]
   rw [if_pos ⟨by omega,hlt⟩,List.getD_eq_getElem?_getD,hi]
   rfl
  have live1: ∀ k∈es,S.st k≠ .no:=fun k hk hn=>by have:=(k3 k hk).2.1;rw [hn] at this;cases this
  have hlen:(((List.range m).map fun j=>S.st (50000+j))++es.map fun k=>S.st k).length=m+es.length:=by simp
  -- the number of a thing that is handed out
  have src: ∀ j,j<m+es.length→ ∃ k,(((List.range m).map fun j=>S.st (50000+j))++es.map fun k=>S.st k)[j]? = some (S.st k)/\τ (50000+j)=σ k/\(m<=j->S.st k≠ .no)/\(j<m->k=50000+j)/\(m<=j->es[j-m]? = some k):=by
   intro j hj
   rcases Nat.lt_or_ge j m with hlt|hge
   ·exact ⟨50000+j,by rw [List.getElem?_append_left (by simpa using hlt),List.getElem?_map,List.getElem?_range hlt];rfl,τ0 _ (by omega),fun h=>by omega,fun _=>rfl,fun h=>by omega⟩
   ·have hl:j-m<es.length:=by omega
    refine ⟨es[j-m],by rw [List.getElem?_append_right (by simpa using hge),List.getElem?_map];simp [List.getElem?_eq_getElem hl], ?_,fun _=>live1 _ (List.getElem_mem hl),fun h=>by omega,fun _=>List.getElem?_eq_getElem hl⟩
    have:=τ1 (j-m) _ (List.getElem?_eq_getElem hl)
    rw [←this]
    congr 1
    omega
  refine ⟨τ,ren_c _ u (fun k hk=> ?_) hu,⟨ha.ti.fin,fun j o hj=> ?_,fun i j b hij hi hj ni nj hb hb'=> ?_,by rw [hlen];omega,fun j hj=> ?_,fun j b hj hj2 hb=> ?_,ha.ti.fr,fun b q hb=>(ha.ti.old b q hb).1,fun b q hb hu hx=> ?_⟩⟩
  ·rw [resV_refs] at hk
   rcases k2 k hk with hk'|hk'
   ·rw [exr,if_pos hk'.1]
    exact τ0 k hk'.2
   ·have hlt:=(k3 k hk').1
    rw [exr,if_neg (by omega)]
    obtain ⟨i,hi⟩:=List.mem_iff_getElem?.1 hk'
    rw [idxOf_nodup k1 hi]
    exact τ1 i k hi
  ·have hjl:j<m+es.length:=by rw [←hlen];exact (List.getElem?_eq_some_iff.1 hj).1
   obtain ⟨k,q1,q2,q3,q4,q5⟩:=src j hjl
   rw [q1] at hj
   injection hj with hj
   subst hj
   refine ⟨(ha.ti.obj k).pl q2 (fun r hr=> ?_),q3⟩
   rcases Nat.lt_or_ge j m with hlt|hge
   ·have:=k4 j hlt r (by rw [←q4 hlt];exact hr)
    exact τ0 r this.2
   ·have:=(k3 k (List.mem_of_getElem? (q5 hge))).2.2
    rw [this] at hr
    cases hr
  ·rw [hlen] at hi hj
   obtain ⟨k,q1,q2,_,q4,q5⟩:=src i hi
   obtain ⟨k',p1,p2,_,p4,p5⟩:=src j hj
   rw [q2] at hb
   rw [p2] at hb'
   have q3:S.st k≠ .no:=fun he=>ni (by rw [q1,he])
   have p3:S.st k'≠ .no:=fun he=>nj (by rw [p1,he])
   refine ha.ti.apart k k' b (fun he=> ?_) q3 p3 hb hb'
   subst he
   rcases Nat.lt_or_ge i m with h1|h1
   ·rcases Nat.lt_or_ge j m with h2|h2
    ·have:=q4 h1;have:=p4 h2;omega
    ·have e1:=q4 h1
     have:=(k3 k (List.mem_of_getElem? (p5 h2))).1
     omega
   ·rcases Nat.lt_or_ge j m with h2|h2
    ·have e1:=p4 h2
     have:=(k3 k (List.mem_of_getElem? (q5 h1))).1
     omega
    ·have e1:=idxOf_nodup k1 (q5 h1)
     have e2:=idxOf_nodup k1 (p5 h2)
     omega
  ·rw [τ0 _ (by omega)]
   exact ha.ti.lnt _ (by simp only [lentK];omega)
  ·rw [hlen] at hj2
   obtain ⟨k,_,q2,q3,_,q5⟩:=src j hj2
   have q3:=q3 hj
   rw [q2] at hb
   rcases ha.ti.own k b q3 hb with h1|h1
   ·right
    simp only [lentB,List.mem_filterMap,List.mem_range] at h1
    obtain ⟨i,hi,hib⟩:=h1
    refine ⟨i,hi, ?_,hib⟩
    obtain ⟨k',p1,p2,_,p4,_⟩:=src i (by omega)
    rw [p1]
    by_cases hn:S.st k'= .no
    ·rw [hn]
    ·refine absurd hb (ha.ti.apart k' k b (fun he=> ?_) hn q3 ?_)
     ·have:=(k3 k (List.mem_of_getElem? (q5 hj))).1
      have:=p4 hi
      omega
     ·rw [p4 hi,ha.ti.lnt _ (by simp only [lentK];omega)]
      exact hib
   ·exact .inl h1
  ·by_cases hl:b∈lentB σ0 m
   ·simp only [lentB,List.mem_filterMap,List.mem_range] at hl
    obtain ⟨i,hi,hib⟩:=hl
    obtain ⟨k',p1,p2,_,p4,_⟩:=src i (by omega)
    by_cases hn:S.st k'= .no
    ·exact absurd hib (hu i hi (by rw [p1,hn]))
    ·refine (ha.ti.obj k').all hn ?_ q
     rw [p4 hi,ha.ti.lnt _ (by simp only [lentK];omega)]
     exact hib
   ·exact (ha.ti.old b q hb).2 hl hx
 ·cases h
theorem argL_look: ∀ (args:List V) (i j:Nat),look (argL i args) (i+j)=args.getD j .un
 | [],i,j=>rfl
 |v::r,i,0=>by simp [argL,look]
 |v::r,i,j+1=>by
  simp only [argL,look]
  rw [if_neg (by omega)]
  have:=argL_look r (i+1) j
  rw [show i+(j+1)=i+1+j from by omega,this]
  simp
theorem argL_out: ∀ (args:List V) (i k:Nat),i+args.length<=k->look (argL i args) k= .un
 | [],i,k,_=>rfl
 |v::r,i,k,h=>by
  simp only [List.length_cons] at h
  simp only [argL,look]
  rw [if_neg (by omega)]
  exact argL_out r (i+1) k (by omega)
theorem objL_look: ∀ (objs:List VO) (i j:Nat),lookO (objL i objs) (i+j)=objs.getD j .no
 | [],i,j=>rfl
 |v::r,i,0=>by simp [objL,lookO]
 |v::r,i,j+1=>by
  simp only [objL,lookO]
  rw [if_neg (by omega)]
  have:=objL_look r (i+1) j
  rw [show i+(j+1)=i+1+j from by omega,this]
  simp
theorem objL_low: ∀ (objs:List VO) (i k:Nat),k<i->lookO (objL i objs) k= .no
 | [],i,k,_=>rfl
 |v::r,i,k,h=>by
  simp only [objL,lookO]
  rw [if_neg (by omega)]
  exact objL_low r (i+1) k (by omega)
theorem objL_dom: ∀ (objs:List VO) (i k:Nat),lookO (objL i objs) k≠ .no->k∈(objL i objs).map Prod.fst
 | [],i,k,h=>absurd rfl h
 |v::r,i,k,h=>by
  simp only [objL,lookO] at h
  simp only [objL,List.map_cons]
  split at h
  ·rename_i hk;rw [hk];exact List.mem_cons_self
  ·exact List.mem_cons_of_mem _ (objL_dom r (i+1) k h)
theorem meets_of {g:G}{f:FuncId}{fn:Func}{c:Code}{tc:TC}{rv:List (RV×Option Ty)}{ro:Bool}(hlt:f<1000000)(hf:P.funcs[f]? = some fn)(hb:fn.body=some c)(hc:trC P c=tc.er)(hn:fn.ntmps=g.n)(hr:trVs P fn.results.toList=some (rv.map Prod.fst))(hg:GOk P g)(hl:tc.lok g)(hm:P.follows .mixedOrders=true):
  Meets P f (runF g tc rv ro):=by
 intro args objs r os h X w σ vs hfin hlent hargs
 unfold runF at h
 split at h
 ·rename_i hle
  have hal:=hargs.len
  rw [V.ds_eq,List.length_map] at hal
  have obj0: ∀ k,lookO (objL 50000 objs) k= .no∨ ∃ j,k=50000+j/\objs[j]? = some (lookO (objL 50000 objs) k):=by
   intro k
   rcases Nat.lt_or_ge k 50000 with hlt|hge
   ·exact .inl (objL_low objs 50000 k hlt)
   ·obtain ⟨j,rfl⟩: ∃ j,k=50000+j:=⟨k-50000,by omega⟩
    rw [objL_look]
    rcases Nat.lt_or_ge j objs.length with hj|hj
    ·exact .inr ⟨j,rfl,by rw [List.getD_eq_getElem?_getD,List.getElem?_eq_getElem hj];rfl⟩
    ·left
     rw [List.getD_eq_getElem?_getD,List.getElem?_eq_none hj]
     rfl
  have hat:At ⟨X,w,lentB σ objs.length,σ,[],X,w⟩ X w σ g.n (inS args objs) (vs++List.replicate (g.n-vs.length) undef):=by
   refine ⟨⟨hfin,fun k=> ?_,fun i j b hij hi hj hbi hbj=> ?_,fun k b hk hbk=> ?_,Fr.refl _ _,fun _ _ _=>⟨fun h=>h,fun _ h=>h⟩,fun _ _=>rfl,(fun p hp=>by cases hp),⟨List.nodup_nil,fun p hp=>by cases hp⟩,Ext0.refl X w⟩,⟨by simp;omega,fun i u hu=> ?_,fun i hi=> ?_⟩,fun j hj=>objL_dom objs 50000 j hj⟩
   ·simp only [inS]
    rcases obj0 k with h0|⟨j,rfl,h0⟩
    ·rw [h0];trivial
    ·exact (hlent.at_ j _ h0).1
   ·simp only [inS] at hi hj
    rcases obj0 i with h0|⟨i',rfl,h0⟩
    ·exact absurd h0 hi
    ·rcases obj0 j with h1|⟨j',rfl,h1⟩
     ·exact absurd h1 hj
     ·exact hlent.apart i' j' b (by omega) (List.getElem?_eq_some_iff.1 h0).1 (List.getElem?_eq_some_iff.1 h1).1 hbi hbj
   ·simp only [inS] at hk
    rcases obj0 k with h0|⟨j,rfl,h0⟩
    ·exact absurd h0 hk
    ·refine .inl ?_
     simp only [lentB,List.mem_filterMap,List.mem_range]
     exact ⟨j,(List.getElem?_eq_some_iff.1 h0).1,hbk⟩
   ·simp only [inS]
    rcases Nat.lt_or_ge i vs.length with hi|hi
    ·rw [List.getElem?_append_left hi] at hu
     have ha:args[i]? = some args[i]:=List.getElem?_eq_getElem (by omega)
     have hl:=argL_look args 0 i
     rw [Nat.zero_add,List.getD_eq_getElem?_getD,ha] at hl
     rw [hl]
     obtain ⟨u',hu',hc'⟩:=hargs.at_ (i:=i) (d:=args[i].d) (by rw [V.ds_eq,List.getElem?_map,ha];rfl)
     rw [hu] at hu'
     injection hu' with hu'
     subst hu'
     exact hc'
    ·rw [argL_out args 0 i (by omega)]
     exact C.any_ u
   ·simp only [inS]
    exact argL_out args 0 i (by omega)
  have hw:=tc_sound (B:=⟨X,w,lentB σ objs.length,σ,[],X,w⟩) hg hm tc (.inl rfl) hl h c hc 9 X w σ _ [] hat
  refine does_of hlt (callsIn_wide.1 (callsIn_of_wp_marks (F:=Fw none) (n:=9) hf hb trivial ?_))
  have he:(vs.toArray++Array.replicate (fn.ntmps-vs.toArray.size) undef)=(vs++List.replicate (g.n-vs.length) undef).toArray:=by
   apply Array.ext'
   simp [hn]
  rw [he]
  refine wpIn_mono hw ?_
  rintro e a w1 ⟨S,X',σ',us',ms',h0,rfl,h3⟩
  obtain ⟨w',h1,hleave⟩:=marks_end h0
  have hret:retR rv ro objs.length S=some (r,os)→ ∃ u,(results fn us'.toArray).run P w'= .ok u w'∧ ∃ X1 σ1,C X1 w' σ1 r.d u/\Ends X w σ objs.length X1 w' σ1 os:=by
   intro hret
   unfold retR at hret
   obtain ⟨vs1,q1,q2⟩:=rvs_sound (rv:=rv.map fun r=>(r.1,none)) (by rw [hr,List.map_map];rfl) hret
   split at q1
   ·obtain ⟨xs,q3,q4⟩:=q2 h1
    obtain ⟨u,q5,q6⟩:=results_sound q3 q4
    obtain ⟨σ1,q7,q8⟩:=retS_sound q1 h1 q5
    exact ⟨u,q6,X',σ1,q7,q8⟩
   ·obtain ⟨X2,h2,_⟩:=h1.fzs (V.msss vs1)
    obtain ⟨vs2,q3,q4⟩:=rvs_sound hr q1
    obtain ⟨xs,q5,q6⟩:=q4 h2
    obtain ⟨u,q7,q8⟩:=results_sound q5 q6
    obtain ⟨σ1,q9,q10⟩:=retS_sound q3 h2 q7
    exact ⟨u,q8,X2,σ1,q9,q10⟩
  cases e with
  |ret=>
   obtain ⟨u,p1,X1,σ1,p2,p3⟩:=hret h3
   exact hleave ⟨u,p1,u,X1,σ1,rfl,p2,p3⟩
  |normal=>
   obtain ⟨u,p1,X1,σ1,p2,p3⟩:=hret h3
   exact hleave ⟨u,p1,u,X1,σ1,rfl,p2,p3⟩
  |_=>cases h3
 ·cases h
end
end Go.Proofs.YtkkoedniahnneaaDoor.K
/-
 What is said of functions and of loops in types,and how it serves in the runs of others.
-/
namespace Go.Proofs.YtkkoedniahnneaaDoor.K
open Go.RowKit
def Ty.args:(y:Ty)->List V->Option y.T
 |.pr f r,v::vs=>match v.as f,r.args vs with
  |some x,some z=>some (x,z)
  |_,_=>none
 |.nil,[]=>some ()
 |_,_=>none
abbrev Ent:=List V->List VO->Option (Bool×V×List VO)
def spec (a:Ty)(ok:a.T->Bool)(F:a.T->V):Ent:=fun args objs=>
 match objs with
 | []=>match a.args args with
  |some x=>some (ok x,F x,[])
  |none=>none
 |_=>none
def specP (b a:Ty)(ok:b.T->a.T->Bool)(F:b.T->a.T->V)(H:b.T->a.T->b.T):Ent:=fun args objs=>
 match args,objs with
 |.ptr 50000 0::args,[.box c]=>match c.as b,a.args args with
  |some d,some x=>some (ok d x,F d x,[.box (.t b (H d x))])
  |_,_=>none
 |_,_=>none
def specN (b a:Ty)(ok:a.T->Bool)(H:a.T->b.T):Ent:=fun args objs=>
 match objs with
 | []=>match a.args args with
  |some x=>some (ok x,.ptr 50000 0,[.box (.t b (H x))])
  |none=>none
 |_=>none
class Fuel where
 n:Nat
abbrev fuel [f:Fuel]:Nat:=f.n
def strip (F:Ent):Fun:=fun args objs=>
 match F args objs with
 |some (true,r,os)=>some (r,os)
 |_=>none
def EL:List (Nat×Ent)->Nat->Ent
 | [],_=>fun _ _=>none
 |(g,F)::r,f=>if f=g then fun args objs=>match F args objs with
   |some x=>some x
   |none=>EL r f args objs
  else EL r f
theorem EL_mem: ∀ {l:List (Nat×Ent)} {f:Nat} {args:List V} {objs:List VO} {x:Bool×V×List VO},EL l f args objs=some x→ ∃ F,(f,F)∈l/\F args objs=some x
 |(g,F)::r,f,args,objs,x,h=>by
  simp only [EL] at h
  split at h
  ·rename_i hfg
   subst hfg
   simp only at h
   split at h
   ·rename_i y hy
    simp only [Option.some.injEq] at h
    subst h
    exact ⟨F,List.mem_cons_self,hy⟩
   ·obtain ⟨F',h1,h2⟩:=EL_mem h
    exact ⟨F',List.mem_cons_of_mem _ h1,h2⟩
  ·obtain ⟨F',h1,h2⟩:=EL_mem h
   exact ⟨F',List.mem_cons_of_mem _ h1,h2⟩
def IL (li:List (Nat×Itr))(f:Nat):Itr:=match li.lookup f with
 |some F=>F
 |none=>fun _ _=>none
def RL (l:List ((yr:Ty)×(VS->List yr.T->Option (Bool×List (Bool×Exit×VS)))))(j:Nat)(S:VS)(yr:Ty)(rows:List yr.T):Option (Bool×List (Bool×Exit×VS)):=
 match l[j]? with
 |some ⟨y,F⟩=>if h:yr=y then F S (h▸rows) else none
 |none=>none
section
variable {P:Program}{X:Nat->Nat->Prop}{w:World}{σ:Pl}
theorem lookup_mem {α:Type}: ∀ {l:List (Nat×α)} {f:Nat} {x:α},l.lookup f=some x->(f,x)∈l
 |(k,y)::l,f,x,h=>by
  rw [List.lookup_cons] at h
  split at h
  ·rename_i hk
   have hk:f=k:=by simpa using hk
   simp only [Option.some.injEq] at h
   rw [hk,h]
   exact List.mem_cons_self
  ·exact List.mem_cons_of_mem _ (lookup_mem h)
theorem gok_of {TY:Nat->Option Ty}{own:List Nat}{n:Nat}{keep:List Nat}{L:Nat->VS->Option (Bool×List (Bool×Exit×VS))}{R:Nat->VS->(yr:Ty)->List yr.T->Option (Bool×List (Bool×Exit×VS))}(l:List (Nat×Ent))(h: ∀ p∈l,Entered P p.1/\Meets P p.1 (strip p.2))(li:List (Nat×Itr):=[])(hi: ∀ p∈li,Iters P p.1 p.2:=by intro p hp;cases hp):GOk P ⟨TY,own,n,EL l,keep,L,IL li,R⟩:=by
 refine ⟨?_,fun f caps objs x hx=> ?_⟩
 rotate_left
 ·simp only [IL] at hx ⊢
  cases hl:li.lookup f with
  |none=>rw [hl] at hx;cases hx
  |some F=>exact hi _ (lookup_mem hl)
 intro f args objs x hx
 simp only at hx ⊢
 obtain ⟨F,hF,_⟩:=EL_mem hx
 refine ⟨(h _ hF).1, ?_⟩
 intro args' objs' r os hr
 simp only at hr
 split at hr
 ·rename_i r' os' hq
  simp only [Option.some.injEq,Prod.mk.injEq] at hr
  obtain ⟨rfl,rfl⟩:=hr
  obtain ⟨F2,h1,h2⟩:=EL_mem hq
  exact (h _ h1).2 args' objs' r' os' (by simp only [strip,h2])
 ·cases hr
theorem canon_cs: ∀ {a:Ty} {args:List V} {x:a.T} {vs:List Value},a.args args=some x->Cs X w σ (V.ds args) vs->Cs X w σ (V.ds (a.canon x)) vs
 |.pr f r,v::args,x,vs,h,hc=>by
  simp only [Ty.args] at h
  split at h
  ·rename_i x1 z1 h1 h2
   simp only [Option.some.injEq] at h
   subst h
   simp only [V.ds,Cs] at hc
   obtain ⟨u,us,rfl,q1,q2⟩:=hc
   simp only [Ty.canon,V.ds]
   exact Cs.cons (C.up _ _ (V.as_spec h1 q1)) (canon_cs h2 q2)
  ·cases h
 |.nil,[],x,vs,h,hc=>hc
 |.pr f r,[],_,_,h,_=>by cases h
 |.nil,_::_,_,_,h,_=>by cases h
 |.int _,_,_,_,h,_=>by simp only [Ty.args] at h;cases h
 |.bool,_,_,_,h,_=>by simp only [Ty.args] at h;cases h
 |.str,_,_,_,h,_=>by simp only [Ty.args] at h;cases h
 |.sl _,_,_,_,h,_=>by simp only [Ty.args] at h;cases h
 |.rv,_,_,_,h,_=>by simp only [Ty.args] at h;cases h
 |.rb,_,_,_,h,_=>by simp only [Ty.args] at h;cases h
 |.ov,_,_,_,h,_=>by simp only [Ty.args] at h;cases h
theorem meets_spec {f:FuncId}{R:Fun}{a:Ty}{ok:a.T->Bool}{F:a.T->V}(hM:Meets P f R)(h: ∀ x,ok x=true->R (a.canon x) []=some (F x,[])):Meets P f (strip (spec a ok F)):=by
 intro args objs r os hF X w σ vs hfin hl hc
 unfold strip spec at hF
 cases objs with
 |cons o os'=>simp at hF
 |nil=>
  simp only at hF
  cases ha:a.args args with
  |none=>rw [ha] at hF;cases hF
  |some x=>
   rw [ha] at hF
   simp only at hF
   split at hF
   ·rename_i r' os' hq
    simp only [Option.some.injEq,Prod.mk.injEq] at hF hq
    obtain ⟨rfl,rfl⟩:=hF
    obtain ⟨h1,rfl,rfl⟩:=hq
    exact hM _ [] _ _ (h x h1) X w σ vs hfin hl (canon_cs ha hc)
   ·cases hF
theorem meets_zero {f:FuncId}{a:Ty}{ok:a.T->Bool}{F:a.T->V}(h: ∀ x,ok x=false):Meets P f (strip (spec a ok F)):=by
 intro args objs r os hF
 unfold strip spec at hF
 cases objs with
 |cons o os'=>simp at hF
 |nil=>
  simp only at hF
  cases ha:a.args args with
  |none=>rw [ha] at hF;cases hF
  |some x=>
   rw [ha] at hF
   simp only [h] at hF
   cases hF
theorem meets_fuel {f:FuncId}{a:Ty}{okN:Nat->a.T->Bool}{ok:a.T->Bool}{F:a.T->V}(hN: ∀ N,Meets P f (strip (spec a (okN N) F)))(h: ∀ x,ok x=true→ ∃ N,okN N x=true):Meets P f (strip (spec a ok F)):=by
 intro args objs r os hF
 have hF0:=hF
 unfold strip spec at hF
 cases objs with
 |cons o os'=>simp at hF
 |nil=>
  simp only at hF
  cases ha:a.args args with
  |none=>rw [ha] at hF;cases hF
  |some x=>
   rw [ha] at hF
   cases hx:ok x with
   |false=>simp only [hx] at hF;cases hF
   |true=>
    obtain ⟨N,hok⟩:=h x hx
    refine hN N args [] r os ?_
    simp only [hx] at hF
    unfold strip spec
    simp only [ha,hok]
    exact hF
theorem meets_specN {f:FuncId}{R:Fun}{b a:Ty}{ok:a.T->Bool}{H:a.T->b.T}(hM:Meets P f R)(hb:b.row=true)(h: ∀ x,ok x=true→ ∃ c,R (a.canon x) []=some (.ptr 50000 0,[.box c])/\c.as b=some (H x)):Meets P f (strip (specN b a ok H)):=by
 intro args objs r os hF X w σ vs hfin hl hc
 unfold strip specN at hF
 cases objs with
 |cons o os'=>simp at hF
 |nil=>
  simp only at hF
  cases ha:a.args args with
  |none=>rw [ha] at hF;cases hF
  |some x=>
   rw [ha] at hF
   simp only at hF
   split at hF
   ·rename_i r' os' hq
    simp only [Option.some.injEq,Prod.mk.injEq] at hF hq
    obtain ⟨rfl,rfl⟩:=hF
    obtain ⟨h1,rfl,rfl⟩:=hq
    obtain ⟨c,h2,h3⟩:=h x h1
    refine (hM _ [] _ _ h2 X w σ vs hfin hl (canon_cs ha hc)).mono ?_
    rintro e w' ⟨u,X',σ',e1,e2,e3⟩
    refine ⟨u,X',σ',e1,e2,e3.fin,fun j o hj=> ?_,fun i j bb hij hi hj=>by simp at hi hj;omega,e3.le,e3.same,fun j bb hj hl hb=> .inl ((e3.new j bb hj hl hb).resolve_right fun ⟨i,hi,_⟩=>absurd hi (Nat.not_lt_zero _)),e3.fr,e3.sub,fun b q hb _ hx=>e3.old b q hb (fun i hi=>absurd hi (Nat.not_lt_zero _)) hx⟩
    cases j with
    |zero=>
     simp only [List.getElem?_cons_zero,Option.some.injEq] at hj
     subst hj
     exact ⟨as_box hb h3 (e3.at_ 0 _ rfl).1,fun _=>by simp⟩
    |succ j=>simp at hj
   ·cases hF
theorem meets_specP {f:FuncId}{R:Fun}{b a:Ty}{ok:b.T->a.T->Bool}{F:b.T->a.T->V}{H:b.T->a.T->b.T}(hM:Meets P f R)(hb:b.row=true)
  (h: ∀ d x,ok d x=true->R (.ptr 50000 0::a.canon x) [.box (.t b d)]=some (F d x,[.box (.t b (H d x))])):Meets P f (strip (specP b a ok F H)):=by
 intro args objs r os hF X w σ vs hfin hl hc
 unfold strip specP at hF
 split at hF
 ·rename_i r0 os0 hq
  split at hq
  ·rename_i args' c
   split at hq
   ·rename_i d x hd hx
    simp only [Option.some.injEq,Prod.mk.injEq] at hF hq
    obtain ⟨h1,h2⟩:=hF
    obtain ⟨h3,h4,h5⟩:=hq
    subst h1 h2 h4 h5
    refine hM _ [.box (.t b d)] _ _ (h d x h3) X w σ vs hfin ⟨fun j o hj=> ?_,fun i j bb hij hi hj=>hl.apart i j bb hij hi hj⟩ ?_
    ·cases j with
     |zero=>
      simp only [List.getElem?_cons_zero,Option.some.injEq] at hj
      subst hj
      exact ⟨as_box hb hd (hl.at_ 0 _ rfl).1,by simp⟩
     |succ j=>simp at hj
    ·simp only [V.ds,Cs] at hc ⊢
     obtain ⟨u,us,rfl,q1,q2⟩:=hc
     exact ⟨u,us,rfl,q1,canon_cs hx q2⟩
   ·cases hq
  ·cases hq
 ·cases hF
end
inductive SV where
 |ty (t:Ty)
 |ptr (k o:Nat)
 |ms (k:Nat)
 |cf (f:Nat)
 |fn (f:Nat) (ks:List (Nat×Nat))
 |nl
 |ni
 |bf (f:Nat) (t:Ty)
inductive SO where
 |box (t:Ty)
 |bag (l:List SV)
 |arr (e:Nat) (t:Ty)
 |no
 |bc (f:Nat)
 |bm (k:Nat)
@[reducible] def SV.T:SV->Type
 |.ty t=>t.T
 |.ptr _ _=>Unit
 |.ms _=>Unit
 |.cf _=>Unit
 |.fn _ _=>Unit
 |.nl=>Unit
 |.ni=>Unit
 |.bf _ t=>t.T
@[reducible] def SVt:List SV->Type
 | []=>Unit
 |s::r=>s.T×SVt r
@[reducible] def SO.T:SO->Type
 |.box t=>t.T
 |.bag l=>SVt l
 |.arr _ t=>List t.T
 |.no=>Unit
 |.bc _=>Unit
 |.bm _=>Unit
def SV.mk:(s:SV)->s.T->V
 |.ty t,x=> .t t x
 |.ptr k o,_=> .ptr k o
 |.ms k,_=> .ms k
 |.cf f,_=> .c (.func (.func f) ⟨[]⟩ ⟨[]⟩)
 |.fn f ks,_=> .fn f (ks.map fun p=> .ptr p.1 p.2)
 |.nl,_=> .c (.slice none 0 0)
 |.ni,_=> .c .nilIface
 |.bf f t,x=> .fn (f+1000000) [.t t x]
def niOf:Value->Bool
 |.nilIface=>true
 |_=>false
theorem niOf_mk {x:Value}(h:niOf x=true):x= .nilIface:=by
 unfold niOf at h
 split at h
 ·rfl
 ·cases h
def nlOf:Value->Bool
 |.slice none 0 0=>true
 |_=>false
theorem nlOf_mk {x:Value}(h:nlOf x=true):x= .slice none 0 0:=by
 unfold nlOf at h
 split at h
 ·rfl
 ·cases h
def cfOf:Value->Option Nat
 |.func (.func g) ⟨[]⟩ ⟨[]⟩=>some g
 |_=>none
theorem cfOf_mk {x:Value}{f:Nat}(h:cfOf x=some f):x= .func (.func f) ⟨[]⟩ ⟨[]⟩:=by
 unfold cfOf at h
 split at h
 ·simp only [Option.some.injEq] at h
  rw [h]
 ·cases h
def ptrsOf:List V->Option (List (Nat×Nat))
 | []=>some []
 |.ptr k o::r=>match ptrsOf r with
  |some l=>some ((k,o)::l)
  |none=>none
 |_=>none
theorem ptrsOf_mk: ∀ {vs:List V} {ks:List (Nat×Nat)},ptrsOf vs=some ks->vs=ks.map fun p=> .ptr p.1 p.2
 | [],ks,h=>by
  simp only [ptrsOf,Option.some.injEq] at h
  subst h
  rfl
 |v::r,ks,h=>by
  cases v with
  |ptr k o=>
   simp only [ptrsOf] at h
   split at h
   ·rename_i l hl
    simp only [Option.some.injEq] at h
    subst h
    rw [ptrsOf_mk hl]
    rfl
   ·cases h
  |_=>simp only [ptrsOf] at h;cases h
def mkVt:(l:List SV)->SVt l->List V
 | [],_=>[]
 |s::r,x=>s.mk x.1::mkVt r x.2
def SO.mk:(s:SO)->s.T->VO
 |.box t,x=> .box (.t t x)
 |.bag l,x=> .box (.ag (mkVt l x))
 |.arr e t,l=> .arr e t l
 |.no,_=> .no
 |.bc f,_=> .box (.c (.func (.func f) ⟨[]⟩ ⟨[]⟩))
 |.bm k,_=> .box (.ms k)
def bfOf (t:Ty):List V->Option t.T
 | [.t t' x]=>if h:t'=t then some (h▸x) else none
 |_=>none
theorem bfOf_mk {t:Ty}{vs:List V}{x:t.T}(h:bfOf t vs=some x):vs=[.t t x]:=by
 unfold bfOf at h
 split at h
 ·split at h
  ·rename_i ht
   subst ht
   simp only [Option.some.injEq] at h
   rw [h]
  ·cases h
 ·cases h
def SV.rd:(s:SV)->V->Option s.T
 |.ty t,.t t' x=>if h:t'=t then some (h▸x) else none
 |.ptr k o,.ptr k' o'=>if k'=k/\o'=o then some () else none
 |.ms k,.ms k'=>if k'=k then some () else none
 |.cf f,.c x=>if cfOf x=some f then some () else none
 |.fn f ks,.fn g vs=>if g=f/\ptrsOf vs=some ks then some () else none
 |.nl,.c x=>if nlOf x=true then some () else none
 |.ni,.c x=>if niOf x=true then some () else none
 |.bf f t,.fn g vs=>if g=f+1000000 then bfOf t vs else none
 |_,_=>none
def rdVt:(l:List SV)->List V->Option (SVt l)
 | [],[]=>some ()
 |s::r,v::vs=>match s.rd v,rdVt r vs with
  |some x,some y=>some (x,y)
  |_,_=>none
 |_,_=>none
def SO.rd:(s:SO)->VO->Option s.T
 |.box t,.box v=>(SV.ty t).rd v
 |.bag l,.box (.ag vs)=>rdVt l vs
 |.arr e t,.arr e' t' l=>if h:t'=t then (if e'=e then some (h▸l) else none) else none
 |.no,.no=>some ()
 |.bc f,.box (.c x)=>if cfOf x=some f then some () else none
 |.bm k,.box (.ms j)=>if j=k then some () else none
 |_,_=>none
theorem SV.rd_mk {s:SV}{v:V}{x:s.T}(h:s.rd v=some x):v=s.mk x:=by
 cases s with
 |ty t=>
  cases v with
  |t t' y=>
   simp only [SV.rd] at h
   split at h
   ·rename_i ht
    subst ht
    simp only [Option.some.injEq] at h
    subst h
    rfl
   ·cases h
  |_=>simp only [SV.rd] at h;cases h
 |ptr k o=>
  cases v with
  |ptr k' o'=>
   simp only [SV.rd] at h
   split at h
   ·rename_i hk
    rw [hk.1,hk.2]
    rfl
   ·cases h
  |_=>simp only [SV.rd] at h;cases h
 |ms k=>
  cases v with
  |ms k'=>
   simp only [SV.rd] at h
   split at h
   ·rename_i hk
    rw [hk]
    rfl
   ·cases h
  |_=>simp only [SV.rd] at h;cases h
 |cf f=>
  cases v with
  |c x=>
   simp only [SV.rd] at h
   split at h
   ·rename_i hk
    rw [cfOf_mk hk]
    rfl
   ·cases h
  |_=>simp only [SV.rd] at h;cases h
 |fn f ks=>
  cases v with
  |fn g vs=>
   simp only [SV.rd] at h
   split at h
   ·rename_i hk
    rw [hk.1,ptrsOf_mk hk.2]
    rfl
   ·cases h
  |_=>simp only [SV.rd] at h;cases h
 |nl=>
  cases v with
  |c x=>
   simp only [SV.rd] at h
   split at h
   ·rename_i hk
    rw [nlOf_mk hk]
    rfl
   ·cases h
  |_=>simp only [SV.rd] at h;cases h
 |ni=>
  cases v with
  |c x=>
   simp only [SV.rd] at h
   split at h
   ·rename_i hk
    rw [niOf_mk hk]
    rfl
   ·cases h
  |_=>simp only [SV.rd] at h;cases h
 |bf f t=>
  cases v with
  |fn g vs=>
   simp only [SV.rd] at h
   split at h
   ·rename_i hk
    rw [hk,bfOf_mk h]
    rfl
   ·cases h
  |_=>simp only [SV.rd] at h;cases h
theorem rdVt_mk: ∀ {l:List SV} {vs:List V} {x:SVt l},rdVt l vs=some x->vs=mkVt l x
 | [],[],_,_=>rfl
 | [],_::_,_,h=>by cases h
 |_::_,[],_,h=>by cases h
 |s::r,v::vs,x,h=>by
  simp only [rdVt] at h
  split at h
  ·rename_i x1 y1 h1 h2
   simp only [Option.some.injEq] at h
   subst h
   rw [SV.rd_mk h1,rdVt_mk h2]
   rfl
  ·cases h
theorem SO.rd_mk {s:SO}{v:VO}{x:s.T}(h:s.rd v=some x):v=s.mk x:=by
 cases s with
 |box t=>
  cases v with
  |box v=>
   simp only [SO.rd] at h
   have:=SV.rd_mk h
   rw [this]
   rfl
  |_=>simp only [SO.rd] at h;cases h
 |bag l=>
  cases v with
  |box v=>
   cases v with
   |ag vs=>
    simp only [SO.rd] at h
    rw [rdVt_mk h]
    rfl
   |_=>simp only [SO.rd] at h;cases h
  |_=>simp only [SO.rd] at h;cases h
 |arr e t=>
  cases v with
  |arr e' t' l=>
   simp only [SO.rd] at h
   split at h
   ·rename_i ht
    subst ht
    split at h
    ·rename_i he
     simp only [Option.some.injEq] at h
     subst h
     rw [he]
     rfl
    ·cases h
   ·cases h
  |_=>simp only [SO.rd] at h;cases h
 |no=>
  cases v with
  |no=>rfl
  |_=>simp only [SO.rd] at h;cases h
 |bc f=>
  cases v with
  |box c=>
   cases c with
   |c x=>
    simp only [SO.rd] at h
    split at h
    ·rename_i hk
     rw [cfOf_mk hk]
     rfl
    ·cases h
   |_=>simp only [SO.rd] at h;cases h
  |_=>simp only [SO.rd] at h;cases h
 |bm k=>
  cases v with
  |box c=>
   cases c with
   |ms j=>
    simp only [SO.rd] at h
    split at h
    ·rename_i hk
     rw [hk]
     rfl
    ·cases h
   |_=>simp only [SO.rd] at h;cases h
  |_=>simp only [SO.rd] at h;cases h
@[reducible] def SVs:List (Nat×SV)->Type
 | []=>Unit
 |(_,s)::r=>s.T×SVs r
@[reducible] def SOs:List (Nat×SO)->Type
 | []=>Unit
 |(_,s)::r=>s.T×SOs r
def mkVs:(l:List (Nat×SV))->SVs l->List (Nat×V)
 | [],_=>[]
 |(i,s)::r,x=>(i,s.mk x.1)::mkVs r x.2
def mkOs:(l:List (Nat×SO))->SOs l->List (Nat×VO)
 | [],_=>[]
 |(i,s)::r,x=>(i,s.mk x.1)::mkOs r x.2
def rdVs (f:Nat->V):(l:List (Nat×SV))->Option (SVs l)
 | []=>some ()
 |(i,s)::r=>match s.rd (f i),rdVs f r with
  |some x,some y=>some (x,y)
  |_,_=>none
def rdOs (f:Nat->VO):(l:List (Nat×SO))->Option (SOs l)
 | []=>some ()
 |(i,s)::r=>match s.rd (f i),rdOs f r with
  |some x,some y=>some (x,y)
  |_,_=>none
structure Sh where
 vs:List (Nat×SV)
 os:List (Nat×SO)
def SV.t? : SV->Option Ty
 |.ty t=>some t
 |_=>none
def SO.t? : SO->Option Ty
 |.box t=>some t
 |_=>none
def Sh.f (s:Sh):Fg:=⟨s.vs.map fun p=>(p.1,p.2.t?),s.os.map fun p=>(p.1,p.2.t?)⟩
def Sh.st (s:Sh)(x:SVs s.vs)(y:SOs s.os):VS:=⟨look (mkVs s.vs x),lookO (mkOs s.os y),s.os.map Prod.fst⟩
theorem nrm_mk {s:SV}{x:s.T}:nrmV s.t? (s.mk x)=s.mk x:=by
 cases s with
 |ty t=>simp only [SV.t?, SV.mk,nrmV,V.as,dite_true]
 |_=>rfl
theorem nrmO_mk {s:SO}{x:s.T}:nrmO s.t? (s.mk x)=s.mk x:=by
 cases s with
 |box t=>
  simp only [SO.t?, SO.mk,nrmO,nrmV,V.as,dite_true]
  split<;>rfl
 |_=>rfl
theorem rdVs_mk {f:Nat->V}: ∀ {l:List (Nat×SV)} {x:SVs l},rdVs f l=some x->(l.map fun p=>(p.1,p.2.t?)).map (fun p=>(p.1,nrmV p.2 (f p.1)))=mkVs l x
 | [],_,_=>rfl
 |(i,s)::r,x,h=>by
  simp only [rdVs] at h
  split at h
  ·rename_i x1 y1 h1 h2
   simp only [Option.some.injEq] at h
   subst h
   simp only [List.map_cons,mkVs,SV.rd_mk h1,nrm_mk,rdVs_mk h2]
  ·cases h
theorem rdOs_mk {f:Nat->VO}: ∀ {l:List (Nat×SO)} {x:SOs l},rdOs f l=some x->(l.map fun p=>(p.1,p.2.t?)).map (fun p=>(p.1,nrmO p.2 (f p.1)))=mkOs l x
 | [],_,_=>rfl
 |(i,s)::r,x,h=>by
  simp only [rdOs] at h
  split at h
  ·rename_i x1 y1 h1 h2
   simp only [Option.some.injEq] at h
   subst h
   simp only [List.map_cons,mkOs,SO.rd_mk h1,nrmO_mk,rdOs_mk h2]
  ·cases h
def mkL (s:Sh)(ok:SVs s.vs->SOs s.os->Bool)(alts:SVs s.vs->SOs s.os->List (Bool×Exit×VS))(S:VS):Option (Bool×List (Bool×Exit×VS)):=
 match rdVs S.ts s.vs,rdOs S.st s.os with
 |some x,some y=>some (ok x y,alts x y)
 |_,_=>none
theorem lok_of {g:G}{s:Sh}{f:Fg}{a:TC}{ok:SVs s.vs->SOs s.os->Bool}{alts:SVs s.vs->SOs s.os->List (Bool×Exit×VS)}(hok:f.ok)(hf:f=s.f)(h: ∀ x y,ok x y=true→ ∀ p,pickA (alts x y)=some p->loopF (roundF g f a) (s.st x y)=some p):
  ∀ S l p,mkL s ok alts (fgt f S)=some (true,l)->pickA l=some p->loopF (roundF g f a) S=some p:=by
 intro S l p hL hp
 unfold mkL at hL
 split at hL
 ·rename_i x y hx hy
  simp only [Option.some.injEq,Prod.mk.injEq] at hL
  obtain ⟨h1,rfl⟩:=hL
  rw [loopF_fgt hok]
  have e1:=rdVs_mk hx
  have e2:=rdOs_mk hy
  have:fgt f S=s.st x y:=by
   rw [←fgt_fgt hok S]
   have e3:(fgt f S).ts=(fgt f S).ts:=rfl
   generalize fgt f S=T at e1 e2
   subst hf
   unfold fgt Sh.st
   simp only [Sh.f]
   rw [e1,e2]
   simp only [List.map_map]
   rfl
  rw [this]
  exact h x y h1 p hp
 ·cases hL
def Ls (l:List (VS->Option (Bool×List (Bool×Exit×VS))))(j:Nat)(S:VS):Option (Bool×List (Bool×Exit×VS)):=
 match l[j]? with
 |some F=>F S
 |none=>none
def nxt (f:VS->Option (Exit×VS)):Option (Exit×VS)->Option (Exit×VS)
 |some (.normal,S)=>f S
 |x=>x
theorem loopF_nxt (b:VS->Option (Exit×VS))(S:VS):loopF b S=nxt (loopF b) (b S):=by
 rw [loopF_eq]
 cases b S with
 |none=>rfl
 |some x=>
  obtain ⟨e,S'⟩:=x
  cases e<;>rfl
theorem nxt_br {f:VS->Option (Exit×VS)}{q:Bool}{a b:Option (Exit×VS)}:nxt f (br q a b)=br q (nxt f a) (nxt f b):=by cases q<;>rfl
theorem nxt_n {f:VS->Option (Exit×VS)}{S:VS}:nxt f (some (.normal,S))=f S:=rfl
theorem nxt_r {f:VS->Option (Exit×VS)}{S:VS}:nxt f (some (.ret,S))=some (.ret,S):=rfl
theorem nxt_e {f:VS->Option (Exit×VS)}{S:VS}{i:Nat}:nxt f (some (.exit i,S))=some (.exit i,S):=rfl
theorem nxt_0 {f:VS->Option (Exit×VS)}:nxt f none=none:=rfl
theorem pickA_br {q q2:Bool}{e e2:Exit}{S S2:VS}{l:List (Bool×Exit×VS)}:pickA ((q,e,S)::(q2,e2,S2)::l)=br q (some (e,S)) (pickA ((q2,e2,S2)::l)):=by cases q<;>rfl
theorem pickA_one {q:Bool}{e:Exit}{S:VS}:pickA [(q,e,S)]=some (e,S):=rfl
theorem br_true {β:Type}{a b:Option β}:br true a b=a:=rfl
theorem br_false {β:Type}{a b:Option β}:br false a b=b:=rfl
abbrev iadd (k:IntKind)(a b:Int):Int:=k.wrap (a+b)
abbrev isub (k:IntKind)(a b:Int):Int:=k.wrap (a-b)
abbrev iquo (k:IntKind)(a b:Int):Int:=k.wrap (a.tdiv b)
abbrev irem (a b:Int):Int:=a.tmod b
abbrev imx (a b:Int):Int:=if b > a then b else a
abbrev ieq (a b:Int):Bool:=a==b
abbrev ine (a b:Int):Bool:=a != b
abbrev ilt (a b:Int):Bool:=decide (a<b)
abbrev ile (a b:Int):Bool:=decide (a<=b)
abbrev igt (a b:Int):Bool:=decide (a > b)
abbrev ige (a b:Int):Bool:=decide (a≥b)
abbrev seq (a b:ByteArray):Bool:=a.toList==b.toList
abbrev sne (a b:ByteArray):Bool:= !(a.toList==b.toList)
abbrev beqq (a b:Bool):Bool:=a==b
abbrev bneq (a b:Bool):Bool:= !(a==b)
abbrev cNz (b:Int):Bool:=decide (b≠0)
abbrev cIx {α:Type}(l:List α)(j:Int):Bool:=decide (0<=j/\j<(l.length:Nat))
abbrev cSx (z:ByteArray)(j:Int):Bool:=decide (0<=j/\j<(z.size:Nat))
abbrev cSs (z:ByteArray)(a h:Int):Bool:=decide (0<=a/\a<=h/\h<=(z.size:Nat))
abbrev cApp {α:Type}(l l2:List α)(bytes:Nat):Bool:=decide ((l.length+l2.length)*(bytes+1)<=140737488355328)
abbrev cLd {α:Type}(l:List α)(i:Nat):Bool:=decide (i<l.length)
abbrev cCat (a b:ByteArray):Bool:=decide (a.size+b.size<=9223372036854775807)
abbrev lgt (y:Ty)(l:List y.T)(j:Nat):y.T:=l.getD j y.zero
abbrev llen {α:Type}(l:List α):Int:=((l.length:Nat):Int)
abbrev slen (z:ByteArray):Int:=((z.size:Nat):Int)
abbrev sgt (z:ByteArray)(j:Int):Int:=(((z.data.toList.getD j.toNat 0).toNat:Nat):Int)
abbrev ssl (z:ByteArray)(a h:Int):ByteArray:=z.extract a.toNat h.toNat
abbrev scat (a b:ByteArray):ByteArray:=a++b
abbrev boxT (bs:List Ty):Type:=SVt (bs.map SV.ty)
def asBox (b:Ty)(c:V):Option b.T:=if b.row=true then c.as b else (SV.ty b).rd c
def asBoxes:(bs:List Ty)->List VO->Option (boxT bs)
 | [],[]=>some ()
 |b::bs,.box c::os=>match asBox b c,asBoxes bs os with
  |some x,some y=>some (x,y)
  |_,_=>none
 |_,_=>none
def mkBoxes:(bs:List Ty)->boxT bs->List VO
 | [],_=>[]
 |b::bs,x=> .box (.t b x.1)::mkBoxes bs x.2
def specH (l:List SV)(bs:List Ty)(ok:SVt l->boxT bs->Bool)(F:SVt l->boxT bs->V):Ent:=fun args objs=>
 match rdVt l args,asBoxes bs objs with
 |some x,some d=>some (ok x d,F x d,mkBoxes bs d)
 |_,_=>none
section
variable {P:Program}{X:Nat->Nat->Prop}{w:World}{σ:Pl}
theorem asBox_at {b:Ty}{c:V}{d:b.T}{k:Nat}(h:asBox b c=some d)(hat:OAt X w σ k (.box c)):OAt X w σ k (.box (.t b d)):=by
 unfold asBox at h
 split at h
 ·rename_i hb
  exact as_box hb h hat
 ·have:=SV.rd_mk h
  rw [this] at hat
  exact hat
theorem asBoxes_at: ∀ {bs:List Ty} {os:List VO} {d:boxT bs},asBoxes bs os=some d->(mkBoxes bs d).length=os.length∧ ∀ (j k:Nat) (o:VO),(mkBoxes bs d)[j]? = some o->o≠ .no∧ ∃ o',os[j]? = some o'/\(OAt X w σ k o'->OAt X w σ k o)
 | [],[],d,_=>⟨rfl,fun j k o h=>by simp [mkBoxes] at h⟩
 | [],_::_,d,h=>by simp [asBoxes] at h
 |_::_,[],d,h=>by simp [asBoxes] at h
 |b::bs,o::os,d,h=>by
  cases o with
  |box c=>
   simp only [asBoxes] at h
   split at h
   ·rename_i x y hx hy
    simp only [Option.some.injEq] at h
    subst h
    obtain ⟨h1,h2⟩:=asBoxes_at hy
    refine ⟨by simp only [mkBoxes,List.length_cons,h1],fun j k o hj=> ?_⟩
    cases j with
    |zero=>
     simp only [mkBoxes,List.getElem?_cons_zero,Option.some.injEq] at hj
     subst hj
     exact ⟨by simp,_,rfl,asBox_at hx⟩
    |succ j=>
     simp only [mkBoxes,List.getElem?_cons_succ] at hj
     obtain ⟨q1,o',q2,q3⟩:=h2 j k o hj
     exact ⟨q1,o',by simpa using q2,q3⟩
   ·cases h
  |no=>simp [asBoxes] at h
  |arr e t l=>simp [asBoxes] at h
theorem meets_specH {f:FuncId}{R:Fun}{l:List SV}{bs:List Ty}{ok:SVt l->boxT bs->Bool}{F:SVt l->boxT bs->V}(hM:Meets P f R)(h: ∀ x d,ok x d=true->R (mkVt l x) (mkBoxes bs d)=some (F x d,mkBoxes bs d)):Meets P f (strip (specH l bs ok F)):=by
 intro args objs r os hF X w σ vs hfin hl hc
 unfold strip specH at hF
 split at hF
 ·rename_i r' os' hq
  split at hq
  ·rename_i x d hx hd
   simp only [Option.some.injEq,Prod.mk.injEq] at hF hq
   obtain ⟨rfl,rfl⟩:=hF
   obtain ⟨h1,rfl,rfl⟩:=hq
   have ha:=rdVt_mk hx
   subst ha
   have hb:=fun j k o=>(asBoxes_at (X:=X) (w:=w) (σ:=σ) hd).2 j k o
   have hlen:=(asBoxes_at (X:=X) (w:=w) (σ:=σ) hd).1
   have:=hM _ _ _ _ (h x d h1) X w σ vs hfin ⟨fun j o hj=>by
    obtain ⟨q1,o',q2,q3⟩:=hb j (50000+j) o hj
    exact ⟨q3 (hl.at_ j o' q2).1,q1⟩,fun i j b hij hi hj=>hl.apart i j b hij (by omega) (by omega)⟩ hc
   rw [hlen] at this
   exact this
  ·cases hq
 ·cases hF
end
def oK (d:Nat)(k:RK):RO:=⟨some d,none,k⟩
def oM (d:Nat)(m:MO):RO:=⟨some d,none,.m m⟩
def oP (d:Nat)(a:AO):RO:=⟨some d,none,.m (.pu a)⟩
def oV (d i:Nat):RO:=⟨some d,none,.m (.pu (.mv (.t i)))⟩
def oL (d i:Nat):RO:=⟨some d,none,.m (.ld false 1 (.t i))⟩
def oC (d f:Nat)(l:List AX):RO:=⟨some d,none,.call f l⟩
def oG (d j:Nat)(b:Bool)(k:RK):RO:=⟨some d,some (j,b),k⟩
def oQ (d j:Nat)(b:Bool)(a:AO):RO:=⟨some d,some (j,b),.m (.pu a)⟩
def cI (n:Int):AX:= .c (.v (.int .i64 n))
def cB (b:Bool):AX:= .c (.v (.bool b))
end Go.Proofs.YtkkoedniahnneaaDoor.K
/-
 From a contract of calls to what is said in types,and from there to a law's row.
-/
namespace Go.Proofs.YtkkoedniahnneaaDoor.K
open Go.RowKit
section
variable {P:Program}{X:Nat->Nat->Prop}{w:World}{σ:Pl}
theorem fr_below {w w':World}(h:Below w.heap.size w w'):Fr [] w w':=⟨h.os,h.tape,h.output,h.size,fun b hb _=>h.block b hb⟩
theorem ends_none {w w':World}{m:Nat}(hm:m=0)(hfin: ∀ b q,X b q->b<w.heap.size)(h:Below w.heap.size w w'):Ends X w σ m X w' σ []:=by
 subst hm
 exact ⟨fun b q hq=>Nat.lt_of_lt_of_le (hfin b q hq) h.size,fun j o hj=>by simp at hj,fun i j b _ hi=>by simp at hi,by simp,fun _ _=>rfl,fun j b _ hj=>by simp at hj,fr_below h,fun _ _ _ h=>h,fun _ _ _ _ h=>h⟩
theorem meets_calls {f:FuncId}{a:Ty}{ok:a.T->Bool}{F:a.T->V}(h: ∀ x,ok x=true→ ∀ X w σ vs,(∀ b q,X b q->b<w.heap.size)->Cs X w σ (V.ds (a.canon x)) vs→
  Calls P f vs.toArray w fun e w'=> ∃ u,e= .returned u/\C X w' σ (F x).d u/\Below w.heap.size w w') (hlt:f<1000000:=by decide):Meets P f (strip (spec a ok F)):=by
 intro args objs r os hF X w σ vs hfin hl hc
 unfold strip spec at hF
 cases objs with
 |cons o os'=>simp at hF
 |nil=>
  simp only at hF
  cases ha:a.args args with
  |none=>rw [ha] at hF;cases hF
  |some x=>
   rw [ha] at hF
   simp only at hF
   split at hF
   ·rename_i r' os' hq
    simp only [Option.some.injEq,Prod.mk.injEq] at hF hq
    obtain ⟨rfl,rfl⟩:=hF
    obtain ⟨h1,rfl,rfl⟩:=hq
    refine (does_of hlt (h x h1 X w σ vs hfin (canon_cs ha hc))).mono ?_
    rintro e w' ⟨u,e1,e2,e3⟩
    exact ⟨u,X,σ,e1,e2,ends_none rfl hfin e3⟩
   ·cases hF
theorem calls_true {f:FuncId}{F:Fun}(hlt:f<1000000)(h:Meets P f F){args:List V}(hF:F args []=some (.t .bool true,[])){W:World}{vs:List Value}(hc:Cs (fun _ _=>False) W (fun _=> .no) (V.ds args) vs):
  Calls P f vs.toArray W fun r w'=>r= .returned (.bool true)/\Below W.heap.size W w':=by
 refine (of_does hlt (h args [] _ _ hF (fun _ _=>False) W (fun _=> .no) vs (fun _ _ h=>h.elim) ⟨fun j o hj=>by simp at hj,fun i j b _ hi=>by simp at hi⟩ hc)).mono ?_
 rintro e w' ⟨u,X',σ',rfl,h1,h2⟩
 simp only [V.d,Ty.d,C] at h1
 rw [h1.1]
 exact ⟨rfl,h2.fr.os,h2.fr.tape,h2.fr.output,h2.fr.size,fun b hb=>h2.fr.keep b hb (by simp [lentB])⟩
theorem ints_cs {k:IntKind}: ∀ (zs:List Int),Cs X w σ (zs.flatMap (Ty.int k).cells) (zs.map (Value.int k))
 | []=>by simp [Cs]
 |z::zs=>by
  simp only [List.flatMap_cons,Ty.cells,List.singleton_append,List.map_cons,Cs]
  exact ⟨_,_,rfl,⟨rfl,rfl⟩,ints_cs zs⟩
theorem introw_c {k:IntKind}{W:World}{a:Option Addr}{len cap:Nat}{zs:List Int}(hr:IsRow k W a len cap zs):C (fun _ _=>False) W σ (V.t (.sl (.int k)) (zs.take len)).d (.slice a len cap):=by
 rcases hr with ⟨rfl,rfl,rfl,rfl⟩|⟨x,rfl,h1,h2,h3,h4,h5⟩
 ·simp only [V.d,Ty.d,C,List.take_nil,List.length_nil]
  exact ⟨none,0,rfl,Nat.le_refl _,by simp [maxLen],fun _=>rfl,fun h=>absurd h (by omega)⟩
 ·have hlen:(zs.take len).length=len:=by rw [List.length_take];omega
  simp only [V.d,Ty.d,C,hlen]
  refine ⟨some x,cap,rfl,h1,h2,fun h=>by subst h;simp,fun h=> ?_⟩
  obtain ⟨b,off,sp⟩:=x
  have h0:=h4 0 (by omega)
  have hsp:sp=none:=by
   simp only [World.cell?, Addr.add] at h0
   cases sp with
   |none=>rfl
   |some s=>split at h0<;>simp at h0
  subst hsp
  refine ⟨b,off,_,rfl,ints_cs _, ?_,fun j _ h=>h,fun j u hu=> ?_,fun u hu=> ?_⟩
  ·rcases Nat.lt_or_ge b W.heap.size with hlt|hge
   ·exact hlt
   ·simp [World.cell?, Addr.add,Array.getElem?_eq_none hge] at h0
  ·rw [List.getElem?_map] at hu
   have hj:j<len:=by
    rcases Nat.lt_or_ge j len with hlt|hge
    ·exact hlt
    ·rw [List.getElem?_eq_none (by omega)] at hu;cases hu
   have:=h4 j (by omega)
   rw [List.getElem?_take_of_lt hj,List.getElem?_eq_getElem (by omega)] at hu
   rw [List.getD_eq_getElem?_getD,List.getElem?_eq_getElem (by omega)] at this
   simp only [Option.map_some,Option.some.injEq] at hu
   subst hu
   have ha:(Addr.mk b off none).add j=⟨b,off+j,none⟩:=by by_cases h0:j=0<;>simp [Addr.add,h0]
   rw [ha] at this
   simpa using this
  ·simp only [List.mem_map] at hu
   obtain ⟨z,_,rfl⟩:=hu
   rfl
theorem strip_spec {a:Ty}{ok:a.T->Bool}{F:a.T->V}{args:List V}{x:a.T}(h:a.args args=some x)(hok:ok x=true):strip (spec a ok F) args []=some (F x,[]):=by
 simp [strip,spec,h,hok]
end
end Go.Proofs.YtkkoedniahnneaaDoor.K
/-
 What is handed to a law,whatever its types of plain data:the datum that is read is a typed value.
-/
namespace Go.Proofs.YtkkoedniahnneaaDoor.K
open Go.RowKit Go.ChangeShapes Go.WideShapes Go.Deep
def Ty.wf:(y:Ty)->y.T->Prop
 |.int k,n=>(Lit.int k n).wf=true
 |.bool,_=>True
 |.str,s=>s.size<=maxLen
 |.sl e,l=>List.length l<=maxLen∧ ∀ x∈l,e.wf x
 |.nil,_=>True
 |.pr f r,x=>f.wf x.1/\r.wf x.2
 |.rv,_=>True
 |.rb,_=>True
 |.ov,_=>True
def fieldsIs (P:Program)(T:TypeId->Ty->Bool):List Field->Nat->Ty->Bool
 | [],_,.nil=>true
 |f::r,o,.pr a b=>decide (f.offset=o)&&decide (P.cellsOf f.type=a.sz)&&T f.type a&&fieldsIs P T r (o+a.sz) b
 |_,_,_=>false
def tyIs (P:Program):Nat->TypeId->Ty->Bool
 |0,_,_=>false
 |n+1,t,y=>match P.underlying t with
  |some (.int k)=>decide (y= .int k)
  |some .bool=>decide (y= .bool)
  |some .string=>decide (y= .str)
  |some (.slice e)=>match y with
   |.sl z=>tyIs P n e z&&decide (P.cellsOf e=z.sz)&&decide (0<z.sz)
   |_=>false
  |some (.struct fs)=>y.row&&decide (P.cellsOf t=y.sz)&&fieldsIs P (tyIs P n) fs.toList 0 y
  |_=>false
abbrev noX:Nat->Nat->Prop:=fun _ _=>False
section
variable {H:Type}{enc:TypeId×Value->H}{P:Program}{w:World}{base:Nat}{sp:Nat->Bool}{held:Bool}{σ:Pl}
theorem ycells_one {X:Nat->Nat->Prop}: ∀ (y:Ty) (x:y.T) (vs:List Value),Cs X w σ (y.cells x) vs->vs.length=y.sz∧ ∀ v∈vs,v.oneCell'=true
 |.int k,n,vs,h=>by
  simp only [Ty.cells,Cs] at h
  obtain ⟨u,us,rfl,h1,rfl⟩:=h
  simp only [C] at h1
  exact ⟨rfl,fun v hv=>by simp at hv;subst hv;rw [h1.1];exact h1.2⟩
 |.bool,n,vs,h=>by
  simp only [Ty.cells,Cs] at h
  obtain ⟨u,us,rfl,h1,rfl⟩:=h
  simp only [C] at h1
  exact ⟨rfl,fun v hv=>by simp at hv;subst hv;rw [h1.1];exact h1.2⟩
 |.str,n,vs,h=>by
  simp only [Ty.cells,Cs] at h
  obtain ⟨u,us,rfl,h1,rfl⟩:=h
  simp only [C] at h1
  exact ⟨rfl,fun v hv=>by simp at hv;subst hv;rw [h1.1];exact h1.2⟩
 |.ov,n,vs,h=>by
  simp only [Ty.cells,Cs] at h
  obtain ⟨u,us,rfl,h1,rfl⟩:=h
  simp only [C] at h1
  exact ⟨rfl,fun v hv=>by simp at hv;subst hv;rw [h1.1];exact h1.2⟩
 |.sl e,l,vs,h=>by
  simp only [Ty.cells,Cs] at h
  obtain ⟨u,us,rfl,h1,rfl⟩:=h
  simp only [C] at h1
  obtain ⟨A,c,rfl,_⟩:=h1
  exact ⟨rfl,fun v hv=>by simp at hv;subst hv;rfl⟩
 |.rv,l,vs,h=>by
  simp only [Ty.cells,Cs] at h
  obtain ⟨u,us,rfl,h1,rfl⟩:=h
  simp only [C] at h1
  obtain ⟨A,c,rfl,_⟩:=h1
  exact ⟨rfl,fun v hv=>by simp at hv;subst hv;rfl⟩
 |.rb,l,vs,h=>by
  simp only [Ty.cells,Cs] at h
  obtain ⟨u,us,rfl,h1,rfl⟩:=h
  simp only [C] at h1
  obtain ⟨A,c,rfl,_⟩:=h1
  exact ⟨rfl,fun v hv=>by simp at hv;subst hv;rfl⟩
 |.nil,_,vs,h=>by
  simp only [Ty.cells,Cs] at h
  subst h
  exact ⟨rfl,fun v hv=>by cases hv⟩
 |.pr f r,x,vs,h=>by
  simp only [Ty.cells] at h
  obtain ⟨v1,v2,rfl,h1,h2⟩:=Cs.split h
  obtain ⟨a1,a2⟩:=ycells_one f x.1 v1 h1
  obtain ⟨b1,b2⟩:=ycells_one r x.2 v2 h2
  refine ⟨by simp only [List.length_append,Ty.sz,a1,b1],fun v hv=> ?_⟩
  rcases List.mem_append.1 hv with hv|hv
  ·exact a2 v hv
  ·exact b2 v hv
theorem rows_one {X:Nat->Nat->Prop}{z:Ty}: ∀ (l:List z.T) (vs:List Value),Cs X w σ (l.flatMap z.cells) vs→ ∀ v∈vs,v.oneCell'=true
 | [],vs,h=>by
  simp only [List.flatMap_nil,Cs] at h
  subst h
  intro v hv
  cases hv
 |x::l,vs,h=>by
  rw [List.flatMap_cons] at h
  obtain ⟨v1,v2,rfl,h1,h2⟩:=Cs.split h
  intro v hv
  rcases List.mem_append.1 hv with hv|hv
  ·exact (ycells_one z x v1 h1).2 v hv
  ·exact rows_one l v2 h2 v hv
end
end Go.Proofs.YtkkoedniahnneaaDoor.K
/-
 Operations that are taken like calls:what they make.
-/
namespace Go.Proofs.YtkkoedniahnneaaDoor.K
open Go.RowKit
section
variable {P:Program}
theorem meets_op {f:FuncId}{a:Ty}{ok:a.T->Bool}{F:a.T->V}{g:List Value->Sem Value}(hg:bRun f=some g)
  (h: ∀ x,ok x=true→ ∀ (X:Nat->Nat->Prop) (w:World) (σ:Pl) vs,Cs X w σ (V.ds (a.canon x)) vs→ ∃ u,(g vs).run P w= .ok u w/\C X w σ (F x).d u):Meets P f (strip (spec a ok F)):=by
 intro args objs r os hF X w σ vs hfin hl hc
 unfold strip spec at hF
 cases objs with
 |cons o os'=>simp at hF
 |nil=>
  simp only at hF
  cases ha:a.args args with
  |none=>rw [ha] at hF;cases hF
  |some x=>
   rw [ha] at hF
   simp only at hF
   split at hF
   ·rename_i r' os' hq
    simp only [Option.some.injEq,Prod.mk.injEq] at hF hq
    obtain ⟨rfl,rfl⟩:=hF
    obtain ⟨h1,rfl,rfl⟩:=hq
    obtain ⟨u,e1,e2⟩:=h x h1 X w σ vs (canon_cs ha hc)
    unfold Does
    rw [hg]
    exact ⟨u,w,e1,u,X,σ,rfl,e2,ends_none rfl hfin (Below.refl _ _)⟩
   ·cases hF
theorem bytes_cs {X:Nat->Nat->Prop}{w:World}{σ:Pl}: ∀ (l:List UInt8),Cs X w σ (List.flatMap (Ty.int .u8).cells (l.map fun b=>(b.toNat:Int))) (l.map fun b=>Value.int .u8 (b.toNat:Int))
 | []=>by simp [Cs]
 |b::l=>by
  simp only [List.map_cons,List.flatMap_cons,Ty.cells,List.singleton_append,Cs,C]
  exact ⟨_,_,rfl,⟨rfl,rfl⟩,bytes_cs l⟩
def bytesOk (s:ByteArray):Bool:=decide (s.size<=9223372036854775807)
theorem meets_bytes {a b e:Nat}(ha:P.underlying a=some .string)(hb:P.underlying b=some (.slice e))(he:P.underlying e=some (.int .u8))(hlt:a<10000):
  Meets P (bCode 0 a b) (strip (spec (.pr .str .nil) (fun x=>bytesOk x.1) (fun x=> .t (.sl (.int .u8)) (bytesL x.1)))):=by
 intro args objs r os hF X w σ vs hfin hl hc
 unfold strip spec at hF
 cases objs with
 |cons o os'=>simp at hF
 |nil=>
  simp only at hF
  cases ha':(Ty.pr .str .nil).args args with
  |none=>rw [ha'] at hF;cases hF
  |some x=>
   rw [ha'] at hF
   simp only at hF
   split at hF
   ·rename_i r' os' hq
    simp only [Option.some.injEq,Prod.mk.injEq] at hF hq
    obtain ⟨rfl,rfl⟩:=hF
    obtain ⟨h1,rfl,rfl⟩:=hq
    have hc2:=canon_cs ha' hc
    obtain ⟨s,u0⟩:=x
    have h1:s.size<=9223372036854775807:=of_decide_eq_true h1
    simp only [Ty.canon,V.ds,V.d,Ty.d,Cs,C] at hc2
    obtain ⟨u,us,rfl,⟨rfl,_⟩,rfl⟩:=hc2
    have hr:=run_bytes_of_string (P:=P) w a b e s ha hb he
    have hge:=grownCap_ge w s.size 0 e
    have hle:=grownCap_le_maxLen w s.size 0 e (by simp [maxLen];omega)
    generalize grownCap w s.size 0 e=cap at hr hge hle
    have hbel:Below w.heap.size w (w.drew.alloc (.cells (bytesRow s cap) e ((bytesRow s cap).size,(bytesRow s cap).size+1))):=((Below.refl _ _).drew).alloc (Nat.le_refl _) _
    have hblk:(w.drew.alloc (.cells (bytesRow s cap) e ((bytesRow s cap).size,(bytesRow s cap).size+1))).heap[w.heap.size]? = some (.cells (bytesRow s cap) e ((bytesRow s cap).size,(bytesRow s cap).size+1)):=heap_alloc_new _ _
    have hlen:(bytesL s).length=s.size:=by simp [bytesL]
    unfold Does
    rw [bCode_0 hlt]
    refine ⟨_,_,hr,_,X,σ,rfl, ?_,ends_none rfl hfin hbel⟩
    simp only [V.d,Ty.d,C]
    refine ⟨some ⟨w.heap.size,0,none⟩,cap,by rw [hlen],by rw [hlen];exact hge,hle,fun h0=>by rw [List.eq_nil_of_length_eq_zero h0];rfl,fun _=>⟨w.heap.size,0,s.data.toList.map fun b=>Value.int .u8 (b.toNat:Int),rfl,bytes_cs _, ?_,fun j _ hx=> ?_,fun j v hj=> ?_,fun v hv=> ?_⟩⟩
    ·exact (Array.getElem?_eq_some_iff.1 hblk).1
    ·exact absurd (hfin _ _ hx) (Nat.lt_irrefl _)
    ·have hjl:=(List.getElem?_eq_some_iff.1 hj).1
     rw [List.length_map] at hjl
     have:(bytesRow s cap)[j]? = some v:=by
      unfold bytesRow
      rw [Array.getElem?_append_left (by simpa using hjl)]
      rw [List.getElem?_map] at hj
      simpa using hj
     simp only [World.cell?, hblk,Nat.zero_add]
     exact this
    ·simp only [List.mem_map] at hv
     obtain ⟨b,_,rfl⟩:=hv
     rfl
   ·cases hF
def strOf (l:List Int):ByteArray:=⟨(l.map fun n=>UInt8.ofNat n.toNat).toArray⟩
theorem push_fold: ∀ (l:List Int) (s:ByteArray),l.foldl (fun r n=>r.push (UInt8.ofNat n.toNat)) s=⟨(s.data.toList++l.map fun n=>UInt8.ofNat n.toNat).toArray⟩
 | [],s=>by cases s;simp
 |n::l,s=>by
  rw [List.foldl_cons,push_fold l]
  simp [ByteArray.push]
theorem bytes_run {X:Nat->Nat->Prop}{w:World}{σ:Pl}: ∀ (l:List Int) (vs:List Value),Cs X w σ (List.flatMap (Ty.int .u8).cells l) vs->vs=l.map (Value.int .u8)
 | [],vs,h=>by simpa [Cs] using h
 |z::zs,vs,h=>by
  simp only [List.flatMap_cons,Ty.cells,List.singleton_append,Cs] at h
  obtain ⟨u,us,rfl,h1,h2⟩:=h
  simp only [C] at h1
  rw [h1.1,bytes_run zs us h2]
  rfl
theorem meets_string {a b e:Nat}(ha:P.underlying a=some (.slice e))(he:P.underlying e=some (.int .u8))(hb:P.underlying b=some .string)(hlt:a<10000):
  Meets P (bCode 0 a b) (strip (spec (.pr (.sl (.int .u8)) .nil) (fun _=>true) (fun x=> .t .str (strOf x.1)))):=
 meets_op (bCode_0 hlt) fun x _ X w σ vs hc=>by
  obtain ⟨l,u0⟩:=x
  simp only [Ty.canon,V.ds,V.d,Ty.d,Cs,C] at hc
  obtain ⟨u,us,rfl,⟨A,c,rfl,h1,h2,h3,h4⟩,rfl⟩:=hc
  refine ⟨.string (strOf l), ?_,rfl,rfl⟩
  have fin: ∀ a:Addr,(∀ j v,(l.map (Value.int .u8))[j]? = some v->w.cell? (a.add j)=some v)->(Conv.bytesToString (.slice (some a) l.length c)).run P w= .ok (.string (strOf l)) w:=by
   intro a hx
   have hload:=run_loadCells_list (P:=P) w a (l.map (Value.int .u8)) hx
   rw [List.length_map] at hload
   have hr:=run_bytesToString (P:=P) w a l.length c l hload
   have hf:l.foldl (fun r n=>r.push (UInt8.ofNat n.toNat)) ByteArray.empty=strOf l:=by
    rw [push_fold]
    rfl
   rw [hf] at hr
   exact hr
  have conv:(convert a b (.slice A l.length c)).run P w=(Conv.bytesToString (.slice A l.length c)).run P w:=by
   cases A<;>simp [convert,run_underlying ha,run_underlying hb,run_underlying he]
  show (convert a b (.slice A l.length c)).run P w=_
  rw [conv]
  rcases Nat.eq_zero_or_pos l.length with h0|hp
  ·have:l=[]:=List.eq_nil_of_length_eq_zero h0
   subst this
   cases A with
   |none=>rfl
   |some a=>exact fin a (fun j v hv=>by simp at hv)
  ·obtain ⟨bk,off,cs,rfl,h5,h6⟩:=h4 hp
   have hcs:=bytes_run l cs h5
   subst hcs
   refine fin _ fun j v hv=> ?_
   have ha:(Addr.mk bk off none).add j=⟨bk,off+j,none⟩:=by by_cases h0:j=0<;>simp [Addr.add,h0]
   rw [ha]
   exact h6.at_ j v hv
end
end Go.Proofs.YtkkoedniahnneaaDoor.K
/-
 Own slices that are handed to a function:it writes them,or uses them up.
-/
namespace Go.Proofs.YtkkoedniahnneaaDoor.K
open Go.RowKit Go.Sort
@[reducible] def SOt:List SO->Type
 | []=>Unit
 |s::r=>s.T×SOt r
def mkOt:(l:List SO)->SOt l->List VO
 | [],_=>[]
 |s::r,x=>s.mk x.1::mkOt r x.2
def VO.wk (s:SO)(o:VO):VO:=
 match s,o with
 |.arr e _,.arr e' t l=>if e=e'+1000000/\e'<1000000 then .arr e t l else o
 |_,_=>o
def rdOt:(l:List SO)->List VO->Option (SOt l)
 | [],[]=>some ()
 |s::r,o::os=>match s.rd (o.wk s),rdOt r os with
  |some x,some y=>some (x,y)
  |_,_=>none
 |_,_=>none
theorem wk_at {X:Nat->Nat->Prop}{w:World}{σ:Pl}{k:Nat}{s:SO}{o:VO}(h:OAt X w σ k o)(hn:o≠ .no):OAt X w σ k (o.wk s)/\o.wk s≠ .no:=by
 unfold VO.wk
 split
 ·split
  ·rename_i hc
   obtain ⟨u,xs,h1,h2,h3⟩:=h
   exact ⟨⟨u,xs,h1,by rw [hc.1];exact h2.weak hc.2,h3⟩,by simp⟩
  ·exact ⟨h,hn⟩
 ·exact ⟨h,hn⟩
theorem rdOt_mk: ∀ {l:List SO} {os:List VO} {x:SOt l},rdOt l os=some x->(mkOt l x).length=os.length∧ ∀ (j:Nat) o,(mkOt l x)[j]? = some o→ ∃ s o',os[j]? = some o'/\o=o'.wk s
 | [],[],_,_=>⟨rfl,fun j o h=>by simp [mkOt] at h⟩
 | [],_::_,_,h=>by cases h
 |_::_,[],_,h=>by cases h
 |s::r,v::vs,x,h=>by
  simp only [rdOt] at h
  split at h
  ·rename_i x1 y1 h1 h2
   simp only [Option.some.injEq] at h
   subst h
   obtain ⟨q1,q2⟩:=rdOt_mk h2
   refine ⟨by simp only [mkOt,List.length_cons,q1],fun j o hj=> ?_⟩
   cases j with
   |zero=>
    simp only [mkOt,List.getElem?_cons_zero,Option.some.injEq] at hj
    exact ⟨s,v,rfl,by rw [←hj, ← SO.rd_mk h1]⟩
   |succ j=>
    simp only [mkOt,List.getElem?_cons_succ] at hj ⊢
    exact q2 j o hj
  ·cases h
theorem rdOt_lent {X:Nat->Nat->Prop}{w:World}{σ:Pl}{l:List SO}{os:List VO}{x:SOt l}(h:rdOt l os=some x)(hl:Lent X w σ os):Lent X w σ (mkOt l x):=by
 obtain ⟨h1,h2⟩:=rdOt_mk h
 refine ⟨fun j o hj=> ?_,fun i j b hij hi hj=>hl.apart i j b hij (by omega) (by omega)⟩
 obtain ⟨s,o',q1,rfl⟩:=h2 j o hj
 obtain ⟨a,b⟩:=hl.at_ j o' q1
 exact wk_at a b
def specS (l:List SV)(os:List SO)(ok:SVt l->SOt os->Bool)(F:SVt l->SOt os->V)(O:SVt l->SOt os->List VO):Ent:=fun args objs=>
 match rdVt l args,rdOt os objs with
 |some x,some y=>some (ok x y,F x y,O x y)
 |_,_=>none
def coeV:SV->V->V
 |.ty t,v=>if t.row=true then (match v.as t with|some x=> .t t x|none=>v) else v
 |.bf _ t,.fn g [v]=>if t.row=true then (match v.as t with|some x=> .fn g [.t t x]|none=> .fn g [v]) else .fn g [v]
 |_,v=>v
def coeVs:List SV->List V->List V
 |s::r,v::vs=>coeV s v::coeVs r vs
 |_,vs=>vs
def specB (l:List SV)(os:List SO)(ok:SVt l->SOt os->Bool)(F:SVt l->SOt os->V)(O:SVt l->SOt os->List VO):Ent:=fun args objs=>specS l os ok F O (coeVs l args) objs
theorem as_cs {X:Nat->Nat->Prop}{w:World}{σ:Pl}{t:Ty}{v:V}{x:t.T}{u:Value}(h:v.as t=some x)(hc:C X w σ v.d u):C X w σ (V.t t x).d u:=
 C.up _ _ (V.as_spec h hc)
theorem coeV_c {X:Nat->Nat->Prop}{w:World}{σ:Pl}{u:Value}(s:SV)(v:V)(hc:C X w σ v.d u):C X w σ (coeV s v).d u:=by
 unfold coeV
 split
 ·split
  ·split
   ·rename_i x h
    exact as_cs h hc
   ·exact hc
  ·exact hc
 ·split
  ·split
   ·rename_i x h
    simp only [V.d,V.ds,C,Cs] at hc ⊢
    obtain ⟨vs,h1,u1,us,h2,h3,h4⟩:=hc
    exact ⟨vs,h1,u1,us,h2,as_cs h h3,h4⟩
   ·exact hc
  ·exact hc
 ·exact hc
theorem coeVs_cs {X:Nat->Nat->Prop}{w:World}{σ:Pl}: ∀ (l:List SV) (vs:List V) (us:List Value),Cs X w σ (V.ds vs) us->Cs X w σ (V.ds (coeVs l vs)) us
 | [],vs,us,h=>h
 |s::r,[],us,h=>h
 |s::r,v::vs,us,h=>by
  simp only [coeVs,V.ds,Cs] at h ⊢
  obtain ⟨u,us',rfl,h2,h3⟩:=h
  exact ⟨u,us',rfl,coeV_c s v h2,coeVs_cs r vs us' h3⟩
section
variable {P:Program}
theorem meets_B {f:FuncId}{l:List SV}{os:List SO}{ok:SVt l->SOt os->Bool}{F:SVt l->SOt os->V}{O:SVt l->SOt os->List VO}(hM:Meets P f (strip (specS l os ok F O))):Meets P f (strip (specB l os ok F O)):=
 fun args objs r os' hF X w σ vs hfin hl hc=>hM (coeVs l args) objs r os' hF X w σ vs hfin hl (coeVs_cs l args vs hc)
theorem meets_S {f:FuncId}{l:List SV}{os:List SO}{ok:SVt l->SOt os->Bool}{F:SVt l->SOt os->V}{O:SVt l->SOt os->List VO}
  (h: ∀ x y,ok x y=true→ ∀ X w σ vs,(∀ b q,X b q->b<w.heap.size)->Lent X w σ (mkOt os y)->Cs X w σ (V.ds (mkVt l x)) vs→
   Does P f vs.toArray w fun e w'=> ∃ u X' σ',e= .returned u/\C X' w' σ' (F x y).d u/\Ends X w σ (mkOt os y).length X' w' σ' (O x y)):Meets P f (strip (specS l os ok F O)):=by
 intro args objs r os' hF X w σ vs hfin hl hc
 unfold strip specS at hF
 split at hF
 ·rename_i r' os'' hq
  split at hq
  ·rename_i x y hx hy
   simp only [Option.some.injEq,Prod.mk.injEq] at hF hq
   obtain ⟨rfl,rfl⟩:=hF
   obtain ⟨h1,rfl,rfl⟩:=hq
   have ha:=rdVt_mk hx
   subst ha
   have:=h x y h1 X w σ vs hfin (rdOt_lent hy hl) hc
   rw [(rdOt_mk hy).1] at this
   exact this
  ·cases hq
 ·cases hF
theorem meets_specS {f:FuncId}{R:Fun}{l:List SV}{os:List SO}{ok:SVt l->SOt os->Bool}{F:SVt l->SOt os->V}{O:SVt l->SOt os->List VO}(hM:Meets P f R)
  (h: ∀ x y,ok x y=true->R (mkVt l x) (mkOt os y)=some (F x y,O x y)):Meets P f (strip (specS l os ok F O)):=
 meets_S fun x y hok X w σ vs hfin hl hc=>hM _ _ _ _ (h x y hok) X w σ vs hfin hl hc
variable {X:Nat->Nat->Prop}{w w':World}{σ:Pl}
end
end Go.Proofs.YtkkoedniahnneaaDoor.K
/-
 Interfaces:values that are put into them,methods that are called through them;functions of which there is more than one word.
-/
namespace Go.Proofs.YtkkoedniahnneaaDoor.K
open Go.RowKit
section
variable {P:Program}
end
end Go.Proofs.YtkkoedniahnneaaDoor.K
namespace Go.Proofs.YtkkoedniahnneaaDoor.K
open Go.RowKit
def cregs:Code->List (Array Oper)
 |.region _ ops _=>[ops]
 |.seq a b=>cregs a++cregs b
 |.cond _ a b=>cregs a++cregs b
 |.rangeFunc _ _ a b=>cregs a++cregs b
 |.block _ c=>cregs c
 |.loop c=>cregs c
 |_=>[]
noncomputable def opsT (f:Func)(i:Nat):Array Oper:=match f.body with
 |some c=>(cregs c).getD i #[]
 |none=> #[]
noncomputable def rT (f:Func)(i:Nat):List RO:=(opsT f i).toList.map (trR Tryd.prog (opsT f i))
noncomputable def dT (f:Func)(i:Nat):List DO:=(opsT f i).toList.map (trD Tryd.prog (opsT f i))
abbrev tI:Ty:= .int .i64
abbrev tyBoundsError:Ty:=(.pr tI (.pr tI (.pr .bool (.pr (.int .u8) .nil))))
abbrev tyErrorAddressString:Ty:=(.pr .str (.pr (.int .u64) .nil))
abbrev tySetting:Ty:=(.pr .str (.pr .str (.pr .str (.pr tI .nil))))
abbrev Setting:Type:=ByteArray×(ByteArray×(ByteArray×(Int×Unit)))
abbrev tyDice:Ty:=(.pr (.sl tI) (.pr tI .nil))
abbrev Dice:Type:=(List Int)×(Int×Unit)
abbrev tyParser:Ty:=(.pr (.sl .str) (.pr tI (.pr .str (.pr (.sl tySetting) .nil))))
abbrev tyLexer:Ty:=(.pr .str (.pr tI (.pr tI (.pr .bool .nil))))
abbrev Lexer:Type:=ByteArray×(Int×(Int×(Bool×Unit)))
abbrev tyToken:Ty:=(.pr tI (.pr tI (.pr .str .nil)))
abbrev Token:Type:=Int×(Int×(ByteArray×Unit))
abbrev tyParserX:Ty:=(.pr tyLexer (.pr tyToken (.pr tI (.pr tI (.pr .ov .nil)))))
abbrev ParserX:Type:=Lexer×(Token×(Int×(Int×(Value×Unit))))
abbrev tyTokenX:Ty:=(.pr (.int .u8) (.pr .str (.pr .bool (.pr tI .nil))))
abbrev TokenX:Type:=Int×(ByteArray×(Bool×(Int×Unit)))
abbrev tyParserXX:Ty:=(.pr tyLexer (.pr tyTokenX (.pr tI (.pr .bool .nil))))
abbrev ParserXX:Type:=Lexer×(TokenX×(Int×(Bool×Unit)))
abbrev tyAcceptRange:Ty:=(.pr (.int .u8) (.pr (.int .u8) .nil))
def TYl:List (Nat×Ty):=[(2,tI),(3,tI),(4,.bool),(5,(.int .u8)),(6,(.int .u8)),(7,tyBoundsError),(8,tyBoundsError),(9,.str),(10,.str),(11,.str),(12,(.int .u64)),(13,tyErrorAddressString),(14,tyErrorAddressString),(21,(.int .i32)),(22,(.sl tI)),(28,(.sl (.int .u8))),(35,(.sl tyBlkT)),(36,(.sl .str)),(37,(.pr (.sl .str) (.pr .bool (.pr (.sl tyBlkT) (.pr tI .nil))))),(38,tyBlkT),(39,tI),(43,(.sl tySetting)),(44,tySetting),(45,tySetting),(70,tyDice),(71,tyDice),(90,tyParser),(91,tyParser),(103,tyLexer),(104,tyLexer),(105,tyToken),(106,tyToken),(107,(.pr tyLexer (.pr tyToken (.pr tI (.pr tI (.pr (.sl tyBlkT) .nil)))))),(108,tyParserX),(119,tyLexer),(120,tyLexer),(121,tyTokenX),(122,tyTokenX),(123,tyParserXX),(124,tyParserXX),(148,(.int .u64)),(168,(.int .u32)),(171,(.int .u64)),(185,tyAcceptRange),(186,tyAcceptRange),(187,(.pr tyAcceptRange (.pr tyAcceptRange (.pr tyAcceptRange (.pr tyAcceptRange (.pr tyAcceptRange (.pr tyAcceptRange (.pr tyAcceptRange (.pr tyAcceptRange (.pr tyAcceptRange (.pr tyAcceptRange (.pr tyAcceptRange (.pr tyAcceptRange (.pr tyAcceptRange (.pr tyAcceptRange (.pr tyAcceptRange (.pr tyAcceptRange .nil))))))))))))))))),(193,(.int .u8)),(194,(.int .u8)),(196,(.int .i32)),(197,(.int .i32))]
def TYs (e:Nat):Option Ty:=TYl.lookup e
def keeps:List Nat:=[]
theorem mixed:Tryd.prog.follows .mixedOrders=true:=by kernel_rfl
def sp_op_convert_28_9:Ent:=spec (.pr (.sl (.int .u8)) .nil) (fun x=>true) (fun x=>(.t .str (strOf x.1)))
theorem en_op_convert_28_9:Entered Tryd.prog 2440448:= .inl (by kernel_rfl)
theorem ms_op_convert_28_9:Meets Tryd.prog 2440448 (strip sp_op_convert_28_9):=meets_string (a:=28) (b:=9) (e:=5) (by kernel_rfl) (by kernel_rfl) (by kernel_rfl) (by decide)
def sp_op_convert_9_28:Ent:=spec (.pr .str .nil) (fun x=>(bytesOk x.1)) (fun x=>(.t (.sl (.int .u8)) (bytesL x.1)))
theorem en_op_convert_9_28:Entered Tryd.prog 5480144:= .inl (by kernel_rfl)
theorem ms_op_convert_9_28:Meets Tryd.prog 5480144 (strip sp_op_convert_9_28):=meets_bytes (a:=9) (b:=28) (e:=5) (by kernel_rfl) (by kernel_rfl) (by kernel_rfl) (by decide)
theorem mG {g:G}{f:FuncId}{fn:Func}{tc:TC}{rv:List (RV×Option Ty)}{ro:Bool}(hf:Tryd.prog.funcs[f]? = some fn)(ok:Option.map (trC Tryd.prog) fn.body=some tc.er)(hn:fn.ntmps=g.n)(hr:trVs Tryd.prog fn.results.toList=some (rv.map Prod.fst))(hg:GOk Tryd.prog g)(hl:tc.lok g)(hlt:f<1000000:=by decide):Meets Tryd.prog f (runF g tc rv ro):=by
 obtain ⟨c,hc,hi⟩:=Option.map_eq_some_iff.1 ok
 exact meets_of hlt hf hc hi hn hr hg hl mixed
def AllE:List (Nat×Ent)->Prop
 | []=>True
 |p::l=>(Entered Tryd.prog p.1/\Meets Tryd.prog p.1 (strip p.2))/\AllE l
theorem gA: ∀ {l:List (Nat×Ent)},AllE l→ ∀ p∈l,Entered Tryd.prog p.1/\Meets Tryd.prog p.1 (strip p.2)
 | [],_,p,hp=>by cases hp
 |q::l,h,p,hp=>by
  rcases List.mem_cons.1 hp with rfl|hp
  ·exact h.1
  ·exact gA h.2 p hp
theorem gC {k:Nat}{e:Ent}{l:List (Nat×Ent)}(h1:Entered Tryd.prog k)(h2:Meets Tryd.prog k (strip e))(h:AllE l):AllE ((k,e)::l):=⟨⟨h1,h2⟩,h⟩
theorem gN:AllE []:=trivial
end Go.Proofs.YtkkoedniahnneaaDoor.K
namespace Go.Proofs.YtkkoedniahnneaaDoor.K
open Go.RowKit
theorem lgt_get {y:Ty}{l:List y.T}{j:Nat}(h:j<l.length):lgt y l j=l[j]:=by
 unfold lgt
 rw [List.getD_eq_getElem?_getD,List.getElem?_eq_getElem h]
 rfl
theorem add1 {k:Nat}(h:k<4611686018427387904:=by omega):iadd .i64 (k:Int) 1=((k+1:Nat):Int):=by
 unfold iadd
 rw [Go.IntWalk.i64_in _ (by omega)]
 rfl
theorem iadd_in {a b:Int}(h: -9223372036854775808<=a+b/\a+b<=9223372036854775807):iadd .i64 a b=a+b:=Go.IntWalk.i64_in _ h
theorem isub_in {a b:Int}(h: -9223372036854775808<=a-b/\a-b<=9223372036854775807):isub .i64 a b=a-b:=Go.IntWalk.i64_in _ h
theorem cIx_nat {α:Type}{l:List α}{k:Nat}:cIx l (k:Int)=decide (k<l.length):=by
 unfold cIx
 congr 1
 exact propext ⟨fun h=>by omega,fun h=>by omega⟩
theorem ilt_nat {a b:Nat}:ilt (a:Int) (b:Int)=decide (a<b):=by
 unfold ilt
 congr 1
 exact propext ⟨fun h=>by omega,fun h=>by omega⟩
theorem dec_true {p:Prop}[Decidable p](h:p):decide p=true:=by simp [h]
theorem range_ind {α:Type}(l:List α)(P:Nat->Prop)(h0:P l.length)(hs: ∀ k,k<l.length->P (k+1)->P k): ∀ k,k<=l.length->P k:=by
 intro k hk
 induction hn:l.length-k generalizing k with
 |zero=>
  have:k=l.length:=by omega
  subst this
  exact h0
 |succ n ih=>exact hs k (by omega) (ih (k+1) (by omega) (by omega))
theorem igt_nat {a b:Nat}:igt (a:Int) (b:Int)=decide (b<a):=by
 unfold igt
 congr 1
 exact propext ⟨fun h=>by omega,fun h=>by omega⟩
def light (l:List Int):Bool:=decide (l.length<=400)
def tc_f13:TC:=(.sq (.reg [(oP 2 (.mv (cB false)))]) (.sq (.reg [(oV 3 0),(oP 4 (.len false (.t 3))),(oP 5 (.bin false .leq (.t 4) (cI 400))),(oV 2 5)]) .rt))
def rv_f13:List (RV×Option Ty):=[((.t 2),some .bool)]
def g_f13:G:=⟨TYs,[],6,EL [],keeps,(fun _ _=>none),IL [],RL []⟩
def r_f13 (p0:(List Int)):Option (V×List VO):=
 some (.t .bool (ile (llen p0) 400),[])
theorem e_f13 (p0:(List Int)):runF g_f13 tc_f13 rv_f13 false [.t (.sl tI) p0] []=r_f13 p0:=by kernel_rfl
theorem ok_f13:Option.map (trC Tryd.prog) Tryd.f13.body=some tc_f13.er:=by kernel_rfl
theorem rok_f13:trVs Tryd.prog Tryd.f13.results.toList=some (rv_f13.map Prod.fst):=by kernel_rfl
theorem en_f13:Entered Tryd.prog 13:= .inr ⟨by decide,_,Tryd.func13,by kernel_rfl,by kernel_rfl⟩
theorem gk_f13:GOk Tryd.prog g_f13:=gok_of _ (fun p hp=>by cases hp)
theorem lk_f13:tc_f13.lok g_f13:=by repeat (first|exact trivial|refine ⟨?_, ?_⟩)
theorem s_f13 (l:List Int):r_f13 l=some (.t .bool (light l),[]):=by
 simp only [r_f13,light]
 congr 3
 unfold ile llen
 congr 1
 exact propext ⟨fun h=>by omega,fun h=>by omega⟩
def sp_f13:Ent:=spec (.pr (.sl tI) .nil) (fun x=>true) (fun x=>(.t .bool (light x.1)))
theorem ms_f13:Meets Tryd.prog 13 (strip sp_f13):=by
 obtain ⟨c,hc,hi⟩:=Option.map_eq_some_iff.1 ok_f13
 exact meets_spec (R:=runF g_f13 tc_f13 rv_f13 false) (meets_of (by decide) Tryd.func13 hc hi Tryd.ntmps13 rok_f13 gk_f13 lk_f13 mixed) fun x _=>(e_f13 x.1).trans (s_f13 x.1)
def dmod (n k:Int):Int:=if k<1 then 0 else n % k
def dmodOk (_n k:Int):Bool:=decide (k.toNat<4611686018427387904)
def tc_f17:TC:=(.sq (.reg [(oP 4 (.mv (cI 0)))]) (.sq (.sq (.reg [(oV 5 1),(oP 6 (.bin false .lss (.t 5) (cI 1)))]) (.cd (.t 6) (.sq (.reg [(oP 4 (.mv (cI 0)))]) .rt) .sk)) (.sq (.reg [(oV 7 0),(oV 8 1),(oP 9 (.bin false .rem (.t 7) (.t 8))),(oV 10 1),(oP 11 (.bin false .add (.t 9) (.t 10))),(oV 12 1),(oP 13 (.bin false .rem (.t 11) (.t 12))),(oV 4 13)]) .rt)))
def rv_f17:List (RV×Option Ty):=[((.t 4),some tI)]
def g_f17:G:=⟨TYs,[],14,EL [],keeps,(fun _ _=>none),IL [],RL []⟩
def r_f17 (p0:Int)(p1:Int):Option (V×List VO):=
 br ((ilt p1 1))
  (some (.t tI 0,[]))
  (br (cNz p1)
   (br (cNz p1)
    (some (.t tI (irem (iadd .i64 (irem p0 p1) p1) p1),[]))
    (none))
   (none))
theorem e_f17 (p0:Int)(p1:Int):runF g_f17 tc_f17 rv_f17 false [.t tI p0,.t tI p1] []=r_f17 p0 p1:=by kernel_rfl
theorem ok_f17:Option.map (trC Tryd.prog) Tryd.f17.body=some tc_f17.er:=by kernel_rfl
theorem rok_f17:trVs Tryd.prog Tryd.f17.results.toList=some (rv_f17.map Prod.fst):=by kernel_rfl
theorem en_f17:Entered Tryd.prog 17:= .inr ⟨by decide,_,Tryd.func17,by kernel_rfl,by kernel_rfl⟩
theorem gk_f17:GOk Tryd.prog g_f17:=gok_of _ (fun p hp=>by cases hp)
theorem lk_f17:tc_f17.lok g_f17:=by repeat (first|exact trivial|refine ⟨?_, ?_⟩)
theorem s_f17 (n k:Int)(h:dmodOk n k=true):r_f17 n k=some (.t tI (dmod n k),[]):=by
 simp only [dmodOk,decide_eq_true_eq] at h
 simp only [r_f17]
 refine br_intro (fun h1=> ?_) (fun h1=> ?_)
 ·have h1:k<1:=by simpa [ilt] using h1
  simp [dmod,h1]
 ·have h1: ¬ k<1:=by simpa [ilt] using h1
  have hk:cNz k=true:=by simp [cNz];omega
  simp only [hk,br_true]
  have h3: -k<n.tmod k:=by
   have:=Int.lt_tmod_of_pos n (show 0<k by omega)
   exact this
  have h4:n.tmod k<k:=Int.tmod_lt_of_pos n (by omega)
  have e1:iadd .i64 (irem n k) k=n.tmod k+k:=iadd_in (by unfold irem;omega)
  rw [e1]
  have e2:irem (n.tmod k+k) k=n % k:=by
   unfold irem
   rw [Int.tmod_eq_emod_of_nonneg (by omega),Int.add_emod_right,Int.tmod_def]
   exact Int.sub_mul_emod_self_left n k _
  rw [e2]
  simp [dmod,h1]
def sp_f17:Ent:=spec (.pr tI (.pr tI .nil)) (fun x=>(dmodOk x.1 x.2.1)) (fun x=>(.t tI (dmod x.1 x.2.1)))
theorem ms_f17:Meets Tryd.prog 17 (strip sp_f17):=by
 obtain ⟨c,hc,hi⟩:=Option.map_eq_some_iff.1 ok_f17
 exact meets_spec (R:=runF g_f17 tc_f17 rv_f17 false) (meets_of (by decide) Tryd.func17 hc hi Tryd.ntmps17 rok_f17 gk_f17 lk_f17 mixed) fun x hok=>(e_f17 x.1 x.2.1).trans (s_f17 x.1 x.2.1 hok)
def roll (l:List Int):Dice:=(l,0,())
def tc_f15:TC:=(.sq (.reg [(oP 2 (.mv (.c (.v (.pointer none)))))]) (.sq (.reg [(oV 3 0),(oP 4 (.bd [(.v (.slice none 0 0)),(.v (.int .i64 0))] [(0,1,(.t 3))])),(oM 5 (.box (.t 4))),(oV 2 5)]) .rt))
def rv_f15:List (RV×Option Ty):=[((.t 2),none)]
def g_f15:G:=⟨TYs,[],6,EL [],keeps,(fun _ _=>none),IL [],RL []⟩
def r_f15 (p0:(List Int)):Option (V×List VO):=
 some (.ptr 50000 0,[.box (.ag [(.t (.sl tI) p0),(.t tI 0)])])
theorem e_f15 (p0:(List Int)):runF g_f15 tc_f15 rv_f15 false [.t (.sl tI) p0] []=r_f15 p0:=by kernel_rfl
theorem ok_f15:Option.map (trC Tryd.prog) Tryd.f15.body=some tc_f15.er:=by kernel_rfl
theorem rok_f15:trVs Tryd.prog Tryd.f15.results.toList=some (rv_f15.map Prod.fst):=by kernel_rfl
theorem en_f15:Entered Tryd.prog 15:= .inr ⟨by decide,_,Tryd.func15,by kernel_rfl,by kernel_rfl⟩
theorem gk_f15:GOk Tryd.prog g_f15:=gok_of _ (fun p hp=>by cases hp)
theorem lk_f15:tc_f15.lok g_f15:=by repeat (first|exact trivial|refine ⟨?_, ?_⟩)
theorem s_f15 (l:List Int): ∃ c,r_f15 l=some (.ptr 50000 0,[.box c])/\c.as tyDice=some (roll l):=⟨_,rfl,rfl⟩
def sp_f15:Ent:=specN tyDice (.pr (.sl tI) .nil) (fun x=>true) (fun x=>(roll x.1))
theorem ms_f15:Meets Tryd.prog 15 (strip sp_f15):=by
 obtain ⟨c,hc,hi⟩:=Option.map_eq_some_iff.1 ok_f15
 exact meets_specN (R:=runF g_f15 tc_f15 rv_f15 false) (meets_of (by decide) Tryd.func15 hc hi Tryd.ntmps15 rok_f15 gk_f15 lk_f15 mixed) rfl fun x _=>(s_f15 x.1).imp fun c h=>⟨(e_f15 x.1).trans h.1,h.2⟩
def dval (d:Dice)(n:Int):Int:=if d.2.1≥d.1.length then 0 else dmod (d.1.getD d.2.1.toNat 0) n
def dnext (d:Dice)(_n:Int):Dice:=if d.2.1≥d.1.length then d else (d.1,d.2.1+1,())
def dOk (d:Dice):Bool:=decide (0<=d.2.1/\d.1.length<=400)
def nextOk (d:Dice)(n:Int):Bool:=dOk d&&decide (n<4611686018427387904)
def dr_f18_0:List DO:=[(.mk (oV 5 0) []),(.mk (oP 6 (.nc (.t 5))) [0]),(.mk (oP 7 (.fa 1 (.t 6))) [1]),(.mk (oL 8 7) [2]),(.mk (oV 9 0) []),(.mk (oP 10 (.nc (.t 9))) [4]),(.mk (oP 11 (.fa 0 (.t 10))) [5]),(.mk (oL 12 11) [6]),(.mk (oP 13 (.len false (.t 12))) [7]),(.mk (oP 14 (.bin false .geq (.t 8) (.t 13))) [3,8])]
def dr_f18_1:List DO:=[(.mk (oV 22 0) []),(.mk (oP 23 (.nc (.t 22))) [0]),(.mk (oP 24 (.fa 0 (.t 23))) [1]),(.mk (oL 25 24) [2]),(.mk (oV 26 0) []),(.mk (oP 27 (.nc (.t 26))) [4]),(.mk (oP 28 (.fa 1 (.t 27))) [5]),(.mk (oL 29 28) [6]),(.mk (oP 30 (.bin false .sub (.t 29) (cI 1))) [7]),(.mk (oP 31 (.ix 1 (.t 25) (.t 30))) [3,8]),(.mk (oL 32 31) [9]),(.mk (oV 33 1) []),(.mk (oC 34 17 [(.t 32),(.t 33)]) [10,11]),(.mk (oV 4 34) [12,12,0,1,2,3,4,5,6,7,8,9,10,11,12])]
def tc_f18:TC:=(.sq (.reg [(oP 4 (.mv (cI 0)))]) (.sq (.sq (.dr dr_f18_0 [(0,[50000]),(1,[50000]),(2,[50000]),(3,[50000]),(4,[50000]),(5,[50000]),(6,[50000]),(7,[50000]),(8,[]),(9,[])] (.of [0,1,2,3,4,5,6,7,8,9])) (.cd (.t 14) (.sq (.reg [(oP 4 (.mv (cI 0)))]) .rt) .sk)) (.sq (.reg [(oV 15 0),(oP 16 (.nc (.t 15))),(oP 17 (.fa 1 (.t 16))),(oL 18 17),(oP 19 (.bin false .add (.t 18) (cI 1))),(oP 20 (.nc (.t 15))),(oP 21 (.fa 1 (.t 20))),(.mk none none (.m (.st 1 (.t 21) (.t 19))))]) (.sq (.dr dr_f18_1 [(0,[50000]),(1,[50000]),(2,[50000]),(3,[50000]),(4,[50000]),(5,[50000]),(6,[50000]),(7,[50000]),(8,[]),(9,[]),(10,[]),(11,[]),(12,[]),(13,[])] (.of [0,1,2,3,4,5,6,7,8,9,10,11,12,13])) .rt))))
def rv_f18:List (RV×Option Ty):=[((.t 4),some tI)]
def g_f18:G:=⟨TYs,[],35,EL [(17,sp_f17)],keeps,(fun _ _=>none),IL [],RL []⟩
def r_f18 (d0:Dice)(p1:Int):Option (V×List VO):=
 br ((ige d0.2.1 (llen d0.1)))
  (some (.t tI 0,[.box (.t tyDice d0)]))
  (br (cIx d0.1 (isub .i64 (iadd .i64 d0.2.1 1) 1))
   (br ((dmodOk (lgt tI d0.1 (Int.toNat (isub .i64 (iadd .i64 d0.2.1 1) 1))) p1))
    (some (.t tI (dmod (lgt tI d0.1 (Int.toNat (isub .i64 (iadd .i64 d0.2.1 1) 1))) p1),[.box (.t tyDice (d0.1,((iadd .i64 d0.2.1 1),d0.2.2)))]))
    (none))
   (none))
theorem e_f18 (d0:Dice)(p1:Int):runF g_f18 tc_f18 rv_f18 false [.ptr 50000 0,.t tI p1] [.box (.t tyDice d0)]=r_f18 d0 p1:=by kernel_rfl
theorem ok_f18:Option.map (trC Tryd.prog) Tryd.f18.body=some tc_f18.er:=by kernel_rfl
theorem rok_f18:trVs Tryd.prog Tryd.f18.results.toList=some (rv_f18.map Prod.fst):=by kernel_rfl
theorem en_f18:Entered Tryd.prog 18:= .inr ⟨by decide,_,Tryd.func18,by kernel_rfl,by kernel_rfl⟩
theorem gk_f18:GOk Tryd.prog g_f18:=gok_of _ (by
 intro p hp
 simp only [List.mem_cons,List.not_mem_nil,or_false] at hp
 rcases hp with rfl
 ·exact ⟨en_f17,ms_f17⟩)
theorem lk_f18:tc_f18.lok g_f18:=by repeat (first|exact trivial|refine ⟨?_, ?_⟩)
theorem s_f18 (d:Dice)(n:Int)(h:nextOk d n=true):r_f18 d n=some (.t tI (dval d n),[.box (.t tyDice (dnext d n))]):=by
 simp only [nextOk,dOk,Bool.and_eq_true,decide_eq_true_eq] at h
 obtain ⟨⟨h1,h2⟩,h3⟩:=h
 obtain ⟨l,at_,_⟩:=d
 simp only at h1 h2
 obtain ⟨k,rfl⟩: ∃ k:Nat,at_=k:=⟨at_.toNat,by omega⟩
 simp only [r_f18]
 refine br_intro (fun h4=> ?_) (fun h4=> ?_)
 ·have h4:l.length<=k:=by simp [ige,llen] at h4;omega
  have h5:(k:Int)≥l.length:=by omega
  simp [dval,dnext,h5]
 ·have h4:k<l.length:=by simp [ige,llen] at h4;omega
  have h5: ¬ (k:Int)≥l.length:=by omega
  have e1:iadd .i64 (k:Int) 1=((k+1:Nat):Int):=add1 (by omega)
  have e2:isub .i64 ((k+1:Nat):Int) 1=(k:Int):=by rw [isub_in (by omega)];omega
  rw [e1,e2,cIx_nat,dec_true h4,br_true]
  have e3:dmodOk (lgt tI l (Int.toNat (k:Int))) n=true:=decide_eq_true (by omega)
  rw [e3,br_true]
  simp only [dval,dnext,h5,if_false]
  rfl
def sp_f18:Ent:=specP tyDice (.pr tI .nil) (fun d x=>(nextOk d x.1)) (fun d x=>(.t tI (dval d x.1))) (fun d x=>(dnext d x.1))
theorem ms_f18:Meets Tryd.prog 18 (strip sp_f18):=by
 obtain ⟨c,hc,hi⟩:=Option.map_eq_some_iff.1 ok_f18
 exact meets_specP (R:=runF g_f18 tc_f18 rv_f18 false) (meets_of (by decide) Tryd.func18 hc hi Tryd.ntmps18 rok_f18 gk_f18 lk_f18 mixed) rfl fun d x hok=>(e_f18 d x.1).trans (s_f18 d x.1 hok)
def done (d:Dice)(n:Int):Bool:=dval d n==n-1
def oneOk (d:Dice)(n:Int):Bool:=nextOk d n&&decide (0<=n)
def tc_f52:TC:=(.sq (.reg [(oP 4 (.mv (cB false)))]) (.sq (.reg [(oV 5 0),(oV 6 1),(oC 7 18 [(.t 5),(.t 6)]),(oV 8 1),(oP 9 (.bin false .sub (.t 8) (cI 1))),(oP 10 (.bin false .eql (.t 7) (.t 9))),(oV 4 10)]) .rt))
def rv_f52:List (RV×Option Ty):=[((.t 4),some .bool)]
def g_f52:G:=⟨TYs,[],11,EL [(18,sp_f18)],keeps,(fun _ _=>none),IL [],RL []⟩
def r_f52 (d0:Dice)(p1:Int):Option (V×List VO):=
 br ((nextOk d0 p1))
  (some (.t .bool (ieq (dval d0 p1) (isub .i64 p1 1)),[.box (.t tyDice (dnext d0 p1))]))
  (none)
theorem e_f52 (d0:Dice)(p1:Int):runF g_f52 tc_f52 rv_f52 false [.ptr 50000 0,.t tI p1] [.box (.t tyDice d0)]=r_f52 d0 p1:=by kernel_rfl
theorem ok_f52:Option.map (trC Tryd.prog) Tryd.f52.body=some tc_f52.er:=by kernel_rfl
theorem rok_f52:trVs Tryd.prog Tryd.f52.results.toList=some (rv_f52.map Prod.fst):=by kernel_rfl
theorem en_f52:Entered Tryd.prog 52:= .inr ⟨by decide,_,Tryd.func52,by kernel_rfl,by kernel_rfl⟩
theorem gk_f52:GOk Tryd.prog g_f52:=gok_of _ (by
 intro p hp
 simp only [List.mem_cons,List.not_mem_nil,or_false] at hp
 rcases hp with rfl
 ·exact ⟨en_f18,ms_f18⟩)
theorem lk_f52:tc_f52.lok g_f52:=by repeat (first|exact trivial|refine ⟨?_, ?_⟩)
theorem s_f52 (d:Dice)(n:Int)(h:oneOk d n=true):r_f52 d n=some (.t .bool (done d n),[.box (.t tyDice (dnext d n))]):=by
 simp only [oneOk,Bool.and_eq_true,decide_eq_true_eq] at h
 simp only [r_f52]
 rw [h.1,br_true]
 have h2:=h.1
 simp only [nextOk,Bool.and_eq_true,decide_eq_true_eq] at h2
 rw [isub_in (by omega)]
 rfl
def sp_f52:Ent:=specP tyDice (.pr tI .nil) (fun d x=>(oneOk d x.1)) (fun d x=>(.t .bool (done d x.1))) (fun d x=>(dnext d x.1))
theorem ms_f52:Meets Tryd.prog 52 (strip sp_f52):=by
 obtain ⟨c,hc,hi⟩:=Option.map_eq_some_iff.1 ok_f52
 exact meets_specP (R:=runF g_f52 tc_f52 rv_f52 false) (meets_of (by decide) Tryd.func52 hc hi Tryd.ntmps52 rok_f52 gk_f52 lk_f52 mixed) rfl fun d x hok=>(e_f52 d x.1).trans (s_f52 d x.1 hok)
theorem dval_lt {d:Dice}{n:Int}(h:0<n):0<=dval d n/\dval d n<n:=by
 unfold dval
 split
 ·omega
 ·unfold dmod
  rw [if_neg (by omega)]
  exact ⟨Int.emod_nonneg _ (by omega),Int.emod_lt_of_pos _ (by omega)⟩
theorem dOk_next {d:Dice}{n:Int}(h:dOk d=true):dOk (dnext d n)=true:=by
 simp only [dOk,decide_eq_true_eq] at h ⊢
 unfold dnext
 split
 ·exact h
 ·exact ⟨by simp only;omega,h.2⟩
theorem dOk_roll {l:List Int}(h:light l=true):dOk (roll l)=true:=by
 simp only [light,decide_eq_true_eq] at h
 simp [dOk,roll,h]
end Go.Proofs.YtkkoedniahnneaaDoor.K
namespace Go.Proofs.YtkkoedniahnneaaDoor.K
open Go.RowKit
noncomputable section
theorem add1G {k:Nat}(h:k<9223372036854775807):iadd .i64 (k:Int) 1=((k+1:Nat):Int):=by rw [iadd_in (by omega)];omega
theorem bytesG_len (s:ByteArray):(bytesL s).length=s.size:=by simp [bytesL]
-- loop 0: (x0 : (List ByteArray)) (x1 : ByteArray) (x7 : Int) (x8 : Int); out: ('ret',) (x4 : Int); ('exit', 0)
def nameG (s:ByteArray):Bool:=decide (s.size<=9223372036854775807)
theorem sgt_get {s:ByteArray}{k:Nat}(h:k<s.size):sgt s (k:Int)=(bytesL s)[k]'(by rw [bytesG_len];exact h):=by
 have hl:k<s.data.toList.length:=by simpa using h
 simp only [sgt,bytesL,Int.toNat_natCast,List.getElem_map,List.getD_eq_getElem?_getD,List.getElem?_eq_getElem hl,Option.getD_some]
def dwdG (d:Dice)(l:List ByteArray):ByteArray:=l.getD (dval d l.length).toNat ByteArray.empty
def dwdGN (d:Dice)(l:List ByteArray):Dice:=dnext d l.length
def wdGOk (d:Dice)(l:List ByteArray):Bool:=dOk d&&decide (0<l.length/\l.length<4611686018427387904)
def tc_f32:TC:=(.sq (.reg [(oP 4 (.mv (.c (.v (.string (ByteArray.mk #[]))))))]) (.sq (.reg [(oV 5 1),(oV 6 0),(oV 7 1),(oP 8 (.len false (.t 7))),(oC 9 18 [(.t 6),(.t 8)]),(oP 10 (.ix 1 (.t 5) (.t 9))),(oL 11 10),(oV 4 11)]) .rt))
def rv_f32:List (RV×Option Ty):=[((.t 4),some .str)]
def g_f32:G:=⟨TYs,[],12,EL [(18,sp_f18)],keeps,(fun _ _=>none),IL [],RL []⟩
def r_f32 (d0:Dice)(p1:(List ByteArray)):Option (V×List VO):=
 br ((nextOk d0 (llen p1)))
  (br (cIx p1 (dval d0 (llen p1)))
   (some (.t .str (lgt .str p1 (Int.toNat (dval d0 (llen p1)))),[.box (.t tyDice (dnext d0 (llen p1)))]))
   (none))
  (none)
theorem e_f32 (d0:Dice)(p1:(List ByteArray)):runF g_f32 tc_f32 rv_f32 false [.ptr 50000 0,.t (.sl .str) p1] [.box (.t tyDice d0)]=r_f32 d0 p1:=by kernel_rfl
theorem ok_f32:Option.map (trC Tryd.prog) Tryd.f32.body=some tc_f32.er:=by kernel_rfl
theorem rok_f32:trVs Tryd.prog Tryd.f32.results.toList=some (rv_f32.map Prod.fst):=by kernel_rfl
theorem en_f32:Entered Tryd.prog 32:= .inr ⟨by decide,_,Tryd.func32,by kernel_rfl,by kernel_rfl⟩
theorem gk_f32:GOk Tryd.prog g_f32:=gok_of _ (by
 intro p hp
 simp only [List.mem_cons,List.not_mem_nil,or_false] at hp
 rcases hp with rfl
 ·exact ⟨en_f18,ms_f18⟩)
theorem lk_f32:tc_f32.lok g_f32:=by repeat (first|exact trivial|refine ⟨?_, ?_⟩)
theorem s_f32 (d:Dice)(l:List ByteArray)(h:wdGOk d l=true):r_f32 d l=some (.t .str (dwdG d l),[.box (.t tyDice (dwdGN d l))]):=by
 simp only [wdGOk,Bool.and_eq_true,decide_eq_true_eq] at h
 obtain ⟨h1,h2,h3⟩:=h
 simp only [r_f32]
 have e1:nextOk d (llen l)=true:=by simp only [nextOk,h1,llen,Bool.true_and,decide_eq_true_eq];omega
 rw [e1,br_true]
 have h4:=dval_lt (d:=d) (n:=llen l) (by unfold llen;omega)
 have e2:cIx l (dval d (llen l))=true:=by simp only [cIx,decide_eq_true_eq];exact h4
 rw [e2,br_true]
 rfl
def sp_f32:Ent:=specP tyDice (.pr (.sl .str) .nil) (fun d x=>(wdGOk d x.1)) (fun d x=>(.t .str (dwdG d x.1))) (fun d x=>(dwdGN d x.1))
theorem ms_f32:Meets Tryd.prog 32 (strip sp_f32):=by
 obtain ⟨c,hc,hi⟩:=Option.map_eq_some_iff.1 ok_f32
 exact meets_specP (R:=runF g_f32 tc_f32 rv_f32 false) (meets_of (by decide) Tryd.func32 hc hi Tryd.ntmps32 rok_f32 gk_f32 lk_f32 mixed) rfl fun d x hok=>(e_f32 d x.1).trans (s_f32 d x.1 hok)
end
end Go.Proofs.YtkkoedniahnneaaDoor.K
namespace Go.Proofs.YtkkoedniahnneaaDoor.K
open Go.RowKit
noncomputable section
theorem brY {β:Type}{c:Bool}{a b r:Option β}(h:c=true)(k:a=r):br c a b=r:=by
 subst h
 exact k
theorem cAppN {α:Type}{l l2:List α}{c:Nat}(hc:c<=1000)(h:l.length+l2.length<=100000000000):cApp l l2 c=true:=by
 simp only [cApp,decide_eq_true_eq]
 have:(l.length+l2.length)*(c+1)<=100000000000*1001:=Nat.mul_le_mul h (by omega)
 omega
abbrev bl (s:ByteArray):List UInt8:=s.data.toList
abbrev mkB (l:List UInt8):ByteArray:=⟨l.toArray⟩
theorem mk_bl (s:ByteArray):mkB (bl s)=s:=by cases s;simp
theorem bl_len (s:ByteArray):(bl s).length=s.size:=by simp
theorem bl_app (a b:ByteArray):bl (a++b)=bl a++bl b:=by simp [ByteArray.data_append]
theorem bl_ext {a b:ByteArray}(h:bl a=bl b):a=b:=by rw [←mk_bl a, ← mk_bl b,h]
theorem sgt_bl {s:ByteArray}{k:Nat}(h:k<(bl s).length):sgt s (k:Int)=(((bl s)[k].toNat:Nat):Int):=by
 simp only [sgt,Int.toNat_natCast,List.getD_eq_getElem?_getD,List.getElem?_eq_getElem h,Option.getD_some]
theorem cSx_bl {s:ByteArray}{k:Nat}(h:k<(bl s).length):cSx s (k:Int)=true:=decide_eq_true (by rw [bl_len] at h;omega)
theorem seq_iff' {a b:ByteArray}:seq a b=true↔a=b:=by
 unfold seq
 rw [beq_iff_eq]
 constructor
 ·intro h
  rw [Go.Lib.toList_data,Go.Lib.toList_data] at h
  exact bl_ext h
 ·intro h
  rw [h]
theorem seq_dec (a b:ByteArray):seq a b=decide (a=b):=by
 rw [Bool.eq_iff_iff,seq_iff',decide_eq_true_eq]
def isCl (c:UInt8):Bool:=c==9||(decide (32<=c.toNat)&&decide (c.toNat<=126))
def clB (s:ByteArray):Bool:=(bl s).all isCl
def alnum (c:Int):Bool:=decide (97<=c/\c<=122)||(decide (65<=c/\c<=90)||decide (48<=c/\c<=57))
theorem bytesL_bl (s:ByteArray):bytesL s=(bl s).map fun b=>((b.toNat:Nat):Int):=rfl
end
end Go.Proofs.YtkkoedniahnneaaDoor.K
namespace Go.Proofs
open Go.Shelf
def Tryd.lays137_ren:Go.Shelf.Ren:=⟨fun|137=>143|217=>154|266=>168|n=>n,fun|9=>9|5=>5|3=>3|n=>n,fun|n=>n⟩
theorem Tryd.lays137:Go.Proofs.Lays.n137 Tryd.prog Tryd.lays137_ren:={
 mixed:=by kernel_rfl
 f137:=Tryd.func143.trans (congrArg some (by kernel_rfl))
 f217:=Tryd.func154.trans (congrArg some (by kernel_rfl))
 f266:=Tryd.func168.trans (congrArg some (by kernel_rfl))
 t3:=Tryd.underlying3
 a3:=Tryd.isAgg3
 z3:=Tryd.sizeOf3
 v3:=Tryd.zeroValue3
 t5:=Tryd.underlying5
 a5:=Tryd.isAgg5
 z5:=Tryd.sizeOf5
 v5:=Tryd.zeroValue5
 t9:=Tryd.underlying9
 a9:=Tryd.isAgg9
 z9:=Tryd.sizeOf9
 v9:=Tryd.zeroValue9}
def Tryd.lays138_ren:Go.Shelf.Ren:=⟨fun|138=>56|195=>98|218=>99|143=>100|219=>128|217=>154|225=>155|224=>156|267=>157|266=>168|314=>169|n=>n,fun|9=>9|3=>3|4=>4|5=>5|0=>0|46=>148|146=>169|51=>168|n=>n,fun|1=>0|n=>n⟩
theorem Tryd.lays138:Go.Proofs.Lays.n138 Tryd.prog Tryd.lays138_ren:={
 mixed:=by kernel_rfl
 f138:=Tryd.func56.trans (congrArg some (by kernel_rfl))
 f143:=Tryd.func100.trans (congrArg some (by kernel_rfl))
 f195:=Tryd.func98.trans (congrArg some (by kernel_rfl))
 f217:=Tryd.func154.trans (congrArg some (by kernel_rfl))
 f218:=Tryd.func99.trans (congrArg some (by kernel_rfl))
 f219:=Tryd.func128.trans (congrArg some (by kernel_rfl))
 f224:=Tryd.func156.trans (congrArg some (by kernel_rfl))
 f225:=Tryd.func155.trans (congrArg some (by kernel_rfl))
 f266:=Tryd.func168.trans (congrArg some (by kernel_rfl))
 f267:=Tryd.func157.trans (congrArg some (by kernel_rfl))
 f314:=Tryd.func169.trans (congrArg some (by kernel_rfl))
 t0:=Tryd.underlying0
 a0:=Tryd.isAgg0
 z0:=Tryd.sizeOf0
 v0:=Tryd.zeroValue0
 t3:=Tryd.underlying3
 a3:=Tryd.isAgg3
 z3:=Tryd.sizeOf3
 v3:=Tryd.zeroValue3
 t4:=Tryd.underlying4
 a4:=Tryd.isAgg4
 z4:=Tryd.sizeOf4
 v4:=Tryd.zeroValue4
 t5:=Tryd.underlying5
 a5:=Tryd.isAgg5
 z5:=Tryd.sizeOf5
 v5:=Tryd.zeroValue5
 t9:=Tryd.underlying9
 a9:=Tryd.isAgg9
 z9:=Tryd.sizeOf9
 v9:=Tryd.zeroValue9
 t46:=Tryd.underlying148
 a46:=Tryd.isAgg148
 z46:=Tryd.sizeOf148
 v46:=Tryd.zeroValue148
 t51:=Tryd.underlying168
 a51:=Tryd.isAgg168
 z51:=Tryd.sizeOf168
 v51:=Tryd.zeroValue168
 t146:=Tryd.underlying169
 a146:=Tryd.isAgg169
 z146:=Tryd.sizeOf169
 v146:=Tryd.zeroValue169
 g1:=by kernel_rfl}
end Go.Proofs
namespace Go.Proofs.YtkkoedniahnneaaDoor.K
open Go.RowKit Go.Shelf
noncomputable section
def ixbF (s:ByteArray)(c:Int):Int:=Lib.indexByte s.data.toList c.toNat.toUInt8
def sp_f143:Ent:=spec (.pr .str (.pr (.int .u8) .nil)) (fun x=>true) (fun x=>(.t tI (ixbF x.1 x.2.1)))
theorem en_f143:Entered Tryd.prog 143:= .inr ⟨by decide,_,Tryd.func143,by kernel_rfl,by kernel_rfl⟩
theorem ms_f143:Meets Tryd.prog 143 (strip sp_f143):=meets_calls fun x _ X w σ vs hfin hc=>by
 obtain ⟨s,c,u⟩:=x
 simp only [Ty.canon,V.ds,V.d,Ty.d,Cs,C] at hc
 obtain ⟨v1,r1,rfl,⟨rfl,_⟩,v2,r2,rfl,⟨rfl,_⟩,rfl⟩:=hc
 refine (Any.strings_IndexByte Tryd.lays137 s c w).mono ?_
 rintro e w' ⟨rfl,rfl⟩
 refine ⟨_,rfl, ?_,Below.refl _ _⟩
 simp only [V.d,Ty.d,C]
 exact ⟨rfl,rfl⟩
theorem one_byte {d:Array UInt8}(hok:d.size=1): ∃ c,d= #[c]:=by
 match d,hok with
 |⟨[c]⟩,_=>exact ⟨c,rfl⟩
end
end Go.Proofs.YtkkoedniahnneaaDoor.K
namespace Go.Proofs.YtkkoedniahnneaaDoor.K
open Go.RowKit
noncomputable section
def letF (c:Int)(o:ByteArray):Bool:=alnum c||ige (ixbF o c) 0
def tc_f129:TC:=(.sq (.reg [(oP 4 (.mv (cB false)))]) (.sq (.reg [(oV 5 0),(oP 6 (.bin false .geq (.t 5) (.c (.v (.int .u8 97))))),(oV 7 6),(oQ 8 7 true (.mv (.t 0))),(oQ 9 7 true (.bin false .leq (.t 8) (.c (.v (.int .u8 122))))),(oP 10 (.pick (.t 7) (.t 9) (cB false))),(oV 11 10),(oQ 12 11 false (.mv (.t 0))),(oQ 13 11 false (.bin false .geq (.t 12) (.c (.v (.int .u8 65))))),(oQ 14 11 false (.mv (.t 13))),(oQ 15 14 true (.mv (.t 0))),(oQ 16 14 true (.bin false .leq (.t 15) (.c (.v (.int .u8 90))))),(oQ 17 11 false (.pick (.t 14) (.t 16) (cB false))),(oP 18 (.pick (.t 11) (cB true) (.t 17))),(oV 19 18),(oQ 20 19 false (.mv (.t 0))),(oQ 21 19 false (.bin false .geq (.t 20) (.c (.v (.int .u8 48))))),(oQ 22 19 false (.mv (.t 21))),(oQ 23 22 true (.mv (.t 0))),(oQ 24 22 true (.bin false .leq (.t 23) (.c (.v (.int .u8 57))))),(oQ 25 19 false (.pick (.t 22) (.t 24) (cB false))),(oP 26 (.pick (.t 19) (cB true) (.t 25))),(oV 27 26),(oQ 28 27 false (.mv (.t 1))),(oQ 29 27 false (.mv (.t 0))),(oG 30 27 false (.call 143 [(.t 28),(.t 29)])),(oQ 31 27 false (.bin false .geq (.t 30) (cI 0))),(oP 32 (.pick (.t 27) (cB true) (.t 31))),(oV 4 32)]) .rt))
def rv_f129:List (RV×Option Ty):=[((.t 4),some .bool)]
def g_f129:G:=⟨TYs,[],33,EL [(143,sp_f143)],keeps,(fun _ _=>none),IL [],RL []⟩
def r_f129_2 (p0:Int)(p1:ByteArray):Option (V×List VO):=
 br ((ige p0 48))
  (br ((ile p0 57))
   (some (.t .bool true,[]))
   (some (.t .bool (ige (ixbF p1 p0) 0),[])))
  (some (.t .bool (ige (ixbF p1 p0) 0),[]))
def r_f129_1 (p0:Int)(p1:ByteArray):Option (V×List VO):=
 br ((ige p0 65))
  (br ((ile p0 90))
   (some (.t .bool true,[]))
   (r_f129_2 p0 p1))
  (r_f129_2 p0 p1)
def r_f129 (p0:Int)(p1:ByteArray):Option (V×List VO):=
 br ((ige p0 97))
  (br ((ile p0 122))
   (some (.t .bool true,[]))
   (r_f129_1 p0 p1))
  (r_f129_1 p0 p1)
theorem e_f129 (p0:Int)(p1:ByteArray):runF g_f129 tc_f129 rv_f129 false [.t (.int .u8) p0,.t .str p1] []=r_f129 p0 p1:=by kernel_rfl
theorem ok_f129:Option.map (trC Tryd.prog) Tryd.f129.body=some tc_f129.er:=by kernel_rfl
theorem rok_f129:trVs Tryd.prog Tryd.f129.results.toList=some (rv_f129.map Prod.fst):=by kernel_rfl
theorem en_f129:Entered Tryd.prog 129:= .inr ⟨by decide,_,Tryd.func129,by kernel_rfl,by kernel_rfl⟩
theorem gk_f129:GOk Tryd.prog g_f129:=gok_of _ (by
 intro p hp
 simp only [List.mem_cons,List.not_mem_nil,or_false] at hp
 rcases hp with rfl
 ·exact ⟨en_f143,ms_f143⟩)
theorem lk_f129:tc_f129.lok g_f129:=by repeat (first|exact trivial|refine ⟨?_, ?_⟩)
theorem s_f129 (c:Int)(o:ByteArray):r_f129 c o=some (.t .bool (letF c o),[]):=by
 simp only [r_f129,r_f129_1,r_f129_2,letF,alnum]
 have e1:decide (97<=c/\c<=122)=(ige c 97&&ile c 122):=by simp only [Bool.decide_and]
 have e2:decide (65<=c/\c<=90)=(ige c 65&&ile c 90):=by simp only [Bool.decide_and]
 have e3:decide (48<=c/\c<=57)=(ige c 48&&ile c 57):=by simp only [Bool.decide_and]
 rw [e1,e2,e3]
 cases ige c 97<;>cases ile c 122<;>cases ige c 65<;>cases ile c 90<;>cases ige c 48<;>cases ile c 57<;>rfl
def sp_f129:Ent:=spec (.pr (.int .u8) (.pr .str .nil)) (fun x=>true) (fun x=>(.t .bool (letF x.1 x.2.1)))
theorem ms_f129:Meets Tryd.prog 129 (strip sp_f129):=by
 obtain ⟨c,hc,hi⟩:=Option.map_eq_some_iff.1 ok_f129
 exact meets_spec (R:=runF g_f129 tc_f129 rv_f129 false) (meets_of (by decide) Tryd.func129 hc hi Tryd.ntmps129 rok_f129 gk_f129 lk_f129 mixed) fun x _=>(e_f129 x.1 x.2.1).trans (s_f129 x.1 x.2.1)
theorem byte_rng (s:ByteArray){k:Nat}(h:k<(bytesL s).length):0<=(bytesL s)[k]/\(bytesL s)[k]<256:=by
 simp only [bytesL,List.getElem_map]
 have:=(s.data.toList[k]'(by simpa [bytesL] using h)).toNat_lt
 omega
-- loop 0: (x0 : ByteArray) (x6 : (List Int)) (x7 : Int) (x8 : Int); out: ('ret',) (x2 : Bool); ('exit', 0) (x0 : ByteArray)
-- loop 0: (x0 : ByteArray) (x3 : Int); out: ('ret',) (x2 : Bool); ('exit', 0)
def isClI (c:Int):Bool:=ieq c 9||(!ilt c 32&& !igt c 126)
def clZ (s:ByteArray):Bool:=(bytesL s).all isClI
theorem clZ_eq (s:ByteArray):clZ s=clB s:=by
 unfold clZ clB bytesL
 rw [List.all_map]
 congr 1
 funext c
 have:=c.toNat_lt
 simp only [Function.comp,isClI,isCl,ieq,ilt,igt]
 have e:(((c.toNat:Nat):Int)==9)=(c==9):=by
  rw [Bool.eq_iff_iff,beq_iff_eq,beq_iff_eq, ← UInt8.toNat_inj]
  show _↔c.toNat=9
  omega
 rw [e]
 congr 1
 rw [Bool.eq_iff_iff]
 simp
 omega
-- loop 0: (x6 : (List Int)) (x7 : Int) (x8 : Int); out: ('ret',) (x2 : Bool); ('exit', 0)
-- loop 0: (x0 : ByteArray) (x3 : Int); out: ('ret',) (x2 : Bool); ('exit', 0)
-- loop 0: (x0 : ByteArray); out: ('exit', 0) (x0 : ByteArray)
-- loop 1: (x0 : ByteArray); out: ('exit', 2) (x0 : ByteArray)
end
end Go.Proofs.YtkkoedniahnneaaDoor.K
namespace Go.Proofs.YtkkoedniahnneaaDoor.K
open Go.RowKit
noncomputable section
def endN (s:ByteArray):Int:=(((bl s).count 10:Nat):Int)
def endZ (s:ByteArray)(n i:Int):Int:=n+((((bl s).drop i.toNat).count 10:Nat):Int)
def endL (s:ByteArray)(n i:Int):Bool:=nameG s&&decide (0<=i/\i<=s.size/\0<=n/\n<=i)
theorem nl_dec {s:ByteArray}{k:Nat}(h:k<(bl s).length):ieq (sgt s (k:Int)) 10=((bl s)[k]==10):=by
 rw [sgt_bl h]
 have:=((bl s)[k]).toNat_lt
 generalize (bl s)[k]=c at this
 rw [Bool.eq_iff_iff,beq_iff_eq,beq_iff_eq, ← UInt8.toNat_inj]
 show _↔c.toNat=10
 omega
def fg_f58_0:Fg:=⟨[(0,some .str),(3,some tI),(4,some tI)],[]⟩
def tb_f58_0:TC:=(.sq (.sq (.reg [(oV 5 4),(oV 6 0),(oP 7 (.len true (.t 6))),(oP 8 (.bin false .lss (.t 5) (.t 7)))]) (.cd (.t 8) .sk (.fg ⟨[(3,some tI)],[]⟩ (.ex 0)))) (.sq (.bk 1 (.sq (.reg [(oV 11 0),(oV 12 4),(oP 13 (.sx (.t 11) (.t 12))),(oP 14 (.bin false .eql (.t 13) (.c (.v (.int .u8 10)))))]) (.cd (.t 14) (.reg [(oV 15 3),(oP 16 (.bin false .add (.t 15) (cI 1))),(oV 3 16)]) .sk))) (.reg [(oV 9 4),(oP 10 (.bin false .add (.t 9) (cI 1))),(oV 4 10)])))
def tc_f58:TC:=(.sq (.reg [(oP 2 (.mv (cI 0)))]) (.sq (.reg [(oP 3 (.mv (cI 0)))]) (.sq (.sq (.reg [(oP 4 (.mv (cI 0)))]) (.bk 0 (.lp 0 fg_f58_0 tb_f58_0))) (.sq (.reg [(oV 17 3),(oV 2 17)]) .rt))))
def rv_f58:List (RV×Option Ty):=[((.t 2),some tI)]
abbrev sh_f58_0:Sh:=⟨[(0,.ty .str),(3,.ty tI),(4,.ty tI)],[]⟩
def st_f58_0 (x0:ByteArray)(x3:Int)(x4:Int):VS:=sh_f58_0.st (x0,x3,x4,()) ()
abbrev sh_f58_0_e0:Sh:=⟨[(3,.ty tI)],[]⟩
def st_f58_0_e0 (x3:Int):VS:=sh_f58_0_e0.st (x3,()) ()
-- loop 0: (x0 : ByteArray) (x3 : Int) (x4 : Int); out: ('exit', 0) (x3 : Int)
def L_f58_0:VS->Option (Bool×List (Bool×Exit×VS)):=mkL sh_f58_0 (fun x y=>(endL x.1 x.2.1 x.2.2.1)) (fun x y=>[(true,.exit 0,st_f58_0_e0 (endZ x.1 x.2.1 x.2.2.1))])
def g_f58:G:=⟨TYs,[],18,EL [],keeps,(Ls [L_f58_0]),IL [],RL []⟩
def b_f58_0 (x0:ByteArray)(x3:Int)(x4:Int):Option (Exit×VS):=
 br ((ilt x4 (slen x0)))
  (br (cSx x0 x4)
   (br ((ieq (sgt x0 x4) 10))
    (some (.normal,st_f58_0 x0 (iadd .i64 x3 1) (iadd .i64 x4 1)))
    (some (.normal,st_f58_0 x0 x3 (iadd .i64 x4 1))))
   (none))
  (some (.exit 0,st_f58_0_e0 x3))
noncomputable def lp_f58_0 (x0:ByteArray)(x3:Int)(x4:Int):Option (Exit×VS):=loopF (roundF g_f58 fg_f58_0 tb_f58_0) (st_f58_0 x0 x3 x4)
noncomputable def n_f58_0 (x0:ByteArray)(x3:Int)(x4:Int):Option (Exit×VS):=
 br ((ilt x4 (slen x0)))
  (br (cSx x0 x4)
   (br ((ieq (sgt x0 x4) 10))
    (lp_f58_0 x0 (iadd .i64 x3 1) (iadd .i64 x4 1))
    (lp_f58_0 x0 x3 (iadd .i64 x4 1)))
   (none))
  (some (.exit 0,st_f58_0_e0 x3))
def la_f58_0 (x0:ByteArray)(x3:Int)(x4:Int):Option (Exit×VS):=some (.exit 0,st_f58_0_e0 (endZ x0 x3 x4))
theorem be_f58_0 (x0:ByteArray)(x3:Int)(x4:Int):roundF g_f58 fg_f58_0 tb_f58_0 (st_f58_0 x0 x3 x4)=b_f58_0 x0 x3 x4:=by kernel_rfl
theorem ln_f58_0 (x0:ByteArray)(x3:Int)(x4:Int):lp_f58_0 x0 x3 x4=n_f58_0 x0 x3 x4:=(loopF_nxt _ _).trans (by
 rw [be_f58_0]
 simp only [b_f58_0,n_f58_0,nxt_br,nxt_n,nxt_r,nxt_e,nxt_0]
 rfl)
def r_f58 (p0:ByteArray):Option (V×List VO):=
 br ((endL p0 (0:Int) (0:Int)))
  (some (.t tI (endZ p0 (0:Int) (0:Int)),[]))
  (none)
theorem e_f58 (p0:ByteArray):runF g_f58 tc_f58 rv_f58 false [.t .str p0] []=r_f58 p0:=by kernel_rfl
theorem ok_f58:Option.map (trC Tryd.prog) Tryd.f58.body=some tc_f58.er:=by kernel_rfl
theorem rok_f58:trVs Tryd.prog Tryd.f58.results.toList=some (rv_f58.map Prod.fst):=by kernel_rfl
theorem en_f58:Entered Tryd.prog 58:= .inr ⟨by decide,_,Tryd.func58,by kernel_rfl,by kernel_rfl⟩
theorem gk_f58:GOk Tryd.prog g_f58:=gok_of _ (fun p hp=>by cases hp)
theorem l_f58_0 (x0:ByteArray)(x3:Int)(x4:Int)(h:(endL x0 x3 x4)=true):lp_f58_0 x0 x3 x4=la_f58_0 x0 x3 x4:=by
 simp only [endL,nameG,Bool.and_eq_true,decide_eq_true_eq] at h
 obtain ⟨h0,h1,h2,h3,h4⟩:=h
 obtain ⟨k,rfl⟩:=Int.eq_ofNat_of_zero_le h1
 have hl:=bl_len x0
 revert x3
 refine range_ind (bl x0) (fun k=> ∀ x3:Int,0<=x3->x3<=(k:Int)->lp_f58_0 x0 x3 (k:Int)=la_f58_0 x0 x3 (k:Int)) ?_ ?_ k (by omega)
 ·intro x3 _ _
  rw [ln_f58_0]
  have e:ilt ((bl x0).length:Int) (slen x0)=false:=decide_eq_false (by simp only [slen];omega)
  simp only [n_f58_0,la_f58_0,e,br_false,endZ,Int.toNat_natCast,List.drop_length,List.count_nil,Int.natCast_zero,Int.add_zero]
 ·intro k hk ih x3 g1 g2
  have e:ilt (k:Int) (slen x0)=true:=decide_eq_true (by simp only [slen];omega)
  have e3:iadd .i64 x3 1=x3+1:=iadd_in (by omega)
  rw [ln_f58_0]
  simp only [n_f58_0,e,cSx_bl hk,nl_dec hk,br_true,add1G (show k<9223372036854775807 by omega),e3]
  rw [ih (x3+1) (by omega) (by omega),ih x3 (by omega) (by omega)]
  simp only [la_f58_0,endZ,Int.toNat_natCast,List.drop_eq_getElem_cons hk,List.count_cons]
  cases hc:(bl x0)[k]==10 with
  |true=>
   simp only [br_true,if_true]
   congr 3
   omega
  |false=>simp only [br_false,Bool.false_eq_true,if_false,Nat.add_zero]
theorem lo_f58_0: ∀ S l p,g_f58.L 0 (fgt fg_f58_0 S)=some (true,l)->pickA l=some p->loopF (roundF g_f58 fg_f58_0 tb_f58_0) S=some p:=
 lok_of (s:=sh_f58_0) ⟨by decide,by decide⟩ (by kernel_rfl) fun x y hok p hp=>by
 simp only [pickA_br,pickA_one] at hp
 exact (l_f58_0 x.1 x.2.1 x.2.2.1 (by simpa using hok)).trans hp
theorem lk_f58:tc_f58.lok g_f58:=by
 repeat (first|exact trivial|exact lo_f58_0|refine ⟨?_, ?_⟩)
theorem s_f58 (s:ByteArray)(h:nameG s=true):r_f58 s=some (.t tI (endN s),[]):=by
 refine brY ?_ ?_
 ·rw [endL,h,Bool.true_and]
  exact decide_eq_true (by omega)
 ·unfold endZ endN
  rw [Int.toNat_zero,List.drop_zero,Int.zero_add]
def sp_f58:Ent:=spec (.pr .str .nil) (fun x=>(nameG x.1)) (fun x=>(.t tI (endN x.1)))
theorem ms_f58:Meets Tryd.prog 58 (strip sp_f58):=by
 obtain ⟨c,hc,hi⟩:=Option.map_eq_some_iff.1 ok_f58
 exact meets_spec (R:=runF g_f58 tc_f58 rv_f58 false) (meets_of (by decide) Tryd.func58 hc hi Tryd.ntmps58 rok_f58 gk_f58 lk_f58 mixed) fun x hok=>(e_f58 x.1).trans (s_f58 x.1 hok)
-- loop 0: (x0 : ByteArray) (x4 : Int) (x5 : Int) (y3 : (List ByteArray)); out: ('exit', 0) (x0 : ByteArray) (x4 : Int) (y3 : (List ByteArray))
end
end Go.Proofs.YtkkoedniahnneaaDoor.K
namespace Go.Proofs.YtkkoedniahnneaaDoor.K
open Go.RowKit
noncomputable section
-- loop 0: (x0 : (List ByteArray)) (x1 : Int) (x7 : ByteArray) (x8 : Int); out: ('ret',) (x4 : ByteArray) (x5 : Int) (x6 : Bool); ('exit', 0) (x7 : ByteArray) (x8 : Int)
end
end Go.Proofs.YtkkoedniahnneaaDoor.K
namespace Go.Proofs.YtkkoedniahnneaaDoor.K
open Go.RowKit
noncomputable section
-- loop 0: (x5 : (List ByteArray)) (x7 : ByteArray) (x8 : Int) (x9 : ByteArray) (x12 : Int) (x13 : Int) (y6 : (List Setting)); out: ('exit', 2) (x5 : (List ByteArray)) (x7 : ByteArray) (x8 : Int) (x9 : ByteArray) (x12 : Int) (x13 : Int) (y6 : (List Setting))
-- loop 1: (x5 : (List ByteArray)) (x7 : ByteArray) (x8 : Int) (y6 : (List Setting)); out: ('ret',) (x3 : Int) (x4 : Int) (y6 : (List Setting)); ('exit', 0) (y6 : (List Setting))
end
end Go.Proofs.YtkkoedniahnneaaDoor.K
namespace Go.Proofs.YtkkoedniahnneaaDoor.K
open Go.RowKit
theorem lent_nil {X:Nat->Nat->Prop}{w:World}{σ:Pl}:Lent X w σ []:=⟨fun j o hj=>by simp at hj,fun i j b _ hi=>by simp at hi⟩
theorem ends_below {X X':Nat->Nat->Prop}{w w':World}{σ σ':Pl}{os:List VO}(h:Ends X w σ 0 X' w' σ' os):Below w.heap.size w w':=
 ⟨h.fr.os,h.fr.tape,h.fr.output,h.fr.size,fun b hb=>h.fr.keep b hb (by simp [lentB])⟩
theorem sc_calls {f:FuncId}{E:Ent}{vs:List V}{r:V}{us:List Value}(hm:Meets Tryd.prog f (strip E))(hF:strip E vs []=some (r,[]))(w:World)(hc: ∀ X:Nat->Nat->Prop,Cs X w nowhere (V.ds vs) us)(hlt:f<1000000:=by decide):
  Calls Tryd.prog f us.toArray w fun en w'=> ∃ u X' σ',en= .returned u/\C X' w' σ' r.d u/\Below w.heap.size w w':=by
 refine (of_does hlt (hm _ _ _ _ hF (fun _ _=>False) w nowhere us (fun _ _ h=>h.elim) lent_nil (hc _))).mono ?_
 rintro en w' ⟨u,X',σ',rfl,h1,h2⟩
 exact ⟨u,X',σ',rfl,h1,ends_below h2⟩
end Go.Proofs.YtkkoedniahnneaaDoor.K
namespace Go.Proofs.YtkkoedniahnneaaDoor.K
open Go.RowKit
attribute [local go_sem ↓] Go.wp_at_zero Go.wp_at_succ
section
variable {u u':World}{b:Nat}{L o:Value}{j:Int}{sec:ByteArray}
end
theorem grown_set {w w':World}{b:Nat}(h:w.grownBy w' (some b))(i:Nat)(u:Value):w.grownBy (w'.setCell ⟨b,i,none⟩ u) (some b):=
 ⟨h.os,h.tape,h.output,by simpa [World.setCell] using h.size,fun j hj hne=>(Below.heap_setCell _ _ _ _ (fun e=>hne (by rw [e]))).trans (h.block j hj hne)⟩
section
variable {P:Program}{ops:Array Oper}{Q:Exit->Act->World->Prop}{md:Region.Mode}{S:World->Prop}
theorem anyH_val (i d:Nat)(v:Value){fuel:Nat}{listed:Array Bool}{a:Act}{w:World}(hS:S w)(hi:ops[i]?.map (·.dst)=some (some d))(hs:Region.noSelect ops=true)(hf:Region.free md ops listed i=true)
  (hr:(Region.ready md ops listed).contains i=true) (hv: ∀ o,ops[i]? = some o->Region.wanted o (yielded ops a.tmps)=true∧ ∀ w,S w->(execOp a.eval o).run P w= .ok (.value v) w)
  (hQ: ∀ c k v (a:Act) w,Q (.panic c) (a.put (some k) v) w->Q (.panic c) a w) (h:wpAnyH P md ops Q S fuel (listed.setIfInBounds i true) ⟨a.tmps.setIfInBounds d v,a.defers⟩ w):
  wpAnyH P md ops Q S (fuel+1) listed a w:=by
 cases ho:ops[i]? with
 |none=>rw [ho] at hi;cases hi
 |some o=>
  have hv:=hv o ho
  rw [ho] at hi
  simp only [Option.map_some,Option.some.injEq] at hi
  refine wpAnyH_take ho hs hf hr (fun c a w=>by rw [hi];exact hQ c d v a w) (.inl hv) hS ?_
  rw [hi]
  exact h
end
end Go.Proofs.YtkkoedniahnneaaDoor.K
namespace Go.Proofs.YtkkoedniahnneaaDoor.K
open Go.RowKit Go.Shelf
noncomputable section
end
end Go.Proofs.YtkkoedniahnneaaDoor.K
namespace Go.Proofs.YtkkoedniahnneaaDoor.K
open Go.RowKit
attribute [local go_sem ↓] Go.wp_at_zero Go.wp_at_succ
end Go.Proofs.YtkkoedniahnneaaDoor.K
namespace Go.Proofs.YtkkoedniahnneaaDoor.K
open Go.RowKit
attribute [local go_sem ↓] Go.wp_at_zero Go.wp_at_succ
section
variable {u u':World}{b:Nat}{L o:Value}{j:Int}{sec:ByteArray}
end
theorem elemSet:ElemOk Tryd.prog 43 45 4 56:=ElemOk.of (.agg #[.string ⟨#[]⟩,.string ⟨#[]⟩,.string ⟨#[]⟩,.int .i64 0]) (by kernel_rfl) (by kernel_rfl) (by kernel_rfl) (by decide)
theorem step_app {P:Program}{w:World}{ops:Array Oper}{o:Oper}{a:Act}{K:Act->World->Prop}{Q:Exit->Act->World->Prop}{E:Prop}{t e:TypeId}{size bytes:Nat}(d:Nat)(hd:o.dst=some d)(hE:ElemOk P t e size bytes)(hgd:o.guard=none)(s x:Operand)
  (ho:o.op= .call {callee:= .builtin .append,args:= #[s,x],argTypes:= #[t,t] })
  (base:Nat) (v:Value) (n:Nat) (xs:List Value) (hs:a.eval s=v) (hown:w.ownsRow base e size v n xs)
  (A:Option Addr) (m c:Nat) (news:List Value) (hx:a.eval x= .slice A m c) (hr:Sl w (.slice A m c) size m news) (h1: ∀ u∈news,u.oneCell'=true)
  (hbytes:n+m<=1000000000) (hby:bytes<=100000) (hbase:base<=w.heap.size)
  (h: ∀ v' w',w'.ownsRow base e size v' (n+m) (xs++news)->w.grownBy w' v.ownBlock->(v'.ownBlock=v.ownBlock∨v'.ownBlock=some w.heap.size)->K ⟨a.tmps.setIfInBounds d v',a.defers⟩ w'):
  if Region.wanted o (yielded ops a.tmps)=true then Oper.wp P o a w K Q else E:=by
 obtain ⟨i,z,k1,k2,k3,k4,k5,k6,k7⟩:=hE.has
 refine step_append_any w hgd s x t ho base e i z size bytes k1 k2 k3 k4 k5 k6 k7 v n xs hs hown w.heap.size A m c news hx hr.reads h1 (by unfold maxLen;omega) ?_ hbase (by rw [hd];exact h)
 have:=Nat.mul_le_mul hbytes hby
 omega
structure FrP (b:Nat) (o:Value) (w w':World):Prop where
 os:w'.os=w.os
 tape:w'.tape=w.tape
 output:w'.output=w.output
 size:w.heap.size<=w'.heap.size
 block: ∀ j,j<w.heap.size->j≠b->some j≠o.ownBlock->w'.heap[j]? = w.heap[j]?
theorem FrP.bel {b:Nat}{o:Value}{w w':World}(h:Below w.heap.size w w'):FrP b o w w':=⟨h.os,h.tape,h.output,h.size,fun k hk _ _=>h.block k hk⟩
theorem FrP.grb {b:Nat}{o:Value}{w w':World}(h:w.grownBy w' (some b)):FrP b o w w':=⟨h.os,h.tape,h.output,h.size,fun k hk h3 _=>h.block k hk (fun e=>h3 (Option.some.inj e))⟩
theorem FrP.below {b:Nat}{o:Value}{w w':World}{e:TypeId}{size n:Nat}{xs:List Value}(h:FrP b o w w')(ho:w.ownsRow (b+1) e size o n xs)(hb:b<=w.heap.size):Below b w w':=
 ⟨h.os,h.tape,h.output,h.size,fun k hk=>h.block k (by omega) (by omega) (fun e=>by have:=(ho.lt _ e.symm).1;omega)⟩
end Go.Proofs.YtkkoedniahnneaaDoor.K
namespace Go.Proofs.YtkkoedniahnneaaDoor.K
open Go.RowKit
attribute [local go_sem ↓] Go.wp_at_zero Go.wp_at_succ
end Go.Proofs.YtkkoedniahnneaaDoor.K
namespace Go.Proofs.YtkkoedniahnneaaDoor.K
open Go.RowKit
end Go.Proofs.YtkkoedniahnneaaDoor.K
namespace Go.Proofs.YtkkoedniahnneaaDoor.K
open Go.RowKit
attribute [local go_sem ↓] Go.wp_at_zero Go.wp_at_succ
theorem cs_strs' {X:Nat->Nat->Prop}{w:World}: ∀ (l:List ByteArray) (vs:List Value),Cs X w nowhere (l.flatMap (Ty.cells .str)) vs->vs=l.map Value.string
 | [],vs,h=>by simpa [Cs] using h
 |s::l,vs,h=>by
  simp only [List.flatMap_cons,Ty.cells,Ty.d,List.singleton_append,Cs,C] at h
  obtain ⟨v,r,rfl,⟨rfl,_⟩,h⟩:=h
  rw [cs_strs' l r h]
  rfl
end Go.Proofs.YtkkoedniahnneaaDoor.K
namespace Go.Proofs.YtkkoedniahnneaaDoor.K
open Go.RowKit
noncomputable section
theorem own_cG {X:Nat->Nat->Prop}{w:World}{σ:Pl}{B e:Nat}{y:Ty}{l:List y.T}{cells:List Value}{sv:Value}(h:w.ownsRow B e y.sz sv l.length cells)(hc:Cs X w nowhere (l.flatMap y.cells) cells)(h1: ∀ u∈cells,u.oneCell'=true)(hX: ∀ b q,X b q->b<B):C X w σ (V.t (.sl y) l).d sv:=by
 obtain ⟨g,A,c,rfl,h2,h3,h4⟩:=Sl.of_own h
 have hlt:=h.lt
 show C X w σ (.sl l.length (l.flatMap y.cells)) _
 simp only [C]
 refine ⟨A,c,rfl,h2,h3,fun h0=> ?_,fun h0=> ?_⟩
 ·have:l=[]:=List.eq_nil_of_length_eq_zero h0
  rw [this]
  rfl
 ·obtain ⟨b,off,rfl,g1,g2⟩:=h4 h0
  refine ⟨b,off,cells,rfl,hc,g1,fun q _ hq=> ?_,fun j u hu=>g2 j u hu,h1⟩
  have:=hX b _ hq
  have:=(hlt b rfl).1
  omega
end
end Go.Proofs.YtkkoedniahnneaaDoor.K
namespace Go.Proofs.YtkkoedniahnneaaDoor.K
open Go.RowKit Go.Shelf
attribute [local go_sem] Oper.semAt_some
end Go.Proofs.YtkkoedniahnneaaDoor.K
namespace Go.Proofs.YtkkoedniahnneaaDoor.K
open Go.RowKit
noncomputable section
theorem ieq_s (a:Int):ieq a a=true:=by simp [ieq]
-- loop 0: (x0 : (List Setting)) (x1 : (List Setting)) (x5 : Int); out: ('ret',) (x4 : Bool); ('exit', 0)
-- loop 0: (x0 : ByteArray) (x3 : Int); out: ('ret',) (x2 : Bool); ('exit', 0) (x0 : ByteArray)
end
end Go.Proofs.YtkkoedniahnneaaDoor.K
namespace Go.Proofs.YtkkoedniahnneaaDoor.K
open Go.RowKit
noncomputable section
theorem dwd_size {d:Dice}{l:List ByteArray}{m:Nat}(h:l.all (fun x=>decide (x.size<=m))=true):(dwdG d l).size<=m:=by
 unfold dwdG
 rw [List.getD_eq_getElem?_getD]
 cases hx:l[(dval d l.length).toNat]? with
 |none=>exact Nat.zero_le _
 |some x=>exact of_decide_eq_true (List.all_eq_true.1 h x (List.mem_of_getElem? hx))
-- loop 0: (x3 : ByteArray) (x4 : Int) (y50000 : Dice); out: ('exit', 0) (x3 : ByteArray) (y50000 : Dice)
end
end Go.Proofs.YtkkoedniahnneaaDoor.K
namespace Go.Proofs.YtkkoedniahnneaaDoor.K
open Go.RowKit Go.Shelf
attribute [local go_sem] Oper.semAt_some
end Go.Proofs.YtkkoedniahnneaaDoor.K
namespace Go.Proofs.YtkkoedniahnneaaDoor.K
open Go.RowKit Go.Shelf
attribute [local go_sem] Oper.semAt_some
section
attribute [local go_sem ↓] Go.wp_at_zero Go.wp_at_succ
end
end Go.Proofs.YtkkoedniahnneaaDoor.K
namespace Go.Proofs.YtkkoedniahnneaaDoor.K
open Go.RowKit
noncomputable section
section
attribute [local go_sem ↓] Go.wp_at_zero Go.wp_at_succ
end
end
end Go.Proofs.YtkkoedniahnneaaDoor.K
namespace Go.Proofs.YtkkoedniahnneaaDoor.K
open Go.RowKit
noncomputable section
end
end Go.Proofs.YtkkoedniahnneaaDoor.K
namespace Go.Proofs.YtkkoedniahnneaaDoor.K
open Go.RowKit
noncomputable section
end
end Go.Proofs.YtkkoedniahnneaaDoor.K
namespace Go.Proofs.YtkkoedniahnneaaDoor.K
open Go.RowKit
noncomputable section
end
end Go.Proofs.YtkkoedniahnneaaDoor.K
namespace Go.Proofs.YtkkoedniahnneaaDoor.K
open Go.RowKit
noncomputable section
end
end Go.Proofs.YtkkoedniahnneaaDoor.K
namespace Go.Proofs
open Go.Shelf
def Tryd.lays105_ren:Go.Shelf.Ren:=⟨fun|105=>96|212=>124|99=>125|165=>126|166=>60|170=>61|169=>55|263=>149|264=>150|206=>151|240=>108|241=>152|276=>132|277=>166|n=>n,fun|9=>9|3=>3|4=>4|20=>20|0=>0|46=>148|109=>149|5=>5|72=>75|76=>84|51=>168|146=>169|53=>171|148=>172|70=>73|37=>28|75=>83|127=>127|164=>154|80=>77|n=>n,fun|n=>n⟩
theorem Tryd.lays105:Go.Proofs.Lays.n105 Tryd.prog Tryd.lays105_ren:={
 mixed:=by kernel_rfl
 f99:=Tryd.func125.trans (congrArg some (by kernel_rfl))
 f105:=Tryd.func96.trans (congrArg some (by kernel_rfl))
 f165:=Tryd.func126.trans (congrArg some (by kernel_rfl))
 f166:=Tryd.func60.trans (congrArg some (by kernel_rfl))
 f169:=Tryd.func55.trans (congrArg some (by kernel_rfl))
 f170:=Tryd.func61.trans (congrArg some (by kernel_rfl))
 f206:=Tryd.func151.trans (congrArg some (by kernel_rfl))
 f212:=Tryd.func124.trans (congrArg some (by kernel_rfl))
 f240:=Tryd.func108.trans (congrArg some (by kernel_rfl))
 f241:=Tryd.func152.trans (congrArg some (by kernel_rfl))
 f263:=Tryd.func149.trans (congrArg some (by kernel_rfl))
 f264:=Tryd.func150.trans (congrArg some (by kernel_rfl))
 f276:=Tryd.func132.trans (congrArg some (by kernel_rfl))
 f277:=Tryd.func166.trans (congrArg some (by kernel_rfl))
 t0:=Tryd.underlying0
 a0:=Tryd.isAgg0
 z0:=Tryd.sizeOf0
 v0:=Tryd.zeroValue0
 t3:=Tryd.underlying3
 a3:=Tryd.isAgg3
 z3:=Tryd.sizeOf3
 v3:=Tryd.zeroValue3
 t4:=Tryd.underlying4
 a4:=Tryd.isAgg4
 z4:=Tryd.sizeOf4
 v4:=Tryd.zeroValue4
 t5:=Tryd.underlying5
 a5:=Tryd.isAgg5
 z5:=Tryd.sizeOf5
 v5:=Tryd.zeroValue5
 t9:=Tryd.underlying9
 a9:=Tryd.isAgg9
 z9:=Tryd.sizeOf9
 v9:=Tryd.zeroValue9
 t20:=Tryd.underlying20
 a20:=Tryd.isAgg20
 z20:=Tryd.sizeOf20
 v20:=Tryd.zeroValue20
 t37:=Tryd.underlying28
 a37:=Tryd.isAgg28
 z37:=Tryd.sizeOf28
 v37:=Tryd.zeroValue28
 t46:=Tryd.underlying148
 a46:=Tryd.isAgg148
 z46:=Tryd.sizeOf148
 v46:=Tryd.zeroValue148
 t51:=Tryd.underlying168
 a51:=Tryd.isAgg168
 z51:=Tryd.sizeOf168
 v51:=Tryd.zeroValue168
 t53:=Tryd.underlying171
 a53:=Tryd.isAgg171
 z53:=Tryd.sizeOf171
 v53:=Tryd.zeroValue171
 t70:=Tryd.underlying73
 a70:=Tryd.isAgg73
 z70:=Tryd.sizeOf73
 v70:=Tryd.zeroValue73
 t72:=Tryd.underlying75
 a72:=Tryd.isAgg75
 z72:=Tryd.sizeOf75
 v72:=Tryd.zeroValue75
 t75:=Tryd.underlying83
 a75:=Tryd.isAgg83
 z75:=Tryd.sizeOf83
 v75:=Tryd.zeroValue83
 t76:=Tryd.underlying84
 a76:=Tryd.isAgg84
 z76:=Tryd.sizeOf84
 v76:=Tryd.zeroValue84
 t109:=Tryd.underlying149
 a109:=Tryd.isAgg149
 z109:=Tryd.sizeOf149
 v109:=Tryd.zeroValue149
 t127:=Tryd.underlying127
 a127:=Tryd.isAgg127
 z127:=Tryd.sizeOf127
 v127:=Tryd.zeroValue127
 t146:=Tryd.underlying169
 a146:=Tryd.isAgg169
 z146:=Tryd.sizeOf169
 v146:=Tryd.zeroValue169
 t148:=Tryd.underlying172
 a148:=Tryd.isAgg172
 z148:=Tryd.sizeOf172
 v148:=Tryd.zeroValue172
 t164:=Tryd.underlying154
 a164:=Tryd.isAgg154
 z164:=Tryd.sizeOf154
 v164:=Tryd.zeroValue154}
end Go.Proofs
namespace Go.Proofs.YtkkoedniahnneaaDoor.K
open Go.RowKit Go.Shelf
attribute [local go_sem ↓] Go.wp_at_zero Go.wp_at_succ
theorem bX:Builder.Extra Tryd.prog Tryd.lays105_ren where
 sizeBuilder:=by kernel_rfl
 liesBuilder:=by kernel_rfl
 t5:=Tryd.lays105.t5
 a5:=Tryd.lays105.a5
 z5:=Tryd.lays105.z5
 v5:=Tryd.lays105.v5
 infoByte:=by kernel_rfl
 cellsByte:=by kernel_rfl
 sizeByte:=by kernel_rfl
 neB5:=by decide
theorem b166:Lays.n166 Tryd.prog Tryd.lays105_ren:={Tryd.lays105 with}
theorem b169:Lays.n169 Tryd.prog Tryd.lays105_ren:={Tryd.lays105 with}
theorem take_snoc {α:Type}{l:List α}{k:Nat}{x:α}(h:l[k]? = some x):l.take (k+1)=l.take k++[x]:=by
 rw [List.take_add_one,h]
 rfl
def Bld (w:World)(b:Nat)(l:List UInt8):Prop:=Lib.IsBuilderF 75 5 b b (Lib.byteCells l) w
theorem Bld.alloc {w:World}{b:Nat}{l:List UInt8}(h:Bld w b l)(o:Obj):Bld (w.alloc o) b l:=h.elim (fun h=> .inl (h.alloc o)) (fun h=> .inr (h.alloc o))
theorem Bld.lt {w:World}{b:Nat}{l:List UInt8}(h:Bld w b l):b<w.heap.size:=h.elim (fun h=>h.lt) (fun h=>h.lt)
theorem Bld.new (w:World):Bld (w.alloc (.cells #[.pointer none,.slice none 0 0] 75)) w.heap.size []:=
 .inl ⟨Nat.le_refl _,.slice none 0 0,Go.Proofs.YtkkoedniahnneaaDoor.Blk.new w _ _,⟨rfl,.inl ⟨rfl,rfl⟩⟩,by simp [Value.ownBlock]⟩
theorem write_calls (b:Nat)(l:List UInt8)(s:ByteArray)(w:World)(h:Bld w b l)(hlen:l.length+s.size<=140737488355328):
  Calls Tryd.prog 60 #[.pointer (some ⟨b,0,none⟩),.string s] w fun e w'=>e= .returned (.tuple #[.int .i64 s.size,.nilIface])/\Bld w' b (l++bl s)/\Below b w w'/\Lib.OthersKept 5 (some b) w w':=by
 refine (Any.Builder_WriteString_k b166 bX b b (Lib.byteCells l) s w h (by rw [Lib.byteCells_length];exact hlen) (Nat.le_of_lt h.lt)).mono ?_
 rintro e w' ⟨rfl,h1,h2,h3⟩
 refine ⟨rfl,.inr ?_,h2,h3⟩
 rw [Lib.byteCells_append]
 exact h1
theorem str_calls (b:Nat)(l:List UInt8)(w:World)(h:Bld w b l):Calls Tryd.prog 55 #[.pointer (some ⟨b,0,none⟩)] w fun e w'=>e= .returned (.string (mkB l))/\Below b w w':=by
 refine (Any.Builder_String_any_k b169 bX b b l w h (Nat.le_of_lt h.lt)).mono ?_
 rintro e w' ⟨rfl,h1,h2,h3⟩
 exact ⟨rfl,h2⟩
theorem kept_blk {w w':World}{b B:Nat}{a:Array Value}{T:TypeId}(h:Lib.OthersKept 5 (some b) w w')(hb:Go.Proofs.YtkkoedniahnneaaDoor.Blk w B T a)(hne:B≠b)(hT:T≠5):Go.Proofs.YtkkoedniahnneaaDoor.Blk w' B T a:=
 h B _ hb (fun e=>hne (Option.some.inj e)) (fun c fz e=>by injection e with _ e2 _;exact hT e2)
end Go.Proofs.YtkkoedniahnneaaDoor.K
namespace Go.Proofs.YtkkoedniahnneaaDoor.K
open Go.RowKit
noncomputable section
-- loop 0: (x0 : (List Setting)) (x4 : Int); out: ('ret',) (x2 : ByteArray) (x3 : Int); ('exit', 0) (x0 : (List Setting))
-- loop 1: (x0 : (List Setting)) (x5 : Int); out: ('ret',) (x2 : ByteArray) (x3 : Int); ('exit', 2) (x0 : (List Setting))
-- loop 2: (x0 : (List Setting)) (x6 : ByteArray) (x7 : ByteArray) (x8 : Int); out: ('ret',) (x2 : ByteArray) (x3 : Int); ('exit', 4) (x6 : ByteArray)
end
end Go.Proofs.YtkkoedniahnneaaDoor.K
namespace Go.Proofs.YtkkoedniahnneaaDoor.K
open Go.RowKit
mutual
def V.plain:V->Bool
 |.t (.int _) _=>true
 |.t .bool _=>true
 |.tu vs=>V.plains vs
 |_=>false
def V.plains:List V->Bool
 | []=>true
 |v::vs=>v.plain&&V.plains vs
end
section
variable {X X':Nat->Nat->Prop}{w w':World}{σ σ':Pl}
mutual
theorem plain_c: ∀ (v:V) (u:Value),v.plain=true->C X w σ v.d u->C X' w' σ' v.d u
 |.t (.int _) x,u,_,h=>by simpa only [V.d,Ty.d,C] using h
 |.t .bool x,u,_,h=>by simpa only [V.d,Ty.d,C] using h
 |.tu vs,u,hp,h=>by
  simp only [V.plain] at hp
  simp only [V.d,C] at h ⊢
  obtain ⟨us,h1,h2⟩:=h
  exact ⟨us,h1,plain_cs vs us hp h2⟩
theorem plain_cs: ∀ (vs:List V) (us:List Value),V.plains vs=true->Cs X w σ (V.ds vs) us->Cs X' w' σ' (V.ds vs) us
 | [],us,_,h=>by simpa only [V.ds,Cs] using h
 |v::vs,us,hp,h=>by
  simp only [V.plains,Bool.and_eq_true] at hp
  simp only [V.ds,Cs] at h ⊢
  obtain ⟨u,us',h1,h2,h3⟩:=h
  exact ⟨u,us',h1,plain_c v u hp.1 h2,plain_cs vs us' hp.2 h3⟩
end
end
section
variable {P:Program}
end
end Go.Proofs.YtkkoedniahnneaaDoor.K
namespace Go.Proofs.YtkkoedniahnneaaDoor.K
open Go.RowKit
noncomputable section
def cP (p:Prop):Bool:= @decide p (Classical.propDecidable _)
theorem cP_of {p:Prop}(h:cP p=true):p:= @of_decide_eq_true _ (Classical.propDecidable _) h
theorem cP_in {p:Prop}(h:p):cP p=true:= @decide_eq_true _ (Classical.propDecidable _) h
-- loop 0: (x0 : (List Setting)) (x1 : ByteArray) (x2 : ByteArray) (x8 : Int); out: ('ret',) (x6 : ByteArray) (x7 : Bool); ('exit', 0)
-- loop 0: (x0 : (List Setting)) (x4 : Int) (x5 : Bool) (x6 : Int) (y3 : (List ByteArray)); out: ('exit', 2) (x0 : (List Setting)) (x4 : Int) (x5 : Bool) (y3 : (List ByteArray))
-- loop 1: (x0 : (List Setting)) (x4 : Int) (y3 : (List ByteArray)); out: ('exit', 0) (y3 : (List ByteArray))
end
end Go.Proofs.YtkkoedniahnneaaDoor.K
namespace Go.Proofs.YtkkoedniahnneaaDoor.K
open Go.RowKit
noncomputable section
abbrev lwB:ByteArray:=ByteArray.mk #[45,95,46,47,58,42,64,43,33]
def ltrB (c:Int):Bool:=letF c lwB
def tc_f140:TC:=(.sq (.reg [(oP 2 (.mv (cB false)))]) (.sq (.reg [(oV 3 0),(oC 4 129 [(.t 3),(.c (.v (.string (ByteArray.mk #[45,95,46,47,58,42,64,43,33]))))]),(oV 2 4)]) .rt))
def rv_f140:List (RV×Option Ty):=[((.t 2),some .bool)]
def g_f140:G:=⟨TYs,[],5,EL [(129,sp_f129)],keeps,(fun _ _=>none),IL [],RL []⟩
def r_f140 (p0:Int):Option (V×List VO):=
 some (.t .bool (letF p0 (ByteArray.mk #[45,95,46,47,58,42,64,43,33])),[])
theorem e_f140 (p0:Int):runF g_f140 tc_f140 rv_f140 false [.t (.int .u8) p0] []=r_f140 p0:=by kernel_rfl
theorem ok_f140:Option.map (trC Tryd.prog) Tryd.f140.body=some tc_f140.er:=by kernel_rfl
theorem rok_f140:trVs Tryd.prog Tryd.f140.results.toList=some (rv_f140.map Prod.fst):=by kernel_rfl
theorem en_f140:Entered Tryd.prog 140:= .inr ⟨by decide,_,Tryd.func140,by kernel_rfl,by kernel_rfl⟩
theorem gk_f140:GOk Tryd.prog g_f140:=gok_of _ (by
 intro p hp
 simp only [List.mem_cons,List.not_mem_nil,or_false] at hp
 rcases hp with rfl
 ·exact ⟨en_f129,ms_f129⟩)
theorem lk_f140:tc_f140.lok g_f140:=by repeat (first|exact trivial|refine ⟨?_, ?_⟩)
theorem s_f140 (c:Int):r_f140 c=some (.t .bool (ltrB c),[]):=rfl
def sp_f140:Ent:=spec (.pr (.int .u8) .nil) (fun x=>true) (fun x=>(.t .bool (ltrB x.1)))
theorem ms_f140:Meets Tryd.prog 140 (strip sp_f140):=by
 obtain ⟨c,hc,hi⟩:=Option.map_eq_some_iff.1 ok_f140
 exact meets_spec (R:=runF g_f140 tc_f140 rv_f140 false) (meets_of (by decide) Tryd.func140 hc hi Tryd.ntmps140 rok_f140 gk_f140 lk_f140 mixed) fun x _=>(e_f140 x.1).trans (s_f140 x.1)
def tc_f139:TC:=(.sq (.reg [(oP 2 (.mv (cB false)))]) (.sq (.reg [(oV 3 0),(oP 4 (.bin false .eql (.t 3) (.c (.v (.int .u8 9))))),(oV 5 4),(oQ 6 5 false (.mv (.t 0))),(oQ 7 5 false (.bin false .geq (.t 6) (.c (.v (.int .u8 32))))),(oQ 8 5 false (.mv (.t 7))),(oQ 9 8 true (.mv (.t 0))),(oQ 10 8 true (.bin false .leq (.t 9) (.c (.v (.int .u8 126))))),(oQ 11 5 false (.pick (.t 8) (.t 10) (cB false))),(oP 12 (.pick (.t 5) (cB true) (.t 11))),(oV 2 12)]) .rt))
def rv_f139:List (RV×Option Ty):=[((.t 2),some .bool)]
def g_f139:G:=⟨TYs,[],13,EL [],keeps,(fun _ _=>none),IL [],RL []⟩
def r_f139 (p0:Int):Option (V×List VO):=
 br ((ieq p0 9))
  (some (.t .bool true,[]))
  (br ((ige p0 32))
   (some (.t .bool (ile p0 126),[]))
   (some (.t .bool false,[])))
theorem e_f139 (p0:Int):runF g_f139 tc_f139 rv_f139 false [.t (.int .u8) p0] []=r_f139 p0:=by kernel_rfl
theorem ok_f139:Option.map (trC Tryd.prog) Tryd.f139.body=some tc_f139.er:=by kernel_rfl
theorem rok_f139:trVs Tryd.prog Tryd.f139.results.toList=some (rv_f139.map Prod.fst):=by kernel_rfl
theorem en_f139:Entered Tryd.prog 139:= .inr ⟨by decide,_,Tryd.func139,by kernel_rfl,by kernel_rfl⟩
theorem gk_f139:GOk Tryd.prog g_f139:=gok_of _ (fun p hp=>by cases hp)
theorem lk_f139:tc_f139.lok g_f139:=by repeat (first|exact trivial|refine ⟨?_, ?_⟩)
theorem s_f139 (c:Int):r_f139 c=some (.t .bool (isClI c),[]):=by
 unfold r_f139 isClI
 have e1:ige c 32= !ilt c 32:=by simp only [ige,ilt];rw [Bool.eq_iff_iff];simp
 have e2:ile c 126= !igt c 126:=by simp only [ile,igt];rw [Bool.eq_iff_iff];simp
 rw [e1,e2]
 cases ieq c 9<;>cases ilt c 32<;>rfl
def sp_f139:Ent:=spec (.pr (.int .u8) .nil) (fun x=>true) (fun x=>(.t .bool (isClI x.1)))
theorem ms_f139:Meets Tryd.prog 139 (strip sp_f139):=by
 obtain ⟨c,hc,hi⟩:=Option.map_eq_some_iff.1 ok_f139
 exact meets_spec (R:=runF g_f139 tc_f139 rv_f139 false) (meets_of (by decide) Tryd.func139 hc hi Tryd.ntmps139 rok_f139 gk_f139 lk_f139 mixed) fun x _=>(e_f139 x.1).trans (s_f139 x.1)
def blkI (c:Int):Bool:=ieq c 9||(ieq c 32||ieq c 10)
def bytI (c:Int):Bool:=decide (0<=c/\c<256)
theorem bytI_at {s:ByteArray}{k:Nat}(h:k<(bytesL s).length):bytI (bytesL s)[k]=true:=decide_eq_true (byte_rng s h)
def tc_f141:TC:=(.sq (.reg [(oP 2 (.mv (cB false)))]) (.sq (.sq (.reg [(oV 3 0),(oP 4 (.bin false .geq (.t 3) (.c (.v (.int .u8 97))))),(oV 5 4),(oQ 6 5 true (.mv (.t 0))),(oQ 7 5 true (.bin false .leq (.t 6) (.c (.v (.int .u8 122))))),(oP 8 (.pick (.t 5) (.t 7) (cB false))),(oV 9 8),(oQ 10 9 false (.mv (.t 0))),(oQ 11 9 false (.bin false .geq (.t 10) (.c (.v (.int .u8 65))))),(oQ 12 9 false (.mv (.t 11))),(oQ 13 12 true (.mv (.t 0))),(oQ 14 12 true (.bin false .leq (.t 13) (.c (.v (.int .u8 90))))),(oQ 15 9 false (.pick (.t 12) (.t 14) (cB false))),(oP 16 (.pick (.t 9) (cB true) (.t 15))),(oV 17 16),(oQ 18 17 false (.mv (.t 0))),(oQ 19 17 false (.bin false .geq (.t 18) (.c (.v (.int .u8 48))))),(oQ 20 17 false (.mv (.t 19))),(oQ 21 20 true (.mv (.t 0))),(oQ 22 20 true (.bin false .leq (.t 21) (.c (.v (.int .u8 57))))),(oQ 23 17 false (.pick (.t 20) (.t 22) (cB false))),(oP 24 (.pick (.t 17) (cB true) (.t 23)))]) (.cd (.t 24) (.sq (.reg [(oP 2 (.mv (cB true)))]) .rt) .sk)) (.sq (.sq (.reg [(oV 25 0)]) (.bk 0 (.sq (.sq (.reg [(oP 27 (.bin false .eql (.t 25) (.c (.v (.int .u8 45))))),(oV 26 27)]) (.cd (.t 26) .sk (.sq (.reg [(oP 28 (.bin false .eql (.t 25) (.c (.v (.int .u8 95))))),(oV 26 28)]) (.cd (.t 26) .sk (.sq (.reg [(oP 29 (.bin false .eql (.t 25) (.c (.v (.int .u8 46))))),(oV 26 29)]) (.cd (.t 26) .sk (.sq (.reg [(oP 30 (.bin false .eql (.t 25) (.c (.v (.int .u8 47))))),(oV 26 30)]) (.cd (.t 26) .sk (.sq (.reg [(oP 31 (.bin false .eql (.t 25) (.c (.v (.int .u8 58))))),(oV 26 31)]) (.cd (.t 26) .sk (.sq (.reg [(oP 32 (.bin false .eql (.t 25) (.c (.v (.int .u8 42))))),(oV 26 32)]) (.cd (.t 26) .sk (.sq (.reg [(oP 33 (.bin false .eql (.t 25) (.c (.v (.int .u8 64))))),(oV 26 33)]) (.cd (.t 26) .sk (.sq (.reg [(oP 34 (.bin false .eql (.t 25) (.c (.v (.int .u8 43))))),(oV 26 34)]) (.cd (.t 26) .sk (.reg [(oP 35 (.bin false .eql (.t 25) (.c (.v (.int .u8 33))))),(oV 26 35)]))))))))))))))))) (.cd (.t 26) (.sq (.reg [(oP 2 (.mv (cB true)))]) .rt) .sk)))) (.sq (.reg [(oP 2 (.mv (cB false)))]) .rt))))
def rv_f141:List (RV×Option Ty):=[((.t 2),some .bool)]
def g_f141:G:=⟨TYs,[],36,EL [],keeps,(fun _ _=>none),IL [],RL []⟩
def r_f141_3 (p0:Int):Option (V×List VO):=
 br ((ieq p0 45))
  (br ((ieq p0 45))
   (some (.t .bool true,[]))
   (some (.t .bool false,[])))
  (br ((ieq p0 95))
   (br ((ieq p0 95))
    (some (.t .bool true,[]))
    (some (.t .bool false,[])))
   (br ((ieq p0 46))
    (br ((ieq p0 46))
     (some (.t .bool true,[]))
     (some (.t .bool false,[])))
    (br ((ieq p0 47))
     (br ((ieq p0 47))
      (some (.t .bool true,[]))
      (some (.t .bool false,[])))
     (br ((ieq p0 58))
      (br ((ieq p0 58))
       (some (.t .bool true,[]))
       (some (.t .bool false,[])))
      (br ((ieq p0 42))
       (br ((ieq p0 42))
        (some (.t .bool true,[]))
        (some (.t .bool false,[])))
       (br ((ieq p0 64))
        (br ((ieq p0 64))
         (some (.t .bool true,[]))
         (some (.t .bool false,[])))
        (br ((ieq p0 43))
         (br ((ieq p0 43))
          (some (.t .bool true,[]))
          (some (.t .bool false,[])))
         (br ((ieq p0 33))
          (some (.t .bool true,[]))
          (some (.t .bool false,[]))))))))))
def r_f141_2 (p0:Int):Option (V×List VO):=
 br ((ige p0 48))
  (br ((ile p0 57))
   (some (.t .bool true,[]))
   (r_f141_3 p0))
  (r_f141_3 p0)
def r_f141_1 (p0:Int):Option (V×List VO):=
 br ((ige p0 65))
  (br ((ile p0 90))
   (some (.t .bool true,[]))
   (r_f141_2 p0))
  (r_f141_2 p0)
def r_f141 (p0:Int):Option (V×List VO):=
 br ((ige p0 97))
  (br ((ile p0 122))
   (some (.t .bool true,[]))
   (r_f141_1 p0))
  (r_f141_1 p0)
theorem e_f141 (p0:Int):runF g_f141 tc_f141 rv_f141 false [.t (.int .u8) p0] []=r_f141 p0:=by kernel_rfl
theorem ok_f141:Option.map (trC Tryd.prog) Tryd.f141.body=some tc_f141.er:=by kernel_rfl
theorem rok_f141:trVs Tryd.prog Tryd.f141.results.toList=some (rv_f141.map Prod.fst):=by kernel_rfl
theorem en_f141:Entered Tryd.prog 141:= .inr ⟨by decide,_,Tryd.func141,by kernel_rfl,by kernel_rfl⟩
theorem gk_f141:GOk Tryd.prog g_f141:=gok_of _ (fun p hp=>by cases hp)
theorem lk_f141:tc_f141.lok g_f141:=by repeat (first|exact trivial|refine ⟨?_, ?_⟩)
def ltrR (c:Int):Bool:=(ige c 97&&ile c 122)||((ige c 65&&ile c 90)||((ige c 48&&ile c 57)||(ieq c 45||(ieq c 95||(ieq c 46||(ieq c 47||(ieq c 58||(ieq c 42||(ieq c 64||(ieq c 43||ieq c 33))))))))))
theorem ltr_tab:((List.range 256).all fun n=>ltrB (n:Int)==ltrR (n:Int))=true:=by kernel_rfl
theorem ltr_eq {c:Int}(h:bytI c=true):ltrB c=ltrR c:=by
 obtain ⟨h1,h2⟩:=of_decide_eq_true h
 obtain ⟨n,rfl⟩:=Int.eq_ofNat_of_zero_le h1
 exact eq_of_beq (List.all_eq_true.1 ltr_tab n (List.mem_range.2 (by omega)))
theorem or_two (a b x:Bool):br a (br b (some (V.t .bool true,([]:List VO))) (some (V.t .bool x,[]))) (some (V.t .bool x,[]))=some (V.t .bool ((a&&b)||x),[]):=by cases a<;>cases b<;>rfl
theorem or_end (a:Bool):br a (some (V.t .bool true,([]:List VO))) (some (V.t .bool false,[]))=some (V.t .bool a,[]):=by cases a<;>rfl
theorem or_one (a x:Bool):br a (some (V.t .bool a,([]:List VO))) (some (V.t .bool x,[]))=some (V.t .bool (a||x),[]):=by cases a<;>rfl
theorem s_f141 (c:Int)(h:bytI c=true):r_f141 c=some (.t .bool (ltrB c),[]):=by
 rw [ltr_eq h]
 unfold ltrR
 simp only [r_f141,r_f141_1,r_f141_2,r_f141_3,or_end,or_one,or_two]
def sp_f141:Ent:=spec (.pr (.int .u8) .nil) (fun x=>(bytI x.1)) (fun x=>(.t .bool (ltrB x.1)))
theorem ms_f141:Meets Tryd.prog 141 (strip sp_f141):=by
 obtain ⟨c,hc,hi⟩:=Option.map_eq_some_iff.1 ok_f141
 exact meets_spec (R:=runF g_f141 tc_f141 rv_f141 false) (meets_of (by decide) Tryd.func141 hc hi Tryd.ntmps141 rok_f141 gk_f141 lk_f141 mixed) fun x hok=>(e_f141 x.1).trans (s_f141 x.1 hok)
def plnB (s:ByteArray):Bool:=(bytesL s).all ltrB&&decide (0<s.size)
def fg_f115_0:Fg:=⟨[(0,some .str),(3,some tI)],[]⟩
def tb_f115_0:TC:=(.sq (.sq (.reg [(oV 4 3),(oV 5 0),(oP 6 (.len true (.t 5))),(oP 7 (.bin false .lss (.t 4) (.t 6)))]) (.cd (.t 7) .sk (.fg ⟨[(0,some .str)],[]⟩ (.ex 0)))) (.sq (.bk 1 (.sq (.reg [(oV 10 0),(oV 11 3),(oP 12 (.sx (.t 10) (.t 11))),(oC 13 141 [(.t 12)]),(oP 14 (.nt (.t 13)))]) (.cd (.t 14) (.sq (.reg [(oP 2 (.mv (cB false)))]) (.fg ⟨[(2,some .bool)],[]⟩ .rt)) .sk))) (.reg [(oV 8 3),(oP 9 (.bin false .add (.t 8) (cI 1))),(oV 3 9)])))
def tc_f115:TC:=(.sq (.reg [(oP 2 (.mv (cB false)))]) (.sq (.sq (.reg [(oP 3 (.mv (cI 0)))]) (.bk 0 (.lp 0 fg_f115_0 tb_f115_0))) (.sq (.reg [(oV 15 0),(oP 16 (.len true (.t 15))),(oP 17 (.bin false .gtr (.t 16) (cI 0))),(oV 2 17)]) .rt)))
def rv_f115:List (RV×Option Ty):=[((.t 2),some .bool)]
abbrev sh_f115_0:Sh:=⟨[(0,.ty .str),(3,.ty tI)],[]⟩
def st_f115_0 (x0:ByteArray)(x3:Int):VS:=sh_f115_0.st (x0,x3,()) ()
abbrev sh_f115_0_ret:Sh:=⟨[(2,.ty .bool)],[]⟩
def st_f115_0_ret (x2:Bool):VS:=sh_f115_0_ret.st (x2,()) ()
abbrev sh_f115_0_e0:Sh:=⟨[(0,.ty .str)],[]⟩
def st_f115_0_e0 (x0:ByteArray):VS:=sh_f115_0_e0.st (x0,()) ()
-- loop 0: (x0 : ByteArray) (x3 : Int); out: ('ret',) (x2 : Bool); ('exit', 0) (x0 : ByteArray)
def L_f115_0:VS->Option (Bool×List (Bool×Exit×VS)):=mkL sh_f115_0 (fun x y=>(nameG x.1&&decide (0<=x.2.1/\x.2.1<=x.1.size))) (fun x y=>[((!(((bytesL x.1).drop x.2.1.toNat).all ltrB)),.ret,st_f115_0_ret (false)),(true,.exit 0,st_f115_0_e0 (x.1))])
def g_f115:G:=⟨TYs,[],18,EL [(141,sp_f141)],keeps,(Ls [L_f115_0]),IL [],RL []⟩
def b_f115_0 (x0:ByteArray)(x3:Int):Option (Exit×VS):=
 br ((ilt x3 (slen x0)))
  (br (cSx x0 x3)
   (br ((bytI (sgt x0 x3)))
    (br ((!(ltrB (sgt x0 x3))))
     (some (.ret,st_f115_0_ret false))
     (some (.normal,st_f115_0 x0 (iadd .i64 x3 1))))
    (none))
   (none))
  (some (.exit 0,st_f115_0_e0 x0))
noncomputable def lp_f115_0 (x0:ByteArray)(x3:Int):Option (Exit×VS):=loopF (roundF g_f115 fg_f115_0 tb_f115_0) (st_f115_0 x0 x3)
noncomputable def n_f115_0 (x0:ByteArray)(x3:Int):Option (Exit×VS):=
 br ((ilt x3 (slen x0)))
  (br (cSx x0 x3)
   (br ((bytI (sgt x0 x3)))
    (br ((!(ltrB (sgt x0 x3))))
     (some (.ret,st_f115_0_ret false))
     (lp_f115_0 x0 (iadd .i64 x3 1)))
    (none))
   (none))
  (some (.exit 0,st_f115_0_e0 x0))
def la_f115_0 (x0:ByteArray)(x3:Int):Option (Exit×VS):=br (!(((bytesL x0).drop x3.toNat).all ltrB)) (some (.ret,st_f115_0_ret (false)))<|some (.exit 0,st_f115_0_e0 (x0))
theorem be_f115_0 (x0:ByteArray)(x3:Int):roundF g_f115 fg_f115_0 tb_f115_0 (st_f115_0 x0 x3)=b_f115_0 x0 x3:=by kernel_rfl
theorem ln_f115_0 (x0:ByteArray)(x3:Int):lp_f115_0 x0 x3=n_f115_0 x0 x3:=(loopF_nxt _ _).trans (by
 rw [be_f115_0]
 simp only [b_f115_0,n_f115_0,nxt_br,nxt_n,nxt_r,nxt_e,nxt_0]
 rfl)
def r_f115 (p0:ByteArray):Option (V×List VO):=
 br ((nameG p0&&decide (0<=(0:Int)/\(0:Int)<=p0.size)))
  (br ((!(((bytesL p0).drop (0:Int).toNat).all ltrB)))
   (some (.t .bool (false),[]))
   (some (.t .bool (igt (slen (p0)) 0),[])))
  (none)
theorem e_f115 (p0:ByteArray):runF g_f115 tc_f115 rv_f115 false [.t .str p0] []=r_f115 p0:=by kernel_rfl
theorem ok_f115:Option.map (trC Tryd.prog) Tryd.f115.body=some tc_f115.er:=by kernel_rfl
theorem rok_f115:trVs Tryd.prog Tryd.f115.results.toList=some (rv_f115.map Prod.fst):=by kernel_rfl
theorem en_f115:Entered Tryd.prog 115:= .inr ⟨by decide,_,Tryd.func115,by kernel_rfl,by kernel_rfl⟩
theorem gk_f115:GOk Tryd.prog g_f115:=gok_of _ (by
 intro p hp
 simp only [List.mem_cons,List.not_mem_nil,or_false] at hp
 rcases hp with rfl
 ·exact ⟨en_f141,ms_f141⟩)
theorem l_f115_0 (x0:ByteArray)(x3:Int)(h:(nameG x0&&decide (0<=x3/\x3<=x0.size))=true):lp_f115_0 x0 x3=la_f115_0 x0 x3:=by
 simp only [nameG,Bool.and_eq_true,decide_eq_true_eq] at h
 obtain ⟨h0,h1,h2⟩:=h
 obtain ⟨k,rfl⟩:=Int.eq_ofNat_of_zero_le h1
 have hl:=bytesG_len x0
 refine range_ind (bytesL x0) (fun k=>lp_f115_0 x0 (k:Int)=la_f115_0 x0 (k:Int)) ?_ ?_ k (by omega)
 ·rw [ln_f115_0]
  simp [n_f115_0,la_f115_0,ilt,slen,hl,br_false,List.drop_eq_nil_of_le (show (bytesL x0).length<=x0.size by omega)]
 ·intro k hk ih
  have hk2:k<x0.size:=by omega
  rw [ln_f115_0]
  simp only [n_f115_0,show ilt (k:Int) (slen x0)=true from by simp only [ilt,slen,decide_eq_true_eq];omega,show cSx x0 (k:Int)=true from by simp only [cSx,decide_eq_true_eq];omega,br_true,sgt_get hk2,bytI_at hk,add1G (show k<9223372036854775807 by omega),ih]
  simp only [la_f115_0,Int.toNat_natCast,List.drop_eq_getElem_cons hk,List.all_cons]
  cases ltrB (bytesL x0)[k]<;>rfl
theorem lo_f115_0: ∀ S l p,g_f115.L 0 (fgt fg_f115_0 S)=some (true,l)->pickA l=some p->loopF (roundF g_f115 fg_f115_0 tb_f115_0) S=some p:=
 lok_of (s:=sh_f115_0) ⟨by decide,by decide⟩ (by kernel_rfl) fun x y hok p hp=>by
 simp only [pickA_br,pickA_one] at hp
 exact (l_f115_0 x.1 x.2.1 (by simpa using hok)).trans hp
theorem lk_f115:tc_f115.lok g_f115:=by
 repeat (first|exact trivial|exact lo_f115_0|refine ⟨?_, ?_⟩)
theorem s_f115 (s:ByteArray)(h:nameG s=true):r_f115 s=some (.t .bool (plnB s),[]):=by
 unfold r_f115 plnB
 refine brY (by rw [h,Bool.true_and];exact decide_eq_true ⟨Int.le_refl 0,by omega⟩) ?_
 rw [Int.toNat_zero,List.drop_zero]
 cases (bytesL s).all ltrB with
 |false=>rfl
 |true=>
  rw [Bool.not_true,br_false,Bool.true_and]
  have:igt (slen s) 0=decide (0<s.size):=by simp only [igt,slen];rw [Bool.eq_iff_iff,decide_eq_true_eq,decide_eq_true_eq];omega
  rw [this]
def sp_f115:Ent:=spec (.pr .str .nil) (fun x=>(nameG x.1)) (fun x=>(.t .bool (plnB x.1)))
theorem ms_f115:Meets Tryd.prog 115 (strip sp_f115):=by
 obtain ⟨c,hc,hi⟩:=Option.map_eq_some_iff.1 ok_f115
 exact meets_spec (R:=runF g_f115 tc_f115 rv_f115 false) (meets_of (by decide) Tryd.func115 hc hi Tryd.ntmps115 rok_f115 gk_f115 lk_f115 mixed) fun x hok=>(e_f115 x.1).trans (s_f115 x.1 hok)
def wdF (s:ByteArray):Bool×Bool:=(clB s,plnB s)
def wdL (l:List Int)(n k:Int):Bool:=cP (0<=k/\k<=l.length/\n=l.length/\l.length<=4611686018427387904)
def wdOk (s:ByteArray):Bool:=decide (s.size<=4000000000000000000)
def fg_f114_0:Fg:=⟨[(2,some .bool),(3,some .bool),(9,some (.sl (.int .u8))),(10,some tI),(11,some tI)],[]⟩
def tb_f114_0:TC:=(.sq (.reg [(oP 12 (.bin false .lss (.t 11) (.t 10)))]) (.sq (.cd (.t 12) .sk (.fg ⟨[(2,some .bool),(3,some .bool)],[]⟩ (.ex 0))) (.sq (.bk 1 (.sq (.reg [(oP 13 (.ix 1 (.t 9) (.t 11))),(oL 14 13),(oV 5 14)]) (.reg [(oV 15 2),(oV 16 15),(oQ 17 16 true (.mv (.t 5))),(oG 18 16 true (.call 139 [(.t 17)])),(oP 19 (.pick (.t 16) (.t 18) (cB false))),(oV 20 3),(oV 21 20),(oQ 22 21 true (.mv (.t 5))),(oG 23 21 true (.call 140 [(.t 22)])),(oP 24 (.pick (.t 21) (.t 23) (cB false))),(oV 2 19),(oV 3 24)]))) (.reg [(oP 25 (.bin false .add (.t 11) (cI 1))),(oV 11 25)]))))
def tc_f114:TC:=(.sq (.reg [(oP 2 (.mv (cB false))),(oP 3 (.mv (cB false)))]) (.sq (.reg [(oV 6 0),(oP 7 (.bin false .neq (.t 6) (.c (.v (.string (ByteArray.mk #[])))))),(oP 2 (.mv (cB true))),(oV 3 7)]) (.sq (.sq (.reg [(oV 8 0),(oC 9 5480144 [(.t 8)]),(oP 10 (.len false (.t 9))),(oP 11 (.mv (cI 0)))]) (.bk 0 (.lp 0 fg_f114_0 tb_f114_0))) (.sq (.reg [(oV 26 2),(oV 27 3),(oV 2 26),(oV 3 27)]) .rt))))
def rv_f114:List (RV×Option Ty):=[((.t 2),some .bool),((.t 3),some .bool)]
abbrev sh_f114_0:Sh:=⟨[(2,.ty .bool),(3,.ty .bool),(9,.ty (.sl (.int .u8))),(10,.ty tI),(11,.ty tI)],[]⟩
def st_f114_0 (x2:Bool)(x3:Bool)(x9:(List Int))(x10:Int)(x11:Int):VS:=sh_f114_0.st (x2,x3,x9,x10,x11,()) ()
abbrev sh_f114_0_e0:Sh:=⟨[(2,.ty .bool),(3,.ty .bool)],[]⟩
def st_f114_0_e0 (x2:Bool)(x3:Bool):VS:=sh_f114_0_e0.st (x2,x3,()) ()
-- loop 0: (x2 : Bool) (x3 : Bool) (x9 : (List Int)) (x10 : Int) (x11 : Int); out: ('exit', 0) (x2 : Bool) (x3 : Bool)
def L_f114_0:VS->Option (Bool×List (Bool×Exit×VS)):=mkL sh_f114_0 (fun x y=>(wdL x.2.2.1 x.2.2.2.1 x.2.2.2.2.1)) (fun x y=>[(true,.exit 0,st_f114_0_e0 (x.1&&(x.2.2.1.drop x.2.2.2.2.1.toNat).all isClI) (x.2.1&&(x.2.2.1.drop x.2.2.2.2.1.toNat).all ltrB))])
def g_f114:G:=⟨TYs,[],28,EL [(139,sp_f139),(140,sp_f140),(5480144,sp_op_convert_9_28)],keeps,(Ls [L_f114_0]),IL [],RL []⟩
def b_f114_0 (x2:Bool)(x3:Bool)(x9:(List Int))(x10:Int)(x11:Int):Option (Exit×VS):=
 br ((ilt x11 x10))
  (br (cIx x9 x11)
   (br (x2)
    (br (x3)
     (some (.normal,st_f114_0 (isClI (lgt (.int .u8) x9 (Int.toNat x11))) (ltrB (lgt (.int .u8) x9 (Int.toNat x11))) x9 x10 (iadd .i64 x11 1)))
     (some (.normal,st_f114_0 (isClI (lgt (.int .u8) x9 (Int.toNat x11))) false x9 x10 (iadd .i64 x11 1))))
    (br (x3)
     (some (.normal,st_f114_0 false (ltrB (lgt (.int .u8) x9 (Int.toNat x11))) x9 x10 (iadd .i64 x11 1)))
     (some (.normal,st_f114_0 false false x9 x10 (iadd .i64 x11 1)))))
   (none))
  (some (.exit 0,st_f114_0_e0 x2 x3))
noncomputable def lp_f114_0 (x2:Bool)(x3:Bool)(x9:(List Int))(x10:Int)(x11:Int):Option (Exit×VS):=loopF (roundF g_f114 fg_f114_0 tb_f114_0) (st_f114_0 x2 x3 x9 x10 x11)
noncomputable def n_f114_0 (x2:Bool)(x3:Bool)(x9:(List Int))(x10:Int)(x11:Int):Option (Exit×VS):=
 br ((ilt x11 x10))
  (br (cIx x9 x11)
   (br (x2)
    (br (x3)
     (lp_f114_0 (isClI (lgt (.int .u8) x9 (Int.toNat x11))) (ltrB (lgt (.int .u8) x9 (Int.toNat x11))) x9 x10 (iadd .i64 x11 1))
     (lp_f114_0 (isClI (lgt (.int .u8) x9 (Int.toNat x11))) false x9 x10 (iadd .i64 x11 1)))
    (br (x3)
     (lp_f114_0 false (ltrB (lgt (.int .u8) x9 (Int.toNat x11))) x9 x10 (iadd .i64 x11 1))
     (lp_f114_0 false false x9 x10 (iadd .i64 x11 1))))
   (none))
  (some (.exit 0,st_f114_0_e0 x2 x3))
def la_f114_0 (x2:Bool)(x3:Bool)(x9:(List Int))(x10:Int)(x11:Int):Option (Exit×VS):=some (.exit 0,st_f114_0_e0 (x2&&(x9.drop x11.toNat).all isClI) (x3&&(x9.drop x11.toNat).all ltrB))
theorem be_f114_0 (x2:Bool)(x3:Bool)(x9:(List Int))(x10:Int)(x11:Int):roundF g_f114 fg_f114_0 tb_f114_0 (st_f114_0 x2 x3 x9 x10 x11)=b_f114_0 x2 x3 x9 x10 x11:=by kernel_rfl
theorem ln_f114_0 (x2:Bool)(x3:Bool)(x9:(List Int))(x10:Int)(x11:Int):lp_f114_0 x2 x3 x9 x10 x11=n_f114_0 x2 x3 x9 x10 x11:=(loopF_nxt _ _).trans (by
 rw [be_f114_0]
 simp only [b_f114_0,n_f114_0,nxt_br,nxt_n,nxt_r,nxt_e,nxt_0]
 rfl)
def r_f114 (p0:ByteArray):Option (V×List VO):=
 br ((bytesOk p0))
  (br ((wdL (bytesL p0) (llen (bytesL p0)) (0:Int)))
   (some (.tu [(.t .bool (true&&((bytesL p0).drop (0:Int).toNat).all isClI)),(.t .bool ((sne p0 (ByteArray.mk #[]))&&((bytesL p0).drop (0:Int).toNat).all ltrB))],[]))
   (none))
  (none)
theorem e_f114 (p0:ByteArray):runF g_f114 tc_f114 rv_f114 false [.t .str p0] []=r_f114 p0:=by kernel_rfl
theorem ok_f114:Option.map (trC Tryd.prog) Tryd.f114.body=some tc_f114.er:=by kernel_rfl
theorem rok_f114:trVs Tryd.prog Tryd.f114.results.toList=some (rv_f114.map Prod.fst):=by kernel_rfl
theorem en_f114:Entered Tryd.prog 114:= .inr ⟨by decide,_,Tryd.func114,by kernel_rfl,by kernel_rfl⟩
theorem gk_f114:GOk Tryd.prog g_f114:=gok_of _ (by
 intro p hp
 simp only [List.mem_cons,List.not_mem_nil,or_false] at hp
 rcases hp with rfl|rfl|rfl
 ·exact ⟨en_f139,ms_f139⟩
 ·exact ⟨en_f140,ms_f140⟩
 ·exact ⟨en_op_convert_9_28,ms_op_convert_9_28⟩)
theorem l_f114_0 (x2:Bool)(x3:Bool)(x9:(List Int))(x10:Int)(x11:Int)(h:(wdL x9 x10 x11)=true):lp_f114_0 x2 x3 x9 x10 x11=la_f114_0 x2 x3 x9 x10 x11:=by
 obtain ⟨h1,h2,rfl,h3⟩:=cP_of h
 clear h
 obtain ⟨k,rfl⟩:=Int.eq_ofNat_of_zero_le h1
 refine range_ind x9 (fun k=> ∀ x2 x3:Bool,lp_f114_0 x2 x3 x9 (x9.length:Int) (k:Int)=la_f114_0 x2 x3 x9 (x9.length:Int) (k:Int)) ?_ ?_ k (by omega) x2 x3
 ·intro x2 x3
  rw [ln_f114_0]
  simp only [n_f114_0,la_f114_0,ilt_nat,Nat.lt_irrefl,decide_false,br_false,Int.toNat_natCast,List.drop_length,List.all_nil,Bool.and_true]
 ·intro k hk ih x2 x3
  rw [ln_f114_0]
  simp only [n_f114_0,ilt_nat,cIx_nat,hk,decide_true,br_true,Int.toNat_natCast,lgt_get (y:= .int .u8) hk,add1 (k:=k),ih,la_f114_0,List.drop_eq_getElem_cons hk,List.all_cons]
  cases x2<;>cases x3<;>cases isClI x9[k]<;>cases ltrB x9[k]<;>simp [br_true,br_false]
theorem lo_f114_0: ∀ S l p,g_f114.L 0 (fgt fg_f114_0 S)=some (true,l)->pickA l=some p->loopF (roundF g_f114 fg_f114_0 tb_f114_0) S=some p:=
 lok_of (s:=sh_f114_0) ⟨by decide,by decide⟩ (by kernel_rfl) fun x y hok p hp=>by
 simp only [pickA_br,pickA_one] at hp
 exact (l_f114_0 x.1 x.2.1 x.2.2.1 x.2.2.2.1 x.2.2.2.2.1 (by simpa using hok)).trans hp
theorem lk_f114:tc_f114.lok g_f114:=by
 repeat (first|exact trivial|exact lo_f114_0|refine ⟨?_, ?_⟩)
theorem s_f114 (s:ByteArray)(h:wdOk s=true):r_f114 s=some (.tu [.t .bool (wdF s).1,.t .bool (wdF s).2],[]):=by
 have h:s.size<=4000000000000000000:=of_decide_eq_true h
 have hb:=bytesG_len s
 unfold r_f114 wdF
 refine brY (decide_eq_true (by omega)) (brY (cP_in ⟨by omega,by omega,rfl,by omega⟩) ?_)
 rw [Int.toNat_zero,List.drop_zero,Bool.true_and]
 have e1:(bytesL s).all isClI=clB s:=clZ_eq s
 have e2:sne s (ByteArray.mk #[])=decide (0<s.size):=by
  rw [show sne s (ByteArray.mk #[])= !seq s (ByteArray.mk #[]) from rfl,seq_dec,Bool.eq_iff_iff]
  rw [Bool.not_eq_true',decide_eq_false_iff_not,decide_eq_true_eq]
  constructor
  ·intro hn
   rcases Nat.eq_zero_or_pos s.size with h0|h0
   ·exact absurd (bl_ext (by rw [List.eq_nil_of_length_eq_zero (show (bl s).length=0 by rw [bl_len];exact h0)])) hn
   ·exact h0
  ·intro hp he
   rw [he] at hp
   exact absurd hp (by show ¬ 0<0;omega)
 rw [e1,e2]
 unfold plnB
 rw [Bool.and_comm (decide _)]
def sp_f114:Ent:=spec (.pr .str .nil) (fun x=>(wdOk x.1)) (fun x=>(.tu [(.t .bool ((wdF x.1).1)),(.t .bool ((wdF x.1).2))]))
theorem ms_f114:Meets Tryd.prog 114 (strip sp_f114):=by
 obtain ⟨c,hc,hi⟩:=Option.map_eq_some_iff.1 ok_f114
 exact meets_spec (R:=runF g_f114 tc_f114 rv_f114 false) (meets_of (by decide) Tryd.func114 hc hi Tryd.ntmps114 rok_f114 gk_f114 lk_f114 mixed) fun x hok=>(e_f114 x.1).trans (s_f114 x.1 hok)
end
end Go.Proofs.YtkkoedniahnneaaDoor.K
set_option linter.unusedSectionVars false
namespace Go.Proofs.YtkkoedniahnneaaDoor.K
open Go.RowKit
noncomputable section
set_option linter.unusedSectionVars false
theorem map_of_unB (l:List K.Blk):List.map Blk.of (List.map Blk.un l)=l:=by
 rw [List.map_map]
 have:(Blk.of ∘ Blk.un)=id:=funext Blk.of_un
 rw [this,List.map_id]
def wsz (s:ByteArray):Bool:=decide (s.size<=2000000000)
def okB:Nat->List BlkT->Bool
 |0,_=>false
 |n+1,l=>decide (l.length<=100000)&&l.all fun x=>decide (x.1.length<=100000)&&(x.1.all wsz&&okB n (x.2.2.1.map Blk.un))
def okN (n:Nat)(l:List BlkT):Bool:=okB n l&&cP (n<=1000000)
theorem okN_i {n:Nat}{l:List BlkT}(h:okB n l=true)(h2:n<=1000000):okN n l=true:=Bool.and_eq_true_iff.2 ⟨h,cP_in h2⟩
theorem okN_b {n:Nat}{l:List BlkT}(h:okN n l=true):okB n l=true/\n<=1000000:=⟨(Bool.and_eq_true_iff.1 h).1,cP_of (Bool.and_eq_true_iff.1 h).2⟩
def okT (l:List BlkT):Bool:=cP (∃ N,okN N l=true)
theorem okT_fuel {l:List BlkT}(h:okT l=true): ∃ N,okN N l=true:=cP_of h
theorem okN_p {n:Nat}{l:List BlkT}(h:okN (n+1) l=true):l.length<=100000/\n+1<=1000000∧ ∀ x∈l,x.1.length<=100000/\x.1.all wsz=true/\okN n (x.2.2.1.map Blk.un)=true:=by
 obtain ⟨h1,h2⟩:=okN_b h
 unfold okB at h1
 obtain ⟨h3,h4⟩:=Bool.and_eq_true_iff.1 h1
 refine ⟨of_decide_eq_true h3,h2,fun x hx=> ?_⟩
 have h5:=List.all_eq_true.1 h4 x hx
 obtain ⟨a,b⟩:=Bool.and_eq_true_iff.1 h5
 obtain ⟨b,c⟩:=Bool.and_eq_true_iff.1 b
 exact ⟨of_decide_eq_true a,b,okN_i c (by omega)⟩
mutual
def dpB:K.Blk->Nat
 |.mk _ _ wi _=>dpL wi+1
def dpL:List K.Blk->Nat
 | []=>0
 |b::r=>max (dpB b) (dpL r)
end
mutual
def frB:K.Blk->Bool
 |.mk ws o wi _=>(!ws.isEmpty&&(plnB (ws.headD (ByteArray.mk #[]))&&ws.all clB))&&((o||wi.isEmpty)&&frL wi)
def frL:List K.Blk->Bool
 | []=>true
 |b::r=>frB b&&frL r
end
mutual
def wiB:K.Blk->Bool
 |.mk ws _ wi _=>decide (64<ws.length)||wiL wi
def wiL:List K.Blk->Bool
 | []=>false
 |b::r=>wiB b||wiL r
end
def dpT (l:List BlkT):Nat:=dpL (l.map Blk.of)
def frT (l:List BlkT):Bool:=frL (l.map Blk.of)
def wiT (l:List BlkT):Bool:=wiL (l.map Blk.of)
def dpF (l:List BlkT):Int:=(dpT l:Int)
theorem dpT_cons (x:BlkT)(l:List BlkT):dpT (x::l)=max (dpT (x.2.2.1.map Blk.un)+1) (dpT l):=by
 unfold dpT
 rw [map_of_unB,List.map_cons]
 rfl
theorem frT_cons (x:BlkT)(l:List BlkT):frT (x::l)=(((!x.1.isEmpty&&(plnB (x.1.headD (ByteArray.mk #[]))&&x.1.all clB))&&((x.2.1||x.2.2.1.isEmpty)&&frT (x.2.2.1.map Blk.un)))&&frT l):=by
 unfold frT
 rw [map_of_unB,List.map_cons]
 rfl
theorem wiT_cons (x:BlkT)(l:List BlkT):wiT (x::l)=((decide (64<x.1.length)||wiT (x.2.2.1.map Blk.un))||wiT l):=by
 unfold wiT
 rw [map_of_unB,List.map_cons]
 rfl
theorem dp_le: ∀ (n:Nat) (l:List BlkT),okB n l=true->dpT l<=n
 |0,l,h=>by cases h
 |n+1,l,h=>by
  unfold okB at h
  have h4:=(Bool.and_eq_true_iff.1 h).2
  induction l with
  |nil=>exact Nat.zero_le _
  |cons x l ih=>
   rw [List.all_cons] at h4
   obtain ⟨a,b⟩:=Bool.and_eq_true_iff.1 h4
   have hx:=dp_le n _ (Bool.and_eq_true_iff.1 (Bool.and_eq_true_iff.1 a).2).2
   have hl:=ih (Bool.and_eq_true_iff.2 ⟨decide_eq_true (by have:=of_decide_eq_true (Bool.and_eq_true_iff.1 h).1;rw [List.length_cons] at this;omega),b⟩) b
   rw [dpT_cons]
   omega
theorem imxB (a b:Nat):imx (a:Int) (b:Int)=((max a b:Nat):Int):=by
 unfold imx
 split<;>omega
theorem fuel_blocks_Depth (l:List BlkT)(h:okT l=true): ∃ N,okN N l=true:=okT_fuel h
theorem fuel_ref07_Depth (l:List BlkT)(h:okT l=true): ∃ N,okN N l=true:=okT_fuel h
theorem en_f35:Entered Tryd.prog 35:= .inr ⟨by decide,_,Tryd.func35,by kernel_rfl,by kernel_rfl⟩
def sp_f35R [Fuel]:Ent:=spec (.pr (.sl tyBlkT) .nil) (fun x=>(okN fuel x.1)) (fun x=>(.t tI (dpF x.1)))
theorem en_f35R:Entered Tryd.prog 35:=en_f35
section
variable [Fuel][Nonempty (PLift (Meets Tryd.prog 35 (strip sp_f35R)))]
theorem ms_f35R:Meets Tryd.prog 35 (strip sp_f35R):=(Classical.choice (inferInstance:Nonempty (PLift (Meets Tryd.prog 35 (strip sp_f35R))))).down
def bk0 [Fuel](l:List BlkT)(n k:Int):Bool:=cP (0<=k/\k<=l.length/\n=l.length/\okN (fuel+1) l=true)
def bk1 [Fuel](l:List BlkT)(k:Int):Bool:=cP (0<=k/\k<=l.length/\okN (fuel+1) l=true)
def dp0 [Fuel](l:List BlkT)(n k m:Int):Bool:=cP (0<=k/\k<=l.length/\n=l.length/\okN (fuel+1) l=true/\0<=m)
def fg_f35_0:Fg:=⟨[(3,some tI),(6,some (.sl tyBlkT)),(7,some tI),(8,some tI)],[]⟩
def tb_f35_0:TC:=(.sq (.reg [(oP 9 (.bin false .lss (.t 8) (.t 7)))]) (.sq (.cd (.t 9) .sk (.fg ⟨[(3,some tI)],[]⟩ (.ex 0))) (.sq (.bk 1 (.sq (.reg [(oP 10 (.ix 4 (.t 6) (.t 8))),(oM 11 (.ld true 4 (.t 10))),(oM 5 (.new [(.v (.slice none 0 0)),(.v (.bool false)),(.v (.slice none 0 0)),(.v (.int .i64 0))])),(.mk none none (.m (.st 4 (.t 5) (.t 11))))]) (.reg [(oV 12 3),(oP 13 (.fa 2 (.t 5))),(oL 14 13),(oC 15 35 [(.t 14)]),(oP 16 (.bin false .add (cI 1) (.t 15))),(oP 17 (.mx (.t 12) (.t 16))),(oV 3 17)]))) (.reg [(oP 18 (.bin false .add (.t 8) (cI 1))),(oV 8 18)]))))
def tc_f35:TC:=(.sq (.reg [(oP 2 (.mv (cI 0)))]) (.sq (.reg [(oP 3 (.mv (cI 0)))]) (.sq (.sq (.reg [(oV 6 0),(oP 7 (.len false (.t 6))),(oP 8 (.mv (cI 0)))]) (.bk 0 (.lp 0 fg_f35_0 tb_f35_0))) (.sq (.reg [(oV 19 3),(oV 2 19)]) .rt))))
def rv_f35:List (RV×Option Ty):=[((.t 2),some tI)]
abbrev sh_f35_0:Sh:=⟨[(3,.ty tI),(6,.ty (.sl tyBlkT)),(7,.ty tI),(8,.ty tI)],[]⟩
def st_f35_0 (x3:Int)(x6:(List BlkT))(x7:Int)(x8:Int):VS:=sh_f35_0.st (x3,x6,x7,x8,()) ()
abbrev sh_f35_0_e0:Sh:=⟨[(3,.ty tI)],[]⟩
def st_f35_0_e0 (x3:Int):VS:=sh_f35_0_e0.st (x3,()) ()
-- loop 0: (x3 : Int) (x6 : (List BlkT)) (x7 : Int) (x8 : Int); out: ('exit', 0) (x3 : Int)
def L_f35_0:VS->Option (Bool×List (Bool×Exit×VS)):=mkL sh_f35_0 (fun x y=>(dp0 x.2.1 x.2.2.1 x.2.2.2.1 x.1)) (fun x y=>[(true,.exit 0,st_f35_0_e0 (imx x.1 (dpF (x.2.1.drop x.2.2.2.1.toNat))))])
def g_f35:G:=⟨TYs,[],20,EL [(35,sp_f35R)],keeps,(Ls [L_f35_0]),IL [],RL []⟩
def b_f35_0 (x3:Int)(x6:(List BlkT))(x7:Int)(x8:Int):Option (Exit×VS):=
 br ((ilt x8 x7))
  (br (cIx x6 x8)
   (br ((okN fuel (List.map Blk.un ((((lgt tyBlkT x6 (Int.toNat x8)).2).2).1))))
    (some (.normal,st_f35_0 (imx x3 (iadd .i64 1 (dpF (List.map Blk.un ((((lgt tyBlkT x6 (Int.toNat x8)).2).2).1))))) x6 x7 (iadd .i64 x8 1)))
    (none))
   (none))
  (some (.exit 0,st_f35_0_e0 x3))
noncomputable def lp_f35_0 (x3:Int)(x6:(List BlkT))(x7:Int)(x8:Int):Option (Exit×VS):=loopF (roundF g_f35 fg_f35_0 tb_f35_0) (st_f35_0 x3 x6 x7 x8)
noncomputable def n_f35_0 (x3:Int)(x6:(List BlkT))(x7:Int)(x8:Int):Option (Exit×VS):=
 br ((ilt x8 x7))
  (br (cIx x6 x8)
   (br ((okN fuel (List.map Blk.un ((((lgt tyBlkT x6 (Int.toNat x8)).2).2).1))))
    (lp_f35_0 (imx x3 (iadd .i64 1 (dpF (List.map Blk.un ((((lgt tyBlkT x6 (Int.toNat x8)).2).2).1))))) x6 x7 (iadd .i64 x8 1))
    (none))
   (none))
  (some (.exit 0,st_f35_0_e0 x3))
def la_f35_0 (x3:Int)(x6:(List BlkT))(x7:Int)(x8:Int):Option (Exit×VS):=some (.exit 0,st_f35_0_e0 (imx x3 (dpF (x6.drop x8.toNat))))
theorem be_f35_0 (x3:Int)(x6:(List BlkT))(x7:Int)(x8:Int):roundF g_f35 fg_f35_0 tb_f35_0 (st_f35_0 x3 x6 x7 x8)=b_f35_0 x3 x6 x7 x8:=by kernel_rfl
theorem ln_f35_0 (x3:Int)(x6:(List BlkT))(x7:Int)(x8:Int):lp_f35_0 x3 x6 x7 x8=n_f35_0 x3 x6 x7 x8:=(loopF_nxt _ _).trans (by
 rw [be_f35_0]
 simp only [b_f35_0,n_f35_0,nxt_br,nxt_n,nxt_r,nxt_e,nxt_0]
 rfl)
def r_f35 (p0:(List BlkT)):Option (V×List VO):=
 br ((dp0 p0 (llen p0) (0:Int) (0:Int)))
  (some (.t tI (imx (0:Int) (dpF (p0.drop (0:Int).toNat))),[]))
  (none)
theorem e_f35 (p0:(List BlkT)):runF g_f35 tc_f35 rv_f35 false [.t (.sl tyBlkT) p0] []=r_f35 p0:=by kernel_rfl
theorem ok_f35:Option.map (trC Tryd.prog) Tryd.f35.body=some tc_f35.er:=by kernel_rfl
theorem rok_f35:trVs Tryd.prog Tryd.f35.results.toList=some (rv_f35.map Prod.fst):=by kernel_rfl
theorem gk_f35:GOk Tryd.prog g_f35:=gok_of _ (by
 intro p hp
 simp only [List.mem_cons,List.not_mem_nil,or_false] at hp
 rcases hp with rfl
 ·exact ⟨en_f35R,ms_f35R⟩)
theorem l_f35_0 (x3:Int)(x6:(List BlkT))(x7:Int)(x8:Int)(h:(dp0 x6 x7 x8 x3)=true):lp_f35_0 x3 x6 x7 x8=la_f35_0 x3 x6 x7 x8:=by
 obtain ⟨h1,h2,rfl,h4,h5⟩:=cP_of h
 clear h
 obtain ⟨h6,h7,h8⟩:=okN_p h4
 obtain ⟨k,rfl⟩:=Int.eq_ofNat_of_zero_le h1
 obtain ⟨m,rfl⟩:=Int.eq_ofNat_of_zero_le h5
 refine range_ind x6 (fun k=> ∀ m:Nat,lp_f35_0 (m:Int) x6 (x6.length:Int) (k:Int)=la_f35_0 (m:Int) x6 (x6.length:Int) (k:Int)) ?_ ?_ k (by omega) m
 ·intro m
  rw [ln_f35_0]
  have e:imx (m:Int) (dpF [])=(m:Int):=(imxB m 0).trans (by rw [Nat.max_eq_left (Nat.zero_le _)])
  have e2:ilt (x6.length:Int) (x6.length:Int)=false:=decide_eq_false (by first|(simp only [llen];omega)|omega)
  unfold n_f35_0 la_f35_0
  rw [e2,br_false,Int.toNat_natCast,List.drop_length,e]
 ·intro k hk ih m
  obtain ⟨_,_,g3⟩:=h8 _ (List.getElem_mem hk)
  have g4:=dp_le _ _ (okN_b g3).1
  have e1:iadd .i64 1 (dpF (x6[k].2.2.1.map Blk.un))=((dpT (x6[k].2.2.1.map Blk.un)+1:Nat):Int):=by
   rw [iadd_in (by unfold dpF;omega)]
   unfold dpF
   omega
  have e2:ilt (k:Int) (x6.length:Int)=true:=decide_eq_true (by first|(simp only [llen];omega)|omega)
  have e3:cIx x6 (k:Int)=true:=by rw [cIx_nat];exact decide_eq_true hk
  rw [ln_f35_0]
  unfold n_f35_0
  rw [e2,e3,Int.toNat_natCast,lgt_get (y:=tyBlkT) hk,br_true,br_true]
  refine brY g3 ?_
  rw [e1,imxB,add1 (k:=k),ih]
  unfold la_f35_0
  rw [Int.toNat_natCast,Int.toNat_natCast,List.drop_eq_getElem_cons hk]
  unfold dpF
  rw [imxB,imxB,dpT_cons,Nat.max_assoc]
theorem lo_f35_0: ∀ S l p,g_f35.L 0 (fgt fg_f35_0 S)=some (true,l)->pickA l=some p->loopF (roundF g_f35 fg_f35_0 tb_f35_0) S=some p:=
 lok_of (s:=sh_f35_0) ⟨by decide,by decide⟩ (by kernel_rfl) fun x y hok p hp=>by
 simp only [pickA_br,pickA_one] at hp
 exact (l_f35_0 x.1 x.2.1 x.2.2.1 x.2.2.2.1 (by simpa using hok)).trans hp
theorem lk_f35:tc_f35.lok g_f35:=by
 repeat (first|exact trivial|exact lo_f35_0|refine ⟨?_, ?_⟩)
theorem s_f35 (l:List BlkT)(h:okN (fuel+1) l=true):r_f35 l=some (.t tI (dpF l),[]):=by
 refine brY (cP_in ⟨by omega,by omega,rfl,h,by omega⟩) ?_
 rw [Int.toNat_zero,List.drop_zero]
 have e:imx (0:Int) (dpF l)=dpF l:=(imxB 0 (dpT l)).trans (by rw [Nat.max_eq_right (Nat.zero_le _)];rfl)
 rw [e]
theorem mr_f35:Meets Tryd.prog 35 (runF g_f35 tc_f35 rv_f35 false):=by
 obtain ⟨c,hc,hi⟩:=Option.map_eq_some_iff.1 ok_f35
 exact meets_of (by decide) Tryd.func35 hc hi Tryd.ntmps35 rok_f35 gk_f35 lk_f35 mixed
end
theorem ma_blocks_Depth: ∀ N:Nat,Meets Tryd.prog 35 (strip (@sp_f35R ⟨N⟩))
 |0=>meets_zero fun x=>by first|rfl|simp [okN]
 |N+1=>by
  letI:Fuel:=⟨N⟩
  haveI:Nonempty (PLift (Meets Tryd.prog 35 (strip sp_f35R))):=⟨⟨ma_blocks_Depth N⟩⟩
  exact meets_spec mr_f35 fun x hok=>(e_f35 x.1).trans (s_f35 x.1 hok)
def sp_f35:Ent:=spec (.pr (.sl tyBlkT) .nil) (fun x=>(okT x.1)) (fun x=>(.t tI (dpF x.1)))
theorem ms_f35:Meets Tryd.prog 35 (strip sp_f35):=meets_fuel ma_blocks_Depth fun x hok=>fuel_blocks_Depth x.1 hok
theorem en_f36:Entered Tryd.prog 36:= .inr ⟨by decide,_,Tryd.func36,by kernel_rfl,by kernel_rfl⟩
def sp_f36R [Fuel]:Ent:=spec (.pr (.sl tyBlkT) .nil) (fun x=>(okN fuel x.1)) (fun x=>(.t tI (dpF x.1)))
theorem en_f36R:Entered Tryd.prog 36:=en_f36
section
variable [Fuel][Nonempty (PLift (Meets Tryd.prog 36 (strip sp_f36R)))]
theorem ms_f36R:Meets Tryd.prog 36 (strip sp_f36R):=(Classical.choice (inferInstance:Nonempty (PLift (Meets Tryd.prog 36 (strip sp_f36R))))).down
def dp1 [Fuel](l:List BlkT)(k m:Int):Bool:=cP (0<=k/\k<=l.length/\okN (fuel+1) l=true/\0<=m)
def fg_f36_0:Fg:=⟨[(0,some (.sl tyBlkT)),(3,some tI),(4,some tI)],[]⟩
def tb_f36_0:TC:=(.sq (.sq (.reg [(oV 5 4),(oV 6 0),(oP 7 (.len false (.t 6))),(oP 8 (.bin false .lss (.t 5) (.t 7)))]) (.cd (.t 8) .sk (.fg ⟨[(3,some tI)],[]⟩ (.ex 0)))) (.sq (.bk 1 (.reg [(oV 11 3),(oV 12 0),(oV 13 4),(oP 14 (.ix 4 (.t 12) (.t 13))),(oP 15 (.fa 2 (.t 14))),(oL 16 15),(oC 17 36 [(.t 16)]),(oP 18 (.bin false .add (cI 1) (.t 17))),(oP 19 (.mx (.t 11) (.t 18))),(oV 3 19)])) (.reg [(oV 9 4),(oP 10 (.bin false .add (.t 9) (cI 1))),(oV 4 10)])))
def tc_f36:TC:=(.sq (.reg [(oP 2 (.mv (cI 0)))]) (.sq (.reg [(oP 3 (.mv (cI 0)))]) (.sq (.sq (.reg [(oP 4 (.mv (cI 0)))]) (.bk 0 (.lp 0 fg_f36_0 tb_f36_0))) (.sq (.reg [(oV 20 3),(oV 2 20)]) .rt))))
def rv_f36:List (RV×Option Ty):=[((.t 2),some tI)]
abbrev sh_f36_0:Sh:=⟨[(0,.ty (.sl tyBlkT)),(3,.ty tI),(4,.ty tI)],[]⟩
def st_f36_0 (x0:(List BlkT))(x3:Int)(x4:Int):VS:=sh_f36_0.st (x0,x3,x4,()) ()
abbrev sh_f36_0_e0:Sh:=⟨[(3,.ty tI)],[]⟩
def st_f36_0_e0 (x3:Int):VS:=sh_f36_0_e0.st (x3,()) ()
-- loop 0: (x0 : (List BlkT)) (x3 : Int) (x4 : Int); out: ('exit', 0) (x3 : Int)
def L_f36_0:VS->Option (Bool×List (Bool×Exit×VS)):=mkL sh_f36_0 (fun x y=>(dp1 x.1 x.2.2.1 x.2.1)) (fun x y=>[(true,.exit 0,st_f36_0_e0 (imx x.2.1 (dpF (x.1.drop x.2.2.1.toNat))))])
def g_f36:G:=⟨TYs,[],21,EL [(36,sp_f36R)],keeps,(Ls [L_f36_0]),IL [],RL []⟩
def b_f36_0 (x0:(List BlkT))(x3:Int)(x4:Int):Option (Exit×VS):=
 br ((ilt x4 (llen x0)))
  (br (cIx x0 x4)
   (br ((okN fuel (List.map Blk.un ((((lgt tyBlkT x0 (Int.toNat x4)).2).2).1))))
    (some (.normal,st_f36_0 x0 (imx x3 (iadd .i64 1 (dpF (List.map Blk.un ((((lgt tyBlkT x0 (Int.toNat x4)).2).2).1))))) (iadd .i64 x4 1)))
    (none))
   (none))
  (some (.exit 0,st_f36_0_e0 x3))
noncomputable def lp_f36_0 (x0:(List BlkT))(x3:Int)(x4:Int):Option (Exit×VS):=loopF (roundF g_f36 fg_f36_0 tb_f36_0) (st_f36_0 x0 x3 x4)
noncomputable def n_f36_0 (x0:(List BlkT))(x3:Int)(x4:Int):Option (Exit×VS):=
 br ((ilt x4 (llen x0)))
  (br (cIx x0 x4)
   (br ((okN fuel (List.map Blk.un ((((lgt tyBlkT x0 (Int.toNat x4)).2).2).1))))
    (lp_f36_0 x0 (imx x3 (iadd .i64 1 (dpF (List.map Blk.un ((((lgt tyBlkT x0 (Int.toNat x4)).2).2).1))))) (iadd .i64 x4 1))
    (none))
   (none))
  (some (.exit 0,st_f36_0_e0 x3))
def la_f36_0 (x0:(List BlkT))(x3:Int)(x4:Int):Option (Exit×VS):=some (.exit 0,st_f36_0_e0 (imx x3 (dpF (x0.drop x4.toNat))))
theorem be_f36_0 (x0:(List BlkT))(x3:Int)(x4:Int):roundF g_f36 fg_f36_0 tb_f36_0 (st_f36_0 x0 x3 x4)=b_f36_0 x0 x3 x4:=by kernel_rfl
theorem ln_f36_0 (x0:(List BlkT))(x3:Int)(x4:Int):lp_f36_0 x0 x3 x4=n_f36_0 x0 x3 x4:=(loopF_nxt _ _).trans (by
 rw [be_f36_0]
 simp only [b_f36_0,n_f36_0,nxt_br,nxt_n,nxt_r,nxt_e,nxt_0]
 rfl)
def r_f36 (p0:(List BlkT)):Option (V×List VO):=
 br ((dp1 p0 (0:Int) (0:Int)))
  (some (.t tI (imx (0:Int) (dpF (p0.drop (0:Int).toNat))),[]))
  (none)
theorem e_f36 (p0:(List BlkT)):runF g_f36 tc_f36 rv_f36 false [.t (.sl tyBlkT) p0] []=r_f36 p0:=by kernel_rfl
theorem ok_f36:Option.map (trC Tryd.prog) Tryd.f36.body=some tc_f36.er:=by kernel_rfl
theorem rok_f36:trVs Tryd.prog Tryd.f36.results.toList=some (rv_f36.map Prod.fst):=by kernel_rfl
theorem gk_f36:GOk Tryd.prog g_f36:=gok_of _ (by
 intro p hp
 simp only [List.mem_cons,List.not_mem_nil,or_false] at hp
 rcases hp with rfl
 ·exact ⟨en_f36R,ms_f36R⟩)
theorem l_f36_0 (x0:(List BlkT))(x3:Int)(x4:Int)(h:(dp1 x0 x4 x3)=true):lp_f36_0 x0 x3 x4=la_f36_0 x0 x3 x4:=by
 obtain ⟨h1,h2,h4,h5⟩:=cP_of h
 clear h
 obtain ⟨h6,h7,h8⟩:=okN_p h4
 obtain ⟨k,rfl⟩:=Int.eq_ofNat_of_zero_le h1
 obtain ⟨m,rfl⟩:=Int.eq_ofNat_of_zero_le h5
 refine range_ind x0 (fun k=> ∀ m:Nat,lp_f36_0 x0 (m:Int) (k:Int)=la_f36_0 x0 (m:Int) (k:Int)) ?_ ?_ k (by omega) m
 ·intro m
  rw [ln_f36_0]
  have e:imx (m:Int) (dpF [])=(m:Int):=(imxB m 0).trans (by rw [Nat.max_eq_left (Nat.zero_le _)])
  have e2:ilt (x0.length:Int) (llen x0)=false:=decide_eq_false (by first|(simp only [llen];omega)|omega)
  unfold n_f36_0 la_f36_0
  rw [e2,br_false,Int.toNat_natCast,List.drop_length,e]
 ·intro k hk ih m
  obtain ⟨_,_,g3⟩:=h8 _ (List.getElem_mem hk)
  have g4:=dp_le _ _ (okN_b g3).1
  have e1:iadd .i64 1 (dpF (x0[k].2.2.1.map Blk.un))=((dpT (x0[k].2.2.1.map Blk.un)+1:Nat):Int):=by
   rw [iadd_in (by unfold dpF;omega)]
   unfold dpF
   omega
  have e2:ilt (k:Int) (llen x0)=true:=decide_eq_true (by first|(simp only [llen];omega)|omega)
  have e3:cIx x0 (k:Int)=true:=by rw [cIx_nat];exact decide_eq_true hk
  rw [ln_f36_0]
  unfold n_f36_0
  rw [e2,e3,Int.toNat_natCast,lgt_get (y:=tyBlkT) hk,br_true,br_true]
  refine brY g3 ?_
  rw [e1,imxB,add1 (k:=k),ih]
  unfold la_f36_0
  rw [Int.toNat_natCast,Int.toNat_natCast,List.drop_eq_getElem_cons hk]
  unfold dpF
  rw [imxB,imxB,dpT_cons,Nat.max_assoc]
theorem lo_f36_0: ∀ S l p,g_f36.L 0 (fgt fg_f36_0 S)=some (true,l)->pickA l=some p->loopF (roundF g_f36 fg_f36_0 tb_f36_0) S=some p:=
 lok_of (s:=sh_f36_0) ⟨by decide,by decide⟩ (by kernel_rfl) fun x y hok p hp=>by
 simp only [pickA_br,pickA_one] at hp
 exact (l_f36_0 x.1 x.2.1 x.2.2.1 (by simpa using hok)).trans hp
theorem lk_f36:tc_f36.lok g_f36:=by
 repeat (first|exact trivial|exact lo_f36_0|refine ⟨?_, ?_⟩)
theorem s_f36 (l:List BlkT)(h:okN (fuel+1) l=true):r_f36 l=some (.t tI (dpF l),[]):=by
 refine brY (cP_in ⟨by omega,by omega,h,by omega⟩) ?_
 rw [Int.toNat_zero,List.drop_zero]
 have e:imx (0:Int) (dpF l)=dpF l:=(imxB 0 (dpT l)).trans (by rw [Nat.max_eq_right (Nat.zero_le _)];rfl)
 rw [e]
theorem mr_f36:Meets Tryd.prog 36 (runF g_f36 tc_f36 rv_f36 false):=by
 obtain ⟨c,hc,hi⟩:=Option.map_eq_some_iff.1 ok_f36
 exact meets_of (by decide) Tryd.func36 hc hi Tryd.ntmps36 rok_f36 gk_f36 lk_f36 mixed
end
theorem ma_ref07_Depth: ∀ N:Nat,Meets Tryd.prog 36 (strip (@sp_f36R ⟨N⟩))
 |0=>meets_zero fun x=>by first|rfl|simp [okN]
 |N+1=>by
  letI:Fuel:=⟨N⟩
  haveI:Nonempty (PLift (Meets Tryd.prog 36 (strip sp_f36R))):=⟨⟨ma_ref07_Depth N⟩⟩
  exact meets_spec mr_f36 fun x hok=>(e_f36 x.1).trans (s_f36 x.1 hok)
def sp_f36:Ent:=spec (.pr (.sl tyBlkT) .nil) (fun x=>(okT x.1)) (fun x=>(.t tI (dpF x.1)))
theorem ms_f36:Meets Tryd.prog 36 (strip sp_f36):=meets_fuel ma_ref07_Depth fun x hok=>fuel_ref07_Depth x.1 hok
theorem fuel_ref07_wide (l:List BlkT)(h:okT l=true): ∃ N,okN N l=true:=okT_fuel h
theorem en_f73:Entered Tryd.prog 73:= .inr ⟨by decide,_,Tryd.func73,by kernel_rfl,by kernel_rfl⟩
def sp_f73R [Fuel]:Ent:=spec (.pr (.sl tyBlkT) .nil) (fun x=>(okN fuel x.1)) (fun x=>(.t .bool (wiT x.1)))
theorem en_f73R:Entered Tryd.prog 73:=en_f73
section
variable [Fuel][Nonempty (PLift (Meets Tryd.prog 73 (strip sp_f73R)))]
theorem ms_f73R:Meets Tryd.prog 73 (strip sp_f73R):=(Classical.choice (inferInstance:Nonempty (PLift (Meets Tryd.prog 73 (strip sp_f73R))))).down
def fg_f73_0:Fg:=⟨[(0,some (.sl tyBlkT)),(3,some tI)],[]⟩
def tb_f73_0:TC:=(.sq (.sq (.reg [(oV 4 3),(oV 5 0),(oP 6 (.len false (.t 5))),(oP 7 (.bin false .lss (.t 4) (.t 6)))]) (.cd (.t 7) .sk (.fg ⟨[],[]⟩ (.ex 0)))) (.sq (.bk 1 (.sq (.reg [(oV 10 0),(oV 11 3),(oP 12 (.ix 4 (.t 10) (.t 11))),(oP 13 (.fa 0 (.t 12))),(oL 14 13),(oP 15 (.len false (.t 14))),(oP 16 (.bin false .gtr (.t 15) (cI 64))),(oV 17 16),(oQ 18 17 false (.mv (.t 0))),(oQ 19 17 false (.mv (.t 3))),(oQ 20 17 false (.ix 4 (.t 18) (.t 19))),(oQ 21 17 false (.fa 2 (.t 20))),(oG 22 17 false (.m (.ld false 1 (.t 21)))),(oG 23 17 false (.call 73 [(.t 22)])),(oP 24 (.pick (.t 17) (cB true) (.t 23)))]) (.cd (.t 24) (.sq (.reg [(oP 2 (.mv (cB true)))]) (.fg ⟨[(2,some .bool)],[]⟩ .rt)) .sk))) (.reg [(oV 8 3),(oP 9 (.bin false .add (.t 8) (cI 1))),(oV 3 9)])))
def tc_f73:TC:=(.sq (.reg [(oP 2 (.mv (cB false)))]) (.sq (.sq (.reg [(oP 3 (.mv (cI 0)))]) (.bk 0 (.lp 0 fg_f73_0 tb_f73_0))) (.sq (.reg [(oP 2 (.mv (cB false)))]) .rt)))
def rv_f73:List (RV×Option Ty):=[((.t 2),some .bool)]
abbrev sh_f73_0:Sh:=⟨[(0,.ty (.sl tyBlkT)),(3,.ty tI)],[]⟩
def st_f73_0 (x0:(List BlkT))(x3:Int):VS:=sh_f73_0.st (x0,x3,()) ()
abbrev sh_f73_0_ret:Sh:=⟨[(2,.ty .bool)],[]⟩
def st_f73_0_ret (x2:Bool):VS:=sh_f73_0_ret.st (x2,()) ()
abbrev sh_f73_0_e0:Sh:=⟨[],[]⟩
def st_f73_0_e0  : VS:=sh_f73_0_e0.st () ()
-- loop 0: (x0 : (List BlkT)) (x3 : Int); out: ('ret',) (x2 : Bool); ('exit', 0)
def L_f73_0:VS->Option (Bool×List (Bool×Exit×VS)):=mkL sh_f73_0 (fun x y=>(bk1 x.1 x.2.1)) (fun x y=>[((wiT (x.1.drop x.2.1.toNat)),.ret,st_f73_0_ret (true)),(true,.exit 0,st_f73_0_e0)])
def g_f73:G:=⟨TYs,[],25,EL [(73,sp_f73R)],keeps,(Ls [L_f73_0]),IL [],RL []⟩
def b_f73_0 (x0:(List BlkT))(x3:Int):Option (Exit×VS):=
 br ((ilt x3 (llen x0)))
  (br (cIx x0 x3)
   (br ((igt (llen ((lgt tyBlkT x0 (Int.toNat x3)).1)) 64))
    (some (.ret,st_f73_0_ret true))
    (br (cIx x0 x3)
     (br ((okN fuel (List.map Blk.un ((((lgt tyBlkT x0 (Int.toNat x3)).2).2).1))))
      (br ((wiT (List.map Blk.un ((((lgt tyBlkT x0 (Int.toNat x3)).2).2).1))))
       (some (.ret,st_f73_0_ret true))
       (some (.normal,st_f73_0 x0 (iadd .i64 x3 1))))
      (none))
     (none)))
   (none))
  (some (.exit 0,st_f73_0_e0))
noncomputable def lp_f73_0 (x0:(List BlkT))(x3:Int):Option (Exit×VS):=loopF (roundF g_f73 fg_f73_0 tb_f73_0) (st_f73_0 x0 x3)
noncomputable def n_f73_0 (x0:(List BlkT))(x3:Int):Option (Exit×VS):=
 br ((ilt x3 (llen x0)))
  (br (cIx x0 x3)
   (br ((igt (llen ((lgt tyBlkT x0 (Int.toNat x3)).1)) 64))
    (some (.ret,st_f73_0_ret true))
    (br (cIx x0 x3)
     (br ((okN fuel (List.map Blk.un ((((lgt tyBlkT x0 (Int.toNat x3)).2).2).1))))
      (br ((wiT (List.map Blk.un ((((lgt tyBlkT x0 (Int.toNat x3)).2).2).1))))
       (some (.ret,st_f73_0_ret true))
       (lp_f73_0 x0 (iadd .i64 x3 1)))
      (none))
     (none)))
   (none))
  (some (.exit 0,st_f73_0_e0))
def la_f73_0 (x0:(List BlkT))(x3:Int):Option (Exit×VS):=br (wiT (x0.drop x3.toNat)) (some (.ret,st_f73_0_ret (true)))<|some (.exit 0,st_f73_0_e0)
theorem be_f73_0 (x0:(List BlkT))(x3:Int):roundF g_f73 fg_f73_0 tb_f73_0 (st_f73_0 x0 x3)=b_f73_0 x0 x3:=by kernel_rfl
theorem ln_f73_0 (x0:(List BlkT))(x3:Int):lp_f73_0 x0 x3=n_f73_0 x0 x3:=(loopF_nxt _ _).trans (by
 rw [be_f73_0]
 simp only [b_f73_0,n_f73_0,nxt_br,nxt_n,nxt_r,nxt_e,nxt_0]
 rfl)
def r_f73 (p0:(List BlkT)):Option (V×List VO):=
 br ((bk1 p0 (0:Int)))
  (br ((wiT (p0.drop (0:Int).toNat)))
   (some (.t .bool (true),[]))
   (some (.t .bool false,[])))
  (none)
theorem e_f73 (p0:(List BlkT)):runF g_f73 tc_f73 rv_f73 false [.t (.sl tyBlkT) p0] []=r_f73 p0:=by kernel_rfl
theorem ok_f73:Option.map (trC Tryd.prog) Tryd.f73.body=some tc_f73.er:=by kernel_rfl
theorem rok_f73:trVs Tryd.prog Tryd.f73.results.toList=some (rv_f73.map Prod.fst):=by kernel_rfl
theorem gk_f73:GOk Tryd.prog g_f73:=gok_of _ (by
 intro p hp
 simp only [List.mem_cons,List.not_mem_nil,or_false] at hp
 rcases hp with rfl
 ·exact ⟨en_f73R,ms_f73R⟩)
theorem l_f73_0 (x0:(List BlkT))(x3:Int)(h:(bk1 x0 x3)=true):lp_f73_0 x0 x3=la_f73_0 x0 x3:=by
 obtain ⟨h1,h2,h4⟩:=cP_of h
 clear h
 obtain ⟨h6,h7,h8⟩:=okN_p h4
 obtain ⟨k,rfl⟩:=Int.eq_ofNat_of_zero_le h1
 refine range_ind x0 (fun k=>lp_f73_0 x0 (k:Int)=la_f73_0 x0 (k:Int)) ?_ ?_ k (by omega)
 ·rw [ln_f73_0]
  have e2:ilt (x0.length:Int) (llen x0)=false:=decide_eq_false (by first|(simp only [llen];omega)|omega)
  unfold n_f73_0 la_f73_0
  rw [e2,br_false,Int.toNat_natCast,List.drop_length]
  rfl
 ·intro k hk ih
  obtain ⟨g1,_,g3⟩:=h8 _ (List.getElem_mem hk)
  have e2:ilt (k:Int) (llen x0)=true:=decide_eq_true (by first|(simp only [llen];omega)|omega)
  have e3:cIx x0 (k:Int)=true:=by rw [cIx_nat];exact decide_eq_true hk
  have e4:igt (llen x0[k].1) 64=decide (64<x0[k].1.length):=by simp only [igt,llen];rw [Bool.eq_iff_iff,decide_eq_true_eq,decide_eq_true_eq];omega
  rw [ln_f73_0]
  unfold n_f73_0
  rw [e2,e3,Int.toNat_natCast,lgt_get (y:=tyBlkT) hk,br_true,br_true,br_true,e4,g3,br_true,add1 (k:=k),ih]
  unfold la_f73_0
  rw [Int.toNat_natCast,Int.toNat_natCast,List.drop_eq_getElem_cons hk,wiT_cons]
  cases decide (64<x0[k].1.length)<;>cases wiT (x0[k].2.2.1.map Blk.un)<;>cases wiT (x0.drop (k+1))<;>rfl
theorem lo_f73_0: ∀ S l p,g_f73.L 0 (fgt fg_f73_0 S)=some (true,l)->pickA l=some p->loopF (roundF g_f73 fg_f73_0 tb_f73_0) S=some p:=
 lok_of (s:=sh_f73_0) ⟨by decide,by decide⟩ (by kernel_rfl) fun x y hok p hp=>by
 simp only [pickA_br,pickA_one] at hp
 exact (l_f73_0 x.1 x.2.1 (by simpa using hok)).trans hp
theorem lk_f73:tc_f73.lok g_f73:=by
 repeat (first|exact trivial|exact lo_f73_0|refine ⟨?_, ?_⟩)
theorem s_f73 (l:List BlkT)(h:okN (fuel+1) l=true):r_f73 l=some (.t .bool (wiT l),[]):=by
 refine brY (cP_in ⟨by omega,by omega,h⟩) ?_
 rw [Int.toNat_zero,List.drop_zero]
 cases wiT l<;>rfl
theorem mr_f73:Meets Tryd.prog 73 (runF g_f73 tc_f73 rv_f73 false):=by
 obtain ⟨c,hc,hi⟩:=Option.map_eq_some_iff.1 ok_f73
 exact meets_of (by decide) Tryd.func73 hc hi Tryd.ntmps73 rok_f73 gk_f73 lk_f73 mixed
end
theorem ma_ref07_wide: ∀ N:Nat,Meets Tryd.prog 73 (strip (@sp_f73R ⟨N⟩))
 |0=>meets_zero fun x=>by first|rfl|simp [okN]
 |N+1=>by
  letI:Fuel:=⟨N⟩
  haveI:Nonempty (PLift (Meets Tryd.prog 73 (strip sp_f73R))):=⟨⟨ma_ref07_wide N⟩⟩
  exact meets_spec mr_f73 fun x hok=>(e_f73 x.1).trans (s_f73 x.1 hok)
def sp_f73:Ent:=spec (.pr (.sl tyBlkT) .nil) (fun x=>(okT x.1)) (fun x=>(.t .bool (wiT x.1)))
theorem ms_f73:Meets Tryd.prog 73 (strip sp_f73):=meets_fuel ma_ref07_wide fun x hok=>fuel_ref07_wide x.1 hok
end
end Go.Proofs.YtkkoedniahnneaaDoor.K
set_option linter.unusedSectionVars false
namespace Go.Proofs.YtkkoedniahnneaaDoor.K
open Go.RowKit
noncomputable section
set_option linter.unusedSectionVars false
theorem emp_len {α:Type}(l:List α):ieq (llen l) 0=l.isEmpty:=by
 cases l with
 |nil=>rfl
 |cons x l=>
  simp only [ieq,llen,List.length_cons,List.isEmpty_cons]
  exact beq_eq_false_iff_ne.2 (by omega)
theorem emp_un (l:List K.Blk):igt (llen (List.map Blk.un l)) 0= !l.isEmpty:=by
 cases l with
 |nil=>rfl
 |cons x l=>
  simp only [igt,llen,List.map_cons,List.length_cons,List.length_map,List.isEmpty_cons]
  exact decide_eq_true (by omega)
def fwR (ws:List ByteArray)(k:Nat):Bool:=(ws.drop k).all clB&&(!(k==0)||plnB (ws.headD (ByteArray.mk #[])))
def fw0 (ws:List ByteArray)(n k:Int):Bool:=cP (0<=k/\k<=ws.length/\n=ws.length/\ws.length<=100000/\ws.all wsz=true)
theorem fuel_blocks_formed (l:List BlkT)(h:okT l=true): ∃ N,okN N l=true:=okT_fuel h
theorem fuel_ref07_formed (l:List BlkT)(h:okT l=true): ∃ N,okN N l=true:=okT_fuel h
theorem en_f70:Entered Tryd.prog 70:= .inr ⟨by decide,_,Tryd.func70,by kernel_rfl,by kernel_rfl⟩
def sp_f70R [Fuel]:Ent:=spec (.pr (.sl tyBlkT) .nil) (fun x=>(okN fuel x.1)) (fun x=>(.t .bool (frT x.1)))
theorem en_f70R:Entered Tryd.prog 70:=en_f70
section
variable [Fuel][Nonempty (PLift (Meets Tryd.prog 70 (strip sp_f70R)))]
theorem ms_f70R:Meets Tryd.prog 70 (strip sp_f70R):=(Classical.choice (inferInstance:Nonempty (PLift (Meets Tryd.prog 70 (strip sp_f70R))))).down
def fg_f70_0:Fg:=⟨[(9,some (.sl tyBlkT)),(10,some tI),(11,some tI),(37,some (.sl .str)),(38,some tI),(39,some tI)],[]⟩
def tb_f70_0:TC:=(.sq (.reg [(oP 40 (.bin false .lss (.t 39) (.t 38)))]) (.sq (.cd (.t 40) .sk (.fg ⟨[(9,some (.sl tyBlkT)),(10,some tI),(11,some tI)],[]⟩ (.ex 2))) (.sq (.bk 3 (.sq (.reg [(oV 41 39),(oP 42 (.ix 1 (.t 37) (.t 39))),(oL 43 42),(oV 5 41),(oV 6 43)]) (.sq (.reg [(oV 45 6),(oC 46 114 [(.t 45)]),(oV 44 46),(oP 47 (.ext 0 (.t 44))),(oP 48 (.ext 1 (.t 44))),(oV 7 47),(oV 8 48)]) (.sq (.reg [(oV 49 7),(oP 50 (.nt (.t 49))),(oV 51 50),(oQ 52 51 false (.mv (.t 5))),(oQ 53 51 false (.bin false .eql (.t 52) (cI 0))),(oQ 54 51 false (.mv (.t 53))),(oQ 55 54 true (.mv (.t 8))),(oQ 56 54 true (.nt (.t 55))),(oQ 57 51 false (.pick (.t 54) (.t 56) (cB false))),(oP 58 (.pick (.t 51) (cB true) (.t 57)))]) (.cd (.t 58) (.sq (.reg [(oP 2 (.mv (cB false)))]) (.fg ⟨[(2,some .bool)],[]⟩ .rt)) .sk))))) (.reg [(oP 59 (.bin false .add (.t 39) (cI 1))),(oV 39 59)]))))
def fg_f70_1:Fg:=⟨[(9,some (.sl tyBlkT)),(10,some tI),(11,some tI)],[]⟩
def tb_f70_1:TC:=(.sq (.reg [(oP 12 (.bin false .lss (.t 11) (.t 10)))]) (.sq (.cd (.t 12) .sk (.fg ⟨[],[]⟩ (.ex 0))) (.sq (.bk 1 (.sq (.reg [(oP 13 (.ix 4 (.t 9) (.t 11))),(oM 14 (.ld true 4 (.t 13))),(oM 4 (.new [(.v (.slice none 0 0)),(.v (.bool false)),(.v (.slice none 0 0)),(.v (.int .i64 0))])),(.mk none none (.m (.st 4 (.t 4) (.t 14))))]) (.sq (.sq (.reg [(oP 15 (.fa 0 (.t 4))),(oL 16 15),(oP 17 (.len false (.t 16))),(oP 18 (.bin false .eql (.t 17) (cI 0))),(oV 19 18),(oQ 20 19 false (.fa 1 (.t 4))),(oG 21 19 false (.m (.ld false 1 (.t 20)))),(oQ 22 19 false (.nt (.t 21))),(oQ 23 19 false (.mv (.t 22))),(oQ 24 23 true (.fa 2 (.t 4))),(oG 25 23 true (.m (.ld false 1 (.t 24)))),(oQ 26 23 true (.len false (.t 25))),(oQ 27 23 true (.bin false .gtr (.t 26) (cI 0))),(oQ 28 19 false (.pick (.t 23) (.t 27) (cB false))),(oP 29 (.pick (.t 19) (cB true) (.t 28))),(oV 30 29),(oQ 31 30 false (.fa 2 (.t 4))),(oG 32 30 false (.m (.ld false 1 (.t 31)))),(oG 33 30 false (.call 70 [(.t 32)])),(oQ 34 30 false (.nt (.t 33))),(oP 35 (.pick (.t 30) (cB true) (.t 34)))]) (.cd (.t 35) (.sq (.reg [(oP 2 (.mv (cB false)))]) (.fg ⟨[(2,some .bool)],[]⟩ .rt)) .sk)) (.sq (.reg [(oP 36 (.fa 0 (.t 4))),(oL 37 36),(oP 38 (.len false (.t 37))),(oP 39 (.mv (cI 0)))]) (.bk 2 (.lp 0 fg_f70_0 tb_f70_0)))))) (.reg [(oP 60 (.bin false .add (.t 11) (cI 1))),(oV 11 60)]))))
def tc_f70:TC:=(.sq (.reg [(oP 2 (.mv (cB false)))]) (.sq (.sq (.reg [(oV 9 0),(oP 10 (.len false (.t 9))),(oP 11 (.mv (cI 0)))]) (.bk 0 (.lp 1 fg_f70_1 tb_f70_1))) (.sq (.reg [(oP 2 (.mv (cB true)))]) .rt)))
def rv_f70:List (RV×Option Ty):=[((.t 2),some .bool)]
abbrev sh_f70_0:Sh:=⟨[(9,.ty (.sl tyBlkT)),(10,.ty tI),(11,.ty tI),(37,.ty (.sl .str)),(38,.ty tI),(39,.ty tI)],[]⟩
def st_f70_0 (x9:(List BlkT))(x10:Int)(x11:Int)(x37:(List ByteArray))(x38:Int)(x39:Int):VS:=sh_f70_0.st (x9,x10,x11,x37,x38,x39,()) ()
abbrev sh_f70_0_ret:Sh:=⟨[(2,.ty .bool)],[]⟩
def st_f70_0_ret (x2:Bool):VS:=sh_f70_0_ret.st (x2,()) ()
abbrev sh_f70_0_e2:Sh:=⟨[(9,.ty (.sl tyBlkT)),(10,.ty tI),(11,.ty tI)],[]⟩
def st_f70_0_e2 (x9:(List BlkT))(x10:Int)(x11:Int):VS:=sh_f70_0_e2.st (x9,x10,x11,()) ()
-- loop 0: (x9 : (List BlkT)) (x10 : Int) (x11 : Int) (x37 : (List ByteArray)) (x38 : Int) (x39 : Int); out: ('ret',) (x2 : Bool); ('exit', 2) (x9 : (List BlkT)) (x10 : Int) (x11 : Int)
abbrev sh_f70_1:Sh:=⟨[(9,.ty (.sl tyBlkT)),(10,.ty tI),(11,.ty tI)],[]⟩
def st_f70_1 (x9:(List BlkT))(x10:Int)(x11:Int):VS:=sh_f70_1.st (x9,x10,x11,()) ()
abbrev sh_f70_1_ret:Sh:=⟨[(2,.ty .bool)],[]⟩
def st_f70_1_ret (x2:Bool):VS:=sh_f70_1_ret.st (x2,()) ()
abbrev sh_f70_1_e0:Sh:=⟨[],[]⟩
def st_f70_1_e0  : VS:=sh_f70_1_e0.st () ()
-- loop 1: (x9 : (List BlkT)) (x10 : Int) (x11 : Int); out: ('ret',) (x2 : Bool); ('exit', 0)
def L_f70_0:VS->Option (Bool×List (Bool×Exit×VS)):=mkL sh_f70_0 (fun x y=>(fw0 x.2.2.2.1 x.2.2.2.2.1 x.2.2.2.2.2.1)) (fun x y=>[((!(bif ieq x.2.2.2.2.2.1 x.2.2.2.2.1 then true else fwR x.2.2.2.1 x.2.2.2.2.2.1.toNat)),.ret,st_f70_0_ret (false)),(true,.exit 2,st_f70_0_e2 (x.1) (x.2.1) (x.2.2.1))])
def L_f70_1:VS->Option (Bool×List (Bool×Exit×VS)):=mkL sh_f70_1 (fun x y=>(bk0 x.1 x.2.1 x.2.2.1)) (fun x y=>[((!frT (x.1.drop x.2.2.1.toNat)),.ret,st_f70_1_ret (false)),(true,.exit 0,st_f70_1_e0)])
def g_f70:G:=⟨TYs,[],61,EL [(70,sp_f70R),(114,sp_f114)],keeps,(Ls [L_f70_0,L_f70_1]),IL [],RL []⟩
def b_f70_0 (x9:(List BlkT))(x10:Int)(x11:Int)(x37:(List ByteArray))(x38:Int)(x39:Int):Option (Exit×VS):=
 br ((ilt x39 x38))
  (br (cIx x37 x39)
   (br ((wdOk (lgt .str x37 (Int.toNat x39))))
    (br ((!((wdF (lgt .str x37 (Int.toNat x39))).1)))
     (some (.ret,st_f70_0_ret false))
     (br ((ieq x39 0))
      (br ((!((wdF (lgt .str x37 (Int.toNat x39))).2)))
       (some (.ret,st_f70_0_ret false))
       (some (.normal,st_f70_0 x9 x10 x11 x37 x38 (iadd .i64 x39 1))))
      (some (.normal,st_f70_0 x9 x10 x11 x37 x38 (iadd .i64 x39 1)))))
    (none))
   (none))
  (some (.exit 2,st_f70_0_e2 x9 x10 x11))
noncomputable def lp_f70_0 (x9:(List BlkT))(x10:Int)(x11:Int)(x37:(List ByteArray))(x38:Int)(x39:Int):Option (Exit×VS):=loopF (roundF g_f70 fg_f70_0 tb_f70_0) (st_f70_0 x9 x10 x11 x37 x38 x39)
noncomputable def n_f70_0 (x9:(List BlkT))(x10:Int)(x11:Int)(x37:(List ByteArray))(x38:Int)(x39:Int):Option (Exit×VS):=
 br ((ilt x39 x38))
  (br (cIx x37 x39)
   (br ((wdOk (lgt .str x37 (Int.toNat x39))))
    (br ((!((wdF (lgt .str x37 (Int.toNat x39))).1)))
     (some (.ret,st_f70_0_ret false))
     (br ((ieq x39 0))
      (br ((!((wdF (lgt .str x37 (Int.toNat x39))).2)))
       (some (.ret,st_f70_0_ret false))
       (lp_f70_0 x9 x10 x11 x37 x38 (iadd .i64 x39 1)))
      (lp_f70_0 x9 x10 x11 x37 x38 (iadd .i64 x39 1))))
    (none))
   (none))
  (some (.exit 2,st_f70_0_e2 x9 x10 x11))
def la_f70_0 (x9:(List BlkT))(x10:Int)(x11:Int)(x37:(List ByteArray))(x38:Int)(x39:Int):Option (Exit×VS):=br (!(bif ieq x39 x38 then true else fwR x37 x39.toNat)) (some (.ret,st_f70_0_ret (false)))<|some (.exit 2,st_f70_0_e2 (x9) (x10) (x11))
theorem be_f70_0 (x9:(List BlkT))(x10:Int)(x11:Int)(x37:(List ByteArray))(x38:Int)(x39:Int):roundF g_f70 fg_f70_0 tb_f70_0 (st_f70_0 x9 x10 x11 x37 x38 x39)=b_f70_0 x9 x10 x11 x37 x38 x39:=by kernel_rfl
theorem ln_f70_0 (x9:(List BlkT))(x10:Int)(x11:Int)(x37:(List ByteArray))(x38:Int)(x39:Int):lp_f70_0 x9 x10 x11 x37 x38 x39=n_f70_0 x9 x10 x11 x37 x38 x39:=(loopF_nxt _ _).trans (by
 rw [be_f70_0]
 simp only [b_f70_0,n_f70_0,nxt_br,nxt_n,nxt_r,nxt_e,nxt_0]
 rfl)
def b_f70_1_1 (x9:(List BlkT))(x10:Int)(x11:Int):Option (Exit×VS):=
 br ((okN fuel (List.map Blk.un ((((lgt tyBlkT x9 (Int.toNat x11)).2).2).1))))
  (br ((!(frT (List.map Blk.un ((((lgt tyBlkT x9 (Int.toNat x11)).2).2).1)))))
   (some (.ret,st_f70_1_ret false))
   (br ((fw0 ((lgt tyBlkT x9 (Int.toNat x11)).1) (llen ((lgt tyBlkT x9 (Int.toNat x11)).1)) (0:Int)))
    (br ((!(bif ieq (0:Int) (llen ((lgt tyBlkT x9 (Int.toNat x11)).1)) then true else fwR ((lgt tyBlkT x9 (Int.toNat x11)).1) (0:Int).toNat)))
     (some (.ret,st_f70_1_ret (false)))
     (some (.normal,st_f70_1 (x9) (x10) (iadd .i64 (x11) 1))))
    (none)))
  (none)
def b_f70_1 (x9:(List BlkT))(x10:Int)(x11:Int):Option (Exit×VS):=
 br ((ilt x11 x10))
  (br (cIx x9 x11)
   (br ((ieq (llen ((lgt tyBlkT x9 (Int.toNat x11)).1)) 0))
    (some (.ret,st_f70_1_ret false))
    (br ((!(((lgt tyBlkT x9 (Int.toNat x11)).2).1)))
     (br ((igt (llen (List.map Blk.un ((((lgt tyBlkT x9 (Int.toNat x11)).2).2).1))) 0))
      (some (.ret,st_f70_1_ret false))
      (b_f70_1_1 x9 x10 x11))
     (b_f70_1_1 x9 x10 x11)))
   (none))
  (some (.exit 0,st_f70_1_e0))
noncomputable def lp_f70_1 (x9:(List BlkT))(x10:Int)(x11:Int):Option (Exit×VS):=loopF (roundF g_f70 fg_f70_1 tb_f70_1) (st_f70_1 x9 x10 x11)
noncomputable def n_f70_1_1 (x9:(List BlkT))(x10:Int)(x11:Int):Option (Exit×VS):=
 br ((okN fuel (List.map Blk.un ((((lgt tyBlkT x9 (Int.toNat x11)).2).2).1))))
  (br ((!(frT (List.map Blk.un ((((lgt tyBlkT x9 (Int.toNat x11)).2).2).1)))))
   (some (.ret,st_f70_1_ret false))
   (br ((fw0 ((lgt tyBlkT x9 (Int.toNat x11)).1) (llen ((lgt tyBlkT x9 (Int.toNat x11)).1)) (0:Int)))
    (br ((!(bif ieq (0:Int) (llen ((lgt tyBlkT x9 (Int.toNat x11)).1)) then true else fwR ((lgt tyBlkT x9 (Int.toNat x11)).1) (0:Int).toNat)))
     (some (.ret,st_f70_1_ret (false)))
     (lp_f70_1 (x9) (x10) (iadd .i64 (x11) 1)))
    (none)))
  (none)
noncomputable def n_f70_1 (x9:(List BlkT))(x10:Int)(x11:Int):Option (Exit×VS):=
 br ((ilt x11 x10))
  (br (cIx x9 x11)
   (br ((ieq (llen ((lgt tyBlkT x9 (Int.toNat x11)).1)) 0))
    (some (.ret,st_f70_1_ret false))
    (br ((!(((lgt tyBlkT x9 (Int.toNat x11)).2).1)))
     (br ((igt (llen (List.map Blk.un ((((lgt tyBlkT x9 (Int.toNat x11)).2).2).1))) 0))
      (some (.ret,st_f70_1_ret false))
      (n_f70_1_1 x9 x10 x11))
     (n_f70_1_1 x9 x10 x11)))
   (none))
  (some (.exit 0,st_f70_1_e0))
def la_f70_1 (x9:(List BlkT))(x10:Int)(x11:Int):Option (Exit×VS):=br (!frT (x9.drop x11.toNat)) (some (.ret,st_f70_1_ret (false)))<|some (.exit 0,st_f70_1_e0)
theorem be_f70_1 (x9:(List BlkT))(x10:Int)(x11:Int):roundF g_f70 fg_f70_1 tb_f70_1 (st_f70_1 x9 x10 x11)=b_f70_1 x9 x10 x11:=by kernel_rfl
theorem ln_f70_1 (x9:(List BlkT))(x10:Int)(x11:Int):lp_f70_1 x9 x10 x11=n_f70_1 x9 x10 x11:=(loopF_nxt _ _).trans (by
 rw [be_f70_1]
 simp only [b_f70_1,b_f70_1_1,n_f70_1,n_f70_1_1,nxt_br,nxt_n,nxt_r,nxt_e,nxt_0]
 rfl)
def r_f70 (p0:(List BlkT)):Option (V×List VO):=
 br ((bk0 p0 (llen p0) (0:Int)))
  (br ((!frT (p0.drop (0:Int).toNat)))
   (some (.t .bool (false),[]))
   (some (.t .bool true,[])))
  (none)
theorem e_f70 (p0:(List BlkT)):runF g_f70 tc_f70 rv_f70 false [.t (.sl tyBlkT) p0] []=r_f70 p0:=by kernel_rfl
theorem ok_f70:Option.map (trC Tryd.prog) Tryd.f70.body=some tc_f70.er:=by kernel_rfl
theorem rok_f70:trVs Tryd.prog Tryd.f70.results.toList=some (rv_f70.map Prod.fst):=by kernel_rfl
theorem gk_f70:GOk Tryd.prog g_f70:=gok_of _ (by
 intro p hp
 simp only [List.mem_cons,List.not_mem_nil,or_false] at hp
 rcases hp with rfl|rfl
 ·exact ⟨en_f70R,ms_f70R⟩
 ·exact ⟨en_f114,ms_f114⟩)
theorem l_f70_0 (x9:(List BlkT))(x10:Int)(x11:Int)(x37:(List ByteArray))(x38:Int)(x39:Int)(h:(fw0 x37 x38 x39)=true):lp_f70_0 x9 x10 x11 x37 x38 x39=la_f70_0 x9 x10 x11 x37 x38 x39:=by
 obtain ⟨h1,h2,rfl,h4,h5⟩:=cP_of h
 clear h
 obtain ⟨k,rfl⟩:=Int.eq_ofNat_of_zero_le h1
 refine range_ind x37 (fun k=>lp_f70_0 x9 x10 x11 x37 (x37.length:Int) (k:Int)=la_f70_0 x9 x10 x11 x37 (x37.length:Int) (k:Int)) ?_ ?_ k (by omega)
 ·rw [ln_f70_0]
  have e2:ilt (x37.length:Int) (x37.length:Int)=false:=decide_eq_false (by omega)
  unfold n_f70_0 la_f70_0
  rw [e2,br_false,ieq_s,cond_true,Bool.not_true,br_false]
 ·intro k hk ih
  have hs:wsz x37[k]=true:=List.all_eq_true.1 h5 _ (List.getElem_mem hk)
  have hs2:x37[k].size<=2000000000:=of_decide_eq_true hs
  have e2:ilt (k:Int) (x37.length:Int)=true:=decide_eq_true (by omega)
  have e3:cIx x37 (k:Int)=true:=by rw [cIx_nat];exact decide_eq_true hk
  have e4:wdOk x37[k]=true:=decide_eq_true (by omega)
  have e5:ieq (k:Int) (x37.length:Int)=false:=beq_eq_false_iff_ne.2 (by omega)
  have e6:ieq (k:Int) 0=(k==0):=by simp only [ieq];rw [Bool.eq_iff_iff,beq_iff_eq,beq_iff_eq];omega
  have e7:(bif ieq ((k+1:Nat):Int) (x37.length:Int) then true else fwR x37 (((k+1:Nat):Int)).toNat)=(x37.drop (k+1)).all clB:=by
   rw [Int.toNat_natCast]
   cases h:ieq ((k+1:Nat):Int) (x37.length:Int) with
   |true=>
    have:k+1=x37.length:=by have:=eq_of_beq h;omega
    rw [cond_true,List.drop_eq_nil_of_le (by omega)]
    rfl
   |false=>
    rw [cond_false]
    unfold fwR
    rw [show (!(k+1==0))=true from rfl,Bool.true_or,Bool.and_true]
  have e8:fwR x37 k=(clB x37[k]&&((!(k==0)||plnB x37[k])&&(x37.drop (k+1)).all clB)):=by
   unfold fwR
   rw [List.drop_eq_getElem_cons hk,List.all_cons]
   cases hz:k==0 with
   |true=>
    obtain rfl:k=0:=eq_of_beq hz
    have:x37.headD (ByteArray.mk #[])=x37[0]:=by cases x37 with|nil=>cases hk|cons a b=>rfl
    rw [this]
    cases clB x37[0]<;>cases plnB x37[0]<;>cases (x37.drop (0+1)).all clB<;>rfl
   |false=>
    cases clB x37[k]<;>cases (x37.drop (k+1)).all clB<;>rfl
  rw [ln_f70_0]
  unfold n_f70_0
  rw [e2,e3,Int.toNat_natCast,lgt_get (y:= .str) hk,e4,br_true,br_true,br_true,e6,add1 (k:=k),ih]
  unfold la_f70_0
  rw [e7,e5,cond_false,Int.toNat_natCast,e8]
  show br (!clB x37[k]) _ (br (k==0) (br (!plnB x37[k]) _ _) _)=_
  cases clB x37[k]<;>cases (k==0)<;>cases plnB x37[k]<;>cases (x37.drop (k+1)).all clB<;>rfl
theorem l_f70_1 (x9:(List BlkT))(x10:Int)(x11:Int)(h:(bk0 x9 x10 x11)=true):lp_f70_1 x9 x10 x11=la_f70_1 x9 x10 x11:=by
 obtain ⟨h1,h2,rfl,h4⟩:=cP_of h
 clear h
 obtain ⟨h6,h7,h8⟩:=okN_p h4
 obtain ⟨k,rfl⟩:=Int.eq_ofNat_of_zero_le h1
 refine range_ind x9 (fun k=>lp_f70_1 x9 (x9.length:Int) (k:Int)=la_f70_1 x9 (x9.length:Int) (k:Int)) ?_ ?_ k (by omega)
 ·rw [ln_f70_1]
  have e2:ilt (x9.length:Int) (x9.length:Int)=false:=decide_eq_false (by omega)
  unfold n_f70_1 la_f70_1
  rw [e2,br_false,Int.toNat_natCast,List.drop_length]
  rfl
 ·intro k hk ih
  obtain ⟨g1,g2,g3⟩:=h8 _ (List.getElem_mem hk)
  have e2:ilt (k:Int) (x9.length:Int)=true:=decide_eq_true (by omega)
  have e3:cIx x9 (k:Int)=true:=by rw [cIx_nat];exact decide_eq_true hk
  have e4:fw0 x9[k].1 (llen x9[k].1) 0=true:=cP_in ⟨by omega,by omega,rfl,g1,g2⟩
  rw [ln_f70_1]
  simp only [n_f70_1,n_f70_1_1]
  rw [e2,e3,Int.toNat_natCast,lgt_get (y:=tyBlkT) hk,br_true,br_true,g3,br_true,add1 (k:=k),ih,emp_len,emp_un,e4,br_true]
  unfold la_f70_1
  rw [Int.toNat_natCast,Int.toNat_natCast,List.drop_eq_getElem_cons hk,frT_cons]
  cases hw:x9[k].1.isEmpty with
  |true=>rfl
  |false=>
   have hne:ieq 0 (llen x9[k].1)=false:=by
    simp only [ieq,llen]
    refine beq_eq_false_iff_ne.2 fun e=> ?_
    have:x9[k].1=[]:=List.eq_nil_of_length_eq_zero (by omega)
    rw [this] at hw
    cases hw
   rw [hne,cond_false]
   unfold fwR
   rw [Int.toNat_zero,List.drop_zero]
   show br false _ (br (!x9[k].2.1) (br (!x9[k].2.2.1.isEmpty) _ _) _)=_
   cases x9[k].2.1<;>cases x9[k].2.2.1.isEmpty<;>cases frT (x9[k].2.2.1.map Blk.un)<;>cases x9[k].1.all clB<;>cases plnB (x9[k].1.headD (ByteArray.mk #[]))<;>cases frT (x9.drop (k+1))<;>rfl
theorem lo_f70_0: ∀ S l p,g_f70.L 0 (fgt fg_f70_0 S)=some (true,l)->pickA l=some p->loopF (roundF g_f70 fg_f70_0 tb_f70_0) S=some p:=
 lok_of (s:=sh_f70_0) ⟨by decide,by decide⟩ (by kernel_rfl) fun x y hok p hp=>by
 simp only [pickA_br,pickA_one] at hp
 exact (l_f70_0 x.1 x.2.1 x.2.2.1 x.2.2.2.1 x.2.2.2.2.1 x.2.2.2.2.2.1 (by simpa using hok)).trans hp
theorem lo_f70_1: ∀ S l p,g_f70.L 1 (fgt fg_f70_1 S)=some (true,l)->pickA l=some p->loopF (roundF g_f70 fg_f70_1 tb_f70_1) S=some p:=
 lok_of (s:=sh_f70_1) ⟨by decide,by decide⟩ (by kernel_rfl) fun x y hok p hp=>by
 simp only [pickA_br,pickA_one] at hp
 exact (l_f70_1 x.1 x.2.1 x.2.2.1 (by simpa using hok)).trans hp
theorem lk_f70:tc_f70.lok g_f70:=by
 repeat (first|exact trivial|exact lo_f70_0|exact lo_f70_1|refine ⟨?_, ?_⟩)
theorem s_f70 (l:List BlkT)(h:okN (fuel+1) l=true):r_f70 l=some (.t .bool (frT l),[]):=by
 refine brY (cP_in ⟨by omega,by omega,rfl,h⟩) ?_
 rw [Int.toNat_zero,List.drop_zero]
 cases frT l<;>rfl
theorem mr_f70:Meets Tryd.prog 70 (runF g_f70 tc_f70 rv_f70 false):=by
 obtain ⟨c,hc,hi⟩:=Option.map_eq_some_iff.1 ok_f70
 exact meets_of (by decide) Tryd.func70 hc hi Tryd.ntmps70 rok_f70 gk_f70 lk_f70 mixed
end
theorem ma_blocks_formed: ∀ N:Nat,Meets Tryd.prog 70 (strip (@sp_f70R ⟨N⟩))
 |0=>meets_zero fun x=>by first|rfl|simp [okN]
 |N+1=>by
  letI:Fuel:=⟨N⟩
  haveI:Nonempty (PLift (Meets Tryd.prog 70 (strip sp_f70R))):=⟨⟨ma_blocks_formed N⟩⟩
  exact meets_spec mr_f70 fun x hok=>(e_f70 x.1).trans (s_f70 x.1 hok)
def sp_f70:Ent:=spec (.pr (.sl tyBlkT) .nil) (fun x=>(okT x.1)) (fun x=>(.t .bool (frT x.1)))
theorem ms_f70:Meets Tryd.prog 70 (strip sp_f70):=meets_fuel ma_blocks_formed fun x hok=>fuel_blocks_formed x.1 hok
theorem headD_get {α:Type}{l:List α}{d:α}(h:0<l.length):l.headD d=l[0]:=by
 cases l with
 |nil=>cases h
 |cons a b=>rfl
abbrev wrA (l:List BlkT)(i:Int):List ByteArray:=(lgt tyBlkT l i.toNat).1
abbrev wrAt (l:List BlkT)(i j:Int):ByteArray:=lgt .str (wrA l i) j.toNat
def fr0 (l:List BlkT)(i j k:Int):Bool:=cP (cIx l i=true/\cIx (wrA l i) j=true/\wsz (wrAt l i j)=true/\0<=k/\k<=(wrAt l i j).size)
def fr1 (l:List BlkT)(i j:Int):Bool:=cP (cIx l i=true/\0<=j/\j<=(wrA l i).length/\(wrA l i).length<=100000/\(wrA l i).all wsz=true)
theorem cl3 {c:Int}{X Y:Option (Exit×VS)}:br (ine c 9) (br (ilt c 32) X (br (igt c 126) X Y)) Y=br (!isClI c) X Y:=by
 unfold isClI
 show br (!ieq c 9) _ _=_
 cases ieq c 9<;>cases ilt c 32<;>cases igt c 126<;>rfl
theorem en_f72:Entered Tryd.prog 72:= .inr ⟨by decide,_,Tryd.func72,by kernel_rfl,by kernel_rfl⟩
def sp_f72R [Fuel]:Ent:=spec (.pr (.sl tyBlkT) .nil) (fun x=>(okN fuel x.1)) (fun x=>(.t .bool (frT x.1)))
theorem en_f72R:Entered Tryd.prog 72:=en_f72
section
variable [Fuel][Nonempty (PLift (Meets Tryd.prog 72 (strip sp_f72R)))]
theorem ms_f72R:Meets Tryd.prog 72 (strip sp_f72R):=(Classical.choice (inferInstance:Nonempty (PLift (Meets Tryd.prog 72 (strip sp_f72R))))).down
def fg_f72_0:Fg:=⟨[(0,some (.sl tyBlkT)),(3,some tI),(4,some tI),(5,some tI)],[]⟩
def tb_f72_0:TC:=(.sq (.sq (.reg [(oV 67 5),(oV 68 0),(oV 69 3),(oP 70 (.ix 4 (.t 68) (.t 69))),(oP 71 (.fa 0 (.t 70))),(oL 72 71),(oV 73 4),(oP 74 (.ix 1 (.t 72) (.t 73))),(oL 75 74),(oP 76 (.len true (.t 75))),(oP 77 (.bin false .lss (.t 67) (.t 76)))]) (.cd (.t 77) .sk (.fg ⟨[(0,some (.sl tyBlkT)),(3,some tI),(4,some tI)],[]⟩ (.ex 4)))) (.sq (.bk 5 (.sq (.reg [(oV 80 0),(oV 81 3),(oP 82 (.ix 4 (.t 80) (.t 81))),(oP 83 (.fa 0 (.t 82))),(oL 84 83),(oV 85 4),(oP 86 (.ix 1 (.t 84) (.t 85))),(oL 87 86),(oV 88 5),(oP 89 (.sx (.t 87) (.t 88))),(oV 6 89)]) (.sq (.reg [(oV 90 6),(oP 91 (.bin false .neq (.t 90) (.c (.v (.int .u8 9))))),(oV 92 91),(oQ 93 92 true (.mv (.t 6))),(oQ 94 92 true (.bin false .lss (.t 93) (.c (.v (.int .u8 32))))),(oQ 95 92 true (.mv (.t 94))),(oQ 96 95 false (.mv (.t 6))),(oQ 97 95 false (.bin false .gtr (.t 96) (.c (.v (.int .u8 126))))),(oQ 98 92 true (.pick (.t 95) (cB true) (.t 97))),(oP 99 (.pick (.t 92) (.t 98) (cB false)))]) (.cd (.t 99) (.sq (.reg [(oP 2 (.mv (cB false)))]) (.fg ⟨[(2,some .bool)],[]⟩ .rt)) .sk)))) (.reg [(oV 78 5),(oP 79 (.bin false .add (.t 78) (cI 1))),(oV 5 79)])))
def fg_f72_1:Fg:=⟨[(0,some (.sl tyBlkT)),(3,some tI),(4,some tI)],[]⟩
def tb_f72_1:TC:=(.sq (.sq (.reg [(oV 57 4),(oV 58 0),(oV 59 3),(oP 60 (.ix 4 (.t 58) (.t 59))),(oP 61 (.fa 0 (.t 60))),(oL 62 61),(oP 63 (.len false (.t 62))),(oP 64 (.bin false .lss (.t 57) (.t 63)))]) (.cd (.t 64) .sk (.fg ⟨[(0,some (.sl tyBlkT)),(3,some tI)],[]⟩ (.ex 2)))) (.sq (.bk 3 (.sq (.reg [(oP 5 (.mv (cI 0)))]) (.bk 4 (.lp 0 fg_f72_0 tb_f72_0)))) (.reg [(oV 65 4),(oP 66 (.bin false .add (.t 65) (cI 1))),(oV 4 66)])))
def fg_f72_2:Fg:=⟨[(0,some (.sl tyBlkT)),(3,some tI)],[]⟩
def tb_f72_2:TC:=(.sq (.sq (.reg [(oV 7 3),(oV 8 0),(oP 9 (.len false (.t 8))),(oP 10 (.bin false .lss (.t 7) (.t 9)))]) (.cd (.t 10) .sk (.fg ⟨[],[]⟩ (.ex 0)))) (.sq (.bk 1 (.sq (.sq (.reg [(oV 13 0),(oV 14 3),(oP 15 (.ix 4 (.t 13) (.t 14))),(oP 16 (.fa 0 (.t 15))),(oL 17 16),(oP 18 (.len false (.t 17))),(oP 19 (.bin false .eql (.t 18) (cI 0))),(oV 20 19),(oQ 21 20 false (.mv (.t 0))),(oQ 22 20 false (.mv (.t 3))),(oQ 23 20 false (.ix 4 (.t 21) (.t 22))),(oQ 24 20 false (.fa 0 (.t 23))),(oG 25 20 false (.m (.ld false 1 (.t 24)))),(oQ 26 20 false (.ix 1 (.t 25) (cI 0))),(oG 27 20 false (.m (.ld false 1 (.t 26)))),(oG 28 20 false (.call 115 [(.t 27)])),(oQ 29 20 false (.nt (.t 28))),(oP 30 (.pick (.t 20) (cB true) (.t 29))),(oV 31 30),(oQ 32 31 false (.mv (.t 0))),(oQ 33 31 false (.mv (.t 3))),(oQ 34 31 false (.ix 4 (.t 32) (.t 33))),(oQ 35 31 false (.fa 1 (.t 34))),(oG 36 31 false (.m (.ld false 1 (.t 35)))),(oQ 37 31 false (.nt (.t 36))),(oQ 38 31 false (.mv (.t 37))),(oQ 39 38 true (.mv (.t 0))),(oQ 40 38 true (.mv (.t 3))),(oQ 41 38 true (.ix 4 (.t 39) (.t 40))),(oQ 42 38 true (.fa 2 (.t 41))),(oG 43 38 true (.m (.ld false 1 (.t 42)))),(oQ 44 38 true (.len false (.t 43))),(oQ 45 38 true (.bin false .gtr (.t 44) (cI 0))),(oQ 46 31 false (.pick (.t 38) (.t 45) (cB false))),(oP 47 (.pick (.t 31) (cB true) (.t 46))),(oV 48 47),(oQ 49 48 false (.mv (.t 0))),(oQ 50 48 false (.mv (.t 3))),(oQ 51 48 false (.ix 4 (.t 49) (.t 50))),(oQ 52 48 false (.fa 2 (.t 51))),(oG 53 48 false (.m (.ld false 1 (.t 52)))),(oG 54 48 false (.call 72 [(.t 53)])),(oQ 55 48 false (.nt (.t 54))),(oP 56 (.pick (.t 48) (cB true) (.t 55)))]) (.cd (.t 56) (.sq (.reg [(oP 2 (.mv (cB false)))]) (.fg ⟨[(2,some .bool)],[]⟩ .rt)) .sk)) (.sq (.reg [(oP 4 (.mv (cI 0)))]) (.bk 2 (.lp 1 fg_f72_1 tb_f72_1))))) (.reg [(oV 11 3),(oP 12 (.bin false .add (.t 11) (cI 1))),(oV 3 12)])))
def tc_f72:TC:=(.sq (.reg [(oP 2 (.mv (cB false)))]) (.sq (.sq (.reg [(oP 3 (.mv (cI 0)))]) (.bk 0 (.lp 2 fg_f72_2 tb_f72_2))) (.sq (.reg [(oP 2 (.mv (cB true)))]) .rt)))
def rv_f72:List (RV×Option Ty):=[((.t 2),some .bool)]
abbrev sh_f72_0:Sh:=⟨[(0,.ty (.sl tyBlkT)),(3,.ty tI),(4,.ty tI),(5,.ty tI)],[]⟩
def st_f72_0 (x0:(List BlkT))(x3:Int)(x4:Int)(x5:Int):VS:=sh_f72_0.st (x0,x3,x4,x5,()) ()
abbrev sh_f72_0_ret:Sh:=⟨[(2,.ty .bool)],[]⟩
def st_f72_0_ret (x2:Bool):VS:=sh_f72_0_ret.st (x2,()) ()
abbrev sh_f72_0_e4:Sh:=⟨[(0,.ty (.sl tyBlkT)),(3,.ty tI),(4,.ty tI)],[]⟩
def st_f72_0_e4 (x0:(List BlkT))(x3:Int)(x4:Int):VS:=sh_f72_0_e4.st (x0,x3,x4,()) ()
-- loop 0: (x0 : (List BlkT)) (x3 : Int) (x4 : Int) (x5 : Int); out: ('ret',) (x2 : Bool); ('exit', 4) (x0 : (List BlkT)) (x3 : Int) (x4 : Int)
abbrev sh_f72_1:Sh:=⟨[(0,.ty (.sl tyBlkT)),(3,.ty tI),(4,.ty tI)],[]⟩
def st_f72_1 (x0:(List BlkT))(x3:Int)(x4:Int):VS:=sh_f72_1.st (x0,x3,x4,()) ()
abbrev sh_f72_1_ret:Sh:=⟨[(2,.ty .bool)],[]⟩
def st_f72_1_ret (x2:Bool):VS:=sh_f72_1_ret.st (x2,()) ()
abbrev sh_f72_1_e2:Sh:=⟨[(0,.ty (.sl tyBlkT)),(3,.ty tI)],[]⟩
def st_f72_1_e2 (x0:(List BlkT))(x3:Int):VS:=sh_f72_1_e2.st (x0,x3,()) ()
-- loop 1: (x0 : (List BlkT)) (x3 : Int) (x4 : Int); out: ('ret',) (x2 : Bool); ('exit', 2) (x0 : (List BlkT)) (x3 : Int)
abbrev sh_f72_2:Sh:=⟨[(0,.ty (.sl tyBlkT)),(3,.ty tI)],[]⟩
def st_f72_2 (x0:(List BlkT))(x3:Int):VS:=sh_f72_2.st (x0,x3,()) ()
abbrev sh_f72_2_ret:Sh:=⟨[(2,.ty .bool)],[]⟩
def st_f72_2_ret (x2:Bool):VS:=sh_f72_2_ret.st (x2,()) ()
abbrev sh_f72_2_e0:Sh:=⟨[],[]⟩
def st_f72_2_e0  : VS:=sh_f72_2_e0.st () ()
-- loop 2: (x0 : (List BlkT)) (x3 : Int); out: ('ret',) (x2 : Bool); ('exit', 0)
def L_f72_0:VS->Option (Bool×List (Bool×Exit×VS)):=mkL sh_f72_0 (fun x y=>(fr0 x.1 x.2.1 x.2.2.1 x.2.2.2.1)) (fun x y=>[((!(((bytesL (wrAt x.1 x.2.1 x.2.2.1)).drop x.2.2.2.1.toNat).all isClI)),.ret,st_f72_0_ret (false)),(true,.exit 4,st_f72_0_e4 (x.1) (x.2.1) (x.2.2.1))])
def L_f72_1:VS->Option (Bool×List (Bool×Exit×VS)):=mkL sh_f72_1 (fun x y=>(fr1 x.1 x.2.1 x.2.2.1)) (fun x y=>[((!(((wrA x.1 x.2.1).drop x.2.2.1.toNat).all clB)),.ret,st_f72_1_ret (false)),(true,.exit 2,st_f72_1_e2 (x.1) (x.2.1))])
def L_f72_2:VS->Option (Bool×List (Bool×Exit×VS)):=mkL sh_f72_2 (fun x y=>(bk1 x.1 x.2.1)) (fun x y=>[((!frT (x.1.drop x.2.1.toNat)),.ret,st_f72_2_ret (false)),(true,.exit 0,st_f72_2_e0)])
def g_f72:G:=⟨TYs,[],100,EL [(72,sp_f72R),(115,sp_f115)],keeps,(Ls [L_f72_0,L_f72_1,L_f72_2]),IL [],RL []⟩
def b_f72_0 (x0:(List BlkT))(x3:Int)(x4:Int)(x5:Int):Option (Exit×VS):=
 br (cIx x0 x3)
  (br (cIx ((lgt tyBlkT x0 (Int.toNat x3)).1) x4)
   (br ((ilt x5 (slen (lgt .str ((lgt tyBlkT x0 (Int.toNat x3)).1) (Int.toNat x4)))))
    (br (cIx x0 x3)
     (br (cIx ((lgt tyBlkT x0 (Int.toNat x3)).1) x4)
      (br (cSx (lgt .str ((lgt tyBlkT x0 (Int.toNat x3)).1) (Int.toNat x4)) x5)
       (br ((ine (sgt (lgt .str ((lgt tyBlkT x0 (Int.toNat x3)).1) (Int.toNat x4)) x5) 9))
        (br ((ilt (sgt (lgt .str ((lgt tyBlkT x0 (Int.toNat x3)).1) (Int.toNat x4)) x5) 32))
         (some (.ret,st_f72_0_ret false))
         (br ((igt (sgt (lgt .str ((lgt tyBlkT x0 (Int.toNat x3)).1) (Int.toNat x4)) x5) 126))
          (some (.ret,st_f72_0_ret false))
          (some (.normal,st_f72_0 x0 x3 x4 (iadd .i64 x5 1)))))
        (some (.normal,st_f72_0 x0 x3 x4 (iadd .i64 x5 1))))
       (none))
      (none))
     (none))
    (some (.exit 4,st_f72_0_e4 x0 x3 x4)))
   (none))
  (none)
noncomputable def lp_f72_0 (x0:(List BlkT))(x3:Int)(x4:Int)(x5:Int):Option (Exit×VS):=loopF (roundF g_f72 fg_f72_0 tb_f72_0) (st_f72_0 x0 x3 x4 x5)
noncomputable def n_f72_0 (x0:(List BlkT))(x3:Int)(x4:Int)(x5:Int):Option (Exit×VS):=
 br (cIx x0 x3)
  (br (cIx ((lgt tyBlkT x0 (Int.toNat x3)).1) x4)
   (br ((ilt x5 (slen (lgt .str ((lgt tyBlkT x0 (Int.toNat x3)).1) (Int.toNat x4)))))
    (br (cIx x0 x3)
     (br (cIx ((lgt tyBlkT x0 (Int.toNat x3)).1) x4)
      (br (cSx (lgt .str ((lgt tyBlkT x0 (Int.toNat x3)).1) (Int.toNat x4)) x5)
       (br ((ine (sgt (lgt .str ((lgt tyBlkT x0 (Int.toNat x3)).1) (Int.toNat x4)) x5) 9))
        (br ((ilt (sgt (lgt .str ((lgt tyBlkT x0 (Int.toNat x3)).1) (Int.toNat x4)) x5) 32))
         (some (.ret,st_f72_0_ret false))
         (br ((igt (sgt (lgt .str ((lgt tyBlkT x0 (Int.toNat x3)).1) (Int.toNat x4)) x5) 126))
          (some (.ret,st_f72_0_ret false))
          (lp_f72_0 x0 x3 x4 (iadd .i64 x5 1))))
        (lp_f72_0 x0 x3 x4 (iadd .i64 x5 1)))
       (none))
      (none))
     (none))
    (some (.exit 4,st_f72_0_e4 x0 x3 x4)))
   (none))
  (none)
def la_f72_0 (x0:(List BlkT))(x3:Int)(x4:Int)(x5:Int):Option (Exit×VS):=br (!(((bytesL (wrAt x0 x3 x4)).drop x5.toNat).all isClI)) (some (.ret,st_f72_0_ret (false)))<|some (.exit 4,st_f72_0_e4 (x0) (x3) (x4))
theorem be_f72_0 (x0:(List BlkT))(x3:Int)(x4:Int)(x5:Int):roundF g_f72 fg_f72_0 tb_f72_0 (st_f72_0 x0 x3 x4 x5)=b_f72_0 x0 x3 x4 x5:=by kernel_rfl
theorem ln_f72_0 (x0:(List BlkT))(x3:Int)(x4:Int)(x5:Int):lp_f72_0 x0 x3 x4 x5=n_f72_0 x0 x3 x4 x5:=(loopF_nxt _ _).trans (by
 rw [be_f72_0]
 simp only [b_f72_0,n_f72_0,nxt_br,nxt_n,nxt_r,nxt_e,nxt_0]
 rfl)
def b_f72_1 (x0:(List BlkT))(x3:Int)(x4:Int):Option (Exit×VS):=
 br (cIx x0 x3)
  (br ((ilt x4 (llen ((lgt tyBlkT x0 (Int.toNat x3)).1))))
   (br ((fr0 x0 x3 x4 (0:Int)))
    (br ((!(((bytesL (wrAt x0 x3 x4)).drop (0:Int).toNat).all isClI)))
     (some (.ret,st_f72_1_ret (false)))
     (some (.normal,st_f72_1 (x0) (x3) (iadd .i64 (x4) 1))))
    (none))
   (some (.exit 2,st_f72_1_e2 x0 x3)))
  (none)
noncomputable def lp_f72_1 (x0:(List BlkT))(x3:Int)(x4:Int):Option (Exit×VS):=loopF (roundF g_f72 fg_f72_1 tb_f72_1) (st_f72_1 x0 x3 x4)
noncomputable def n_f72_1 (x0:(List BlkT))(x3:Int)(x4:Int):Option (Exit×VS):=
 br (cIx x0 x3)
  (br ((ilt x4 (llen ((lgt tyBlkT x0 (Int.toNat x3)).1))))
   (br ((fr0 x0 x3 x4 (0:Int)))
    (br ((!(((bytesL (wrAt x0 x3 x4)).drop (0:Int).toNat).all isClI)))
     (some (.ret,st_f72_1_ret (false)))
     (lp_f72_1 (x0) (x3) (iadd .i64 (x4) 1)))
    (none))
   (some (.exit 2,st_f72_1_e2 x0 x3)))
  (none)
def la_f72_1 (x0:(List BlkT))(x3:Int)(x4:Int):Option (Exit×VS):=br (!(((wrA x0 x3).drop x4.toNat).all clB)) (some (.ret,st_f72_1_ret (false)))<|some (.exit 2,st_f72_1_e2 (x0) (x3))
theorem be_f72_1 (x0:(List BlkT))(x3:Int)(x4:Int):roundF g_f72 fg_f72_1 tb_f72_1 (st_f72_1 x0 x3 x4)=b_f72_1 x0 x3 x4:=by kernel_rfl
theorem ln_f72_1 (x0:(List BlkT))(x3:Int)(x4:Int):lp_f72_1 x0 x3 x4=n_f72_1 x0 x3 x4:=(loopF_nxt _ _).trans (by
 rw [be_f72_1]
 simp only [b_f72_1,n_f72_1,nxt_br,nxt_n,nxt_r,nxt_e,nxt_0]
 rfl)
def b_f72_2_1 (x0:(List BlkT))(x3:Int):Option (Exit×VS):=
 br (cIx x0 x3)
  (br ((okN fuel (List.map Blk.un ((((lgt tyBlkT x0 (Int.toNat x3)).2).2).1))))
   (br ((!(frT (List.map Blk.un ((((lgt tyBlkT x0 (Int.toNat x3)).2).2).1)))))
    (some (.ret,st_f72_2_ret false))
    (br ((fr1 x0 x3 (0:Int)))
     (br ((!(((wrA x0 x3).drop (0:Int).toNat).all clB)))
      (some (.ret,st_f72_2_ret (false)))
      (some (.normal,st_f72_2 (x0) (iadd .i64 (x3) 1))))
     (none)))
   (none))
  (none)
def b_f72_2 (x0:(List BlkT))(x3:Int):Option (Exit×VS):=
 br ((ilt x3 (llen x0)))
  (br (cIx x0 x3)
   (br ((ieq (llen ((lgt tyBlkT x0 (Int.toNat x3)).1)) 0))
    (some (.ret,st_f72_2_ret false))
    (br (cIx x0 x3)
     (br (cIx ((lgt tyBlkT x0 (Int.toNat x3)).1) 0)
      (br ((nameG (lgt .str ((lgt tyBlkT x0 (Int.toNat x3)).1) (Int.toNat 0))))
       (br ((!(plnB (lgt .str ((lgt tyBlkT x0 (Int.toNat x3)).1) (Int.toNat 0)))))
        (some (.ret,st_f72_2_ret false))
        (br (cIx x0 x3)
         (br ((!(((lgt tyBlkT x0 (Int.toNat x3)).2).1)))
          (br (cIx x0 x3)
           (br ((igt (llen (List.map Blk.un ((((lgt tyBlkT x0 (Int.toNat x3)).2).2).1))) 0))
            (some (.ret,st_f72_2_ret false))
            (b_f72_2_1 x0 x3))
           (none))
          (b_f72_2_1 x0 x3))
         (none)))
       (none))
      (none))
     (none)))
   (none))
  (some (.exit 0,st_f72_2_e0))
noncomputable def lp_f72_2 (x0:(List BlkT))(x3:Int):Option (Exit×VS):=loopF (roundF g_f72 fg_f72_2 tb_f72_2) (st_f72_2 x0 x3)
noncomputable def n_f72_2_1 (x0:(List BlkT))(x3:Int):Option (Exit×VS):=
 br (cIx x0 x3)
  (br ((okN fuel (List.map Blk.un ((((lgt tyBlkT x0 (Int.toNat x3)).2).2).1))))
   (br ((!(frT (List.map Blk.un ((((lgt tyBlkT x0 (Int.toNat x3)).2).2).1)))))
    (some (.ret,st_f72_2_ret false))
    (br ((fr1 x0 x3 (0:Int)))
     (br ((!(((wrA x0 x3).drop (0:Int).toNat).all clB)))
      (some (.ret,st_f72_2_ret (false)))
      (lp_f72_2 (x0) (iadd .i64 (x3) 1)))
     (none)))
   (none))
  (none)
noncomputable def n_f72_2 (x0:(List BlkT))(x3:Int):Option (Exit×VS):=
 br ((ilt x3 (llen x0)))
  (br (cIx x0 x3)
   (br ((ieq (llen ((lgt tyBlkT x0 (Int.toNat x3)).1)) 0))
    (some (.ret,st_f72_2_ret false))
    (br (cIx x0 x3)
     (br (cIx ((lgt tyBlkT x0 (Int.toNat x3)).1) 0)
      (br ((nameG (lgt .str ((lgt tyBlkT x0 (Int.toNat x3)).1) (Int.toNat 0))))
       (br ((!(plnB (lgt .str ((lgt tyBlkT x0 (Int.toNat x3)).1) (Int.toNat 0)))))
        (some (.ret,st_f72_2_ret false))
        (br (cIx x0 x3)
         (br ((!(((lgt tyBlkT x0 (Int.toNat x3)).2).1)))
          (br (cIx x0 x3)
           (br ((igt (llen (List.map Blk.un ((((lgt tyBlkT x0 (Int.toNat x3)).2).2).1))) 0))
            (some (.ret,st_f72_2_ret false))
            (n_f72_2_1 x0 x3))
           (none))
          (n_f72_2_1 x0 x3))
         (none)))
       (none))
      (none))
     (none)))
   (none))
  (some (.exit 0,st_f72_2_e0))
def la_f72_2 (x0:(List BlkT))(x3:Int):Option (Exit×VS):=br (!frT (x0.drop x3.toNat)) (some (.ret,st_f72_2_ret (false)))<|some (.exit 0,st_f72_2_e0)
theorem be_f72_2 (x0:(List BlkT))(x3:Int):roundF g_f72 fg_f72_2 tb_f72_2 (st_f72_2 x0 x3)=b_f72_2 x0 x3:=by kernel_rfl
theorem ln_f72_2 (x0:(List BlkT))(x3:Int):lp_f72_2 x0 x3=n_f72_2 x0 x3:=(loopF_nxt _ _).trans (by
 rw [be_f72_2]
 simp only [b_f72_2,b_f72_2_1,n_f72_2,n_f72_2_1,nxt_br,nxt_n,nxt_r,nxt_e,nxt_0]
 rfl)
def r_f72 (p0:(List BlkT)):Option (V×List VO):=
 br ((bk1 p0 (0:Int)))
  (br ((!frT (p0.drop (0:Int).toNat)))
   (some (.t .bool (false),[]))
   (some (.t .bool true,[])))
  (none)
theorem e_f72 (p0:(List BlkT)):runF g_f72 tc_f72 rv_f72 false [.t (.sl tyBlkT) p0] []=r_f72 p0:=by kernel_rfl
theorem ok_f72:Option.map (trC Tryd.prog) Tryd.f72.body=some tc_f72.er:=by kernel_rfl
theorem rok_f72:trVs Tryd.prog Tryd.f72.results.toList=some (rv_f72.map Prod.fst):=by kernel_rfl
theorem gk_f72:GOk Tryd.prog g_f72:=gok_of _ (by
 intro p hp
 simp only [List.mem_cons,List.not_mem_nil,or_false] at hp
 rcases hp with rfl|rfl
 ·exact ⟨en_f72R,ms_f72R⟩
 ·exact ⟨en_f115,ms_f115⟩)
theorem l_f72_0 (x0:(List BlkT))(x3:Int)(x4:Int)(x5:Int)(h:(fr0 x0 x3 x4 x5)=true):lp_f72_0 x0 x3 x4 x5=la_f72_0 x0 x3 x4 x5:=by
 obtain ⟨h1,h2,h3,h4,h5⟩:=cP_of h
 clear h
 obtain ⟨k,rfl⟩:=Int.eq_ofNat_of_zero_le h4
 have h6:(wrAt x0 x3 x4).size<=2000000000:=of_decide_eq_true h3
 have hl:=bytesG_len (wrAt x0 x3 x4)
 refine range_ind (bytesL (wrAt x0 x3 x4)) (fun k=>lp_f72_0 x0 x3 x4 (k:Int)=la_f72_0 x0 x3 x4 (k:Int)) ?_ ?_ k (by omega)
 ·have e2:ilt ((bytesL (wrAt x0 x3 x4)).length:Int) (slen (wrAt x0 x3 x4))=false:=decide_eq_false (by simp only [slen];omega)
  rw [ln_f72_0]
  unfold n_f72_0 la_f72_0
  rw [h1,br_true,h2,br_true,e2,br_false,Int.toNat_natCast,List.drop_length]
  rfl
 ·intro k hk ih
  have hk2:k<(wrAt x0 x3 x4).size:=by omega
  have e2:ilt (k:Int) (slen (wrAt x0 x3 x4))=true:=decide_eq_true (by simp only [slen];omega)
  have e3:cSx (wrAt x0 x3 x4) (k:Int)=true:=by simp only [cSx,decide_eq_true_eq];omega
  rw [ln_f72_0]
  unfold n_f72_0
  rw [h1,br_true,h2,br_true,e2,br_true,br_true,br_true,e3,br_true,cl3,sgt_get hk2,add1 (k:=k),ih]
  unfold la_f72_0
  rw [Int.toNat_natCast,Int.toNat_natCast,List.drop_eq_getElem_cons hk,List.all_cons]
  cases isClI (bytesL (wrAt x0 x3 x4))[k]<;>rfl
theorem l_f72_1 (x0:(List BlkT))(x3:Int)(x4:Int)(h:(fr1 x0 x3 x4)=true):lp_f72_1 x0 x3 x4=la_f72_1 x0 x3 x4:=by
 obtain ⟨h1,h2,h3,h4,h5⟩:=cP_of h
 clear h
 obtain ⟨k,rfl⟩:=Int.eq_ofNat_of_zero_le h2
 refine range_ind (wrA x0 x3) (fun k=>lp_f72_1 x0 x3 (k:Int)=la_f72_1 x0 x3 (k:Int)) ?_ ?_ k (by omega)
 ·have e2:ilt ((wrA x0 x3).length:Int) (llen (wrA x0 x3))=false:=decide_eq_false (by simp only [llen];omega)
  rw [ln_f72_1]
  unfold n_f72_1 la_f72_1
  rw [h1,br_true,e2,br_false,Int.toNat_natCast,List.drop_length]
  rfl
 ·intro k hk ih
  have e2:ilt (k:Int) (llen (wrA x0 x3))=true:=decide_eq_true (by simp only [llen];omega)
  have e3:cIx (wrA x0 x3) (k:Int)=true:=by rw [cIx_nat];exact decide_eq_true hk
  have e5:wrAt x0 x3 (k:Int)=(wrA x0 x3)[k]:=by show lgt .str (wrA x0 x3) _=_;rw [Int.toNat_natCast,lgt_get (y:= .str) hk]
  have hs:wsz (wrAt x0 x3 (k:Int))=true:=by rw [e5];exact List.all_eq_true.1 h5 _ (List.getElem_mem hk)
  have e4:fr0 x0 x3 (k:Int) 0=true:=cP_in ⟨h1,e3,hs,by omega,by omega⟩
  rw [ln_f72_1]
  unfold n_f72_1
  rw [h1,br_true,e2,br_true,e4,br_true,Int.toNat_zero,List.drop_zero,e5,show (bytesL (wrA x0 x3)[k]).all isClI=clB (wrA x0 x3)[k] from clZ_eq _,add1 (k:=k),ih]
  unfold la_f72_1
  rw [Int.toNat_natCast,Int.toNat_natCast,List.drop_eq_getElem_cons hk,List.all_cons]
  cases clB (wrA x0 x3)[k]<;>rfl
theorem l_f72_2 (x0:(List BlkT))(x3:Int)(h:(bk1 x0 x3)=true):lp_f72_2 x0 x3=la_f72_2 x0 x3:=by
 obtain ⟨h1,h2,h4⟩:=cP_of h
 clear h
 obtain ⟨h6,h7,h8⟩:=okN_p h4
 obtain ⟨k,rfl⟩:=Int.eq_ofNat_of_zero_le h1
 refine range_ind x0 (fun k=>lp_f72_2 x0 (k:Int)=la_f72_2 x0 (k:Int)) ?_ ?_ k (by omega)
 ·rw [ln_f72_2]
  have e2:ilt (x0.length:Int) (llen x0)=false:=decide_eq_false (by simp only [llen];omega)
  unfold n_f72_2 la_f72_2
  rw [e2,br_false,Int.toNat_natCast,List.drop_length]
  rfl
 ·intro k hk ih
  obtain ⟨g1,g2,g3⟩:=h8 _ (List.getElem_mem hk)
  have e2:ilt (k:Int) (llen x0)=true:=decide_eq_true (by simp only [llen];omega)
  have e3:cIx x0 (k:Int)=true:=by rw [cIx_nat];exact decide_eq_true hk
  have e5:wrA x0 (k:Int)=x0[k].1:=by show (lgt tyBlkT x0 _).1=_;rw [Int.toNat_natCast,lgt_get (y:=tyBlkT) hk]
  have e4:fr1 x0 (k:Int) 0=true:=cP_in ⟨e3,by omega,by omega,by rw [e5];exact g1,by rw [e5];exact g2⟩
  rw [ln_f72_2]
  unfold n_f72_2 n_f72_2_1
  rw [e4,e2,e3,Int.toNat_natCast,lgt_get (y:=tyBlkT) hk,g3,br_true,br_true,br_true,br_true,br_true,br_true,br_true,add1 (k:=k),ih,emp_len,emp_un,show wrA x0 (k:Int)=x0[k].1 from e5,Int.toNat_zero,List.drop_zero]
  unfold la_f72_2
  rw [Int.toNat_natCast,Int.toNat_natCast,List.drop_eq_getElem_cons hk,frT_cons]
  cases hw:x0[k].1.isEmpty with
  |true=>rfl
  |false=>
   have hp:0<x0[k].1.length:=by
    rcases Nat.eq_zero_or_pos x0[k].1.length with h|h
    ·rw [List.eq_nil_of_length_eq_zero h] at hw;cases hw
    ·exact h
   have hh:x0[k].1.headD (ByteArray.mk #[])=x0[k].1[0]:=headD_get hp
   have e6:cIx x0[k].1 0=true:=by show cIx x0[k].1 ((0:Nat):Int)=true;rw [cIx_nat];exact decide_eq_true hp
   have hs:x0[k].1[0].size<=2000000000:=of_decide_eq_true (List.all_eq_true.1 g2 _ (List.getElem_mem hp))
   have e7:nameG x0[k].1[0]=true:=decide_eq_true (by omega)
   rw [e6,lgt_get (y:= .str) hp,e7,br_true,br_true,hh]
   cases x0[k].2.1<;>cases x0[k].2.2.1.isEmpty<;>cases frT (x0[k].2.2.1.map Blk.un)<;>cases x0[k].1.all clB<;>cases plnB x0[k].1[0]<;>cases frT (x0.drop (k+1))<;>rfl
theorem lo_f72_0: ∀ S l p,g_f72.L 0 (fgt fg_f72_0 S)=some (true,l)->pickA l=some p->loopF (roundF g_f72 fg_f72_0 tb_f72_0) S=some p:=
 lok_of (s:=sh_f72_0) ⟨by decide,by decide⟩ (by kernel_rfl) fun x y hok p hp=>by
 simp only [pickA_br,pickA_one] at hp
 exact (l_f72_0 x.1 x.2.1 x.2.2.1 x.2.2.2.1 (by simpa using hok)).trans hp
theorem lo_f72_1: ∀ S l p,g_f72.L 1 (fgt fg_f72_1 S)=some (true,l)->pickA l=some p->loopF (roundF g_f72 fg_f72_1 tb_f72_1) S=some p:=
 lok_of (s:=sh_f72_1) ⟨by decide,by decide⟩ (by kernel_rfl) fun x y hok p hp=>by
 simp only [pickA_br,pickA_one] at hp
 exact (l_f72_1 x.1 x.2.1 x.2.2.1 (by simpa using hok)).trans hp
theorem lo_f72_2: ∀ S l p,g_f72.L 2 (fgt fg_f72_2 S)=some (true,l)->pickA l=some p->loopF (roundF g_f72 fg_f72_2 tb_f72_2) S=some p:=
 lok_of (s:=sh_f72_2) ⟨by decide,by decide⟩ (by kernel_rfl) fun x y hok p hp=>by
 simp only [pickA_br,pickA_one] at hp
 exact (l_f72_2 x.1 x.2.1 (by simpa using hok)).trans hp
theorem lk_f72:tc_f72.lok g_f72:=by
 repeat (first|exact trivial|exact lo_f72_0|exact lo_f72_1|exact lo_f72_2|refine ⟨?_, ?_⟩)
theorem s_f72 (l:List BlkT)(h:okN (fuel+1) l=true):r_f72 l=some (.t .bool (frT l),[]):=by
 refine brY (cP_in ⟨by omega,by omega,h⟩) ?_
 rw [Int.toNat_zero,List.drop_zero]
 cases frT l<;>rfl
theorem mr_f72:Meets Tryd.prog 72 (runF g_f72 tc_f72 rv_f72 false):=by
 obtain ⟨c,hc,hi⟩:=Option.map_eq_some_iff.1 ok_f72
 exact meets_of (by decide) Tryd.func72 hc hi Tryd.ntmps72 rok_f72 gk_f72 lk_f72 mixed
end
theorem ma_ref07_formed: ∀ N:Nat,Meets Tryd.prog 72 (strip (@sp_f72R ⟨N⟩))
 |0=>meets_zero fun x=>by first|rfl|simp [okN]
 |N+1=>by
  letI:Fuel:=⟨N⟩
  haveI:Nonempty (PLift (Meets Tryd.prog 72 (strip sp_f72R))):=⟨⟨ma_ref07_formed N⟩⟩
  exact meets_spec mr_f72 fun x hok=>(e_f72 x.1).trans (s_f72 x.1 hok)
def sp_f72:Ent:=spec (.pr (.sl tyBlkT) .nil) (fun x=>(okT x.1)) (fun x=>(.t .bool (frT x.1)))
theorem ms_f72:Meets Tryd.prog 72 (strip sp_f72):=meets_fuel ma_ref07_formed fun x hok=>fuel_ref07_formed x.1 hok
end
end Go.Proofs.YtkkoedniahnneaaDoor.K
