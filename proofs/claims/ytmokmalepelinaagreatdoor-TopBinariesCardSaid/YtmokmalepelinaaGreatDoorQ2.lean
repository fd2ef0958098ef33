import Derived.Test.YtmokmalepelinaaGreatDoorQ1
import Derived.OwnWalkIn
import Derived.LoopNIn
import Derived.OrdersIn
import Derived.TacticsIn
import Derived.RangeFuncNested
set_option linter.unusedSimpArgs false
set_option linter.unusedVariables false
/-
 Calls:what a function makes of typed values and lent things.
-/
namespace Go.Proofs.YtmokmalepelinaaGreatDoor.K
open Go.RowKit
mutual
def V.ren (f:Nat->Nat):V->V
 |.ms j=> .ms (f j)
 |.pa sz j i o=> .pa sz (f j) i o
 |.wn sz j a m=> .wn sz (f j) a m
 |.bv j n=> .bv (f j) n
 |.ptr j o=> .ptr (f j) o
 |.ag vs=> .ag (V.rens f vs)
 |.tu vs=> .tu (V.rens f vs)
 |.fn g vs=> .fn g (V.rens f vs)
 |.ifc n x=> .ifc n (x.ren f)
 |.t y x=> .t y x
 |.c x=> .c x
 |.el y x o=> .el y x o
 |.ud=> .ud
 |.un=> .un
def V.rens (f:Nat->Nat):List V->List V
 | []=>[]
 |v::vs=>v.ren f::V.rens f vs
end
def VO.ren (f:Nat->Nat):VO->VO
 |.box v=> .box (v.ren f)
 |o=>o
structure Lent (X:Nat->Nat->Prop) (w:World) (σ:Pl) (objs:List VO):Prop where
 at_: ∀ j o,objs[j]? = some o->OAt X w σ (50000+j) o/\o≠ .no
 apart: ∀ i j b,i≠j->i<objs.length->j<objs.length->(σ (50000+i)).blk=some b->(σ (50000+j)).blk≠some b
def lentB (σ:Pl)(m:Nat):List Nat:=(List.range m).filterMap fun j=>(σ (50000+j)).blk
abbrev Fun:=List V->List VO->Option (V×List VO)
def VO.isNo:VO->Bool
 |.no=>true
 |_=>false
structure Ends (X:Nat->Nat->Prop) (w:World) (σ:Pl) (m:Nat) (X':Nat->Nat->Prop) (w':World) (σ':Pl) (os:List VO):Prop where
 fin: ∀ b q,X' b q->b<w'.heap.size
 at_: ∀ j o,os[j]? = some o->OAt X' w' σ' (50000+j) o/\(m<=j->o≠ .no)
 apart: ∀ i j b,i≠j->i<os.length->j<os.length->os[i]? ≠ some .no->os[j]? ≠ some .no->(σ' (50000+i)).blk=some b->(σ' (50000+j)).blk≠some b
 le:m<=os.length
 same: ∀ j,j<m->σ' (50000+j)=σ (50000+j)
 new: ∀ j b,m<=j->j<os.length->(σ' (50000+j)).blk=some b->w.heap.size<=b∨ ∃ i,i<m/\os[i]? = some .no/\(σ (50000+i)).blk=some b
 fr:Fr (lentB σ m) w w'
 sub: ∀ b q,b<w.heap.size->X' b q->X b q
 old: ∀ b q,b<w.heap.size->(∀ i,i<m->os[i]? = some .no->(σ (50000+i)).blk≠some b)->X b q->X' b q
def bCode (k a b:Nat):Nat:=1000000+k+16*(a+10000*b)
def bRun (f:Nat):Option (List Value->Sem Value):=
 if f<1000000 then none else
 match (f-1000000) % 16 with
 |0=>some fun vs=>match vs with
  | [x]=>convert (((f-1000000) / 16) % 10000) ((f-1000000) / 160000) x
  |_=>stuck "operands"
 |1=>some fun vs=>match vs with
  | [x,y]=>Instr.makeSlice (((f-1000000) / 16) % 10000) x y
  |_=>stuck "operands"
 |2=>some fun vs=>match vs with
  | [x,y]=>Instr.index (((f-1000000) / 16) % 10000) x y
  |_=>stuck "operands"
 |3=>some fun vs=>match vs with
  | [x]=>Instr.makeInterface (((f-1000000) / 16) % 10000) x
  |_=>stuck "operands"
 |4=>some fun vs=>match vs with
  | [x,y]=>do eqGuard .eql (((f-1000000) / 16) % 10000) (.const x) (.const y) x y;binOp .eql (((f-1000000) / 16) % 10000) x y
  |_=>stuck "operands"
 |_=>none
def slashS:String:=String.singleton (Char.ofNat 47)
def mNames:List String:=["cipherplan" ++ slashS++ "lifetime.count", "cipherplan" ++ slashS++ "lifetime.fails", "cipherplan" ++ slashS++ "lifetime.open"]
def mIdx:List String->String->Option Nat
 | [],_=>none
 |a::r,s=>if a=s then some 0 else (mIdx r s).map (· + 1)
theorem mIdx_get: ∀ {l:List String} {s:String} {i:Nat},mIdx l s=some i->l[i]? = some s
 | [],_,_,h=>by cases h
 |a::r,s,i,h=>by
  unfold mIdx at h
  split at h
  ·rename_i e
   injection h with h
   subst h e
   rfl
  ·obtain ⟨j,h1,h2⟩:=Option.map_eq_some_iff.1 h
   subst h2
   rw [List.getElem?_cons_succ]
   exact mIdx_get h1
def mName (f:Nat):Option String:=if f<1000000 then none else if (f-1000000) % 16=15 then mNames[(f-1000000) / 16]? else none
def MethodOf (P:Program)(t:TypeId)(v:Value)(name:String)(fn:FuncId)(r:Value):Prop:= ∀ w:World,(method (P.types.size+Made.depth) t v name).run P w= .ok (fn,r) w
def Does (P:Program)(f:FuncId)(vs:Array Value)(w:World)(Q:Ending->World->Prop):Prop:=
 match bRun f with
 |none=>match mName f with
  |none=>Calls P f vs w Q
  |some name=> ∃ t v fn r rest,vs.toList= .iface t v::rest/\MethodOf P t v name fn r/\(∃ fd,P.funcs[fn]? = some fd/\fd.body.isSome=true/\(fd.name== "runtime.NumGoroutine")=false)/\Calls P fn (r::rest).toArray w Q
 |some g=> ∃ u w',(g vs.toList).run P w= .ok u w'/\Q (.returned u) w'
theorem Does.mono {P:Program}{f:FuncId}{vs:Array Value}{w:World}{Q Q':Ending->World->Prop}(h:Does P f vs w Q)(k: ∀ e w',Q e w'->Q' e w'):Does P f vs w Q':=by
 unfold Does at h ⊢
 split
 ·rename_i hb
  rw [hb] at h
  simp only at h
  split
  ·rename_i hm
   rw [hm] at h
   exact Calls.mono h k
  ·rename_i name hm
   rw [hm] at h
   obtain ⟨t,v,fn,r,rest,h1,h2,h3,h4⟩:=h
   exact ⟨t,v,fn,r,rest,h1,h2,h3,Calls.mono h4 k⟩
 ·rename_i g hb
  rw [hb] at h
  obtain ⟨u,w',h1,h2⟩:=h
  exact ⟨u,w',h1,k _ _ h2⟩
theorem does_lt {f:Nat}(h:f<1000000):bRun f=none:=by
 unfold bRun
 rw [if_pos h]
theorem mname_lt {f:Nat}(h:f<1000000):mName f=none:=by
 unfold mName
 rw [if_pos h]
theorem does_of {P:Program}{f:FuncId}{vs:Array Value}{w:World}{Q:Ending->World->Prop}(hf:f<1000000)(h:Calls P f vs w Q):Does P f vs w Q:=by
 unfold Does
 rw [does_lt hf,mname_lt hf]
 exact h
theorem of_does {P:Program}{f:FuncId}{vs:Array Value}{w:World}{Q:Ending->World->Prop}(hf:f<1000000)(h:Does P f vs w Q):Calls P f vs w Q:=by
 unfold Does at h
 rw [does_lt hf,mname_lt hf] at h
 exact h
def Meets (P:Program)(f:FuncId)(F:Fun):Prop:=
 ∀ args objs r os,F args objs=some (r,os)→ ∀ X w σ vs,Fin2 X w->Lent X w σ objs->Cs X w σ (V.ds args) vs→
  Does P f vs.toArray w fun e w'=> ∃ u X' σ',e= .returned u/\C X' w' σ' r.d u/\Ends X w σ objs.length X' w' σ' os
theorem Meets.mono {P:Program}{f:FuncId}{F F':Fun}(h:Meets P f F)(hf: ∀ args objs r,F' args objs=some r->F args objs=some r):Meets P f F':=
 fun args objs r os h1=>h args objs r os (hf args objs _ h1)
section
variable {X X':Nat->Nat->Prop}{w w':World}{σ σ':Pl}
mutual
theorem ren_c {f:Nat->Nat}: ∀ (v:V) (u:Value),(∀ k∈v.refs,σ' (f k)=σ k)->C X w σ v.d u->C X w σ' (v.ren f).d u
 |.ms j,u,h,hc=>by
  simp only [V.ren,V.d,C] at hc ⊢
  exact ⟨(h j (by simp [V.refs])).trans hc.1,hc.2⟩
 |.pa sz j i o,u,h,hc=>by
  simp only [V.ren,V.d,C] at hc ⊢
  obtain ⟨s,b,h1,h2⟩:=hc
  exact ⟨s,b,(h j (by simp [V.refs])).trans h1,h2⟩
 |.wn sz j a m,u,h,hc=>by
  simp only [V.ren,V.d,C] at hc ⊢
  rw [h j (by simp [V.refs])]
  exact hc
 |.bv j n,u,h,hc=>by
  simp only [V.ren,V.d,C] at hc ⊢
  obtain ⟨b,h1,h2⟩:=hc
  exact ⟨b,(h j (by simp [V.refs])).trans h1,h2⟩
 |.ptr j o,u,h,hc=>by
  simp only [V.ren,V.d,C] at hc ⊢
  obtain ⟨b,h1,h2⟩:=hc
  exact ⟨b,(h j (by simp [V.refs])).trans h1,h2⟩
 |.ag vs,u,h,hc=>by
  simp only [V.ren,V.d,C] at hc ⊢
  obtain ⟨us,h1,h2⟩:=hc
  exact ⟨us,h1,ren_cs vs us (fun k hk=>h k (by simpa only [V.refs] using hk)) h2⟩
 |.tu vs,u,h,hc=>by
  simp only [V.ren,V.d,C] at hc ⊢
  obtain ⟨us,h1,h2⟩:=hc
  exact ⟨us,h1,ren_cs vs us (fun k hk=>h k (by simpa only [V.refs] using hk)) h2⟩
 |.fn g vs,u,h,hc=>by
  simp only [V.ren,V.d,C] at hc ⊢
  obtain ⟨us,h1,h2⟩:=hc
  exact ⟨us,h1,ren_cs vs us (fun k hk=>h k (by simpa only [V.refs] using hk)) h2⟩
 |.ifc n x,u,h,hc=>by
  simp only [V.ren,V.d,C] at hc ⊢
  obtain ⟨z,h1,h2⟩:=hc
  exact ⟨z,h1,ren_c x z (fun k hk=>h k (by simpa only [V.refs] using hk)) h2⟩
 |.t y x,u,h,hc=>C.ext (Ext.refl X w) _ _ (fun k hk=>by rw [V.refs_d] at hk;cases hk) hc
 |.c x,u,h,hc=>C.ext (Ext.refl X w) _ _ (fun k hk=>by rw [V.refs_d] at hk;cases hk) hc
 |.el y x o,u,h,hc=>C.ext (Ext.refl X w) _ _ (fun k hk=>by rw [V.refs_d] at hk;cases hk) hc
 |.ud,u,h,hc=>C.ext (Ext.refl X w) _ _ (fun k hk=>by rw [V.refs_d] at hk;cases hk) hc
 |.un,u,h,hc=>C.any_ u
theorem ren_cs {f:Nat->Nat}: ∀ (vs:List V) (us:List Value),(∀ k∈V.refss vs,σ' (f k)=σ k)->Cs X w σ (V.ds vs) us->Cs X w σ' (V.ds (V.rens f vs)) us
 | [],us,_,hc=>by simpa only [V.ds,V.rens,Cs] using hc
 |v::vs,us,h,hc=>by
  simp only [V.ds,V.rens,Cs] at hc ⊢
  obtain ⟨u,us',rfl,h1,h2⟩:=hc
  exact ⟨u,us',rfl,ren_c v u (fun k hk=>h k (by simp only [V.refss,List.mem_append];exact .inl hk)) h1,ren_cs vs us' (fun k hk=>h k (by simp only [V.refss,List.mem_append];exact .inr hk)) h2⟩
end
theorem ren_cells {f:Nat->Nat}(v:V){us:List Value}(h: ∀ k∈v.refs,σ' (f k)=σ k)(hc:Cs X w σ v.d.cells us):Cs X w σ' (v.ren f).d.cells us:=by
 have key:v.d.cells=[v.d]->(v.ren f).d.cells=[(v.ren f).d]->Cs X w σ' (v.ren f).d.cells us:=by
  intro h1 h2
  rw [h1] at hc
  rw [h2]
  obtain ⟨u,rfl,h3⟩:=hc.one
  exact Cs.mk1 (ren_c v u h h3)
 cases v with
 |ag vs=>exact ren_cs vs us (fun k hk=>h k (by simpa only [V.refs] using hk)) hc
 |t y x=>exact Cs.ext (Ext.refl X w) _ _ (fun k hk=>by rw [V.refs_dcells] at hk;cases hk) hc
 |_=>exact key rfl rfl
theorem ren_oat {f:Nat->Nat}{k:Nat}{o:VO}(h:OAt X w σ k o)(hk:σ' (f k)=σ k)(hr: ∀ r∈o.refs,σ' (f r)=σ r):OAt X w σ' (f k) (o.ren f):=by
 cases o with
 |no=>trivial
 |box v=>
  obtain ⟨b,ty,vs,h1,h2,h3,h4⟩:=h
  exact ⟨b,ty,vs,hk.trans h1,h2,ren_cells v hr h3,h4⟩
 |arr e y l=>
  obtain ⟨u,xs,h1,h2⟩:=h
  exact ⟨u,xs,hk.trans h1,h2⟩
theorem ren_no {f:Nat->Nat}{o:VO}(h:o≠ .no):o.ren f≠ .no:=by cases o<;>simp [VO.ren] at h ⊢
end
def VS.reach (S:VS):Nat->List Nat->List Nat->List Nat
 |0,_,acc=>acc
 |_+1,[],acc=>acc
 |n+1,k::ks,acc=>if acc.contains k=true then S.reach n ks acc else S.reach n ((S.st k).refs++ks) (acc++[k])
def rk (ks:List Nat)(k:Nat):Nat:=50000+ks.idxOf k
def imps (d m:Nat):List Nat:=(List.range m).map fun i=>d+5000*i
def kr (ks is:List Nat)(j:Nat):Nat:=(ks++is).getD (j-50000) 0
def VS.back (S:VS)(ks:List Nat)(os:List VO)(g:Nat->Nat):VS:=⟨S.ts,fun k=>if ks.contains k=true then (os.getD (ks.idxOf k) .no).ren g else S.st k,S.dom⟩
def VS.allocs (S:VS):List (Nat×VO)->Option VS
 | []=>some S
 |(k,o)::r=>if (S.free k&&o.refs.isEmpty)=true then (S.alloc k o).allocs r else none
def V.cut (m:Nat)(v:V):V:=if (v.refs.all fun r=>decide (r<m))=true then v else match v with
 |.ag vs=> .ag (vs.map fun c=>if (c.refs.all fun r=>decide (r<m))=true then c else .un)
 |_=> .un
def VO.cut (m:Nat):VO->VO
 |.box v=> .box (v.cut m)
 |o=>o
def VS.lends (S:VS)(vs:List V)(ks:List Nat):Bool:=
 decide ks.Nodup&&((V.refss vs).all ks.contains&&ks.all fun k=>(match S.st k with|.no=>false|_=>true)&&(S.st k).refs.all ks.contains)
def backOk (ks is:List Nat)(r:V)(os:List VO):Bool:=
 (decide (ks++is).Nodup&&decide (is.length<=4))&&((r.refs.all fun j=>decide (50000<=j/\j-50000<(ks++is).length))&&(((os.take ks.length).all fun o=>o.refs.all fun j=>decide (50000<=j/\j-50000<(ks++is).length))&&(ks.zip os).all fun p=>decide (p.1<50000)|| !p.2.isNo))
section
variable {β:Type}
def callR (F:List V->List VO->Option (Bool×V×List VO))(S:VS)(vs:List V)(d:Nat)(K:VS->V->Option β):Option β:=
 if S.lends vs (S.reach 20 (V.refss vs) [])=true then
  match F (V.rens (rk (S.reach 20 (V.refss vs) [])) vs) ((S.reach 20 (V.refss vs) []).map fun k=>(S.st k).ren (rk (S.reach 20 (V.refss vs) []))) with
  |some (q,r,os)=>br q
   (if backOk (S.reach 20 (V.refss vs) []) (imps d (os.length-(S.reach 20 (V.refss vs) []).length)) r os=true then
    match (S.back (S.reach 20 (V.refss vs) []) (os.map (VO.cut (50000+(S.reach 20 (V.refss vs) []).length))) (kr (S.reach 20 (V.refss vs) []) (imps d (os.length-(S.reach 20 (V.refss vs) []).length)))).allocs ((imps d (os.length-(S.reach 20 (V.refss vs) []).length)).zip (os.drop (S.reach 20 (V.refss vs) []).length)) with
    |some S'=>K (S'.back (S.reach 20 (V.refss vs) []) os (kr (S.reach 20 (V.refss vs) []) (imps d (os.length-(S.reach 20 (V.refss vs) []).length)))) (r.ren (kr (S.reach 20 (V.refss vs) []) (imps d (os.length-(S.reach 20 (V.refss vs) []).length))))
    |none=>none
   else none) none
  |none=>none
 else none
end
end Go.Proofs.YtmokmalepelinaaGreatDoor.K
/-
 A call does what its contract says.
-/
namespace Go.Proofs.YtmokmalepelinaaGreatDoor.K
open Go.RowKit
section
variable {B:Base}{X X':Nat->Nat->Prop}{w w':World}{σ σ':Pl}{n:Nat}{S:VS}{us:List Value}{P:Program}
theorem OAt.all {k b:Nat}{o:VO}(h:OAt X w σ k o)(hn:o≠ .no)(hb:(σ k).blk=some b): ∀ q,X b q:=by
 cases o with
 |no=>exact absurd rfl hn
 |box v=>
  obtain ⟨b',ty,vs,h1,h2,h3,h4⟩:=h
  rw [h1] at hb
  injection hb with hb
  subst hb
  exact h4
 |arr e y l=>
  obtain ⟨u,xs,h1,h2,h3,h4,h5⟩:=h
  rw [h1] at hb
  exact h5 b hb
theorem OAt.move {k k':Nat}{o:VO}(h:OAt X w σ k o)(hk:σ' k'=σ k)(hr:o.refs=[]):OAt X w σ' k' o:=by
 cases o with
 |no=>trivial
 |box v=>
  obtain ⟨b,ty,vs,h1,h2,h3,h4⟩:=h
  refine ⟨b,ty,vs,hk.trans h1,h2,Cs.ext (Ext.refl X w) _ _ (fun r hr'=> ?_) h3,h4⟩
  rw [V.refs_dcells] at hr'
  simp only [VO.refs] at hr
  rw [hr] at hr'
  cases hr'
 |arr e y l=>
  obtain ⟨u,xs,h1,h2⟩:=h
  exact ⟨u,xs,hk.trans h1,h2⟩
theorem At.adopt (h:At B X w σ n S us){k:Nat}{o:VO}{s:SC}(hf:S.free k=true)(hat:OAt X w (upd σ k s) k o)(hnew: ∀ b,s.blk=some b->(b∈B.lent∨B.w0.heap.size<=b)∧ ∀ j,S.st j≠ .no->(σ j).blk≠some b):At B X w (upd σ k s) n (S.alloc k o) us:=by
 refine ⟨h.ti.step (Ext.refl X w) (.inr ⟨free_lt hf,fun j _=>free_spec h.dom hf j⟩) (fun _ _ _ _ _=>⟨rfl,fun _ hq=>hq⟩) hat (fun b _ hb=>⟨(hnew b hb).1,fun j _ hj=>(hnew b hb).2 j hj⟩) h.ti.fin h.ti.fr h.ti.old,h.rel.mask (Ext.refl X w) k s,fun j hj=> ?_⟩
 simp only [VS.alloc] at hj ⊢
 by_cases hjk:j=k
 ·exact hjk▸List.mem_cons_self
 ·rw [upd_ne _ _ hjk] at hj
  exact List.mem_cons_of_mem _ (h.dom j hj)
theorem allocs_at: ∀ (l:List (Nat×VO)) {S S':VS} {σ:Pl} (τ:Nat->SC),S.allocs l=some S'->At B X w σ n S us→
  (∀ i k o,l[i]? = some (k,o)->(∃ ρ j,OAt X w ρ j o/\ρ j=τ i)/\o≠ .no∧ ∀ b,(τ i).blk=some b->(b∈B.lent∨B.w0.heap.size<=b)∧ ∀ j,S.st j≠ .no->(σ j).blk≠some b)→
  (∀ i j b,i≠j->i<l.length->j<l.length->(τ i).blk=some b->(τ j).blk≠some b)->(l.map Prod.fst).Nodup→
  ∃ σ1,At B X w σ1 n S' us/\(∀ k,k ∉ l.map Prod.fst->σ1 k=σ k)∧ ∀ i k o,l[i]? = some (k,o)->σ1 k=τ i
 | [],S,S',σ,τ,h,ha,_,_,_=>by
  simp only [VS.allocs,Option.some.injEq] at h
  subst h
  exact ⟨σ,ha,fun _ _=>rfl,fun i k o hi=>by simp at hi⟩
 |(k,o)::r,S,S',σ,τ,h,ha,h1,h2,h3=>by
  simp only [VS.allocs] at h
  split at h
  ·rename_i hc
   simp only [Bool.and_eq_true,List.isEmpty_iff] at hc
   obtain ⟨⟨ρ,j,g1,g2⟩,g3,g4⟩:=h1 0 k o rfl
   have ha1:=ha.adopt (k:=k) (o:=o) (s:=τ 0) hc.1 (g1.move (by rw [upd_self,g2]) hc.2) g4
   simp only [List.map_cons,List.nodup_cons] at h3
   obtain ⟨σ1,q1,q2,q3⟩:=allocs_at r (fun i=>τ (i+1)) h ha1 (fun i k' o' hi=>by
    obtain ⟨p1,p2,p3⟩:=h1 (i+1) k' o' (by simpa using hi)
    refine ⟨p1,p2,fun b hb=>⟨(p3 b hb).1,fun j' hj'=> ?_⟩⟩
    simp only [VS.alloc] at hj'
    by_cases hjk:j'=k
    ·subst hjk
     rw [upd_self]
     have hi':=(List.getElem?_eq_some_iff.1 hi).1
     exact fun hb'=>h2 0 (i+1) b (by omega) (by simp) (by simpa using hi') hb' hb
    ·rw [upd_ne _ _ hjk] at hj' ⊢
     exact (p3 b hb).2 j' hj') (fun i j' b hij hi hj=>h2 (i+1) (j'+1) b (by omega) (by simpa using hi) (by simpa using hj)) h3.2
   refine ⟨σ1,q1,fun k' hk'=> ?_,fun i k' o' hi=> ?_⟩
   ·simp only [List.map_cons,List.mem_cons,not_or] at hk'
    rw [q2 k' hk'.2,upd_ne _ _ hk'.1]
   ·rcases i with _|i
    ·simp only [List.getElem?_cons_zero,Option.some.injEq,Prod.mk.injEq] at hi
     obtain ⟨rfl,rfl⟩:=hi
     rw [q2 k h3.1,upd_self]
    ·exact q3 i k' o' (by simpa using hi)
  ·cases h
theorem allocs_st: ∀ (l:List (Nat×VO)) {S S':VS} {k:Nat},S.allocs l=some S'->k ∉ l.map Prod.fst->S'.st k=S.st k
 | [],S,S',k,h,_=>by
  simp only [VS.allocs,Option.some.injEq] at h
  rw [h]
 |(j,o)::r,S,S',k,h,hk=>by
  simp only [VS.allocs] at h
  split at h
  ·simp only [List.map_cons,List.mem_cons,not_or] at hk
   rw [allocs_st r h hk.2]
   exact upd_ne _ _ hk.1
  ·cases h
theorem cut_refs {m:Nat}(v:V): ∀ r∈(v.cut m).refs,r∈v.refs/\r<m:=by
 intro r hr
 unfold V.cut at hr
 split at hr
 ·rename_i h
  exact ⟨hr,by simpa using List.all_eq_true.1 h r hr⟩
 ·cases v with
  |ag vs=>
   simp only [V.refs,V.refss_eq,List.mem_flatMap,List.mem_map] at hr ⊢
   obtain ⟨c,⟨c',hc',rfl⟩,hr⟩:=hr
   split at hr
   ·rename_i h
    exact ⟨⟨c',hc',hr⟩,by simpa using List.all_eq_true.1 h r hr⟩
   ·cases hr
  |_=>cases hr
theorem ocut_refs {m:Nat}(o:VO): ∀ r∈(o.cut m).refs,r∈o.refs/\r<m:=by
 cases o with
 |box v=>exact cut_refs v
 |_=>intro r hr;cases hr
theorem cut_ds {m:Nat}: ∀ (vs:List V) {us:List Value},Cs X w σ (V.ds vs) us->Cs X w σ (V.ds (vs.map fun c=>if (c.refs.all fun r=>decide (r<m))=true then c else .un)) us
 | [],us,h=>h
 |v::vs,us,h=>by
  simp only [V.ds,Cs,List.map_cons] at h ⊢
  obtain ⟨u,us',rfl,h2,h3⟩:=h
  refine ⟨u,us',rfl, ?_,cut_ds vs h3⟩
  split
  ·exact h2
  ·exact C.any_ u
theorem cut_cells {m:Nat}(v:V){us:List Value}(h:Cs X w σ v.d.cells us):Cs X w σ (v.cut m).d.cells us:=by
 have key:v.d.cells=[v.d]->Cs X w σ (V.un).d.cells us:=by
  intro e
  rw [e] at h
  obtain ⟨u,rfl,_⟩:=h.one
  exact Cs.mk1 (C.any_ u)
 unfold V.cut
 split
 ·exact h
 ·rename_i hn
  cases v with
  |ag vs=>exact cut_ds vs h
  |t y x=>exact absurd rfl hn
  |c x=>exact absurd rfl hn
  |el y x o=>exact absurd rfl hn
  |ud=>exact absurd rfl hn
  |un=>exact absurd rfl hn
  |_=>exact key rfl
theorem oat_cut {m k:Nat}{o:VO}(h:OAt X w σ k o):OAt X w σ k (o.cut m):=by
 cases o with
 |box v=>
  obtain ⟨b,ty,vs,h1,h2,h3,h4⟩:=h
  exact ⟨b,ty,vs,h1,h2,cut_cells v h3,h4⟩
 |_=>exact h
theorem cut_no {m:Nat}{o:VO}(h:o≠ .no):o.cut m≠ .no:=by cases o<;>simp [VO.cut] at h ⊢
theorem idxOf_nodup {l:List Nat}(h:l.Nodup){i k:Nat}(hi:l[i]? = some k):l.idxOf k=i:=by
 obtain ⟨h1,h2⟩:=List.getElem?_eq_some_iff.1 hi
 have:=h.idxOf_getElem i h1
 rwa [h2] at this
set_option maxHeartbeats 1000000 in
theorem call_sound {β:Type}{F:List V->List VO->Option (Bool×V×List VO)}{f:FuncId}{vs:List V}{d:Nat}{K:VS->V->Option β}{r:β}
  (hM:Meets P f fun args objs=>match F args objs with|some (true,r,os)=>some (r,os)|_=>none) (h:callR F S vs d K=some r):
  ∃ v S',K S' v=some r∧ ∀ {B:Base} {X:Nat->Nat->Prop} {w:World} {σ:Pl} {n:Nat} {us uvs:List Value},At B X w σ n S us->Cs X w σ (V.ds vs) uvs→
   Does P f uvs.toArray w fun e w'=> ∃ u X' σ',e= .returned u/\C X' w' σ' v.d u/\At B X' w' σ' n S' us:=by
 unfold callR at h
 generalize S.reach 20 (V.refss vs) []=ks at h
 split at h
 ·rename_i hl
  split at h
  ·rename_i q rv os hF
   obtain ⟨rfl,h⟩:=br_none h
   split at h
   ·rename_i hb
    generalize his:imps d (os.length-ks.length)=is at h hb
    split at h
    ·rename_i S' hS'
     refine ⟨_,S'.back ks os (kr ks is),h,fun {B X w σ n us uvs} ha hc=> ?_⟩
     simp only [VS.lends,Bool.and_eq_true,decide_eq_true_eq,List.all_eq_true,List.contains_iff_mem] at hl
     obtain ⟨l1,l2,l3⟩:=hl
     simp only [backOk,Bool.and_eq_true,decide_eq_true_eq,List.all_eq_true] at hb
     obtain ⟨⟨b1,_⟩,b2,b3,b4⟩:=hb
     have live: ∀ k∈ks,S.st k≠ .no:=fun k hk hn=>by have:=(l3 k hk).1;rw [hn] at this;cases this
     let ρ:Pl:=fun k=>if 50000<=k/\k-50000<ks.length then σ (ks.getD (k-50000) 0) else .no
     have ρ1: ∀ (i:Nat) k,ks[i]? = some k->ρ (50000+i)=σ k:=by
      intro i k hi
      have hlt:=(List.getElem?_eq_some_iff.1 hi).1
      have:50000+i-50000=i:=by omega
      simp only [ρ,this]
      rw [if_pos ⟨by omega,hlt⟩,List.getD_eq_getElem?_getD,hi]
      rfl
     have ρ2: ∀ k∈ks,ρ (rk ks k)=σ k:=by
      intro k hk
      obtain ⟨i,hi⟩:=List.mem_iff_getElem?.1 hk
      rw [rk,idxOf_nodup l1 hi]
      exact ρ1 i k hi
     have hlen:(ks.map fun k=>(S.st k).ren (rk ks)).length=ks.length:=List.length_map _
     have hlent:Lent X w ρ (ks.map fun k=>(S.st k).ren (rk ks)):=by
      refine ⟨fun j o hj=> ?_,fun i j b hij hi hj hb hb'=> ?_⟩
      ·simp only [List.getElem?_map,Option.map_eq_some_iff] at hj
       obtain ⟨k,hk,rfl⟩:=hj
       have hkm:=List.mem_of_getElem? hk
       refine ⟨?_,ren_no (live k hkm)⟩
       have:=ren_oat (σ':=ρ) (f:=rk ks) (ha.ti.obj k) (ρ2 k hkm) (fun r hr=>ρ2 r ((l3 k hkm).2 r hr))
       rw [rk,idxOf_nodup l1 hk] at this
       exact this
      ·rw [hlen] at hi hj
       have hi':=List.getElem?_eq_getElem hi
       have hj':=List.getElem?_eq_getElem hj
       rw [ρ1 _ _ hi'] at hb
       rw [ρ1 _ _ hj'] at hb'
       refine ha.ti.apart ks[i] ks[j] b (fun he=>hij ?_) (live _ (List.getElem_mem hi)) (live _ (List.getElem_mem hj)) hb hb'
       exact (List.getElem_inj l1).1 he
     refine (hM (V.rens (rk ks) vs) _ rv os (by simp only [hF]) X w ρ uvs ⟨ha.ti.fin,ha.ti.ex.tab⟩ hlent (ren_cs vs uvs (fun k hk=>ρ2 k (l2 k hk)) hc)).mono ?_
     rintro e w' ⟨u,X',σ',rfl,hu,hE⟩
     rw [hlen] at hE
     have lB: ∀ b,b∈lentB ρ ks.length→ ∃ k∈ks,(σ k).blk=some b:=by
      intro b hb
      simp only [lentB,List.mem_filterMap,List.mem_range] at hb
      obtain ⟨j,hj,hb⟩:=hb
      rw [ρ1 j _ (List.getElem?_eq_getElem hj)] at hb
      exact ⟨_,List.getElem_mem hj,hb⟩
     have ex:w.heap.size<=w'.heap.size∧ ∀ b q,b<w.heap.size→ ¬ X b q→ ¬ X' b q/\w'.cell? ⟨b,q,none⟩=w.cell? ⟨b,q,none⟩:=by
      refine ⟨hE.fr.size,fun b q hb hx=>⟨fun hx'=>hx (hE.sub b q hb hx'),World.cell?_of_block (w:=w) (a:=⟨b,q,none⟩) (hE.fr.keep b hb fun hm=> ?_)⟩⟩
      obtain ⟨k,hk,hkb⟩:=lB b hm
      exact hx ((ha.ti.obj k).all (live k hk) hkb q)
     have ex:Ext X w X' w':=⟨ex.1,ex.2,fun b hb hx=>hE.fr.keep b hb fun hm=>by
      obtain ⟨k,hk,hkb⟩:=lB b hm
      exact hx 0 ((ha.ti.obj k).all (live k hk) hkb 0)⟩
     have g1: ∀ (i:Nat) k,ks[i]? = some k->kr ks is (50000+i)=k:=by
      intro i k hi
      have hlt:=(List.getElem?_eq_some_iff.1 hi).1
      rw [kr,show 50000+i-50000=i from by omega,List.getD_eq_getElem?_getD,List.getElem?_append_left hlt,hi]
      rfl
     have g2: ∀ (i:Nat) k,is[i]? = some k->kr ks is (50000+ks.length+i)=k:=by
      intro i k hi
      rw [kr,show 50000+ks.length+i-50000=ks.length+i from by omega,List.getD_eq_getElem?_getD,List.getElem?_append_right (by omega),show ks.length+i-ks.length=i from by omega,hi]
      rfl
     have s1: ∀ (i:Nat) k,ks[i]? = some k->σ' (50000+i)=σ k:=by
      intro i k hi
      rw [hE.same i (List.getElem?_eq_some_iff.1 hi).1,ρ1 i k hi]
     have used: ∀ i,i<ks.length->os[i]? = some .no→ ∃ k∈ks,ks[i]? = some k/\ρ (50000+i)=σ k/\k<50000/\(S.back ks (os.map (VO.cut (50000+ks.length))) (kr ks is)).st k= .no:=by
      intro i hi ho
      have hq:=List.getElem?_eq_getElem hi
      have hm:(ks[i],VO.no)∈ks.zip os:=List.mem_of_getElem? (by rw [List.getElem?_zip_eq_some];exact ⟨hq,ho⟩)
      refine ⟨ks[i],List.getElem_mem hi,hq,ρ1 i _ hq, ?_, ?_⟩
      ·simpa [VO.isNo] using b4 _ hm
      ·simp only [VS.back]
       rw [if_pos (by simp),idxOf_nodup l1 hq,List.getD_eq_getElem?_getD,List.getElem?_map,ho]
       rfl
     have hback:At B X' w' σ n (S.back ks (os.map (VO.cut (50000+ks.length))) (kr ks is)) us:=by
      have liveb: ∀ k,(S.back ks (os.map (VO.cut (50000+ks.length))) (kr ks is)).st k≠ .no->S.st k≠ .no:=by
       intro k hk
       simp only [VS.back] at hk
       split at hk
       ·rename_i hc
        exact live k (by simpa using hc)
       ·exact hk
      refine ⟨⟨hE.fin,fun k=> ?_,fun i j b hij hi hj=>ha.ti.apart i j b hij (liveb i hi) (liveb j hj),fun k b hk=>ha.ti.own k b (liveb k hk),ha.ti.fr.step hE.fr (fun b hb=> ?_),fun b q hb=> ?_,ha.ti.lnt,zz_ext ha.ti.zz ex,ha.ti.zn,ha.ti.ex.trans ex.weak⟩,ha.rel.step ex fun i=> .inl ⟨rfl,fun _ _=>rfl⟩,fun j hj=>ha.dom j (liveb j hj)⟩
      ·simp only [VS.back]
       split
       ·rename_i hc
        have hkm:k∈ks:=by simpa using hc
        obtain ⟨i,hi⟩:=List.mem_iff_getElem?.1 hkm
        have hlt:=(List.getElem?_eq_some_iff.1 hi).1
        have hle:=hE.le
        rw [idxOf_nodup l1 hi]
        have ho:=List.getElem?_eq_getElem (l:=os) (i:=i) (by omega)
        rw [List.getD_eq_getElem?_getD,List.getElem?_map,ho]
        simp only [Option.map_some,Option.getD_some]
        have q1:=oat_cut (m:=50000+ks.length) (hE.at_ i _ ho).1
        have:=ren_oat (σ':=σ) (f:=kr ks is) q1 (by rw [g1 i k hi,s1 i k hi]) (fun r hr=>by
         have hm:os[i]∈os.take ks.length:=by
          rw [List.mem_take_iff_getElem]
          exact ⟨i,by omega,rfl⟩
         obtain ⟨hr0,c2⟩:=ocut_refs _ r hr
         obtain ⟨c1,_⟩:=b3 _ hm r hr0
         obtain ⟨r',hr1⟩: ∃ r',r=50000+r':=⟨r-50000,by omega⟩
         have c3:r'<ks.length:=by omega
         have hq:=List.getElem?_eq_getElem c3
         rw [hr1,g1 _ _ hq,s1 _ _ hq])
        rw [g1 i k hi] at this
        exact this
       ·rename_i hc
        have hkm:k ∉ ks:=by simpa using hc
        by_cases hn:S.st k= .no
        ·rw [hn];trivial
        ·refine (ha.ti.obj k).ext ex rfl (fun _ _=>rfl) fun b hb=> ?_
         have hlt:=(ha.ti.obj k).lt hn hb
         refine ⟨hE.fr.keep b hlt fun hm=> ?_,fun q hq=>hE.old b q hlt (fun i hi ho hib=> ?_) hq⟩
         ·obtain ⟨k',hk',hkb⟩:=lB b hm
          exact ha.ti.apart k k' b (fun he=>hkm (he▸hk')) hn (live k' hk') hb hkb
         ·obtain ⟨k',hk',_,e,_,_⟩:=used i hi ho
          rw [e] at hib
          exact ha.ti.apart k k' b (fun he=>hkm (he▸hk')) hn (live k' hk') hb hib
      ·obtain ⟨k,hk,hkb⟩:=lB b hb
       exact ha.ti.own k b (live k hk) hkb
      ·have hbs:=Nat.lt_of_lt_of_le hb ha.ti.fr.size
       refine ⟨fun hx=>(ha.ti.old b q hb).1 (hE.sub b q hbs hx),fun hl hx=>hE.old b q hbs (fun i hi ho hib=> ?_) ((ha.ti.old b q hb).2 hl hx)⟩
       obtain ⟨k',hk',_,e,hlo,_⟩:=used i hi ho
       rw [e] at hib
       rcases ha.ti.own k' b (live k' hk') hib with q|q
       ·exact hl q
       ·omega
     have hisl:is.length=os.length-ks.length:=by rw [←his];simp [imps]
     have hle:=hE.le
     have hzl:(is.zip (os.drop ks.length)).length=os.length-ks.length:=by simp [hisl]
     have hz: ∀ (i k:Nat) o,(is.zip (os.drop ks.length))[i]? = some (k,o)->is[i]? = some k/\os[ks.length+i]? = some o:=by
      intro i k o hi
      rw [List.getElem?_zip_eq_some] at hi
      exact ⟨hi.1,by rw [←List.getElem?_drop];exact hi.2⟩
     have hfst:(is.zip (os.drop ks.length)).map Prod.fst=is:=by
      rw [List.map_fst_zip]
      simp [hisl]
     have hnd:=List.nodup_append.1 b1
     obtain ⟨σ1,a1,a2,a3⟩:=allocs_at (is.zip (os.drop ks.length)) (fun i=>σ' (50000+ks.length+i)) hS' hback (fun i k o hi=>by
      obtain ⟨z1,z2⟩:=hz i k o hi
      obtain ⟨y1,y2⟩:=hE.at_ _ o z2
      refine ⟨⟨σ',_,y1,by rw [Nat.add_assoc]⟩,y2 (by omega),fun b hb=> ?_⟩
      have hlt:=(List.getElem?_eq_some_iff.1 z2).1
      have hj0: ∀ j,(S.back ks (os.map (VO.cut (50000+ks.length))) (kr ks is)).st j≠ .no->S.st j≠ .no:=by
       intro j hj
       simp only [VS.back] at hj
       split at hj
       ·rename_i hc
        exact live j (by simpa using hc)
       ·exact hj
      rcases hE.new (ks.length+i) b (by omega) hlt (by rw [←Nat.add_assoc];exact hb) with hge|⟨i',hi',ho,hib⟩
      ·refine ⟨.inr (Nat.le_trans ha.ti.fr.size hge),fun j hj hjb=> ?_⟩
       have:=(ha.ti.obj j).lt (hj0 j hj) hjb
       omega
      ·obtain ⟨k',hk',_,e,hlo,hno⟩:=used i' hi' ho
       rw [e] at hib
       refine ⟨?_,fun j hj hjb=>ha.ti.apart j k' b (fun he=>hj (he▸hno)) (hj0 j hj) (live k' hk') hjb hib⟩
       exact ha.ti.own k' b (live k' hk') hib) (fun i j b hij hi hj=>by
      rw [hzl] at hi hj
      have nn: ∀ t,t<os.length-ks.length->os[ks.length+t]? ≠ some .no:=fun t ht ho=>(hE.at_ _ _ ho).2 (by omega) rfl
      have:=hE.apart (ks.length+i) (ks.length+j) b (by omega) (by omega) (by omega) (nn i hi) (nn j hj)
      simpa only [Nat.add_assoc] using this) (by rw [hfst];exact hnd.2.1)
     have a4:At B X' w' σ1 n (S'.back ks os (kr ks is)) us:=by
      have nis: ∀ k∈ks,k ∉ is:=fun k hk hm=>hnd.2.2 k hk k hm rfl
      have stk: ∀ (i:Nat) k o,ks[i]? = some k->os[i]? = some o->S'.st k=(o.cut (50000+ks.length)).ren (kr ks is):=by
       intro i k o hi ho
       have hk:=List.mem_of_getElem? hi
       rw [allocs_st _ hS' (by rw [hfst];exact nis k hk)]
       simp only [VS.back]
       rw [if_pos (by simpa using hk),idxOf_nodup l1 hi,List.getD_eq_getElem?_getD,List.getElem?_map,ho]
       rfl
      have stb: ∀ (i:Nat) k o,ks[i]? = some k->os[i]? = some o->(S'.back ks os (kr ks is)).st k=o.ren (kr ks is):=by
       intro i k o hi ho
       have hk:=List.mem_of_getElem? hi
       simp only [VS.back]
       rw [if_pos (by simpa using hk),idxOf_nodup l1 hi,List.getD_eq_getElem?_getD,ho]
       rfl
      have at': ∀ k∈ks, ∃ (i:Nat) (o:VO),ks[i]? = some k/\os[i]? = some o/\i<ks.length:=by
       intro k hk
       obtain ⟨i,hi⟩:=List.mem_iff_getElem?.1 hk
       have hlt:=(List.getElem?_eq_some_iff.1 hi).1
       exact ⟨i,_,hi,List.getElem?_eq_getElem (l:=os) (i:=i) (by omega),hlt⟩
      have out: ∀ k,k ∉ ks->(S'.back ks os (kr ks is)).st k=S'.st k:=by
       intro k hk
       simp only [VS.back]
       rw [if_neg (by simpa using hk)]
      have lv: ∀ k,(S'.back ks os (kr ks is)).st k≠ .no->S'.st k≠ .no:=by
       intro k hk
       by_cases hm:k∈ks
       ·obtain ⟨i,o,hi,ho,_⟩:=at' k hm
        rw [stb i k o hi ho] at hk
        rw [stk i k o hi ho]
        refine ren_no (cut_no fun e=>hk ?_)
        rw [e]
        rfl
       ·rwa [out k hm] at hk
      refine ⟨⟨a1.ti.fin,fun k=> ?_,fun i j b hij hi hj=>a1.ti.apart i j b hij (lv i hi) (lv j hj),fun k b hk=>a1.ti.own k b (lv k hk),a1.ti.fr,a1.ti.old,a1.ti.lnt,a1.ti.zz,a1.ti.zn,a1.ti.ex⟩,a1.rel,fun j hj=>a1.dom j (lv j hj)⟩
      by_cases hm:k∈ks
      ·obtain ⟨i,o,hi,ho,hlt⟩:=at' k hm
       rw [stb i k o hi ho]
       have q1:=(hE.at_ i _ ho).1
       have:=ren_oat (σ':=σ1) (f:=kr ks is) q1 (by rw [g1 i k hi,s1 i k hi];exact a2 k (by rw [hfst];exact nis k hm)) (fun r hr=>by
        have hmt:o∈os.take ks.length:=by
         rw [List.mem_take_iff_getElem]
         obtain ⟨h1,h2⟩:=List.getElem?_eq_some_iff.1 ho
         exact ⟨i,by omega,h2⟩
        obtain ⟨c1,c2⟩:=b3 _ hmt r hr
        obtain ⟨r',hr1⟩: ∃ r',r=50000+r':=⟨r-50000,by omega⟩
        rw [List.length_append] at c2
        rcases Nat.lt_or_ge r' ks.length with c3|c3
        ·have hq:=List.getElem?_eq_getElem c3
         rw [hr1,g1 _ _ hq,s1 _ _ hq]
         exact a2 _ (by rw [hfst];exact nis _ (List.getElem_mem c3))
        ·obtain ⟨i',hi'⟩: ∃ i',r'=ks.length+i':=⟨r'-ks.length,by omega⟩
         have c4:i'<is.length:=by omega
         have hq:=List.getElem?_eq_getElem c4
         have hol:ks.length+i'<os.length:=by omega
         rw [hr1,hi', ← Nat.add_assoc,g2 _ _ hq]
         exact a3 i' _ (os[ks.length+i']) (by
          rw [List.getElem?_zip_eq_some]
          exact ⟨hq,by rw [List.getElem?_drop];exact List.getElem?_eq_getElem hol⟩))
       rw [g1 i k hi] at this
       exact this
      ·rw [out k hm]
       exact a1.ti.obj k
     refine ⟨u,X',σ1,rfl,ren_c rv u (fun j hj=> ?_) hu,a4⟩
     obtain ⟨c1,c2⟩:=by simpa using b2 j hj
     obtain ⟨i,hi⟩: ∃ i,j=50000+i:=⟨j-50000,by omega⟩
     have c3:i<ks.length+is.length:=by omega
     rw [hi]
     rcases Nat.lt_or_ge i ks.length with hlt|hge
     ·have hq:=List.getElem?_eq_getElem hlt
      rw [g1 _ _ hq,s1 _ _ hq]
      refine a2 _ ?_
      rw [hfst]
      exact fun hm=>hnd.2.2 _ (List.getElem_mem hlt) _ hm rfl
     ·obtain ⟨i',hi'⟩: ∃ i',i=ks.length+i':=⟨i-ks.length,by omega⟩
      have hlt:i'<is.length:=by omega
      have hol:ks.length+i'<os.length:=by omega
      obtain ⟨k1,hq⟩: ∃ k1,is[i']? = some k1:=⟨_,List.getElem?_eq_getElem hlt⟩
      obtain ⟨o,ho⟩: ∃ o,os[ks.length+i']? = some o:=⟨_,List.getElem?_eq_getElem hol⟩
      have hzz:(is.zip (os.drop ks.length))[i']? = some (k1,o):=by
       rw [List.getElem?_zip_eq_some]
       exact ⟨hq,by rw [List.getElem?_drop];exact ho⟩
      have:=a3 _ _ _ hzz
      rw [hi', ← Nat.add_assoc,g2 _ _ hq,this]
    ·cases h
   ·cases h
  ·cases h
 ·cases h
end
end Go.Proofs.YtmokmalepelinaaGreatDoor.K
/-
 Regions:their operations,one after the other.
-/
namespace Go.Proofs.YtmokmalepelinaaGreatDoor.K
open Go.RowKit
def trA:List Operand->Option (List AX)
 | []=>some []
 |x::r=>match trX x,trA r with
  |some a,some l=>some (a::l)
  |_,_=>none
inductive RK where
 |m (mo:MO)
 |call (f:Nat) (args:List AX)
 |cv (x:AX) (args:List AX)
 |mf (f:Nat) (caps:List AX)
 |o (op:Op)
 |bad
structure RO where
 dst:Option Nat
 g:Option (Nat×Bool)
 k:RK
def trK (P:Program)(o:Op):RK:=
 match trM P o with
 |some mo=> .m mo
 |none=>match o with
  |.makeFunc (.func f) ⟨[]⟩ caps=>match trA caps.toList with
   |some l=>if f<1000000 then .mf f l else .o o
   |none=> .o o
  |.makeFunc (.func f) bnd ⟨[]⟩=>match trA bnd.toList with
   |some l=> .mf (f+1000000) l
   |none=> .o o
  |.convert a b x=>match trX x with
   |some ax=>if decide (a<10000)&&decide (b<10000) then .call (bCode 0 a b) [ax] else .o o
   |none=> .o o
  |.makeSlice t x y=>match trX x,trX y with
   |some ax,some ay=>if decide (t<10000) then .call (bCode 1 t 0) [ax,ay] else .o o
   |_,_=> .o o
  |.index t x y=>match trX x,trX y with
   |some ax,some ay=>if decide (t<10000) then .call (bCode 2 t 0) [ax,ay] else .o o
   |_,_=> .o o
  |.call c=>match c.callee,trA c.args.toList with
   |.value (.func f),some l=>match P.funcs[f]? with
    |some fn=>if (fn.body.isSome&& !(fn.name== "runtime.NumGoroutine"))&&decide (f<1000000) then .call f l else .o o
    |none=> .o o
   |.value (.tmp x),some l=> .cv (.t x) l
   |.invoke (.tmp x) name,some l=>match mIdx mNames name with
    |some i=>if decide (i<10000) then .call (bCode 15 i 0) (.t x::l) else .o o
    |none=> .o o
   |_,_=> .o o
  |.makeInterface t x=>match trX x with
   |some ax=>if decide (t<10000) then .call (bCode 3 t 0) [ax] else .o o
   |none=> .o o
  |.binOp .eql t x (.const c) _=>match trX x,trX (.const c) with
   |some ax,some ac=>if decide (t<10000) then .call (bCode 4 t 0) [ax,ac] else .o o
   |_,_=> .o o
  |_=> .o o
def trR (P:Program)(ops:Array Oper)(o:Oper):RO:=
 match o.guard with
 |none=>⟨o.dst,none,trK P o.op⟩
 |some (j,b)=>match (ops[j]?).bind (·.dst) with
  |some s=>⟨o.dst,some (s,b),trK P o.op⟩
  |none=>⟨o.dst,none,.bad⟩
structure DO where
 r:RO
 pre:List Nat
def trD (P:Program)(ops:Array Oper)(o:Oper):DO:=⟨trR P ops o,(o.after.toList.filter (Region.binds .any)).map (·.on)⟩
abbrev Fw (ro:Option Nat):Fence:=⟨fun _=>True,none,false,ro⟩
def Ty.canon:(y:Ty)->y.T->List V
 |.pr f r,x=> .t f x.1::r.canon x.2
 |_,_=>[]
def Ty.wid:Ty->Nat
 |.pr _ r=>r.wid+1
 |_=>0
theorem Ty.canon_len: ∀ (y:Ty) (x:y.T),(y.canon x).length=y.wid
 |.pr f r,x=>by
  have:=Ty.canon_len r x.2
  simp only [Ty.canon,Ty.wid,List.length_cons,this]
 |.nil,_=>rfl
 |.int _,_=>rfl
 |.bool,_=>rfl
 |.str,_=>rfl
 |.sl _,_=>rfl
 |.rv,_=>rfl
 |.rb,_=>rfl
 |.ov,_=>rfl
abbrev Itr:=List V->List VO->Option (Bool×((yr:Ty)×List yr.T))
def RowsAt (X:Nat->Nat->Prop)(w:World)(yr:Ty)(rows:List yr.T)(encs:List (Array Value)):Prop:=
 rows.length=encs.length∧ ∀ (i:Nat) r v,rows[i]? = some r->encs[i]? = some v->Cs X w nowhere (V.ds (yr.canon r)) v.toList
def ItOk (P:Program)(gf:Nat)(lb:List Value)(encs:List (Array Value))(Xf:Nat->Nat->Prop)(w:World):Prop:=
 ∀ (l:Nat) (J:List (Array Value)->World->Prop) (Jx:World->Prop) (W:World),
  (∀ s A C,J s A->Below A.heap.size A C->J s C)->(∀ A C,Jx A->Below A.heap.size A C->Jx C)→
  (∀ s A,J s A->w.heap.size<=A.heap.size∧ ∀ b o,b<w.heap.size→ ¬ Xf b o->A.cell? ⟨b,o,none⟩=w.cell? ⟨b,o,none⟩)→
  (∀ v s A,J (v::s) A->YieldAt (Fw none) 7 P l v A fun e A'=>(e= .returned (.bool true)/\J s A')∨(e= .returned (.bool false)/\Jx A'))→
  J encs W->(∀ b o,b<w.heap.size->W.cell? ⟨b,o,none⟩=w.cell? ⟨b,o,none⟩)->CallsIn (Fw none) 8 P gf ((.func (.yield l) #[] #[]::lb).toArray) W fun e W'=>(∃ v,e= .returned v)/\(J [] W'∨Jx W')
def itB (gf:Nat):Nat:=if gf<1000000 then gf else gf-1000000
theorem itB_lt {gf:Nat}(h:gf<1000000):itB gf=gf:=if_pos h
theorem itB_add (gf:Nat):itB (gf+1000000)=gf:=by
 unfold itB
 rw [if_neg (by omega)]
 omega
def Iters (P:Program)(gf:Nat)(F:Itr):Prop:=
 (∀ args w,(callFunc (itB gf) args).run P w= .ok (.enter (itB gf) args) w)∧ ∀ caps objs yr rows,F caps objs=some (true,⟨yr,rows⟩)→ ∀ X w σ lb,(∀ b q,X b q->b<w.heap.size)->Lent X w σ objs->Cs X w σ (V.ds caps) lb→
  ∃ encs,RowsAt X w yr rows encs/\ItOk P (itB gf) lb encs (fun b q=>X b q/\(1000000<=gf∨ ∀ j,j<objs.length->(σ (50000+j)).blk≠some b)) w
theorem Iters.weak {P:Program}{gf:Nat}{F:Itr}(h:gf<1000000)(h1: ∀ args w,(callFunc gf args).run P w= .ok (.enter gf args) w)
  (h2: ∀ caps objs yr rows,F caps objs=some (true,⟨yr,rows⟩)→ ∀ X w σ lb,(∀ b q,X b q->b<w.heap.size)->Lent X w σ objs->Cs X w σ (V.ds caps) lb→
   ∃ encs,RowsAt X w yr rows encs/\ItOk P gf lb encs (fun b q=>X b q∧ ∀ j,j<objs.length->(σ (50000+j)).blk≠some b) w):Iters P gf F:=by
 unfold Iters
 rw [itB_lt h]
 refine ⟨h1,fun caps objs yr rows hF X w σ lb a b c=> ?_⟩
 obtain ⟨encs,e1,e2⟩:=h2 caps objs yr rows hF X w σ lb a b c
 refine ⟨encs,e1, ?_⟩
 have:(fun b q=>X b q/\(1000000<=gf∨ ∀ j,j<objs.length->(σ (50000+j)).blk≠some b))=fun b q=>X b q∧ ∀ j,j<objs.length->(σ (50000+j)).blk≠some b:=by
  funext b q
  exact propext ⟨fun hx=>⟨hx.1,hx.2.resolve_left (by omega)⟩,fun hx=>⟨hx.1,.inr hx.2⟩⟩
 rw [this]
 exact e2
structure G where
 TY:Nat->Option Ty
 own:List Nat
 n:Nat
 E:Nat->List V->List VO->Option (Bool×V×List VO)
 keep:List Nat
 L:Nat->VS->Option (Bool×List (Bool×Exit×VS))
 I:Nat->Itr
 R:Nat->VS->(yr:Ty)->List yr.T->Option (Bool×List (Bool×Exit×VS))
def Entered (P:Program)(f:FuncId):Prop:=((bRun f).isSome||(mName f).isSome)=true∨(f<1000000∧ ∃ fn,P.funcs[f]? = some fn/\fn.body.isSome=true/\(fn.name== "runtime.NumGoroutine")=false)
def GOk (P:Program)(g:G):Prop:=(∀ f args objs x,g.E f args objs=some x->Entered P f/\Meets P f fun args objs=>match g.E f args objs with|some (true,r,os)=>some (r,os)|_=>none)∧ ∀ f caps objs x,g.I f caps objs=some x->Iters P f (g.I f)
section
variable {β:Type}
def putR (n:Nat)(S:VS)(dst:Option Nat)(v:V)(K:VS->Option β):Option β:=
 match dst with
 |none=>K S
 |some d=>if d<n then K (S.set (some d) v) else none
def callA (g:G)(f:Nat)(S S1:VS)(vs:List V)(dst:Option Nat)(K:VS->Option β):Option β:=
 if (vs.all V.good)=true then callR (g.E f) S1 vs (dst.getD 0) fun S' v=>putR g.n S' dst v K else none
def frz (g:G)(f:Nat)(S:VS)(vs:List V):VS:=if g.keep.contains f=true then S else S.fzs (V.msss vs)
def vals (e:Env)(l:List AX):List V:=l.map (AX.xv e)
def RK.run (g:G)(S:VS)(dst:Option Nat)(K:VS->Option β):RK->Option β
 |.m mo=>mo.run g.TY (g.own.contains (dst.getD 0)) (dst.getD 0) S fun S' v=>putR g.n S' dst v K
 |.call f l=>callA g f S (frz g f S (vals S.ts l)) (vals (frz g f S (vals S.ts l)).ts l) dst K
 |.cv x l=>match x.xv S.ts with
  |.c (.func (.func f) ⟨[]⟩ ⟨[]⟩)=>if f<1000000 then callA g f S (frz g f S (vals S.ts l)) (vals (frz g f S (vals S.ts l)).ts l) dst K else none
  |.fn f caps=>if V.msss caps=[]/\f<1000000 then callA g f S (frz g f S (vals S.ts l)) (vals (frz g f S (vals S.ts l)).ts l++caps) dst K
   else if V.msss caps=[]/\1000000<=f/\f-1000000<1000000 then callA g (f-1000000) S (frz g (f-1000000) S (vals S.ts l)) (caps++(vals (frz g (f-1000000) S (vals S.ts l)).ts l++[])) dst K else none
  |_=>none
 |.mf f caps=>if ((vals S.ts caps).all fun v=>v.good&&(v.one||decide (1000000<=f)))=true then putR g.n S dst (.fn f (vals S.ts caps)) K else none
 |.o _=>none
 |.bad=>none
def RO.run (g:G)(S:VS)(K:VS->Option β)(r:RO):Option β:=
 match r.g with
 |none=>r.k.run g S r.dst K
 |some (s,b)=>match S.ts s with
  |.t .bool q=>match b with
   |true=>br q (r.k.run g S r.dst K) (putR g.n S r.dst .ud K)
   |false=>br q (putR g.n S r.dst .ud K) (r.k.run g S r.dst K)
  |.ud=>putR g.n S r.dst .ud K
  |_=>none
def VS.know (S:VS)(s:Nat)(b:Bool):VS:=⟨upd S.ts s (.t .bool b),S.st,S.dom⟩
def learn (S:VS)(g:Option (Nat×Bool))(K:VS->Option β):Option β:=
 match g with
 |none=>K S
 |some (s,_)=>match S.ts s with
  |.t .bool q=>br q (K (S.know s true)) (K (S.know s false))
  |_=>K S
theorem know_eq {S:VS}{s:Nat}{b:Bool}(h:S.ts s= .t .bool b):S.know s b=S:=by
 unfold VS.know
 have:upd S.ts s (.t .bool b)=S.ts:=by
  funext i
  by_cases hi:i=s
  ·subst hi;rw [upd_self,h]
  ·rw [upd_ne _ _ hi]
 rw [this]
theorem learn_some {S:VS}{g:Option (Nat×Bool)}{K:VS->Option β}{r:β}(h:learn S g K=some r):K S=some r:=by
 unfold learn at h
 split at h
 ·exact h
 ·split at h
  ·rename_i s _ q hq
   rcases br_some h with ⟨rfl,h⟩|⟨rfl,h⟩
   ·rwa [know_eq hq] at h
   ·rwa [know_eq hq] at h
  ·exact h
def evL (g:G):List RO->VS->(VS->Option β)->Option β
 | [],S,K=>K S
 |r::rs,S,K=>learn S r.g fun S=>r.run g S fun S'=>evL g rs S' K
end
def uput (us:List Value)(dst:Option Nat)(u:Value):List Value:=
 match dst with
 |some k=>us.set k u
 |none=>us
section
variable {P:Program}{B:Base}{X:Nat->Nat->Prop}{w:World}{σ:Pl}{n:Nat}{S:VS}{us:List Value}
theorem put_eq (us:List Value)(df:List Deferred)(dst:Option Nat)(u:Value):Act.put ⟨us.toArray,df⟩ dst u=⟨(uput us dst u).toArray,df⟩:=by
 cases dst<;>simp [Act.put,uput]
theorem At.put (h:At B X w σ n S us){d:Nat}(hd:d<n){v:V}{u:Value}(hc:C X w σ v.d u):At B X w σ n (S.set (some d) v) (us.set d u):=by
 refine ⟨h.ti,⟨by simp [h.rel.len],fun i x hx=> ?_,fun i hi=> ?_⟩,h.dom⟩
 ·simp only [VS.set]
  by_cases hid:i=d
  ·subst hid
   rw [upd_self]
   rw [List.getElem?_set_self (by rw [h.rel.len];exact hd)] at hx
   injection hx with hx
   subst hx
   exact hc
  ·rw [upd_ne _ _ hid]
   rw [List.getElem?_set_ne (fun q=>hid q.symm)] at hx
   exact h.rel.at_ i x hx
 ·simp only [VS.set]
  rw [upd_ne _ _ (by omega)]
  exact h.rel.out i hi
theorem putR_sound {β:Type}{K:VS->Option β}{r:β}{dst:Option Nat}{v:V}(h:putR n S dst v K=some r)(ha:At B X w σ n S us){u:Value}(hc:C X w σ v.d u):
  ∃ S',K S'=some r/\At B X w σ n S' (uput us dst u):=by
 cases dst with
 |none=>exact ⟨S,h,ha⟩
 |some d=>
  simp only [putR] at h
  split at h
  ·rename_i hd
   exact ⟨_,h,ha.put hd hc⟩
  ·cases h
theorem trK_m {op:Op}{mo:MO}(ht:trK P op= .m mo):trM P op=some mo:=by
 unfold trK at ht
 split at ht
 ·rename_i m hm
  simp only [RK.m.injEq] at ht
  rw [hm,ht]
 ·repeat' split at ht
  all_goals cases ht
theorem bCode_0 {a b:Nat}(ha:a<10000):bRun (bCode 0 a b)=some fun vs=>match vs with
  | [x]=>convert a b x
  |_=>stuck "operands" :=by
 have h1:(bCode 0 a b-1000000) % 16=0:=by unfold bCode;omega
 have h2:((bCode 0 a b-1000000) / 16) % 10000=a:=by unfold bCode;omega
 have h3:(bCode 0 a b-1000000) / 160000=b:=by unfold bCode;omega
 unfold bRun
 rw [if_neg (by unfold bCode;omega),h1,h2,h3]
 rfl
theorem bCode_1 {a b:Nat}(ha:a<10000):bRun (bCode 1 a b)=some fun vs=>match vs with
  | [x,y]=>Instr.makeSlice a x y
  |_=>stuck "operands" :=by
 have h1:(bCode 1 a b-1000000) % 16=1:=by unfold bCode;omega
 have h2:((bCode 1 a b-1000000) / 16) % 10000=a:=by unfold bCode;omega
 unfold bRun
 rw [if_neg (by unfold bCode;omega),h1,h2]
 rfl
theorem bCode_2 {a b:Nat}(ha:a<10000):bRun (bCode 2 a b)=some fun vs=>match vs with
  | [x,y]=>Instr.index a x y
  |_=>stuck "operands" :=by
 have h1:(bCode 2 a b-1000000) % 16=2:=by unfold bCode;omega
 have h2:((bCode 2 a b-1000000) / 16) % 10000=a:=by unfold bCode;omega
 unfold bRun
 rw [if_neg (by unfold bCode;omega),h1,h2]
 rfl
theorem bCode_3 {a b:Nat}(ha:a<10000):bRun (bCode 3 a b)=some fun vs=>match vs with
  | [x]=>Instr.makeInterface a x
  |_=>stuck "operands" :=by
 have h1:(bCode 3 a b-1000000) % 16=3:=by unfold bCode;omega
 have h2:((bCode 3 a b-1000000) / 16) % 10000=a:=by unfold bCode;omega
 unfold bRun
 rw [if_neg (by unfold bCode;omega),h1,h2]
 rfl
theorem bCode_4 {a b:Nat}(ha:a<10000):bRun (bCode 4 a b)=some fun vs=>match vs with
  | [x,y]=>do eqGuard .eql a (.const x) (.const y) x y;binOp .eql a x y
  |_=>stuck "operands" :=by
 have h1:(bCode 4 a b-1000000) % 16=4:=by unfold bCode;omega
 have h2:((bCode 4 a b-1000000) / 16) % 10000=a:=by unfold bCode;omega
 unfold bRun
 rw [if_neg (by unfold bCode;omega),h1,h2]
 rfl
theorem guard_const {t:TypeId}{x:Operand}{c a b:Value}:eqGuard .eql t x (.const c) a b=eqGuard .eql t (.const a) (.const b) a b:=by
 unfold eqGuard
 cases a<;>cases b<;>first|rfl|simp
theorem bCode_15 {i:Nat}:bRun (bCode 15 i 0)=none/\mName (bCode 15 i 0)=mNames[i]? :=by
 have h1:(bCode 15 i 0-1000000) % 16=15:=by unfold bCode;omega
 have h2:(bCode 15 i 0-1000000) / 16=i:=by unfold bCode;omega
 constructor
 ·unfold bRun
  rw [if_neg (by unfold bCode;omega),h1]
  rfl
 ·unfold mName
  rw [if_neg (by unfold bCode;omega),if_pos h1,h2]
theorem trK_call {op:Op}{f:Nat}{xs:List AX}(h:trK P op= .call f xs):(∃ c,op= .call c/\c.callee= .value (.func f)/\trA c.args.toList=some xs/\f<1000000∧ ∃ fn,P.funcs[f]? = some fn/\fn.body.isSome=true/\(fn.name== "runtime.NumGoroutine")=false)∨
  (∃ g l,bRun f=some g/\trA l=some xs∧ ∀ (ev:Operand->Value) (o:Oper) (w:World),o.op=op->(execOp ev o).run P w=((g (l.map ev)).run P w).andThen fun v w=> .ok (.value v) w)∨
  (∃ c x name l,op= .call c/\c.callee= .invoke (.tmp x) name/\trA (.tmp x::c.args.toList)=some l/\l=xs/\bRun f=none/\mName f=some name):=by
 unfold trK at h
 split at h
 ·cases h
 ·split at h
  ·repeat' split at h
   all_goals cases h
  ·repeat' split at h
   all_goals cases h
  ·rename_i a b x _
   split at h
   ·rename_i ax hx
    split at h
    ·rename_i hab
     simp only [Bool.and_eq_true,decide_eq_true_eq] at hab
     simp only [RK.call.injEq] at h
     obtain ⟨rfl,rfl⟩:=h
     refine .inr (.inl ⟨_,[x],bCode_0 hab.1,by simp only [trA,hx],fun ev o w ho=> ?_⟩)
     simp only [execOp,ho,List.map_cons,List.map_nil,Sem.run_bind,Sem.run_pure]
    ·cases h
   ·cases h
  ·rename_i t x y _
   split at h
   ·rename_i ax ay hx hy
    split at h
    ·rename_i hab
     simp only [decide_eq_true_eq] at hab
     simp only [RK.call.injEq] at h
     obtain ⟨rfl,rfl⟩:=h
     refine .inr (.inl ⟨_,[x,y],bCode_1 hab,by simp only [trA,hx,hy],fun ev o w ho=> ?_⟩)
     simp only [execOp,ho,List.map_cons,List.map_nil,Sem.run_bind,Sem.run_pure]
    ·cases h
   ·cases h
  ·rename_i t x y _
   split at h
   ·rename_i ax ay hx hy
    split at h
    ·rename_i hab
     simp only [decide_eq_true_eq] at hab
     simp only [RK.call.injEq] at h
     obtain ⟨rfl,rfl⟩:=h
     refine .inr (.inl ⟨_,[x,y],bCode_2 hab,by simp only [trA,hx,hy],fun ev o w ho=> ?_⟩)
     simp only [execOp,ho,List.map_cons,List.map_nil,Sem.run_bind,Sem.run_pure]
    ·cases h
   ·cases h
  ·rename_i c _
   split at h
   ·rename_i f' l hcal hl
    split at h
    ·rename_i fn hfn
     split at h
     ·rename_i hb
      simp only [RK.call.injEq] at h
      obtain ⟨rfl,rfl⟩:=h
      simp only [Bool.and_eq_true,Bool.not_eq_true',decide_eq_true_eq] at hb
      exact .inl ⟨c,rfl,hcal,hl,hb.2,fn,hfn,hb.1.1,hb.1.2⟩
     ·cases h
    ·cases h
   ·cases h
   ·rename_i x name l hcal hl
    split at h
    ·rename_i i hi
     split at h
     ·simp only [RK.call.injEq] at h
      obtain ⟨rfl,rfl⟩:=h
      exact .inr (.inr ⟨c,x,name,_,rfl,hcal,by simp only [trA,trX,hl],rfl,bCode_15.1,bCode_15.2.trans (mIdx_get hi)⟩)
     ·cases h
    ·cases h
   ·cases h
  ·rename_i t x _
   split at h
   ·rename_i ax hx
    split at h
    ·rename_i hab
     simp only [decide_eq_true_eq] at hab
     simp only [RK.call.injEq] at h
     obtain ⟨rfl,rfl⟩:=h
     refine .inr (.inl ⟨_,[x],bCode_3 hab,by simp only [trA,hx],fun ev o w ho=> ?_⟩)
     simp only [execOp,ho,List.map_cons,List.map_nil,Sem.run_bind,Sem.run_pure]
    ·cases h
   ·cases h
  ·rename_i t x c _ _
   split at h
   ·rename_i ax ac hx hc
    split at h
    ·rename_i hab
     simp only [decide_eq_true_eq] at hab
     simp only [RK.call.injEq] at h
     obtain ⟨rfl,rfl⟩:=h
     refine .inr (.inl ⟨_,[x,.const c],bCode_4 hab,by simp only [trA,hx,hc],fun ev o w ho=> ?_⟩)
     simp only [execOp,ho,List.map_cons,List.map_nil,Sem.run_bind,Sem.run_pure,guard_const]
    ·cases h
   ·cases h
  ·cases h
theorem trK_cv {op:Op}{x:AX}{xs:List AX}(h:trK P op= .cv x xs): ∃ c t,op= .call c/\c.callee= .value (.tmp t)/\x= .t t/\trA c.args.toList=some xs:=by
 unfold trK at h
 split at h
 ·cases h
 ·split at h
  ·repeat' split at h
   all_goals cases h
  ·repeat' split at h
   all_goals cases h
  ·repeat' split at h
   all_goals cases h
  ·repeat' split at h
   all_goals cases h
  ·repeat' split at h
   all_goals cases h
  ·rename_i c _
   split at h
   ·split at h
    ·split at h<;>cases h
    ·cases h
   ·rename_i t l hcal hl
    simp only [RK.cv.injEq] at h
    obtain ⟨rfl,rfl⟩:=h
    exact ⟨c,t,rfl,hcal,rfl,hl⟩
   ·repeat' split at h
    all_goals cases h
   ·cases h
  ·repeat' split at h
   all_goals cases h
  ·repeat' split at h
   all_goals cases h
  ·cases h
theorem trK_mf {op:Op}{f:Nat}{xs:List AX}(h:trK P op= .mf f xs):(f<1000000∧ ∃ caps,op= .makeFunc (.func f) #[] caps/\trA caps.toList=some xs)∨(¬ f<1000000∧ ∃ bnd,op= .makeFunc (.func (f-1000000)) bnd #[]/\trA bnd.toList=some xs):=by
 unfold trK at h
 split at h
 ·cases h
 ·split at h
  ·rename_i f' caps _
   split at h
   ·rename_i l hl
    split at h
    ·rename_i hlt
     simp only [RK.mf.injEq] at h
     obtain ⟨rfl,rfl⟩:=h
     exact .inl ⟨hlt,caps,rfl,hl⟩
    ·cases h
   ·cases h
  ·rename_i f' bnd _ _
   split at h
   ·rename_i l hl
    simp only [RK.mf.injEq] at h
    obtain ⟨rfl,rfl⟩:=h
    exact .inr ⟨by omega,bnd,by rw [Nat.add_sub_cancel],hl⟩
   ·cases h
  ·repeat' split at h
   all_goals cases h
  ·repeat' split at h
   all_goals cases h
  ·repeat' split at h
   all_goals cases h
  ·repeat' split at h
   all_goals cases h
  ·repeat' split at h
   all_goals cases h
  ·repeat' split at h
   all_goals cases h
  ·cases h
theorem vals_sound: ∀ {l:List Operand} {xs:List AX},trA l=some xs->(vals S.ts xs).all V.good=true->Rel X w σ n S.ts us->Cs X w σ (V.ds (vals S.ts xs)) (l.map (Act.eval ⟨us.toArray,[]⟩))
 | [],xs,h1,_,_=>by
  simp only [trA,Option.some.injEq] at h1
  subst h1
  simp [vals,V.ds,Cs]
 |o::l,xs,h1,h2,hr=>by
  simp only [trA] at h1
  split at h1
  ·rename_i a r ha hrr
   simp only [Option.some.injEq] at h1
   subst h1
   simp only [vals,List.map_cons,List.all_cons,Bool.and_eq_true] at h2
   simp only [vals,List.map_cons,V.ds]
   exact Cs.cons (xv_sound ha h2.1 hr) (vals_sound hrr h2.2 hr)
  ·cases h1
theorem calls_fw {ro:Option Nat}{nn:Nat}{f:FuncId}{args:Array Value}{R:Ending->World->Prop}(h:Calls P f args w R):CallsIn (Fw ro) nn P f args w R:=by
 have:=(callsIn_wide (n:=nn)).2 h
 exact this
theorem wpIn_of {ro:Option Nat}{nn:Nat}{df:List Deferred}{us:List Value}{o:Oper}{K:Act->World->Prop}{Q':Exit->Act->World->Prop}(hnd: ∀ c,o.op≠ .defer c)(h:o.uponIn (Fw ro) nn P ⟨us.toArray,df⟩ K Q' ((execOp (Act.eval ⟨us.toArray,[]⟩) o).run P w)):o.wpIn (Fw ro) nn P ⟨us.toArray,df⟩ w K Q':=by
 refine ⟨fun _ _=>trivial, ?_⟩
 rw [Oper.semAt_eq _ _ _ hnd]
 exact h
theorem call_wp {ro:Option Nat}{nn:Nat}{df:List Deferred}{us:List Value}{o:Oper}{c:Call}{f:Nat}{vs:List Value}{caps:List Value}{x:Operand}{K:Act->World->Prop}{Q':Exit->Act->World->Prop}(ho:o.op= .call c)(hc:c.callee= .value x)(hx:Act.eval ⟨us.toArray,[]⟩ x= .func (.func f) #[] caps.toArray)(he: ∃ fn,P.funcs[f]? = some fn/\fn.body.isSome=true/\(fn.name== "runtime.NumGoroutine")=false)
  (hv:c.args.toList.map (Act.eval ⟨us.toArray,[]⟩)=vs) (h:Calls P f (vs++caps).toArray w fun e w'=> ∃ u,e= .returned u/\K (Act.put ⟨us.toArray,df⟩ o.dst u) w'):o.wpIn (Fw ro) nn P ⟨us.toArray,df⟩ w K Q':=by
 obtain ⟨fn,hf,hb,hn⟩:=he
 have hb': ¬ fn.body=none:=by
  intro hq
  rw [hq] at hb
  cases hb
 have hn': ¬ fn.name= "runtime.NumGoroutine" :=by simpa using hn
 have hr:(execOp (Act.eval ⟨us.toArray,[]⟩) o).run P w= .ok (.enter f (vs++caps).toArray) w:=by
  have hargs:c.args.map (Act.eval ⟨us.toArray,[]⟩)=vs.toArray:=by rw [←hv];apply Array.ext';simp
  simp [execOp,ho,resolve,hc,hx,Deferred.ofValue,invoke,callFunc,hf,hn',hb',hargs]
 refine wpIn_of (fun c' h'=>by rw [ho] at h';cases h') ?_
 rw [hr,Oper.uponIn_enter]
 refine ⟨fun h'=>(by cases h'),calls_fw (h.mono ?_)⟩
 rintro e w' ⟨u,rfl,hk⟩
 exact hk
theorem call_wpB {ro:Option Nat}{nn:Nat}{df:List Deferred}{us:List Value}{o:Oper}{c:Call}{f:Nat}{vs:List Value}{bnd:List Value}{x:Operand}{K:Act->World->Prop}{Q':Exit->Act->World->Prop}(ho:o.op= .call c)(hc:c.callee= .value x)(hx:Act.eval ⟨us.toArray,[]⟩ x= .func (.func f) bnd.toArray #[])(he: ∃ fn,P.funcs[f]? = some fn/\fn.body.isSome=true/\(fn.name== "runtime.NumGoroutine")=false)
  (hv:c.args.toList.map (Act.eval ⟨us.toArray,[]⟩)=vs) (h:Calls P f (bnd++vs).toArray w fun e w'=> ∃ u,e= .returned u/\K (Act.put ⟨us.toArray,df⟩ o.dst u) w'):o.wpIn (Fw ro) nn P ⟨us.toArray,df⟩ w K Q':=by
 obtain ⟨fn,hf,hb,hn⟩:=he
 have hb': ¬ fn.body=none:=by
  intro hq
  rw [hq] at hb
  cases hb
 have hn': ¬ fn.name= "runtime.NumGoroutine" :=by simpa using hn
 have hr:(execOp (Act.eval ⟨us.toArray,[]⟩) o).run P w= .ok (.enter f (bnd++vs).toArray) w:=by
  have hargs:c.args.map (Act.eval ⟨us.toArray,[]⟩)=vs.toArray:=by rw [←hv];apply Array.ext';simp
  simp [execOp,ho,resolve,hc,hx,Deferred.ofValue,invoke,callFunc,hf,hn',hb',hargs]
 refine wpIn_of (fun c' h'=>by rw [ho] at h';cases h') ?_
 rw [hr,Oper.uponIn_enter]
 refine ⟨fun h'=>(by cases h'),calls_fw (h.mono ?_)⟩
 rintro e w' ⟨u,rfl,hk⟩
 exact hk
theorem invoke_wp {ro:Option Nat}{nn:Nat}{df:List Deferred}{us:List Value}{o:Oper}{c:Call}{f x:Nat}{name:String}{t:TypeId}{v r:Value}{rest:List Value}{K:Act->World->Prop}{Q':Exit->Act->World->Prop}(ho:o.op= .call c)(hc:c.callee= .invoke (.tmp x) name)
  (hv:(Operand.tmp x::c.args.toList).map (Act.eval ⟨us.toArray,[]⟩)= .iface t v::rest) (hm:MethodOf P t v name f r) (he: ∃ fn,P.funcs[f]? = some fn/\fn.body.isSome=true/\(fn.name== "runtime.NumGoroutine")=false)
  (h:Calls P f (r::rest).toArray w fun e w'=> ∃ u,e= .returned u/\K (Act.put ⟨us.toArray,df⟩ o.dst u) w'):o.wpIn (Fw ro) nn P ⟨us.toArray,df⟩ w K Q':=by
 obtain ⟨fn,hf,hb,hn⟩:=he
 have hb': ¬ fn.body=none:=by
  intro hq
  rw [hq] at hb
  cases hb
 have hn': ¬ fn.name= "runtime.NumGoroutine" :=by simpa using hn
 rw [List.map_cons,List.cons.injEq] at hv
 obtain ⟨hx,hv⟩:=hv
 have hm:=hm w
 have hr:(execOp (Act.eval ⟨us.toArray,[]⟩) o).run P w= .ok (.enter f (r::rest).toArray) w:=by
  have hargs:c.args.map (Act.eval ⟨us.toArray,[]⟩)=rest.toArray:=by rw [←hv];apply Array.ext';simp
  have hex:((#[Value.iface t v]++rest.toArray).extract 1 (#[Value.iface t v]++rest.toArray).size)=rest.toArray:=by
   apply Array.ext'
   simp
  simp [execOp,ho,resolve,hc,hx,invoke,callMethod,callFunc,hf,hn',hb',hargs,hm,hex]
 refine wpIn_of (fun c' h'=>by rw [ho] at h';cases h') ?_
 rw [hr,Oper.uponIn_enter]
 refine ⟨fun h'=>(by cases h'),calls_fw (h.mono ?_)⟩
 rintro e w' ⟨u,rfl,hk⟩
 exact hk
theorem trK_defer {op:Op}{k:RK}(ht:trK P op=k)(hk:k≠ .bad)(hk2: ∀ o,k≠ .o o): ∀ c,op≠ .defer c:=by
 rintro c rfl
 subst ht
 simp [trK,trM,tr] at hk hk2
theorem callA_sound {β:Type}{g:G}{f:Nat}{S1:VS}{vs:List V}{dst:Option Nat}{K:VS->Option β}{r:β}(hg:GOk P g)(h:callA g f S S1 vs dst K=some r):
  Entered P f/\vs.all V.good=true∧ ∀ {B:Base} {X:Nat->Nat->Prop} {w:World} {σ:Pl} {us uvs:List Value},At B X w σ g.n S1 us->Cs X w σ (V.ds vs) uvs→
   Does P f uvs.toArray w fun e w'=> ∃ u,e= .returned u∧ ∃ S' X' σ',K S'=some r/\At B X' w' σ' g.n S' (uput us dst u):=by
 unfold callA at h
 split at h
 ·rename_i hgood
  have hE: ∃ args objs x,g.E f args objs=some x:=by
   unfold callR at h
   split at h
   ·split at h
    ·rename_i q rv os hF
     exact ⟨_,_,_,hF⟩
    ·cases h
   ·cases h
  obtain ⟨args,objs,x,hE⟩:=hE
  obtain ⟨he,hM⟩:=hg.1 f args objs x hE
  obtain ⟨v,S',h1,h2⟩:=call_sound hM h
  refine ⟨he,hgood,fun {B X w σ us uvs} ha hc=>(h2 ha hc).mono ?_⟩
  rintro e w' ⟨u,X',σ',rfl,hu,ha'⟩
  obtain ⟨S2,h3,h4⟩:=putR_sound h1 ha' hu
  exact ⟨u,rfl,S2,X',σ',h3,h4⟩
 ·cases h
theorem frz_at {g:G}{f:Nat}{vs:List V}(ha:At B X w σ n S us): ∃ X',At B X' w σ n (frz g f S vs) us/\Ext X w X' w:=by
 unfold frz
 split
 ·exact ⟨X,ha,Ext.refl X w⟩
 ·exact ha.fzs _
theorem rk_sound {β:Type}{g:G}{k:RK}{dst:Option Nat}{K:VS->Option β}{r:β}(hg:GOk P g)(h:k.run g S dst K=some r)(o:Oper)(ht:trK P o.op=k)(hd:o.dst=dst)(ha:At B X w σ g.n S us){ro:Option Nat}{nn:Nat}{df:List Deferred}
  {K':Act->World->Prop} {Q':Exit->Act->World->Prop} (hK: ∀ S' X' w' σ' us',At B X' w' σ' g.n S' us'->K S'=some r->K' ⟨us'.toArray,df⟩ w'):o.wpIn (Fw ro) nn P ⟨us.toArray,df⟩ w K' Q':=by
 subst hd
 have hnd: ∀ c,o.op≠ .defer c:=trK_defer ht (by rintro rfl;cases h) (by rintro op rfl;cases h)
 cases k with
 |m mo=>
  simp only [RK.run] at h
  obtain ⟨v,S',h1,h2⟩:=mo_sound h
  obtain ⟨nx,w',X',σ',q1,q2,q3⟩:=h2 o (trK_m ht) ha
  refine wpIn_of hnd ?_
  rw [q1]
  rcases q2 with ⟨u,rfl,hu⟩|⟨rfl,hv⟩
  ·obtain ⟨S2,h3,h4⟩:=putR_sound h1 q3 hu
   simp only [Oper.uponIn_value]
   rw [put_eq]
   exact hK S2 X' w' σ' _ h4 h3
  ·subst hv
   obtain ⟨S2,h3,h4⟩:=putR_sound h1 q3 (u:=undef) (C.any_ _)
   simp only [Oper.uponIn_skip]
   rw [put_eq]
   exact hK S2 X' w' σ' _ h4 h3
 |call f l=>
  simp only [RK.run] at h
  obtain ⟨h5,h6,h7⟩:=callA_sound hg h
  obtain ⟨X1,ha1,_⟩:=frz_at (g:=g) (f:=f) (vs:=vals S.ts l) ha
  rcases trK_call ht with ⟨c,h1,h2,h3,hlt,h4⟩|⟨gb,lo,hb,h3,hx⟩|⟨c,x,name,l',h1,h2,h3,rfl,hb,hmn⟩
  ·have hvs:=vals_sound h3 h6 ha1.rel
   refine call_wp (caps:=[]) h1 h2 (by simp [Act.eval]) h4 rfl ?_
   rw [List.append_nil]
   refine (of_does hlt (h7 ha1 hvs)).mono ?_
   rintro e w' ⟨u,rfl,S',X',σ',q1,q2⟩
   refine ⟨u,rfl, ?_⟩
   rw [put_eq]
   exact hK S' X' w' σ' _ q2 q1
  ·have hvs:=vals_sound h3 h6 ha1.rel
   have hd:=h7 ha1 hvs
   unfold Does at hd
   rw [hb] at hd
   obtain ⟨u,w',e1,u',e2,S',X',σ',q1,q2⟩:=hd
   injection e2 with e2
   subst e2
   have hrun:(execOp (Act.eval ⟨us.toArray,[]⟩) o).run P w= .ok (.value u) w':=by
    rw [hx (Act.eval ⟨us.toArray,[]⟩) o w rfl]
    have e1':(gb (lo.map (Act.eval ⟨us.toArray,[]⟩))).run P w= .ok u w':=e1
    rw [e1']
    rfl
   refine wpIn_of hnd ?_
   rw [hrun]
   simp only [Oper.uponIn_value]
   rw [put_eq]
   exact hK S' X' w' σ' _ q2 q1
  ·have hvs:=vals_sound h3 h6 ha1.rel
   have hd:=h7 ha1 hvs
   unfold Does at hd
   rw [hb] at hd
   simp only [hmn] at hd
   obtain ⟨t,v,fn,r,rest,e1,e2,e3,e4⟩:=hd
   refine invoke_wp h1 h2 (by simpa using e1) e2 e3 (e4.mono ?_)
   rintro e w' ⟨u,rfl,S',X',σ',q1,q2⟩
   refine ⟨u,rfl, ?_⟩
   rw [put_eq]
   exact hK S' X' w' σ' _ q2 q1
 |cv x l=>
  obtain ⟨c,t,h1,h2,rfl,h3⟩:=trK_cv ht
  simp only [RK.run] at h
  split at h
  ·rename_i f hx
   split at h
   ·rename_i hlt
    obtain ⟨h5,h6,h7⟩:=callA_sound hg h
    obtain ⟨X1,ha1,_⟩:=frz_at (g:=g) (f:=f) (vs:=vals S.ts l) ha
    have hvs:=vals_sound h3 h6 ha1.rel
    have kx:=xv_sound (o:= .tmp t) (x:= .t t) rfl (by rw [hx];rfl) ha.rel
    rw [hx] at kx
    have h5': ∃ fn,P.funcs[f]? = some fn/\fn.body.isSome=true/\(fn.name== "runtime.NumGoroutine")=false:=by
     rcases h5 with h5|h5
     ·rw [does_lt hlt,mname_lt hlt] at h5;cases h5
     ·exact h5.2
    refine call_wp (caps:=[]) h1 h2 (C.v kx).1 h5' rfl ?_
    rw [List.append_nil]
    refine (of_does hlt (h7 ha1 hvs)).mono ?_
    rintro e w' ⟨u,rfl,S',X',σ',q1,q2⟩
    refine ⟨u,rfl, ?_⟩
    rw [put_eq]
    exact hK S' X' w' σ' _ q2 q1
   ·cases h
  ·rename_i f caps hx
   split at h
   ·rename_i hms
    obtain ⟨hms,hlt⟩:=hms
    obtain ⟨h5,h6,h7⟩:=callA_sound hg h
    obtain ⟨X1,ha1,ex⟩:=frz_at (g:=g) (f:=f) (vs:=vals S.ts l) ha
    rw [List.all_append,Bool.and_eq_true] at h6
    have hvs:=vals_sound h3 h6.1 ha1.rel
    have kx:=xv_sound (o:= .tmp t) (x:= .t t) rfl (by rw [hx];rfl) ha.rel
    rw [hx] at kx
    simp only [V.d,C] at kx
    obtain ⟨cs,e1,e2⟩:=kx
    have h5': ∃ fn,P.funcs[f]? = some fn/\fn.body.isSome=true/\(fn.name== "runtime.NumGoroutine")=false:=by
     rcases h5 with h5|h5
     ·rw [does_lt hlt,mname_lt hlt] at h5;cases h5
     ·exact h5.2
    rw [fnv_lt hlt] at e1
    refine call_wp (caps:=cs) h1 h2 e1 h5' rfl ?_
    refine (of_does hlt (h7 ha1 ?_)).mono ?_
    ·rw [V.ds_app]
     exact hvs.app (Cs.ext ex _ _ (fun _ _=>rfl) e2)
    rintro e w' ⟨u,rfl,S',X',σ',q1,q2⟩
    refine ⟨u,rfl, ?_⟩
    rw [put_eq]
    exact hK S' X' w' σ' _ q2 q1
   ·split at h
    ·rename_i hms
     obtain ⟨hms,hge,hlt⟩:=hms
     have hfv: ∀ vs,fnv f vs= .func (.func (f-1000000)) vs #[]:=fun vs=>fnv_ge (by omega)
     generalize f-1000000=q at h hlt hfv
     obtain ⟨h5,h6,h7⟩:=callA_sound hg h
     obtain ⟨X1,ha1,ex⟩:=frz_at (g:=g) (f:=q) (vs:=vals S.ts l) ha
     rw [List.append_nil,List.all_append,Bool.and_eq_true] at h6
     have hvs:=vals_sound h3 h6.2 ha1.rel
     have kx:=xv_sound (o:= .tmp t) (x:= .t t) rfl (by rw [hx];rfl) ha.rel
     rw [hx] at kx
     simp only [V.d,C] at kx
     obtain ⟨cs,e1,e2⟩:=kx
     have h5': ∃ fn,P.funcs[q]? = some fn/\fn.body.isSome=true/\(fn.name== "runtime.NumGoroutine")=false:=by
      rcases h5 with h5|h5
      ·rw [does_lt hlt,mname_lt hlt] at h5;cases h5
      ·exact h5.2
     rw [hfv] at e1
     refine call_wpB (bnd:=cs) h1 h2 e1 h5' rfl ?_
     refine (of_does hlt (h7 ha1 ?_)).mono ?_
     ·rw [List.append_nil,V.ds_app]
      exact (Cs.ext ex _ _ (fun _ _=>rfl) e2).app hvs
     rintro e w' ⟨u,rfl,S',X',σ',q1,q2⟩
     refine ⟨u,rfl, ?_⟩
     rw [put_eq]
     exact hK S' X' w' σ' _ q2 q1
    ·cases h
  ·cases h
 |mf f caps=>
  simp only [RK.run] at h
  split at h
  ·rename_i hgood
   have hg1:(vals S.ts caps).all V.good=true:=List.all_eq_true.2 fun v hv=>by
    have:=List.all_eq_true.1 hgood v hv
    simp only [Bool.and_eq_true] at this
    exact this.1
   obtain ⟨vv,hrun,hvs⟩: ∃ vv:List Value,(execOp (Act.eval ⟨us.toArray,[]⟩) o).run P w= .ok (.value (fnv f vv.toArray)) w/\Cs X w σ (V.ds (vals S.ts caps)) vv:=by
    rcases trK_mf ht with ⟨hlt,cs,h1,h2⟩|⟨hge,cs,h1,h2⟩
    ·refine ⟨cs.toList.map (Act.eval ⟨us.toArray,[]⟩), ?_,vals_sound h2 hg1 ha.rel⟩
     have:cs.map (Act.eval ⟨us.toArray,[]⟩)=(cs.toList.map (Act.eval ⟨us.toArray,[]⟩)).toArray:=by apply Array.ext';simp
     rw [fnv_lt hlt]
     simp [execOp,h1,Instr.makeFunc,this]
    ·refine ⟨cs.toList.map (Act.eval ⟨us.toArray,[]⟩), ?_,vals_sound h2 hg1 ha.rel⟩
     have:cs.map (Act.eval ⟨us.toArray,[]⟩)=(cs.toList.map (Act.eval ⟨us.toArray,[]⟩)).toArray:=by apply Array.ext';simp
     rw [fnv_ge hge]
     simp [execOp,h1,Instr.makeFunc,this]
   obtain ⟨S2,h3,h4⟩:=putR_sound (u:=fnv f vv.toArray) h ha (by
    simp only [V.d,C]
    exact ⟨_,rfl,hvs⟩)
   refine wpIn_of hnd ?_
   rw [hrun]
   simp only [Oper.uponIn_value]
   rw [put_eq]
   exact hK S2 X w σ _ h4 h3
  ·cases h
 |o op=>cases h
 |bad=>cases h
end
end Go.Proofs.YtmokmalepelinaaGreatDoor.K
/-
 Statements,loops and functions of typed values.
-/
namespace Go.Proofs.YtmokmalepelinaaGreatDoor.K
open Go.RowKit
inductive AC where
 |sk
 |reg (rs:List RO)
 |dr (ds:List DO)
 |sq (a b:AC)
 |cd (x:AX) (a b:AC)
 |bk (id:Nat) (a:AC)
 |lp (a:AC)
 |ex (id:Nat)
 |rt
 |rf (x:AX) (ps:List Nat) (a b:AC)
 |ot (c:Code)
def trC (P:Program):Code->AC
 |.skip=> .sk
 |.region _ ops false=> .reg (ops.toList.map (trR P ops))
 |.region _ ops true=> .dr (ops.toList.map (trD P ops))
 |.seq a b=> .sq (trC P a) (trC P b)
 |.cond c a b=>match trX c with
  |some x=> .cd x (trC P a) (trC P b)
  |none=> .ot (.cond c a b)
 |.block id c=> .bk id (trC P c)
 |.loop c=> .lp (trC P c)
 |.exit id=> .ex id
 |.ret=> .rt
 |.rangeFunc g ps a b=>match trX g with
  |some x=> .rf x ps.toList (trC P a) (trC P b)
  |none=> .ot (.rangeFunc g ps a b)
 |c=> .ot c
structure Fg where
 ks:List (Nat×Option Ty)
 os:List (Nat×Option Ty)
inductive PT where
 |nil
 |one (i:Nat) (t:PT)
 |alt (i:Nat) (t u:PT)
def PT.depth:PT->Nat
 |.nil=>0
 |.one _ t=>t.depth+1
 |.alt _ t u=>max (t.depth+1) u.depth
def PT.of:List Nat->PT
 | []=> .nil
 |i::r=> .one i (PT.of r)
inductive TC where
 |sk
 |reg (rs:List RO)
 |dr (ds:List DO) (ord:List (Nat×List Nat)) (t:PT)
 |sq (a b:TC)
 |cd (x:AX) (a b:TC)
 |bk (id:Nat) (a:TC)
 |lp (j:Nat) (f:Fg) (a:TC)
 |la (a:TC)
 |ex (id:Nat)
 |rt
 |fg (f:Fg) (a:TC)
 |nw (s e:Nat) (a:TC)
 |nf (j i e k:Nat) (a:TC)
 |fz (ks:List Nat) (a:TC)
 |ad (l:List (Nat×Nat)) (a:TC)
 |mv (l:List (Nat×Nat)) (a:TC)
 |rg (j:Nat) (f f2:Fg) (a:TC)
 |rf (j:Nat) (f:Fg) (x:AX) (yr:Ty) (ps pr:List Nat) (a b:TC)
def TC.er:TC->AC
 |.sk=> .sk
 |.reg rs=> .reg rs
 |.dr ds _ _=> .dr ds
 |.sq a b=> .sq a.er b.er
 |.cd x a b=> .cd x a.er b.er
 |.bk id a=> .bk id a.er
 |.lp _ _ a=> .lp a.er
 |.la a=> .lp a.er
 |.ex id=> .ex id
 |.rt=> .rt
 |.fg _ a=>a.er
 |.nw _ _ a=>a.er
 |.nf _ _ _ _ a=>a.er
 |.fz _ a=>a.er
 |.ad _ a=>a.er
 |.mv _ a=>a.er
 |.rg _ _ _ a=>a.er
 |.rf _ _ x _ ps _ a b=> .rf x ps a.er b.er
def TC.nrf:TC->Bool
 |.sq a b|.cd _ a b=>a.nrf&&b.nrf
 |.bk _ a|.lp _ _ a|.la a|.fg _ a|.nw _ _ a|.nf _ _ _ _ a|.fz _ a|.ad _ a|.mv _ a|.rg _ _ _ a=>a.nrf
 |.rf _ _ _ _ _ _ _ _=>false
 |_=>true
def look:List (Nat×V)->Nat->V
 | [],_=> .un
 |(j,v)::r,i=>if i=j then v else look r i
def lookO:List (Nat×VO)->Nat->VO
 | [],_=> .no
 |(j,v)::r,i=>if i=j then v else lookO r i
def nrmV:Option Ty->V->V
 |none,v=>v
 |some y,v=>match v.as y with
  |some x=> .t y x
  |none=>v
def nrmO:Option Ty->VO->VO
 |some y,.box v=>if y.row=true then .box (nrmV (some y) v) else .box v
 |_,o=>o
def fgt (f:Fg)(S:VS):VS:=⟨look (f.ks.map fun p=>(p.1,nrmV p.2 (S.ts p.1))),lookO (f.os.map fun p=>(p.1,nrmO p.2 (S.st p.1))),f.os.map Prod.fst⟩
def loopN (b:VS->Option (Exit×VS)):Nat->VS->Option (Exit×VS)
 |0,_=>none
 |n+1,S=>match b S with
  |some (.normal,S')=>loopN b n S'
  |x=>x
open Classical in
noncomputable def loopF (b:VS->Option (Exit×VS))(S:VS):Option (Exit×VS):=
 if h: ∃ n x,loopN b n S=some x then loopN b (Classical.choose h) S else none
theorem loopN_mono {b:VS->Option (Exit×VS)}: ∀ {n:Nat} {S:VS} {x:Exit×VS},loopN b n S=some x→ ∀ m,n<=m->loopN b m S=some x
 |0,S,x,h,m,_=>by cases h
 |n+1,S,x,h,0,hm=>by omega
 |n+1,S,x,h,m+1,hm=>by
  simp only [loopN] at h ⊢
  split at h
  ·rename_i S' hb
   exact loopN_mono h m (by omega)
  ·rename_i hb
   exact h
theorem loopF_some {b:VS->Option (Exit×VS)}{S:VS}{x:Exit×VS}:loopF b S=some x↔ ∃ n,loopN b n S=some x:=by
 unfold loopF
 constructor
 ·intro h
  split at h
  ·exact ⟨_,h⟩
  ·cases h
 ·rintro ⟨n,h⟩
  have hex: ∃ n x,loopN b n S=some x:=⟨n,x,h⟩
  rw [dif_pos hex]
  obtain ⟨y,hy⟩:=Classical.choose_spec hex
  rw [hy]
  have h1:=loopN_mono h (max n (Classical.choose hex)) (by omega)
  have h2:=loopN_mono hy (max n (Classical.choose hex)) (by omega)
  rw [h1] at h2
  exact h2.symm
theorem loopF_next {b:VS->Option (Exit×VS)}{S S':VS}{r:Option (Exit×VS)}(h:b S=some (.normal,S'))(hr:loopF b S'=r):loopF b S=r:=by
 subst hr
 cases hx:loopF b S' with
 |some x=>
  obtain ⟨n,hn⟩:=loopF_some.1 hx
  exact loopF_some.2 ⟨n+1,by simp only [loopN,h,hn]⟩
 |none=>
  cases hy:loopF b S with
  |none=>rfl
  |some y=>
   obtain ⟨n,hn⟩:=loopF_some.1 hy
   cases n with
   |zero=>cases hn
   |succ n=>
    simp only [loopN,h] at hn
    rw [loopF_some.2 ⟨n,hn⟩] at hx
    cases hx
theorem loopF_end {b:VS->Option (Exit×VS)}{S S':VS}{e:Exit}(h:b S=some (e,S'))(he:e≠ .normal):loopF b S=some (e,S'):=by
 refine loopF_some.2 ⟨1, ?_⟩
 simp only [loopN,h]
 cases e<;>first|rfl|exact absurd rfl he
section
def nwR {β:Type}(g:G)(s e:Nat)(S:VS)(K:VS->Option β):Option β:=
 match S.ts s with
 |.c (.slice none 0 0)=>match g.TY e with
  |some y=>if (S.free s&&decide (s<g.n))=true then K ((S.alloc s (.arr e y [])).set (some s) (.ms s)) else none
  |none=>none
 |_=>K S
def wqR {β:Type}(g:G)(s:Nat)(S:VS)(K:VS->Option β):Option β:=
 match S.ts s with
 |.wn sz j lo m=>match S.st j with
  |.arr e t l=>if ((S.dim j).free j&&(t.sz==sz&&(lo==0&&decide (s<g.n))))=true then
    br (decide (m<=l.length)) (K (((S.dim j).alloc j (.arr e t (l.take m++[]))).set (some s) (.ms j))) none else none
  |_=>none
 |_=>none
def nfR {β:Type}(g:G)(j i e k:Nat)(S:VS)(K:VS->Option β):Option β:=
 match S.st j with
 |.box (.ag vs)=>match vs[i]? with
  |some (.c (.slice none 0 0))=>match g.TY e with
   |some y=>if (S.free k&& !(j==k))=true then K ((S.alloc k (.arr e y [])).setO j (.box (.ag (vs.set i (.ms k))))) else none
   |none=>none
  |_=>K S
 |.box (.c (.slice none 0 0))=>match g.TY e with
  |some y=>if (S.free k&& !(j==k))=true then K ((S.alloc k (.arr e y [])).setO j (.box (.ag [.ms k]))) else none
  |none=>none
 |_=>K S
def AX.looks:AX->List Nat
 |.t i=>[i]
 |.c _=>[]
def optL:Option AX->List Nat
 |none=>[]
 |some x=>x.looks
def AO.looks:AO->List Nat
 |.mv x|.fa _ x|.fd _ _ _ x|.nc x|.nt x|.ng x|.cv _ x|.ext _ x|.len _ x|.lde _ _ x=>x.looks
 |.pick c a b|.mx3 c a b=>c.looks++(a.looks++b.looks)
 |.slc _ x a b c=>x.looks++(optL a++(optL b++optL c))
 |.sls x a b=>x.looks++(optL a++optL b)
 |.eqs _ _ x y|.ix _ x y|.sx x y|.bin _ _ x y|.mx x y|.mn x y=>x.looks++y.looks
 |.bd _ l=>l.flatMap fun p=>p.2.2.looks
def MO.looks:MO->List Nat
 |.pu ao=>ao.looks
 |.new _=>[]
 |.box x|.ld _ _ x=>x.looks
 |.st _ x y=>x.looks++y.looks
 |.bs _ _ _ _ l=>l.flatMap fun p=>p.2.2.looks
 |.app _ _ _ x y=>x.looks++y.looks
def RK.looks:RK->List Nat
 |.m mo=>mo.looks
 |.call _ l=>l.flatMap AX.looks
 |.cv x l=>x.looks++l.flatMap AX.looks
 |.mf _ l=>l.flatMap AX.looks
 |_=>[]
def RO.looks (r:RO):List Nat:=(match r.g with|some (s,_)=>[s]|none=>[])++r.k.looks
def RK.quick (own:List Nat)(dst:Option Nat)(ks:List Nat):RK->Bool
 |.m (.pu _)|.m (.ld _ _ _)|.mf _ _=>true
 |.m (.bs _ _ _ _ _)=> !own.contains (dst.getD 0)
 |.call _ _=>ks.isEmpty
 |_=>false
def RK.q {β:Type}(g:G)(S:VS)(K:V->Option β):RK->Option β
 |.m (.pu ao)=>ao.run S K
 |.m (.ld a n x)=>MO.run g.TY false 0 S (fun _ v=>K v) (.ld a n x)
 |.m (.bs e sz len init parts)=>if partMs S.ts parts=[] then MO.run g.TY false 0 S (fun _ v=>K v) (.bs e sz len init parts) else none
 |.mf f caps=>if ((vals S.ts caps).all fun v=>v.good&&(v.one||decide (1000000<=f)))=true then K (.fn f (vals S.ts caps)) else none
 |.call f l=>if ((vals S.ts l).all fun v=>v.good&&v.refs.isEmpty)=true then match g.E f (vals S.ts l) [] with
  |some (q,r,[])=>br q (if r.refs.isEmpty=true then K r else none) none
  |_=>none
  else none
 |_=>none
def RO.q {β:Type}(g:G)(S:VS)(K:V->Option β)(r:RO):Option β:=
 match r.g with
 |none=>r.k.q g S K
 |some (s,b)=>match S.ts s with
  |.t .bool q=>match b with
   |true=>br q (r.k.q g S K) (K .ud)
   |false=>br q (K .ud) (r.k.q g S K)
  |.ud=>K .ud
  |_=>none
def within (S:VS)(looks:List Nat)(ks:List Nat):Bool:=looks.all fun q=>(S.ts q).refs.all fun k=>ks.contains k&&S.dom.contains k
def RK.isSt:RK->Bool
 |.m (.st _ _ _)=>true
 |_=>false
def apartK (S:VS)(t:Bool)(d:Option Nat)(ks:List Nat):Bool:=
 ((S.dom.all fun j=>if ks.contains j=true then (S.st j).refs.all ks.contains else (S.st j).refs.all fun r=> !ks.contains r)&&ks.all fun k=>S.dom.contains k||(match S.st k with|.no=>true|_=>false))&&(t||(List.range 4).all fun i=>ks.contains (d.getD 0+5000*i))
def stepD {β:Type}(g:G)(S:VS)(K:VS->Option β)(r:RO)(ks:List Nat):Option β:=
 if within S r.looks ks=true then
  if r.k.quick g.own r.dst ks=true then r.q g S fun v=>if (v.refs.all ks.contains)=true then putR g.n S r.dst v K else none
  else if apartK S r.k.isSt r.dst ks=true then r.run g S K else none
 else none
def rdy (ds:List DO)(l:List Bool):List Nat:=
 (List.range ds.length).filter fun i=> !l.getD i true&&((ds[i]?).map (fun d=>d.pre.all fun j=>l.getD j false)).getD false
def keysOf (os:List (Nat×List Nat))(i:Nat):List Nat:=(os.lookup i).getD []
def RK.isTs:RK->Bool
 |.m (.pu (.ix _ _ _))=>false
 |.m (.pu (.len false _))=>false
 |.m (.pu (.slc _ _ _ _ _))=>false
 |.m (.pu _)=>true
 |_=>false
def blk (ds:List DO)(l:List Bool)(k:Nat):Nat->Nat->Bool
 |0,_=>false
 |n+1,i=>match ds[i]? with
  |none=>false
  |some d=>d.pre.any fun j=>j==k||(!l.getD j false&&blk ds l k n j)
def free (own:List Nat)(ds:List DO)(os:List (Nat×List Nat))(l:List Bool)(k:Nat):Bool:=
 match ds[k]? with
 |none=>false
 |some dk=>dk.r.k.quick own dk.r.dst (keysOf os k)&&(List.range ds.length).all fun i=>match ds[i]? with
  |none=>true
  |some d=>l.getD i true||(i==k||(blk ds l k 4 i||
   ((match d.r.dst with|some q=> !dk.r.looks.contains q&&dk.r.dst != some q|none=>true)&&
    ((match dk.r.dst with|some q=> !d.r.looks.contains q|none=>true)&&
    (d.r.k.quick own d.r.dst (keysOf os i)||(keysOf os k).all fun x=> !(keysOf os i).contains x||(dk.r.k.isTs&&decide (50000<=x)))))))
def planOk (own:List Nat)(ds:List DO)(os:List (Nat×List Nat)):PT->List Bool->List Nat->Bool
 |.nil,l,_=>(rdy ds l).isEmpty
 |.one i t,l,seen=>((rdy ds l).contains i&&((seen.isEmpty&&free own ds os l i)||(rdy ds l).all fun j=>j==i||seen.contains j))&&planOk own ds os t (l.set i true) []
 |.alt i t u,l,seen=>(rdy ds l).contains i&&(planOk own ds os t (l.set i true) []&&planOk own ds os u l (i::seen))
def PT.lst:PT->Option (List Nat)
 |.nil=>some []
 |.one i t=>(t.lst).map (i:: ·)
 |.alt _ _ _=>none
def pickD (ds:List DO):List Nat->Option (List (Nat×DO))
 | []=>some []
 |i::r=>match ds[i]?, pickD ds r with
  |some d,some l=>some ((i,d)::l)
  |_,_=>none
def noC (own:List Nat)(os:List (Nat×List Nat))(k:Nat)(dk:DO)(i:Nat)(d:DO):Bool:=
 ((match d.r.dst with|some q=> !dk.r.looks.contains q&&dk.r.dst != some q|none=>true)&&
  ((match dk.r.dst with|some q=> !d.r.looks.contains q|none=>true)&&
  (d.r.k.quick own d.r.dst (keysOf os i)||(keysOf os k).all fun x=> !(keysOf os i).contains x||(dk.r.k.isTs&&decide (50000<=x)))))
def planF (own:List Nat)(os:List (Nat×List Nat))(n:Nat):List (Nat×DO)->Bool
 | []=>true
 |(i,d)::r=>(decide (i<n)&&((d.pre.all fun p=>decide (p<n)&&(p != i&& !(r.any fun x=>x.1==p)))&& !(r.any fun x=>x.1==i)))&&
  (((d.r.k.quick own d.r.dst (keysOf os i)&&r.all fun x=>x.2.pre.contains i||noC own os i d x.1 x.2)||r.all fun x=>x.2.pre.any fun p=>p==i||r.any fun y=>y.1==p)&&planF own os n r)
def planQ (own:List Nat)(ds:List DO)(os:List (Nat×List Nat))(t:PT):Bool:=match t.lst with
 |some p=>match pickD ds p with
  |some l=>(List.range ds.length).all (fun i=>p.contains i)&&planF own os ds.length l
  |none=>false
 |none=>false
open Classical in
noncomputable def frk {β:Type}(a b:Option β):Option β:=if a=b then a else none
theorem frk_some {β:Type}{a b:Option β}{r:β}(h:frk a b=some r):a=some r/\b=some r:=by
 unfold frk at h
 split at h
 ·rename_i e
  exact ⟨h,e▸h⟩
 ·cases h
theorem frk_self {β:Type}(a:Option β):frk a a=a:=if_pos rfl
noncomputable def evT {β:Type}(g:G)(ds:List DO)(os:List (Nat×List Nat)):PT->VS->(VS->Option β)->Option β
 |.nil,S,K=>K S
 |.one i t,S,K=>match ds[i]? with
  |some d=>learn S d.r.g fun S=>stepD g S (fun S'=>evT g ds os t S' K) d.r (keysOf os i)
  |none=>none
 |.alt i t u,S,K=>frk (match ds[i]? with
  |some d=>learn S d.r.g fun S=>stepD g S (fun S'=>evT g ds os t S' K) d.r (keysOf os i)
  |none=>none) (evT g ds os u S K)
noncomputable def evD {β:Type}(g:G)(ds:List DO)(os:List (Nat×List Nat))(t:PT)(S:VS)(K:VS->Option β):Option β:=
 if ((planQ g.own ds os t||planOk g.own ds os t (List.replicate ds.length false) [])&&decide (t.depth<=ds.length))=true then evT g ds os t S K else none
def VS.rem (S:VS)(ks:List Nat):VS:=⟨S.ts,fun k=>if ks.contains k=true then .no else S.st k,S.dom⟩
def prk (pr:List Nat)(k:Nat):Nat:=if pr.contains k=true then 60000+pr.idxOf k else k
def prb (pr:List Nat)(k:Nat):Nat:=if 60000<=k/\k-60000<pr.length then pr.getD (k-60000) 0 else k
def VS.prot (S:VS)(pr:List Nat):VS:=
 ⟨fun i=>if (S.ts i).refs.all (fun r=>pr.contains r||decide (50000<=r/\r<60000))=true then (S.ts i).ren (prk pr) else .un,fun k=>if pr.contains k=true then .no else (S.st (prb pr k)).ren (prk pr),S.dom.map (prk pr)⟩
def VS.unprot (S:VS)(pr:List Nat):VS:=
 ⟨fun i=>if (S.ts i).refs.all (fun r=> !pr.contains r)=true then (S.ts i).ren (prb pr) else .un,fun k=>if 60000<=k/\k-60000<pr.length then .no else (S.st (prk pr k)).ren (prb pr),S.dom.map (prb pr)⟩
def protOk (S:VS)(pr:List Nat):Bool:=
 (decide pr.Nodup&&pr.all fun k=>decide (k<50000)&& !(S.st k).isNo)&&S.dom.all fun k=>decide (k<60000)&&(S.st k).refs.all fun r=>decide (r<60000)
def unprotOk (S:VS)(pr:List Nat):Bool:=
 (pr.all fun k=>(S.st k).isNo)&&S.dom.all fun k=>(S.st k).refs.all fun r=> !pr.contains r
def putL (S:VS):List Nat->List V->VS
 |p::ps,v::vs=>putL (S.set (some p) v) ps vs
 |_,_=>S
def itS (g:G)(S:VS):V->Option (VS×Bool×((yr:Ty)×List yr.T))
 |.fn gf caps=>
  if (decide (gf<1000000)&&(S.lends caps (S.reach 20 (V.refss caps) [])&&(S.reach 20 (V.refss caps) []).all fun k=>decide (k<50000)))=true then
   match g.I gf (V.rens (rk (S.reach 20 (V.refss caps) [])) caps) ((S.reach 20 (V.refss caps) []).map fun k=>(S.st k).ren (rk (S.reach 20 (V.refss caps) []))) with
   |some (q,r)=>some (S.rem (S.reach 20 (V.refss caps) []),q,r)
   |none=>none
  else if (decide (gf<1000000)&&(S.lends caps (S.reach 20 (V.refss caps) [])&&(S.reach 20 (V.refss caps) []).all fun k=>decide (50000<=k)))=true then
   match g.I (gf+1000000) (V.rens (rk (S.reach 20 (V.refss caps) [])) caps) ((S.reach 20 (V.refss caps) []).map fun k=>(S.st k).ren (rk (S.reach 20 (V.refss caps) []))) with
   |some (q,r)=>some (S,q,r)
   |none=>none
  else none
 |_=>none
def mvf (a b r:Nat):Nat:=if r=a then b else r
def VS.mvk (S:VS)(a b:Nat):VS:=match S.st a with
 |.arr e y l=>if (a==b)=true then (if e<1000000 then S.setO a (.arr (e+1000000) y l) else S) else if (S.free b&& !(a==b))=true then ⟨fun i=>((S.ts i).mask b).ren (mvf a b),fun k=>if k=b then S.st a else if k=a then .no else (S.st k).ren (mvf a b),b::S.dom⟩ else S
 |_=>S
def VS.mvks (S:VS):List (Nat×Nat)->VS
 | []=>S
 |(a,b)::l=>(S.mvk a b).mvks l
def mvR {β:Type}(g:G)(l:List (Nat×Nat))(S:VS)(K:VS->Option β):Option β:=
 match l with
 | [(s,b)]=>if 2000000<=b then wqR g s S K else K (S.mvks l)
 |_=>K (S.mvks l)
def alts {β:Type}(K:Exit->VS->Option β):List (Bool×Exit×VS)->Option β
 | []=>none
 | [(_,e,S)]=>K e S
 |(q,e,S)::r=>br q (K e S) (alts K r)
def pickA:List (Bool×Exit×VS)->Option (Exit×VS)
 | []=>none
 | [(_,e,S)]=>some (e,S)
 |(q,e,S)::r=>if q=true then some (e,S) else pickA r
noncomputable def ev (g:G):TC->{β:Type}->VS->(Exit->VS->Option β)->Option β
 |.sk,_,S,K=>K .normal S
 |.reg rs,_,S,K=>evL g rs S (K .normal)
 |.dr ds os t,_,S,K=>evD g ds os t S (K .normal)
 |.sq a b,_,S,K=>ev g a S fun e S'=>match e with
  |.normal=>ev g b S' K
  |e=>K e S'
 |.cd x a b,_,S,K=>match x.xv S.ts with
  |.t .bool q=>br q (ev g a S K) (ev g b S K)
  |_=>none
 |.bk id a,_,S,K=>ev g a S fun e S'=>match e with
  |.exit i=>if i=id then K .normal S' else K (.exit i) S'
  |e=>K e S'
 |.lp j f _,_,S,K=>match g.L j (fgt f S) with
  |some (q,l)=>br q (alts K l) none
  |none=>none
 |.la a,_,S,K=>match loopN (fun S=>ev g a S fun e S'=>some (e,S')) 4000 S with
  |some (e,S')=>K e S'
  |none=>none
 |.ex id,_,S,K=>K (.exit id) S
 |.rt,_,S,K=>K .ret S
 |.fg f a,_,S,K=>ev g a (fgt f S) K
 |.nw s e a,_,S,K=>nwR g s e S fun S'=>ev g a S' K
 |.nf j i e k a,_,S,K=>nfR g j i e k S fun S'=>ev g a S' K
 |.fz ks a,_,S,K=>ev g a (S.fzs ks) K
 |.ad l a,_,S,K=>ev g a (S.mvks l) K
 |.mv l a,_,S,K=>ev g a S fun e S'=>match e with
  |.normal=>mvR g l S' (K .normal)
  |e=>K e S'
 |.rg j f _ _,_,S,K=>match g.L j (fgt f S) with
  |some (q,l)=>br q (alts K l) none
  |none=>none
 |.rf j f x yr ps pr a b,_,S,K=>match itS g S (x.xv S.ts) with
  |some (S1,q,⟨yr',rows⟩)=>if h:yr'=yr then br q (if ((protOk S1 pr&&(a.nrf&&b.nrf))&&(ps.all (fun p=>decide (p<g.n))&&decide (ps.length=yr.wid)))=true then
    match g.R j (fgt f (S1.prot pr)) yr (h▸rows) with
    |some (q2,l)=>br q2 (alts (fun e S3=>if unprotOk S3 pr=true then K e (S3.unprot pr) else none) l) none
    |none=>none
   else none) none else none
  |none=>none
def roundK (f:Fg)(e:Exit)(S:VS):Option (Exit×VS):=
 match e with
 |.normal=>some (.normal,fgt f S)
 |e=>some (e,S)
noncomputable def roundF (g:G)(f:Fg)(a:TC)(S:VS):Option (Exit×VS):=ev g a (fgt f S) (roundK f)
noncomputable def roundR (g:G)(f:Fg)(yr:Ty)(ps:List Nat)(a b:TC)(x:yr.T)(S:VS):Option (Exit×VS):=
 ev g a (putL S ps (yr.canon x)) fun e S1=>match e with
  |.normal=>ev g b S1 fun e S2=>match e with
   |.normal=>some (.normal,fgt f ⟨S.ts,S2.st,S2.dom⟩)
   |.exit i=>some (.exit i,⟨S.ts,S2.st,S2.dom⟩)
   |.ret=>some (.ret,⟨S.ts,S2.st,S2.dom⟩)
   |_=>none
  |_=>none
def rangeF {α:Type}(rd:α->VS->Option (Exit×VS)):List α->VS->Option (Exit×VS)
 | [],S=>some (.normal,S)
 |x::r,S=>match rd x S with
  |some (.normal,S')=>rangeF rd r S'
  |y=>y
theorem loopF_eq {b:VS->Option (Exit×VS)}{S:VS}:loopF b S=match b S with|some (.normal,S')=>loopF b S'|x=>x:=by
 cases hb:b S with
 |none=>
  cases hx:loopF b S with
  |none=>rfl
  |some x=>
   obtain ⟨n,hn⟩:=loopF_some.1 hx
   cases n with
   |zero=>cases hn
   |succ n=>simp only [loopN,hb] at hn;cases hn
 |some x=>
  obtain ⟨e,S'⟩:=x
  by_cases he:e= .normal
  ·subst he
   exact loopF_next hb rfl
  ·rw [loopF_end hb he]
   cases e<;>first|rfl|exact absurd rfl he
def TC.lok (g:G):TC->Prop
 |.lp j f a=>(∀ S l x,g.L j (fgt f S)=some (true,l)->pickA l=some x->loopF (roundF g f a) S=some x)/\a.lok g
 |.sq a b=>a.lok g/\b.lok g
 |.cd _ a b=>a.lok g/\b.lok g
 |.bk _ a=>a.lok g
 |.la a=>a.lok g
 |.fg _ a=>a.lok g
 |.nw _ _ a=>a.lok g
 |.nf _ _ _ _ a=>a.lok g
 |.fz _ a=>a.lok g
 |.ad _ a=>a.lok g
 |.mv _ a=>a.lok g
 |.rg j f f2 a=>(∀ S l x,g.L j (fgt f S)=some (true,l)->pickA l=some x->ev g a (fgt f S) (fun e S'=>some (e,fgt f2 S'))=some x)/\a.lok g
 |.rf j f _ yr ps _ a b=>(∀ S rows l x,g.R j (fgt f S) yr rows=some (true,l)->pickA l=some x->rangeF (roundR g f yr ps a b) rows (fgt f S)=some x)/\a.lok g/\b.lok g
 |_=>True
theorem alts_some {β:Type}{K:Exit->VS->Option β}{r:β}: ∀ {l:List (Bool×Exit×VS)},alts K l=some r→ ∃ e S,pickA l=some (e,S)/\K e S=some r
 | [],h=>by cases h
 | [(_,e,S)],h=>⟨e,S,rfl,h⟩
 |(q,e,S)::y::l,h=>by
  simp only [alts] at h
  rcases br_some h with ⟨rfl,h⟩|⟨rfl,h⟩
  ·exact ⟨e,S,rfl,h⟩
  ·exact alts_some (l:=y::l) h
theorem as_t (y:Ty)(x:y.T):V.as y (.t y x)=some x:=by simp only [V.as,dite_true]
theorem nrmV_nrmV (t:Option Ty)(v:V):nrmV t (nrmV t v)=nrmV t v:=by
 cases t with
 |none=>rfl
 |some y=>
  cases h:v.as y with
  |some x=>
   have h1:nrmV (some y) v= .t y x:=by simp only [nrmV,h]
   rw [h1]
   simp only [nrmV,as_t]
  |none=>
   have h1:nrmV (some y) v=v:=by simp only [nrmV,h]
   rw [h1,h1]
theorem nrmO_nrmO (t:Option Ty)(o:VO):nrmO t (nrmO t o)=nrmO t o:=by
 cases t with
 |none=>cases o<;>rfl
 |some y=>
  cases o with
  |box v=>
   by_cases h:y.row=true
   ·have h1: ∀ v,nrmO (some y) (.box v)= .box (nrmV (some y) v):=fun v=>by simp only [nrmO,h,if_true]
    rw [h1,h1,nrmV_nrmV]
   ·have h1:nrmO (some y) (.box v)= .box v:=by simp only [nrmO];rw [if_neg h]
    rw [h1,h1]
  |no=>rfl
  |arr e t l=>rfl
theorem look_idem (f:Nat->V): ∀ (l l2:List (Nat×Option Ty)),(∀ p∈l2,p∈l)->(l.map Prod.fst).Nodup->l2.map (fun p=>(p.1,nrmV p.2 (look (l.map fun p=>(p.1,nrmV p.2 (f p.1))) p.1)))=l2.map fun p=>(p.1,nrmV p.2 (f p.1)):=by
 intro l l2 h hn
 refine List.map_congr_left fun p hp=> ?_
 have key: ∀ (l:List (Nat×Option Ty)),(l.map Prod.fst).Nodup->p∈l->look (l.map fun p=>(p.1,nrmV p.2 (f p.1))) p.1=nrmV p.2 (f p.1):=by
  intro l
  induction l with
  |nil=>intro _ h;cases h
  |cons q l ih=>
   intro hn hq
   simp only [List.map_cons,List.nodup_cons] at hn
   simp only [List.map_cons,look]
   rcases List.mem_cons.1 hq with rfl|hq
   ·rw [if_pos rfl]
   ·have hne:p.1≠q.1:=fun e=>hn.1 (e▸List.mem_map.2 ⟨p,hq,rfl⟩)
    rw [if_neg hne]
    exact ih hn.2 hq
 rw [key l hn (h p hp),nrmV_nrmV]
theorem lookO_idem (f:Nat->VO): ∀ (l l2:List (Nat×Option Ty)),(∀ p∈l2,p∈l)->(l.map Prod.fst).Nodup->l2.map (fun p=>(p.1,nrmO p.2 (lookO (l.map fun p=>(p.1,nrmO p.2 (f p.1))) p.1)))=l2.map fun p=>(p.1,nrmO p.2 (f p.1)):=by
 intro l l2 h hn
 refine List.map_congr_left fun p hp=> ?_
 have key: ∀ (l:List (Nat×Option Ty)),(l.map Prod.fst).Nodup->p∈l->lookO (l.map fun p=>(p.1,nrmO p.2 (f p.1))) p.1=nrmO p.2 (f p.1):=by
  intro l
  induction l with
  |nil=>intro _ h;cases h
  |cons q l ih=>
   intro hn hq
   simp only [List.map_cons,List.nodup_cons] at hn
   simp only [List.map_cons,lookO]
   rcases List.mem_cons.1 hq with rfl|hq
   ·rw [if_pos rfl]
   ·have hne:p.1≠q.1:=fun e=>hn.1 (e▸List.mem_map.2 ⟨p,hq,rfl⟩)
    rw [if_neg hne]
    exact ih hn.2 hq
 rw [key l hn (h p hp),nrmO_nrmO]
def Fg.ok (f:Fg):Prop:=(f.ks.map Prod.fst).Nodup/\(f.os.map Prod.fst).Nodup
theorem fgt_fgt {f:Fg}(hf:f.ok)(S:VS):fgt f (fgt f S)=fgt f S:=by
 unfold fgt
 simp only
 congr 1
 ·rw [look_idem S.ts f.ks f.ks (fun _ h=>h) hf.1]
 ·rw [lookO_idem S.st f.os f.os (fun _ h=>h) hf.2]
theorem loopF_fgt {g:G}{f:Fg}{a:TC}(hf:f.ok)(S:VS):loopF (roundF g f a) S=loopF (roundF g f a) (fgt f S):=by
 have h:roundF g f a (fgt f S)=roundF g f a S:=by unfold roundF;rw [fgt_fgt hf]
 cases hb:roundF g f a S with
 |none=>
  have e: ∀ S',roundF g f a S'=none->loopF (roundF g f a) S'=none:=by
   intro S' hS'
   cases hx:loopF (roundF g f a) S' with
   |none=>rfl
   |some x=>
    obtain ⟨n,hn⟩:=loopF_some.1 hx
    cases n with
    |zero=>cases hn
    |succ n=>simp only [loopN,hS'] at hn;cases hn
  rw [e S hb,e _ (h.trans hb)]
 |some x=>
  obtain ⟨e,S'⟩:=x
  by_cases he:e= .normal
  ·subst he
   rw [loopF_next hb rfl,loopF_next (h.trans hb) rfl]
  ·rw [loopF_end hb he,loopF_end (h.trans hb) he]
end
end Go.Proofs.YtmokmalepelinaaGreatDoor.K
/-
 Statements,loops and functions of typed values do what the program's do.
-/
namespace Go.Proofs.YtmokmalepelinaaGreatDoor.K
open Go.RowKit
section
variable {P:Program}{F:Fence}{n:Nat}
theorem wpIn_loop_by {c:Code}{Q:Exit->Act->World->Prop}(I:Nat->Act->World->Prop)(round: ∀ m a w,I m a w->c.wpIn F n P (Exit.then (fun a' w'=> ∃ m',m'<m/\I m' a' w') Q) a w):
  ∀ m a w,I m a w->(Code.loop c).wpIn F n P Q a w:=by
 have key: ∀ N m a w,m<N->I m a w->Code.roundsIn F n P c Q N a w:=by
  intro N
  induction N with
  |zero=>intro m a w hm;omega
  |succ N ih=>
   intro m a w hm hI
   rw [roundsIn_succ]
   refine wpIn_mono (round m a w hI) fun e a' w' hq=> ?_
   cases e with
   |normal=>
    obtain ⟨m',h1,h2⟩:=hq
    exact ih m' a' w' (by omega) h2
   |_=>exact hq
 exact fun m a w h=>wpIn_loop_rounds (m+1) (key _ m a w (Nat.lt_succ_self m) h)
end
def mks (ms:List Nat):List Deferred:=ms.map fun D=>{target:= .collected D,args:= #[]}
def Base.mk' (B:Base)(ms:List Nat):Base:={B with z:=B.z++ms.map fun D=>(D,.deferred (some []))}
def lift (B:Base)(n:Nat)(Q:Exit->VS->Prop):Exit->Act->World->Prop:=fun e a w=> ∃ S X σ us ms,At (B.mk' ms) X w σ n S us/\a=⟨us.toArray,mks ms⟩/\Q e S
def JV (P:Program)(B:Base)(n:Nat)(ro:Option Nat)(Q:Exit->VS->Prop)(ac:AC)(S:VS):Prop:=
 ∀ c,trC P c=ac→ ∀ nn X w σ us ms,At (B.mk' ms) X w σ n S us->c.wpIn (Fw ro) nn P (lift B n Q) ⟨us.toArray,mks ms⟩ w
section
variable {P:Program}{B:Base}{X X':Nat->Nat->Prop}{w w':World}{σ σ':Pl}{n:Nat}{S:VS}{us:List Value}{Q Q':Exit->VS->Prop}
theorem nrmV_c {t:Option Ty}{v:V}{u:Value}(h:C X w σ v.d u):C X w σ (nrmV t v).d u:=by
 cases t with
 |none=>exact h
 |some y=>
  simp only [nrmV]
  split
  ·rename_i x hx
   exact C.up _ _ (V.as_spec hx h)
  ·exact h
theorem as_row {b:Ty}{c:V}{d:b.T}(hb:b.row=true)(h:c.as b=some d):c.row=true:=by
 cases c with
 |t y x=>
  simp only [V.as] at h
  split at h
  ·rename_i hy
   simp only [V.row,hy,hb]
  ·split at h
   ·rename_i hr
    simp only [Bool.and_eq_true] at hr
    exact hr.1
   ·cases b<;>first|(simp [Ty.fold] at h;done)|cases hb
 |ag vs=>rfl
 |_=>
  simp only [V.as,hb,if_true] at h
  cases h
theorem as_box {b:Ty}{c:V}{d:b.T}{k:Nat}(hb:b.row=true)(h:c.as b=some d)(hat:OAt X w σ k (.box c)):OAt X w σ k (.box (.t b d)):=by
 obtain ⟨bl,ty,vs,h1,h2,h3,h4⟩:=hat
 refine ⟨bl,ty,vs,h1,h2, ?_,h4⟩
 have hc:C X w σ c.d (.agg vs.toArray):=by
  rw [V.d_row _ (as_row hb h)]
  simp only [C]
  exact ⟨vs,rfl,h3⟩
 have:=Ty.cs_cells (V.as_spec h hc)
 simp only [V.d,Ty.d_cells]
 exact Cs.up _ _ (by simpa [Value.cells] using this)
theorem nrmO_at {t:Option Ty}{k:Nat}{o:VO}(h:OAt X w σ k o):OAt X w σ k (nrmO t o):=by
 unfold nrmO
 split
 ·rename_i y v
  split
  ·rename_i hr
   simp only [nrmV]
   split
   ·rename_i x hx
    exact as_box hr hx h
   ·exact h
  ·exact h
 ·exact h
theorem nrmO_no {t:Option Ty}{o:VO}(h:nrmO t o≠ .no):o≠ .no:=by
 rintro rfl
 exact h (by cases t<;>rfl)
theorem look_or (f:Nat->V): ∀ (l:List (Nat×Option Ty)) (i:Nat),(∃ t,look (l.map fun p=>(p.1,nrmV p.2 (f p.1))) i=nrmV t (f i))∨look (l.map fun p=>(p.1,nrmV p.2 (f p.1))) i= .un
 | [],i=> .inr rfl
 |p::l,i=>by
  simp only [List.map_cons,look]
  split
  ·rename_i h;rw [h];exact .inl ⟨_,rfl⟩
  ·exact look_or f l i
theorem lookO_or (f:Nat->VO): ∀ (l:List (Nat×Option Ty)) (i:Nat),(i∈l.map Prod.fst∧ ∃ t,lookO (l.map fun p=>(p.1,nrmO p.2 (f p.1))) i=nrmO t (f i))∨lookO (l.map fun p=>(p.1,nrmO p.2 (f p.1))) i= .no
 | [],i=> .inr rfl
 |p::l,i=>by
  simp only [List.map_cons,lookO]
  split
  ·rename_i h;rw [h];exact .inl ⟨by simp,_,rfl⟩
  ·rename_i h
   rcases lookO_or f l i with ⟨h1,h2⟩|h2
   ·exact .inl ⟨List.mem_cons_of_mem _ h1,h2⟩
   ·exact .inr h2
theorem At.mvk (h:At B X w σ n S us)(a b:Nat): ∃ σ',At B X w σ' n (S.mvk a b) us:=by
 unfold VS.mvk
 split
 ·rename_i e y l hst
  split
  ·split
   ·rename_i he
    have live: ∀ k,upd S.st a (.arr (e+1000000) y l) k≠ .no->S.st k≠ .no:=by
     intro k hk
     by_cases hka:k=a
     ·subst hka
      rw [hst]
      simp
     ·rw [upd_ne _ _ hka] at hk
      exact hk
    refine ⟨σ,⟨h.ti.fin,fun k=> ?_,fun i j c hij hi hj=>h.ti.apart i j c hij (live i hi) (live j hj),fun k c hk=>h.ti.own k c (live k hk),h.ti.fr,h.ti.old,h.ti.lnt,h.ti.zz,h.ti.zn,h.ti.ex⟩,h.rel,fun j hj=>h.dom j (live j hj)⟩
    simp only [VS.setO]
    by_cases hka:k=a
    ·subst hka
     rw [upd_self]
     have ho:=h.ti.obj k
     rw [hst] at ho
     obtain ⟨u,xs,h1,h2,h3⟩:=ho
     exact ⟨u,xs,h1,h2.weak he,h3⟩
    ·rw [upd_ne _ _ hka]
     exact h.ti.obj k
   ·exact ⟨σ,h⟩
  split
  ·rename_i hc
   simp only [Bool.and_eq_true,Bool.not_eq_true',beq_eq_false_iff_ne] at hc
   obtain ⟨hf,hab⟩:=hc
   have hs: ∀ r,r≠b->upd σ b (σ a) (mvf a b r)=σ r:=by
    intro r hr
    unfold mvf
    split
    ·rename_i e
     rw [upd_self,e]
    ·exact upd_ne _ _ hr
   let st':Nat->VO:=fun k=>if k=b then S.st a else if k=a then .no else (S.st k).ren (mvf a b)
   have live: ∀ k,st' k≠ .no→ ∃ j,S.st j≠ .no/\upd σ b (σ a) k=σ j/\((k=b/\j=a)∨(k=j/\j≠a/\j≠b)):=by
    intro k hk
    simp only [st'] at hk
    split at hk
    ·rename_i hkb
     exact ⟨a,hk,by rw [hkb,upd_self],.inl ⟨hkb,rfl⟩⟩
    ·rename_i hkb
     split at hk
     ·exact absurd rfl hk
     ·rename_i hka
      exact ⟨k,fun he=>hk (by rw [he];rfl),upd_ne _ _ hkb,.inr ⟨rfl,hka,hkb⟩⟩
   refine ⟨upd σ b (σ a),⟨h.ti.fin,fun k=> ?_,fun i j c hij hi hj hb=> ?_,fun k c hk hb=> ?_,h.ti.fr,h.ti.old,fun k hk=> ?_,h.ti.zz,h.ti.zn,h.ti.ex⟩,⟨h.rel.len,fun i u hu=> ?_,fun i hi=> ?_⟩,fun j hj=> ?_⟩
   ·by_cases hkb:k=b
    ·subst hkb
     simp only [if_true]
     exact (h.ti.obj a).move (upd_self _ _ _) (by rw [hst];rfl)
    ·by_cases hka:k=a
     ·simp only [if_neg hkb,if_pos hka]
      trivial
     ·simp only [if_neg hkb,if_neg hka]
      have:=ren_oat (f:=mvf a b) (σ':=upd σ b (σ a)) (h.ti.obj k) (hs k hkb) (fun r hr=>hs r (fun he=>free_spec h.dom hf k (he▸hr)))
      have e:mvf a b k=k:=if_neg hka
      rw [e] at this
      exact this
   ·obtain ⟨i',p1,p2,p3⟩:=live i hi
    obtain ⟨j',q1,q2,q3⟩:=live j hj
    rw [p2] at hb
    rw [q2]
    refine h.ti.apart i' j' c (fun he=> ?_) p1 q1 hb
    rcases p3 with p3|p3<;>rcases q3 with q3|q3
    ·exact hij (p3.1.trans q3.1.symm)
    ·exact q3.2.1 (he▸p3.2)
    ·exact p3.2.1 (he.trans q3.2)
    ·exact hij (p3.1.trans (he.trans q3.1.symm))
   ·obtain ⟨j',q1,q2,q3⟩:=live k hk
    rw [q2] at hb
    exact h.ti.own j' c q1 hb
   ·rw [upd_ne _ _ (fun he=>by have:=free_lt hf;omega)]
    exact h.ti.lnt k hk
   ·rcases mask_is b (S.ts i) with ⟨h1,h2⟩|h1
    ·simp only [h1]
     exact ren_c _ u (fun r hr=>hs r (fun he=>h2 (he▸hr))) (h.rel.at_ i u hu)
    ·simp only [h1]
     exact C.any_ u
   ·simp only [h.rel.out i hi]
    rcases mask_is b V.un with ⟨h1,_⟩|h1<;>rw [h1]<;>rfl
   ·obtain ⟨j',q1,q2,q3⟩:=live j hj
    rcases q3 with q3|q3
    ·rw [q3.1];exact List.mem_cons_self
    ·rw [q3.1];exact List.mem_cons_of_mem _ (h.dom _ q1)
  ·exact ⟨σ,h⟩
 ·exact ⟨σ,h⟩
theorem At.mvks (h:At B X w σ n S us)(l:List (Nat×Nat)): ∃ σ',At B X w σ' n (S.mvks l) us:=by
 induction l generalizing σ S with
 |nil=>exact ⟨σ,h⟩
 |cons p l ih=>
  obtain ⟨σ1,h1⟩:=h.mvk p.1 p.2
  exact ih h1
theorem At.fgt (h:At B X w σ n S us)(f:Fg):At B X w σ n (fgt f S) us:=by
 have hst: ∀ k,(∃ t,(K.fgt f S).st k=nrmO t (S.st k))∨(K.fgt f S).st k= .no:=fun k=>(lookO_or S.st f.os k).imp And.right id
 have hlive: ∀ k,(K.fgt f S).st k≠ .no->S.st k≠ .no:=fun k hk=>by
  rcases hst k with ⟨t,h1⟩|h1
  ·exact nrmO_no (by rw [←h1];exact hk)
  ·exact absurd h1 hk
 refine ⟨⟨h.ti.fin,fun k=> ?_,fun i j b hij hi hj=>h.ti.apart i j b hij (hlive i hi) (hlive j hj),fun k b hk=>h.ti.own k b (hlive k hk),h.ti.fr,h.ti.old,h.ti.lnt,h.ti.zz,h.ti.zn,h.ti.ex⟩,⟨h.rel.len,fun i u hu=> ?_,fun i hi=> ?_⟩,fun j hj=> ?_⟩
 ·rcases hst k with ⟨t,h1⟩|h1
  ·rw [h1];exact nrmO_at (h.ti.obj k)
  ·rw [h1];trivial
 ·rcases look_or S.ts f.ks i with ⟨t,h1⟩|h1
  ·have h2:(K.fgt f S).ts i=nrmV t (S.ts i):=h1
   rw [h2];exact nrmV_c (h.rel.at_ i u hu)
  ·have h2:(K.fgt f S).ts i= .un:=h1
   rw [h2];exact C.any_ u
 ·rcases look_or S.ts f.ks i with ⟨t,h1⟩|h1
  ·have h2:(K.fgt f S).ts i=nrmV t (S.ts i):=h1
   rw [h2,h.rel.out i hi]
   cases t with
   |none=>rfl
   |some y=>
    have hn:V.as y .un=none:=by
     simp only [V.as]
     split<;>rfl
    simp only [nrmV,hn]
  ·exact h1
 ·rcases lookO_or S.st f.os j with ⟨h1,_⟩|h2
  ·exact h1
  ·exact absurd h2 hj
theorem nil_at (h:At B X w σ n S us){k e:Nat}{y:Ty}(hf:S.free k=true):At B X w (upd σ k (.arr (.slice none 0 0))) n (S.alloc k (.arr e y [])) us:=
 h.adopt hf ⟨_,[],upd_self _ _ _,.of (World.ownsRow_nil w 0 e y.sz),by simp [Cs],(fun x hx=>by cases hx),fun b hb=>by cases hb⟩ (fun b hb=>by cases hb)
theorem nwR_sound {β:Type}{g:G}{s e:Nat}{K:VS->Option β}{r:β}(h:nwR g s e S K=some r)(ha:At B X w σ g.n S us): ∃ S' σ',K S'=some r/\At B X w σ' g.n S' us:=by
 unfold nwR at h
 split at h
 ·rename_i hs
  split at h
  ·rename_i y _
   split at h
   ·rename_i hc
    simp only [Bool.and_eq_true,decide_eq_true_eq] at hc
    have hu:us[s]? = some (.slice none 0 0):=by
     have hlt:s<us.length:=by rw [ha.rel.len];exact hc.2
     have h1:=ha.rel.at_ s us[s] (List.getElem?_eq_getElem hlt)
     rw [hs] at h1
     rw [List.getElem?_eq_getElem hlt,(C.v h1).1]
    have ha1:=nil_at ha (e:=e) (y:=y) hc.1
    have:=ha1.put hc.2 (v:= .ms s) (u:= .slice none 0 0) (by simp only [V.d,C];exact ⟨upd_self _ _ _,rfl⟩)
    have hset:us.set s (.slice none 0 0)=us:=by
     apply List.ext_getElem?
     intro m
     rw [List.getElem?_set]
     split
     ·rename_i hm
      subst hm
      split
      ·exact hu.symm
      ·rename_i hl
       rw [ha.rel.len] at hl
       exact absurd hc.2 hl
     ·rfl
    rw [hset] at this
    exact ⟨_,_,h,this⟩
   ·cases h
  ·cases h
 ·exact ⟨S,σ,h,ha⟩
theorem wqR_sound {β:Type}{g:G}{s:Nat}{K:VS->Option β}{r:β}(h:wqR g s S K=some r)(ha:At B X w σ g.n S us): ∃ X' S' σ',K S'=some r/\At B X' w σ' g.n S' us:=by
 unfold wqR at h
 split at h
 ·rename_i sz j lo m hs
  split at h
  ·rename_i e t l hst
   split at h
   ·rename_i hc
    simp only [Bool.and_eq_true,beq_iff_eq,decide_eq_true_eq] at hc
    obtain ⟨hf,hsz,rfl,hlt⟩:=hc
    obtain ⟨hm,h⟩:=br_none h
    have hm:=of_decide_eq_true hm
    have hsl:s<us.length:=by rw [ha.rel.len];exact hlt
    have kx:=ha.rel.at_ s us[s] (List.getElem?_eq_getElem hsl)
    rw [hs] at kx
    simp only [V.d,C] at kx
    have hat:=ha.ti.obj j
    rw [hst] at hat
    obtain ⟨u',xs,g1,g2,g3,g4,g5⟩:=hat
    have hml:(l.take m).length=m:=by rw [List.length_take];omega
    have hcs:Cs X w nowhere ((l.take m).flatMap t.cells) (xs.take (m*t.sz)):=by
     rw [←flat_take]
     exact g3.take_ _
    have hown:OwnM w e t.sz us[s] (l.take m).length (xs.take (m*t.sz)):=by
     rw [hml]
     rcases kx with ⟨b,m',c,kx,hle2,hu⟩|⟨kx,_,rfl,hu⟩
     ·rw [g1] at kx
      injection kx with kx
      subst kx
      rw [hu]
      have:=g2.take_ hm
      simpa using this
     ·rw [hu]
      simp only [Nat.zero_mul,List.take_zero]
      exact .of (World.ownsRow_nil w 0 e t.sz)
    have hb: ∀ b,us[s].ownBlock=some b->(∀ q,X b q)/\(S.dim j).st j≠ .no/\(σ j).blk=some b:=fun b hb=>by
     rcases kx with ⟨b',m',c,kx,hle2,hu⟩|⟨kx,_,rfl,hu⟩
     ·rw [g1] at kx
      injection kx with kx
      subst kx
      rw [hu] at hb
      have hb:b'=b:=by simpa [Value.ownBlock] using hb
      subst hb
      exact ⟨g5 b' rfl,by simp [VS.dim,hst,VO.dim],by rw [g1];rfl⟩
     ·rw [hu] at hb
      cases hb
    obtain ⟨X',q1,q2⟩:=(ha.dim j).app (k:=j) (e:=e) (m:=0) (l:=l.take m) (l2:=[]) (v':=us[s]) (row:=none) (news:=[]) hf hown hb rfl hcs (by simp [Cs]) (fun q hq=>g4 q (List.mem_of_mem_take (by simpa using hq))) (by simpa using hown) (World.grownBy.refl w _) (.inl ⟨rfl,.inl rfl⟩)
    have:=q1.put hlt (v:= .ms j) (u:=us[s]) (by simp only [V.d,C];exact ⟨upd_self _ _ _,q2⟩)
    have hset:us.set s us[s]=us:=List.set_getElem_self hsl
    rw [hset] at this
    exact ⟨_,_,_,h,this⟩
   ·cases h
  ·cases h
 ·cases h
theorem mvR_sound {β:Type}{g:G}{l:List (Nat×Nat)}{K:VS->Option β}{r:β}(h:mvR g l S K=some r)(ha:At B X w σ g.n S us): ∃ X' S' σ',K S'=some r/\At B X' w σ' g.n S' us:=by
 unfold mvR at h
 split at h
 ·rename_i s b
  split at h
  ·exact wqR_sound h ha
  ·obtain ⟨σ2,h2⟩:=ha.mvks [(s,b)]
   exact ⟨X,_,σ2,h,h2⟩
 ·obtain ⟨σ2,h2⟩:=ha.mvks l
  exact ⟨X,_,σ2,h,h2⟩
theorem nfR_sound {β:Type}{g:G}{j i e k:Nat}{K:VS->Option β}{r:β}(h:nfR g j i e k S K=some r)(ha:At B X w σ g.n S us): ∃ S' σ',K S'=some r/\At B X w σ' g.n S' us:=by
 unfold nfR at h
 split at h
 ·rename_i vs hst
  split at h
  ·rename_i hv
   split at h
   ·rename_i y _
    split at h
    ·rename_i hc
     simp only [Bool.and_eq_true,Bool.not_eq_true',beq_eq_false_iff_ne] at hc
     obtain ⟨hf,hjk⟩:=hc
     have ha1:=nil_at ha (e:=e) (y:=y) hf
     refine ⟨_,upd σ k (.arr (.slice none 0 0)),h, ?_⟩
     have hobj:(S.alloc k (.arr e y [])).st j= .box (.ag vs):=by simp only [VS.alloc];rw [upd_ne _ _ hjk];exact hst
     have hat:=ha1.ti.obj j
     rw [hobj] at hat
     obtain ⟨b,ty,xs,h1,h2,h3,h4⟩:=hat
     have hnew:OAt X w (upd σ k (.arr (.slice none 0 0))) j (.box (.ag (vs.set i (.ms k)))):=by
      refine ⟨b,ty,xs,h1,h2, ?_,h4⟩
      simp only [V.d,D.cells,V.ds_eq,List.map_set] at h3 ⊢
      have hd:(vs.map V.d)[i]? = some (.v (.slice none 0 0)):=by rw [List.getElem?_map,hv];rfl
      obtain ⟨u,hu,hcu⟩:=h3.at_ hd
      have:=h3.set_ i (d:=(V.ms k).d) (u:=u) (by
       rw [(C.v hcu).1]
       simp only [V.d,C]
       exact ⟨upd_self _ _ _,rfl⟩)
      have hset:xs.set i u=xs:=by
       apply List.ext_getElem?
       intro m
       rw [List.getElem?_set]
       split
       ·rename_i hm
        subst hm
        split
        ·exact hu.symm
        ·rename_i hl
         rw [List.getElem?_eq_none (by omega)] at hu
         cases hu
       ·rfl
      rw [hset] at this
      exact this
     have hs: ∀ q,upd (upd σ k (.arr (.slice none 0 0))) j ((upd σ k (.arr (.slice none 0 0))) j) q=upd σ k (.arr (.slice none 0 0)) q:=by
      intro q
      by_cases hq:q=j
      ·rw [hq,upd_self]
      ·rw [upd_ne _ _ hq]
     have hs:=funext hs
     have ht:=ha1.ti.step (k:=j) (o:= .box (.ag (vs.set i (.ms k)))) (s:=upd σ k (.arr (.slice none 0 0)) j) (Ext.refl X w) (.inl rfl) (fun _ _ _ _ _=>⟨rfl,fun _ hq=>hq⟩) (by rw [hs];exact hnew)
      (fun c _ hc=>⟨ha1.ti.own j c (by rw [hobj];simp) hc,fun q hq hn=>ha1.ti.apart j q c (Ne.symm hq) (by rw [hobj];simp) hn hc⟩) ha1.ti.fin ha1.ti.fr ha1.ti.old
     rw [hs] at ht
     refine ⟨ht,ha1.rel,fun q hq=> ?_⟩
     simp only [VS.setO] at hq ⊢
     by_cases hqj:q=j
     ·subst hqj;exact ha1.dom q (by rw [hobj];simp)
     ·rw [upd_ne _ _ hqj] at hq
      exact ha1.dom q hq
    ·cases h
   ·cases h
  ·exact ⟨S,σ,h,ha⟩
 ·rename_i hst
  split at h
  ·rename_i y _
   split at h
   ·rename_i hc
    simp only [Bool.and_eq_true,Bool.not_eq_true',beq_eq_false_iff_ne] at hc
    obtain ⟨hf,hjk⟩:=hc
    have ha1:=nil_at ha (e:=e) (y:=y) hf
    refine ⟨_,upd σ k (.arr (.slice none 0 0)),h, ?_⟩
    have hobj:(S.alloc k (.arr e y [])).st j= .box (.c (.slice none 0 0)):=by simp only [VS.alloc];rw [upd_ne _ _ hjk];exact hst
    have hat:=ha1.ti.obj j
    rw [hobj] at hat
    obtain ⟨b,ty,xs,h1,h2,h3,h4⟩:=hat
    have hnew:OAt X w (upd σ k (.arr (.slice none 0 0))) j (.box (.ag [.ms k])):=by
     refine ⟨b,ty,xs,h1,h2, ?_,h4⟩
     have h3':Cs X w (upd σ k (.arr (.slice none 0 0))) [.v (.slice none 0 0)] xs:=h3
     obtain ⟨u,rfl,hcu⟩:=h3'.one
     rw [(C.v hcu).1]
     have h5:Cs X w (upd σ k (.arr (.slice none 0 0))) [.ms k] [.slice none 0 0]:=by
      simp only [Cs,C]
      exact ⟨_,_,rfl,⟨upd_self _ _ _,rfl⟩,rfl⟩
     exact h5
    have hs: ∀ q,upd (upd σ k (.arr (.slice none 0 0))) j ((upd σ k (.arr (.slice none 0 0))) j) q=upd σ k (.arr (.slice none 0 0)) q:=by
     intro q
     by_cases hq:q=j
     ·rw [hq,upd_self]
     ·rw [upd_ne _ _ hq]
    have hs:=funext hs
    have ht:=ha1.ti.step (k:=j) (o:= .box (.ag [.ms k])) (s:=upd σ k (.arr (.slice none 0 0)) j) (Ext.refl X w) (.inl rfl) (fun _ _ _ _ _=>⟨rfl,fun _ hq=>hq⟩) (by rw [hs];exact hnew)
     (fun c _ hc=>⟨ha1.ti.own j c (by rw [hobj];simp) hc,fun q hq hn=>ha1.ti.apart j q c (Ne.symm hq) (by rw [hobj];simp) hn hc⟩) ha1.ti.fin ha1.ti.fr ha1.ti.old
    rw [hs] at ht
    refine ⟨ht,ha1.rel,fun q hq=> ?_⟩
    simp only [VS.setO] at hq ⊢
    by_cases hqj:q=j
    ·subst hqj;exact ha1.dom q (by rw [hobj];simp)
    ·rw [upd_ne _ _ hqj] at hq
     exact ha1.dom q hq
   ·cases h
  ·cases h
 ·exact ⟨S,σ,h,ha⟩
theorem trR_none {ops:Array Oper}{o:Oper}{dst:Option Nat}{k:RK}(h:trR P ops o=⟨dst,none,k⟩)(hk:k≠ .bad):o.guard=none/\o.dst=dst/\trK P o.op=k:=by
 unfold trR at h
 split at h
 ·rename_i hg
  simp only [RO.mk.injEq] at h
  exact ⟨hg,h.1,h.2.2⟩
 ·split at h
  ·simp at h
  ·simp only [RO.mk.injEq] at h
   exact absurd h.2.2.symm hk
theorem trR_some {ops:Array Oper}{o:Oper}{dst:Option Nat}{k:RK}{s:Nat}{b:Bool}(h:trR P ops o=⟨dst,some (s,b),k⟩):(∃ j,o.guard=some (j,b)/\(ops[j]?).bind (·.dst)=some s)/\o.dst=dst/\trK P o.op=k:=by
 unfold trR at h
 split at h
 ·simp at h
 ·rename_i j b' hg
  split at h
  ·rename_i s' hs
   simp only [RO.mk.injEq,Option.some.injEq,Prod.mk.injEq] at h
   obtain ⟨h1,⟨rfl,rfl⟩,h3⟩:=h
   exact ⟨⟨j,hg,hs⟩,h1,h3⟩
  ·simp at h
theorem ro_sound {β:Type}{g:G}{rr:RO}{K:VS->Option β}{r:β}(hg:GOk P g)(h:rr.run g S K=some r){ops:Array Oper}{o:Oper}(ht:trR P ops o=rr)(ha:At B X w σ g.n S us):
  (Region.wanted o (yielded ops us.toArray)=true∧ ∀ {ro:Option Nat} {nn:Nat} {df:List Deferred} {K':Act->World->Prop} {Q':Exit->Act->World->Prop},(∀ S' X' w' σ' us',At B X' w' σ' g.n S' us'->K S'=some r->K' ⟨us'.toArray,df⟩ w')->o.wpIn (Fw ro) nn P ⟨us.toArray,df⟩ w K' Q')∨
  (Region.wanted o (yielded ops us.toArray)=false∧ ∃ S',K S'=some r/\At B X w σ g.n S' (uput us o.dst undef)):=by
 obtain ⟨dst,gd,k⟩:=rr
 cases gd with
 |none=>
  simp only [RO.run] at h
  have hk:k≠ .bad:=by rintro rfl;cases h
  obtain ⟨h1,h2,h3⟩:=trR_none ht hk
  exact .inl ⟨by simp [Region.wanted,h1],fun hK=>rk_sound hg h o h3 h2 ha hK⟩
 |some sb=>
  obtain ⟨s,b⟩:=sb
  obtain ⟨⟨j,h1,h2⟩,h3,h4⟩:=trR_some ht
  have hval: ∀ x:Value,(us[s]?).getD undef=x->Region.wanted o (yielded ops us.toArray)=(match x with|.bool q=>q==b|_=>false):=by
   intro x hx
   simp only [Region.wanted,h1,yielded,h2,Option.bind_some,List.getElem?_toArray]
   cases hu:us[s]? with
   |none=>
    rw [hu] at hx
    simp only [Option.getD_none] at hx
    subst hx
    rfl
   |some u=>
    rw [hu] at hx
    simp only [Option.getD_some] at hx
    subst hx
    cases u<;>first|rfl|(rename_i q;cases q<;>cases b<;>rfl)
  have hin:S.ts s≠ .un→ ∃ u,us[s]? = some u/\C X w σ (S.ts s).d u:=by
   intro hne
   have hlt:s<us.length:=by
    rcases Nat.lt_or_ge s us.length with hlt|hge
    ·exact hlt
    ·rw [ha.rel.len] at hge
     exact absurd (ha.rel.out s hge) hne
   exact ⟨_,List.getElem?_eq_getElem hlt,ha.rel.at_ s _ (List.getElem?_eq_getElem hlt)⟩
  simp only [RO.run] at h
  split at h
  ·rename_i q hq
   obtain ⟨u,hu,hcu⟩:=hin (by rw [hq];simp)
   rw [hq] at hcu
   have hu2:(us[s]?).getD undef= .bool q:=by rw [hu];exact (C.v hcu).1
   have hw:=hval _ hu2
   simp only at hw
   cases b with
   |true=>
    rcases br_some h with ⟨rfl,h⟩|⟨rfl,h⟩
    ·exact .inl ⟨hw,fun hK=>rk_sound hg h o h4 h3 ha hK⟩
    ·subst h3
     obtain ⟨S',e1,e2⟩:=putR_sound h ha (u:=undef) (v:= .ud) (by simp [V.d,C])
     exact .inr ⟨hw,S',e1,e2⟩
   |false=>
    rcases br_some h with ⟨rfl,h⟩|⟨rfl,h⟩
    ·subst h3
     obtain ⟨S',e1,e2⟩:=putR_sound h ha (u:=undef) (v:= .ud) (by simp [V.d,C])
     exact .inr ⟨hw,S',e1,e2⟩
    ·exact .inl ⟨hw,fun hK=>rk_sound hg h o h4 h3 ha hK⟩
  ·rename_i hq
   obtain ⟨u,hu,hcu⟩:=hin (by rw [hq];simp)
   rw [hq] at hcu
   simp only [V.d,C] at hcu
   have hu2:(us[s]?).getD undef=undef:=by rw [hu];exact hcu.2 trivial
   have hw:=hval _ hu2
   subst h3
   obtain ⟨S',e1,e2⟩:=putR_sound h ha (u:=undef) (v:= .ud) (by simp [V.d,C])
   exact .inr ⟨hw,S',e1,e2⟩
  ·cases h
theorem evL_sound {β:Type}{g:G}{r:β}(hg:GOk P g){ro:Option Nat}{nn:Nat}{df:List Deferred}{Q':Exit->Act->World->Prop}: ∀ {rs:List RO} {S:VS} {K:VS->Option β} {X:Nat->Nat->Prop} {w:World} {σ:Pl} {us:List Value} {ops:Array Oper} {rest:List Oper},evL g rs S K=some r->rest.map (trR P ops)=rs->At B X w σ g.n S us→
  (∀ S' X' w' σ' us',At B X' w' σ' g.n S' us'->K S'=some r->Q' .normal ⟨us'.toArray,df⟩ w')->wpListIn (Fw ro) nn P ops Q' rest ⟨us.toArray,df⟩ w
 | [],S,K,X,w,σ,us,ops,rest,h,hm,ha,hK=>by
  have:rest=[]:=List.map_eq_nil_iff.1 hm
  subst this
  exact hK S X w σ us ha h
 |r0::rs,S,K,X,w,σ,us,ops,rest,h,hm,ha,hK=>by
  cases rest with
  |nil=>simp at hm
  |cons o rest=>
   simp only [List.map_cons,List.cons.injEq] at hm
   simp only [evL] at h
   have h:=learn_some h
   rcases ro_sound hg h hm.1 ha with ⟨hw,hrun⟩|⟨hw,S',e1,e2⟩
   ·simp only [wpListIn,hw,if_true]
    exact hrun fun S' X' w' σ' us' ha' hk=>evL_sound hg hk hm.2 ha' hK
   ·simp only [wpListIn,hw,Bool.false_eq_true,if_false]
    rw [put_eq]
    exact ⟨fun _ _=>trivial,evL_sound hg e1 hm.2 e2 hK⟩
end
end Go.Proofs.YtmokmalepelinaaGreatDoor.K
/-
 Regions whose order is open:what an operation looks at,and what it leaves alone.
-/
namespace Go.Proofs.YtmokmalepelinaaGreatDoor.K
open Go.RowKit
theorem br_bind {β γ:Type}(q:Bool)(a b:Option β)(K:β->Option γ):(br q a b).bind K=br q (a.bind K) (b.bind K):=by cases q<;>rfl
section
variable {β:Type}
theorem nz_bind (v:V)(K:V->Option β):nz v K=(nz v some).bind K:=by unfold nz;split<;>rfl
theorem binTI_bind (k:IntKind)(a b:Int)(K:V->Option β)(op:BinOp):binTI k a b K op=(binTI k a b some op).bind K:=by
 cases op<;>simp only [binTI,br_bind,Option.bind_some,Option.bind_none]
theorem shT_bind (k:IntKind)(a b:Int)(K:V->Option β)(op:BinOp):shT k a b K op=(shT k a b some op).bind K:=by
 cases op<;>simp only [shT,br_bind,Option.bind_some,Option.bind_none]
theorem binTS_bind (a b:ByteArray)(K:V->Option β)(op:BinOp):binTS a b K op=(binTS a b some op).bind K:=by
 cases op<;>simp only [binTS,br_bind,Option.bind_some,Option.bind_none]
theorem binTB_bind (a b:Bool)(K:V->Option β)(op:BinOp):binTB a b K op=(binTB a b some op).bind K:=by
 cases op<;>simp only [binTB,Option.bind_some,Option.bind_none]
theorem binT_bind (bl:Bool)(op:BinOp)(x y:V)(K:V->Option β):binT bl op x y K=(binT bl op x y some).bind K:=by
 unfold binT
 split
 ·split
  ·exact binTI_bind ..
  ·exact shT_bind ..
 ·exact binTS_bind ..
 ·split
  ·exact binTB_bind ..
  ·rfl
 ·rfl
theorem ao_bind (S:VS)(K:V->Option β)(ao:AO):ao.run S K=(ao.run S some).bind K:=by
 cases ao with
 |mv x=>exact nz_bind _ _
 |pick c a b=>
  simp only [AO.run]
  split
  ·rw [br_bind, ← nz_bind, ← nz_bind]
  ·rfl
 |fa off x=>simp only [AO.run];split<;>rfl
 |fd agg off n x=>
  simp only [AO.run]
  split
  ·split
   ·exact nz_bind _ _
   ·rfl
  ·rfl
 |ix sz x i=>
  simp only [AO.run]
  split
  ·split
   ·unfold ixT
    split
    ·simp only [br_bind,Option.bind_some,Option.bind_none]
    ·rfl
   ·split
    ·unfold ixM
     split
     ·simp only [br_bind,Option.bind_some,Option.bind_none]
     ·rfl
    ·rfl
   ·split
    ·simp only [br_bind,Option.bind_some,Option.bind_none]
    ·rfl
   ·split
    ·simp only [br_bind,Option.bind_some,Option.bind_none]
    ·rfl
   ·rfl
  ·rfl
 |sx x i=>
  simp only [AO.run]
  split
  ·simp only [sxT,br_bind,Option.bind_some,Option.bind_none]
  ·rfl
 |bin bl op x y=>exact binT_bind ..
 |nc x=>simp only [AO.run];split<;>rfl
 |nt x=>simp only [AO.run];split<;>rfl
 |ng x=>simp only [AO.run];split<;>rfl
 |cv k x=>simp only [AO.run];split<;>rfl
 |ext i x=>
  simp only [AO.run]
  split
  ·split
   ·exact nz_bind _ _
   ·rfl
  ·rfl
 |len q x=>
  cases q with
  |true=>simp only [AO.run];split<;>rfl
  |false=>
   simp only [AO.run]
   split
   ·rfl
   ·rfl
   ·split<;>rfl
   ·rfl
   ·rfl
   ·rfl
 |mx x y=>
  simp only [AO.run]
  split
  ·split<;>rfl
  ·rfl
 |mx3 x y z=>
  simp only [AO.run]
  split
  ·split<;>rfl
  ·rfl
 |mn x y=>
  simp only [AO.run]
  split
  ·split<;>rfl
  ·rfl
 |eqs neg ks x y=>
  simp only [AO.run]
  split
  ·split<;>rfl
  ·rfl
 |slc sz x lo hi top=>
  simp only [AO.run]
  split
  ·split
   ·split
    ·simp only [slcT,br_bind,Option.bind_some,Option.bind_none]
    ·rfl
   ·rfl
  ·split
   ·simp only [br_bind,Option.bind_some,Option.bind_none]
   ·rfl
  ·split
   ·split
    ·split
     ·simp only [wnT,br_bind,Option.bind_some,Option.bind_none]
     ·rfl
    ·rfl
   ·rfl
  ·rfl
 |sls x lo hi=>
  simp only [AO.run]
  split
  ·split
   ·simp only [slsT,br_bind,Option.bind_some,Option.bind_none]
   ·rfl
  ·rfl
 |bd init parts=>
  simp only [AO.run]
  split
  ·split<;>rfl
  ·rfl
 |lde agg n x=>rfl
theorem ld_bind {TY:Nat->Option Ty}{own:Bool}{k:Nat}(S:VS)(K:VS->V->Option β)(agg:Bool)(n:Nat)(x:AX):MO.run TY own k S K (.ld agg n x)=(MO.run TY false 0 S (fun _ v=>some v) (.ld agg n x)).bind (K S):=by
 simp only [MO.run]
 split
 ·split
  ·split
   ·exact nz_bind _ _
   ·rfl
  ·rfl
 ·split
  ·exact nz_bind _ _
  ·rfl
 ·split
  ·split
   ·unfold ldA
    rw [br_bind]
    congr 1
    split
    ·exact nz_bind _ _
    ·rfl
   ·rfl
  ·rfl
 ·rfl
theorem bs_bind {TY:Nat->Option Ty}{k:Nat}(S:VS)(K:VS->V->Option β)(e sz len:Nat)(init:List D)(parts:List (Nat×Nat×AX))(hp:partMs S.ts parts=[]):
  MO.run TY false k S K (.bs e sz len init parts)=(MO.run TY false 0 S (fun _ v=>some v) (.bs e sz len init parts)).bind (K S):=by
 simp only [MO.run,hp,VS.fzs,List.foldl_nil]
 split
 ·split
  ·split
   ·split
    ·split
     ·split<;>rfl
     ·rfl
    ·rfl
   ·rfl
  ·rfl
 ·rfl
theorem rkq_bind (g:G)(S:VS)(K:V->Option β)(k:RK):k.q g S K=(k.q g S some).bind K:=by
 unfold RK.q
 split
 ·exact ao_bind ..
 ·rw [ld_bind S (fun _ v=>K v),ld_bind S (fun _ v=>some v)]
 ·split
  ·rename_i hp
   rw [bs_bind S (fun _ v=>K v) _ _ _ _ _ hp,bs_bind S (fun _ v=>some v) _ _ _ _ _ hp]
  ·rfl
 ·split<;>rfl
 ·split
  ·split
   ·rw [br_bind]
    congr 1
    split<;>rfl
   ·rfl
  ·rfl
 ·rfl
theorem roq_bind (g:G)(S:VS)(K:V->Option β)(r:RO):r.q g S K=(r.q g S some).bind K:=by
 unfold RO.q
 split
 ·exact rkq_bind ..
 ·split
  ·split
   ·rw [br_bind, ← rkq_bind];rfl
   ·rw [br_bind, ← rkq_bind];rfl
  ·rfl
  ·rfl
end
section
variable {β:Type}{S T:VS}
def Alike (S T:VS)(looks:List Nat):Prop:=(∀ j∈looks,T.ts j=S.ts j)∧ ∀ j∈looks, ∀ k∈(S.ts j).refs,T.st k=S.st k
theorem Alike.sub {a b:List Nat}(h:Alike S T a)(hb: ∀ j∈b,j∈a):Alike S T b:=⟨fun j hj=>h.1 j (hb j hj),fun j hj=>h.2 j (hb j hj)⟩
theorem xv_like {x:AX}(h:Alike S T x.looks):x.xv T.ts=x.xv S.ts:=by
 cases x with
 |t i=>exact h.1 i (by simp [AX.looks])
 |c d=>rfl
theorem xv_st {x:AX}(h:Alike S T x.looks){k:Nat}(hk:k∈(x.xv S.ts).refs):T.st k=S.st k:=by
 cases x with
 |t i=>exact h.2 i (by simp [AX.looks]) k hk
 |c d=>
  cases d with
  |v x=>cases x<;>cases hk
  |_=>cases hk
theorem bnd_like {d:Int}{x:Option AX}(h:Alike S T (optL x)):bndV T.ts d x=bndV S.ts d x:=by
 cases x with
 |none=>rfl
 |some x=>simp only [bndV,xv_like (x:=x) h]
theorem fill_like: ∀ {parts:List (Nat×Nat×AX)} {cells:List V},Alike S T (parts.flatMap fun p=>p.2.2.looks)->fillV T.ts cells parts=fillV S.ts cells parts
 | [],_,_=>rfl
 |(off,sz,x)::r,cells,h=>by
  have h1:Alike S T x.looks:=h.sub fun j hj=>by simp [hj]
  have h2:Alike S T (r.flatMap fun p=>p.2.2.looks):=h.sub fun j hj=>by
   simp only [List.flatMap_cons,List.mem_append]
   exact .inr hj
  simp only [fillV,xv_like h1]
  split
  ·exact fill_like h2
  ·rfl
theorem vals_like {l:List AX}(h:Alike S T (l.flatMap AX.looks)):vals T.ts l=vals S.ts l:=by
 refine List.map_congr_left fun x hx=>xv_like (h.sub fun j hj=>List.mem_flatMap.2 ⟨x,hx,hj⟩)
theorem ao_like {K:V->Option β}{ao:AO}(h:Alike S T ao.looks):ao.run T K=ao.run S K:=by
 have two: ∀ {x y:AX},Alike S T (x.looks++y.looks)->Alike S T x.looks/\Alike S T y.looks:=fun h=>⟨h.sub fun j hj=>List.mem_append_left _ hj,h.sub fun j hj=>List.mem_append_right _ hj⟩
 cases ao with
 |mv x=>simp only [AO.run,xv_like (x:=x) h]
 |pick c a b=>
  have h1:Alike S T c.looks:=h.sub fun j hj=>by simp [AO.looks,hj]
  have h2:Alike S T a.looks:=h.sub fun j hj=>by simp [AO.looks,hj]
  have h3:Alike S T b.looks:=h.sub fun j hj=>by simp [AO.looks,hj]
  simp only [AO.run,xv_like h1,xv_like h2,xv_like h3]
 |fa off x=>simp only [AO.run,xv_like (x:=x) h]
 |fd agg off n x=>simp only [AO.run,xv_like (x:=x) h]
 |ix sz x i=>
  obtain ⟨h1,h2⟩:=two h
  simp only [AO.run,xv_like h1,xv_like h2]
  split
  ·split
   ·rfl
   ·rename_i k hk
    rw [xv_st h1 (k:=k) (by rw [hk];simp [V.refs])]
   ·rfl
   ·rfl
   ·rfl
  ·rfl
 |sx x i=>
  obtain ⟨h1,h2⟩:=two h
  simp only [AO.run,xv_like h1,xv_like h2]
 |bin bl op x y=>
  obtain ⟨h1,h2⟩:=two h
  simp only [AO.run,xv_like h1,xv_like h2]
 |nc x=>simp only [AO.run,xv_like (x:=x) h]
 |nt x=>simp only [AO.run,xv_like (x:=x) h]
 |ng x=>simp only [AO.run,xv_like (x:=x) h]
 |cv k x=>simp only [AO.run,xv_like (x:=x) h]
 |ext i x=>simp only [AO.run,xv_like (x:=x) h]
 |len q x=>
  cases q with
  |true=>simp only [AO.run,xv_like (x:=x) h]
  |false=>
   simp only [AO.run,xv_like (x:=x) h]
   split
   ·rfl
   ·rfl
   ·rename_i k hk
    rw [xv_st (x:=x) h (k:=k) (by rw [hk];simp [V.refs])]
   ·rfl
   ·rfl
   ·rfl
 |mx x y=>
  obtain ⟨h1,h2⟩:=two h
  simp only [AO.run,xv_like h1,xv_like h2]
 |mx3 c a b=>
  have h1:Alike S T c.looks:=h.sub fun j hj=>by simp [AO.looks,hj]
  have h2:Alike S T a.looks:=h.sub fun j hj=>by simp [AO.looks,hj]
  have h3:Alike S T b.looks:=h.sub fun j hj=>by simp [AO.looks,hj]
  simp only [AO.run,xv_like h1,xv_like h2,xv_like h3]
 |mn x y=>
  obtain ⟨h1,h2⟩:=two h
  simp only [AO.run,xv_like h1,xv_like h2]
 |eqs neg ks x y=>
  obtain ⟨h1,h2⟩:=two h
  simp only [AO.run,xv_like h1,xv_like h2]
 |slc sz x lo hi top=>
  have h1:Alike S T x.looks:=h.sub fun j hj=>by simp [AO.looks,hj]
  have h2:Alike S T (optL lo):=h.sub fun j hj=>by simp [AO.looks,hj]
  have h3:Alike S T (optL hi):=h.sub fun j hj=>by simp [AO.looks,hj]
  have h4:Alike S T (optL top):=h.sub fun j hj=>by simp [AO.looks,hj]
  simp only [AO.run,xv_like h1,bnd_like h2,bnd_like h3,bnd_like h4]
  split
  ·rfl
  ·rfl
  ·rename_i k hk
   rw [xv_st (x:=x) h1 (k:=k) (by rw [hk];simp [V.refs])]
  ·rfl
 |sls x lo hi=>
  have h1:Alike S T x.looks:=h.sub fun j hj=>by simp [AO.looks,hj]
  have h2:Alike S T (optL lo):=h.sub fun j hj=>by simp [AO.looks,hj]
  have h3:Alike S T (optL hi):=h.sub fun j hj=>by simp [AO.looks,hj]
  simp only [AO.run,xv_like h1,bnd_like h2,bnd_like h3]
 |bd init parts=>simp only [AO.run,fill_like (parts:=parts) h]
 |lde agg n x=>rfl
theorem part_like {parts:List (Nat×Nat×AX)}(h:Alike S T (parts.flatMap fun p=>p.2.2.looks)):partMs T.ts parts=partMs S.ts parts:=by
 unfold partMs
 rw [List.flatMap_def,List.flatMap_def]
 congr 1
 exact List.map_congr_left fun p hp=>by rw [xv_like (h.sub fun j hj=>List.mem_flatMap.2 ⟨p,hp,hj⟩)]
theorem rkq_like {g:G}{K:V->Option β}{k:RK}(h:Alike S T k.looks):k.q g T K=k.q g S K:=by
 unfold RK.q
 split
 ·exact ao_like h
 ·rename_i a n x
  have h:Alike S T x.looks:=h
  simp only [MO.run,xv_like h]
  split
  ·rename_i j o hx
   rw [xv_st h (k:=j) (by rw [hx];simp [V.refs])]
  ·rfl
  ·rename_i sz j i o hx
   rw [xv_st h (k:=j) (by rw [hx];simp [V.refs])]
  ·rfl
 ·rename_i e sz len init parts
  have h:Alike S T (parts.flatMap fun p=>p.2.2.looks):=h
  rw [part_like h]
  split
  ·rename_i hp
   have hp':partMs T.ts parts=[]:=by rw [part_like h];exact hp
   simp only [MO.run,hp,hp',VS.fzs,List.foldl_nil,fill_like h]
   rfl
  ·rfl
 ·rename_i f caps
  have h:Alike S T (caps.flatMap AX.looks):=h
  rw [vals_like h]
 ·rename_i f l
  have h:Alike S T (l.flatMap AX.looks):=h
  rw [vals_like h]
 ·rfl
theorem roq_like {g:G}{K:V->Option β}{r:RO}(h:Alike S T r.looks):r.q g T K=r.q g S K:=by
 have hk:Alike S T r.k.looks:=h.sub fun j hj=>List.mem_append_right _ hj
 unfold RO.q
 split
 ·exact rkq_like hk
 ·rename_i s b hg
  have hs:T.ts s=S.ts s:=h.1 s (by simp [RO.looks,hg])
  rw [hs]
  split
  ·split<;>simp only [rkq_like hk]
  ·rfl
  ·rfl
end
section
variable {β:Type}{S:VS}
theorem rens_nil: ∀ {vs:List V} (f:Nat->Nat),V.refss vs=[]->V.rens f vs=vs:=by
 have key: ∀ f:Nat->Nat,(∀ v:V,v.refs=[]->v.ren f=v)/\True:=by
  intro f
  refine ⟨?_,trivial⟩
  intro v
  refine V.rec (motive_1:=fun v=>v.refs=[]->v.ren f=v) (motive_2:=fun vs=>V.refss vs=[]->V.rens f vs=vs) ?_ ?_ ?_ ?_ ?_ ?_ ?_ ?_ ?_ ?_ ?_ ?_ ?_ ?_ ?_ ?_ v
  ·intros;rfl
  ·intros;rfl
  ·intro k o h;cases h
  ·intro a b c d h;cases h
  ·intro a b c d h;cases h
  ·intro a b h;cases h
  ·intros;rfl
  ·intro k h;cases h
  ·intro vs ih h;simp only [V.ren,ih h]
  ·intro vs ih h;simp only [V.ren,ih h]
  ·intro g vs ih h;simp only [V.ren,ih h]
  ·intro n x ih h;simp only [V.ren,ih h]
  ·intros;rfl
  ·intros;rfl
  ·intros;rfl
  ·intro v vs ih1 ih2 h
   simp only [V.refss,List.append_eq_nil_iff] at h
   simp only [V.rens,ih1 h.1,ih2 h.2]
 intro vs f h
 induction vs with
 |nil=>rfl
 |cons v vs ih=>
  simp only [V.refss,List.append_eq_nil_iff] at h
  simp only [V.rens,(key f).1 v h.1,ih h.2]
theorem ren_nil {v:V}(f:Nat->Nat)(h:v.refs=[]):v.ren f=v:=by
 have:=rens_nil (vs:=[v]) f (by simp [V.refss,h])
 simpa [V.rens] using this
theorem mss_refs: ∀ (vs:List V),V.refss vs=[]->V.msss vs=[]:=by
 have key: ∀ v:V,v.refs=[]->v.mss=[]:=by
  intro v
  refine V.rec (motive_1:=fun v=>v.refs=[]->v.mss=[]) (motive_2:=fun vs=>V.refss vs=[]->V.msss vs=[]) ?_ ?_ ?_ ?_ ?_ ?_ ?_ ?_ ?_ ?_ ?_ ?_ ?_ ?_ ?_ ?_ v
  ·intros;rfl
  ·intros;rfl
  ·intros;rfl
  ·intros;rfl
  ·intros;rfl
  ·intros;rfl
  ·intros;rfl
  ·intro k h;cases h
  ·intro vs ih h;exact ih h
  ·intro vs ih h;exact ih h
  ·intro g vs ih h;exact ih h
  ·intro n x ih h;exact ih h
  ·intros;rfl
  ·intros;rfl
  ·intros;rfl
  ·intro v vs ih1 ih2 h
   simp only [V.refss,List.append_eq_nil_iff] at h
   simp only [V.msss,ih1 h.1,ih2 h.2,List.append_nil]
 intro vs h
 induction vs with
 |nil=>rfl
 |cons v vs ih=>
  simp only [V.refss,List.append_eq_nil_iff] at h
  simp only [V.msss,key v h.1,ih h.2,List.append_nil]
theorem refss_nil {vs:List V}(h:(vs.all fun v=>v.good&&v.refs.isEmpty)=true):V.refss vs=[]/\vs.all V.good=true:=by
 induction vs with
 |nil=>exact ⟨rfl,rfl⟩
 |cons v vs ih=>
  simp only [List.all_cons,Bool.and_eq_true,List.isEmpty_iff] at h
  obtain ⟨h1,h2⟩:=ih h.2
  exact ⟨by simp only [V.refss,h.1.2,h1,List.append_nil],by simp only [List.all_cons,h.1.1,h2,Bool.and_self]⟩
theorem callR_quiet {F:List V->List VO->Option (Bool×V×List VO)}{vs:List V}{d:Nat}{K:VS->V->Option β}{q:Bool}{r:V}(hv:V.refss vs=[])(hF:F vs []=some (q,r,[]))(hr:r.refs=[]):callR F S vs d K=br q (K S r) none:=by
 have hreach:S.reach 20 (V.refss vs) []=[]:=by rw [hv];rfl
 have hl:S.lends vs []=true:=by simp [VS.lends,hv]
 have hb:backOk [] (imps d 0) r []=true:=by simp [backOk,imps,hr]
 have hback:S.back [] [] (kr [] (imps d 0))=S:=by
  unfold VS.back
  cases S
  simp
 unfold callR
 simp only [hreach,hl,if_true,rens_nil _ hv,List.map_nil,hF,List.length_nil,Nat.sub_zero,hb,hback,List.drop_nil,List.zip_nil_right,VS.allocs,ren_nil _ hr]
theorem rkq_run {g:G}{dst:Option Nat}{K:VS->Option β}{x:β}{k:RK}{ks:List Nat}(hq:k.quick g.own dst ks=true)(h:(k.q g S fun v=>putR g.n S dst v K)=some x):k.run g S dst K=some x:=by
 unfold RK.q at h
 split at h
 ·exact h
 ·rename_i a n y
  simp only [RK.run]
  rw [ld_bind S] at h ⊢
  exact h
 ·rename_i e sz len init parts
  split at h
  ·rename_i hp
   simp only [RK.quick,Bool.not_eq_true'] at hq
   simp only [RK.run,hq]
   rw [bs_bind S _ _ _ _ _ _ hp] at h ⊢
   exact h
  ·cases h
 ·exact h
 ·rename_i f l
  split at h
  ·rename_i hv
   obtain ⟨h1,h2⟩:=refss_nil hv
   split at h
   ·rename_i q r hE
    obtain ⟨rfl,h⟩:=br_none h
    split at h
    ·rename_i hr
     have hr:r.refs=[]:=by simpa using hr
     have hfr:frz g f S (vals S.ts l)=S:=by
      unfold frz
      rw [mss_refs _ h1]
      split<;>rfl
     simp only [RK.run,hfr,callA,h2,if_true]
     rw [callR_quiet h1 hE hr]
     exact h
    ·cases h
   ·cases h
  ·cases h
 ·cases h
theorem roq_run {g:G}{K:VS->Option β}{x:β}{r:RO}{ks:List Nat}(hq:r.k.quick g.own r.dst ks=true)(h:(r.q g S fun v=>putR g.n S r.dst v K)=some x):r.run g S K=some x:=by
 unfold RO.q at h
 unfold RO.run
 split at h
 ·rename_i hg
  try simp only [hg]
  exact rkq_run hq h
 ·rename_i s b hg
  try simp only [hg]
  split at h
  ·rename_i q hs
   try simp only [hs]
   cases b with
   |true=>
    rcases br_some h with ⟨rfl,h⟩|⟨rfl,h⟩
    ·exact rkq_run hq h
    ·exact h
   |false=>
    rcases br_some h with ⟨rfl,h⟩|⟨rfl,h⟩
    ·exact h
    ·exact rkq_run hq h
  ·rename_i hs
   try simp only [hs]
   exact h
  ·cases h
theorem stepD_run {g:G}{K:VS->Option β}{x:β}{r:RO}{ks:List Nat}(h:stepD g S K r ks=some x):r.run g S K=some x:=by
 unfold stepD at h
 split at h
 ·split at h
  ·rename_i hq
   refine roq_run hq ?_
   rw [roq_bind] at h ⊢
   obtain ⟨v,h1,h2⟩:=Option.bind_eq_some_iff.1 h
   rw [h1]
   split at h2
   ·exact h2
   ·cases h2
  ·split at h
   ·exact h
   ·cases h
 ·cases h
end
end Go.Proofs.YtmokmalepelinaaGreatDoor.K
/-
 Regions whose order is open:operations that turn own things leave the others alone,and do not see a slot that they do not look at.
-/
namespace Go.Proofs.YtmokmalepelinaaGreatDoor.K
open Go.RowKit
def VS.ss (S:VS)(q:Nat)(v:V):VS:=⟨upd S.ts q v,S.st,S.dom⟩
structure Eff (ks:List Nat) (d:Option Nat) (S T:VS):Prop where
 ts: ∀ j,(∀ q,d=some q->j≠q)->(∀ r∈(S.ts j).refs,r∈ks->50000<=r)->T.ts j=S.ts j
 st: ∀ k,k ∉ ks->(∀ r∈(S.st k).refs,r ∉ ks)->T.st k=S.st k
 dom: ∀ k∈S.dom,k∈T.dom
structure Eff0 (ks:List Nat) (S T:VS):Prop where
 ts: ∀ j,(∀ r∈(S.ts j).refs,r∈ks->50000<=r)->T.ts j=S.ts j
 st: ∀ k,k ∉ ks->(∀ r∈(S.st k).refs,r ∉ ks)->T.st k=S.st k
 dom: ∀ k∈S.dom,k∈T.dom
theorem Eff0.refl (ks:List Nat)(S:VS):Eff0 ks S S:=⟨fun _ _=>rfl,fun _ _ _=>rfl,fun _ h=>h⟩
theorem Eff0.trans {ks:List Nat}{S T U:VS}(h:Eff0 ks S T)(k:Eff0 ks T U):Eff0 ks S U:=
 ⟨fun j hj=>by rw [k.ts j (by rw [h.ts j hj];exact hj),h.ts j hj],fun i hi hr=>by rw [k.st i hi (by rw [h.st i hi hr];exact hr),h.st i hi hr],fun i hi=>k.dom i (h.dom i hi)⟩
theorem mask_ne {k:Nat}{v:V}(h:k ∉ v.refs):v.mask k=v:=by
 unfold V.mask
 rw [if_neg (by simpa using h)]
theorem free_lt5 {S:VS}{k:Nat}(h:S.free k=true):k<50000:=by
 simp only [VS.free,Bool.and_eq_true,decide_eq_true_eq] at h
 exact h.1
theorem alloc_eff {ks:List Nat}{S:VS}{k:Nat}{o:VO}(hf:S.free k=true)(hk:k∈ks):Eff0 ks S (S.alloc k o):=
 ⟨fun j hj=>mask_ne fun h=>by have:=hj k h hk;have:=free_lt5 hf;omega,fun i hi _=>upd_ne _ _ fun h=>hi (h▸hk),fun i hi=>List.mem_cons_of_mem _ hi⟩
theorem setO_eff {ks:List Nat}{S:VS}{k:Nat}{o:VO}(hk:k∈ks):Eff0 ks S (S.setO k o):=
 ⟨fun _ _=>rfl,fun i hi _=>upd_ne _ _ fun h=>hi (h▸hk),fun i hi=>hi⟩
mutual
theorem fz_ne {k:Nat}{y:Ty}{l:List y.T}: ∀ (v:V),k ∉ v.refs->v.fz k y l=v
 |.ms j,h=>by simp only [V.fz];rw [if_neg fun e=>h (by simp [V.refs,e])]
 |.pa sz j i o,h=>by simp only [V.fz];rw [if_neg fun e=>h (by simp [V.refs,e])]
 |.wn sz j a m,h=>by simp only [V.fz];rw [if_neg fun e=>h (by simp [V.refs,e])]
 |.bv j n,h=>by simp only [V.fz];rw [if_neg fun e=>h (by simp [V.refs,e])]
 |.ptr j o,h=>by simp only [V.fz];rw [if_neg fun e=>h (by simp [V.refs,e])]
 |.ag vs,h=>by simp only [V.fz,fzs_ne vs (by simpa only [V.refs] using h)]
 |.tu vs,h=>by simp only [V.fz,fzs_ne vs (by simpa only [V.refs] using h)]
 |.fn f vs,h=>by simp only [V.fz,fzs_ne vs (by simpa only [V.refs] using h)]
 |.ifc n x,h=>by simp only [V.fz,fz_ne x (by simpa only [V.refs] using h)]
 |.t y' x,_=>rfl
 |.c x,_=>rfl
 |.el y' x o,_=>rfl
 |.ud,_=>rfl
 |.un,_=>rfl
theorem fzs_ne {k:Nat}{y:Ty}{l:List y.T}: ∀ (vs:List V),k ∉ V.refss vs->V.fzs k y l vs=vs
 | [],_=>rfl
 |v::vs,h=>by
  simp only [V.refss,List.mem_append,not_or] at h
  simp only [V.fzs,fz_ne v h.1,fzs_ne vs h.2]
end
theorem ofz_ne {k:Nat}{y:Ty}{l:List y.T}{o:VO}(h:k ∉ o.refs):o.fz k y l=o:=by
 cases o with
 |box v=>simp only [VO.fz,fz_ne v h]
 |_=>rfl
theorem odim_ne {k:Nat}{o:VO}(h:k ∉ o.refs):o.dim k=o:=by
 cases o with
 |box v=>
  cases v with
  |ag vs=>
   have key: ∀ l:List V,k ∉ V.refss l->(l.map fun v=>if v.refs.contains k=true then .un else v)=l:=by
    intro l
    induction l with
    |nil=>intro _;rfl
    |cons v l ih=>
     intro hl
     simp only [V.refss,List.mem_append,not_or] at hl
     rw [List.map_cons,ih hl.2,if_neg (by simpa using hl.1)]
   simp only [VO.dim,V.dimc]
   rw [key vs (by simpa only [VO.refs,V.refs] using h)]
  |_=>rfl
 |_=>rfl
theorem dim_eff {ks:List Nat}{S:VS}{k:Nat}(hk:k∈ks):Eff0 ks S (S.dim k):=
 ⟨fun _ _=>rfl,fun i _ hr=>odim_ne fun h=>hr k h hk,fun _ h=>h⟩
theorem fz_eff {ks:List Nat}{S:VS}{k:Nat}(hk:k∈ks):Eff0 ks S (S.fz k):=by
 unfold VS.fz
 split
 ·split
  ·rename_i hlt
   exact ⟨fun j hj=>fz_ne _ fun h=>by have:=hj k h hk;omega,fun i hi hr=>by
    have hne:i≠k:=fun h=>hi (h▸hk)
    simp only
    rw [if_neg hne,ofz_ne fun h=>hr k h hk],fun _ h=>h⟩
  ·exact Eff0.refl _ _
 ·exact Eff0.refl _ _
theorem fzs_eff {ks:List Nat}: ∀ (l:List Nat) {S:VS},(∀ k∈l,k∈ks)->Eff0 ks S (S.fzs l)
 | [],S,_=>Eff0.refl _ _
 |k::l,S,h=>(fz_eff (h k (by simp))).trans (fzs_eff l fun j hj=>h j (by simp [hj]))
theorem allocs_eff {ks:List Nat}: ∀ (l:List (Nat×VO)) {S S':VS},S.allocs l=some S'->(∀ p∈l,p.1∈ks)->Eff0 ks S S'
 | [],S,S',h,_=>by
  simp only [VS.allocs,Option.some.injEq] at h
  subst h
  exact Eff0.refl _ _
 |(k,o)::l,S,S',h,hk=>by
  simp only [VS.allocs] at h
  split at h
  ·rename_i hc
   simp only [Bool.and_eq_true] at hc
   exact (alloc_eff hc.1 (hk (k,o) (by simp))).trans (allocs_eff l h fun p hp=>hk p (by simp [hp]))
  ·cases h
section
variable {S:VS}{q:Nat}{v:V}
theorem ss_alloc {k:Nat}{o:VO}(h:k ∉ v.refs):(S.ss q v).alloc k o=(S.alloc k o).ss q v:=by
 unfold VS.alloc VS.ss
 congr 1
 funext i
 simp only [upd]
 split
 ·exact mask_ne h
 ·rfl
theorem ss_free {k:Nat}:(S.ss q v).free k=S.free k:=id rfl
theorem ss_fz {k:Nat}(h:k∈v.refs->50000<=k):(S.ss q v).fz k=(S.fz k).ss q v:=by
 unfold VS.fz VS.ss
 simp only
 split
 ·split
  ·rename_i hlt
   congr 1
   funext i
   simp only [upd]
   split
   ·exact fz_ne v fun hk=>by have:=h hk;omega
   ·rfl
  ·rfl
 ·rfl
theorem ss_fzs: ∀ (l:List Nat) {S:VS},(∀ k∈l,k∈v.refs->50000<=k)->(S.ss q v).fzs l=(S.fzs l).ss q v
 | [],S,_=>rfl
 |k::l,S,h=>by
  simp only [VS.fzs,List.foldl_cons]
  rw [ss_fz (h k (by simp))]
  exact ss_fzs l fun j hj=>h j (by simp [hj])
theorem ss_like {looks:List Nat}(h:q ∉ looks):Alike S (S.ss q v) looks:=⟨fun j hj=>upd_ne _ _ fun e=>h (e▸hj),fun _ _ _ _=>rfl⟩
theorem ss_reach: ∀ (n:Nat) (l acc:List Nat),(S.ss q v).reach n l acc=S.reach n l acc
 |0,_,_=>rfl
 |_+1,[],_=>rfl
 |n+1,k::l,acc=>by
  simp only [VS.reach]
  split
  ·exact ss_reach n l acc
  ·exact ss_reach n _ _
theorem ss_src {y:Ty}{x:V}:(S.ss q v).src y x=S.src y x:=id rfl
theorem ss_back {ks:List Nat}{os:List VO}{g:Nat->Nat}:(S.ss q v).back ks os g=(S.back ks os g).ss q v:=rfl
theorem ss_allocs: ∀ (l:List (Nat×VO)) {S:VS},(∀ p∈l,p.1∈v.refs->50000<=p.1)->(S.ss q v).allocs l=(S.allocs l).map (VS.ss · q v)
 | [],S,_=>rfl
 |(k,o)::l,S,h=>by
  simp only [VS.allocs,ss_free]
  by_cases hc:(S.free k&&o.refs.isEmpty)=true
  ·rw [if_pos hc,if_pos hc,ss_alloc fun hk=>by
    simp only [Bool.and_eq_true] at hc
    have:=h (k,o) (by simp) hk
    have:=free_lt5 hc.1
    omega]
   exact ss_allocs l fun p hp=>h p (by simp [hp])
  ·rw [if_neg hc,if_neg hc]
   rfl
theorem ss_set {d:Option Nat}{u:V}(h:d≠some q):(S.ss q v).set d u=(S.set d u).ss q v:=by
 cases d with
 |none=>rfl
 |some d=>
  simp only [VS.set,VS.ss]
  congr 1
  funext i
  simp only [upd]
  split
  ·rename_i hi
   subst hi
   rw [if_neg fun e=>h (by rw [e])]
  ·rfl
theorem ss_putR {β:Type}{n:Nat}{d:Option Nat}{u:V}{K:VS->Option β}(h:d≠some q):putR n (S.ss q v) d u K=putR n S d u fun S'=>K (S'.ss q v):=by
 cases d with
 |none=>rfl
 |some d=>
  simp only [putR]
  rw [ss_set h]
end
end Go.Proofs.YtmokmalepelinaaGreatDoor.K
/-
 Regions whose order is open:the rule.
-/
namespace Go.Proofs.YtmokmalepelinaaGreatDoor.K
open Go.RowKit
section
variable {β:Type}{S:VS}{q:Nat}{v:V}
theorem xv_ss {x:AX}(h:q ∉ x.looks):x.xv (S.ss q v).ts=x.xv S.ts:=xv_like (ss_like h)
theorem mo_ss {TY:Nat->Option Ty}{own:Bool}{k:Nat}{K:VS->V->Option β}{mo:MO}{ks:List Nat}(hq:q ∉ mo.looks)(hv: ∀ r∈v.refs,r∈ks->50000<=r)(hk:k∈ks)(hl: ∀ j∈mo.looks, ∀ r∈(S.ts j).refs,r∈ks):
  mo.run TY own k (S.ss q v) K=mo.run TY own k S fun S' u=>K (S'.ss q v) u:=by
 have hnk:S.free k=true->k ∉ v.refs:=fun hf h=>by have:=hv k h hk;have:=free_lt5 hf;omega
 have hxr: ∀ x:AX,(∀ j∈x.looks,j∈mo.looks)→ ∀ r∈(x.xv S.ts).refs,r∈ks:=by
  intro x hx r hr
  cases x with
  |t i=>exact hl i (hx i (by simp [AX.looks])) r hr
  |c d=>
   cases d with
   |v z=>cases z<;>cases hr
   |_=>cases hr
 cases mo with
 |pu ao=>
  simp only [MO.run]
  exact ao_like (ss_like hq)
 |new zs=>
  simp only [MO.run,ss_free]
  split
  ·split
   ·rename_i hf
    rw [ss_alloc (hnk hf)]
   ·rfl
  ·rfl
 |box x=>
  have hx:q ∉ x.looks:=hq
  simp only [MO.run,xv_ss hx,ss_free]
  split
  ·split
   ·rename_i hf
    rw [ss_alloc (hnk hf)]
   ·rfl
  ·rfl
 |ld agg n x=>
  have hx:q ∉ x.looks:=hq
  simp only [MO.run,xv_ss hx]
  rfl
 |st n x y=>
  simp only [MO.looks,List.mem_append,not_or] at hq
  simp only [MO.run,xv_ss hq.1,xv_ss hq.2]
  rfl
 |bs e sz len init parts=>
  have hx:q ∉ parts.flatMap fun p=>p.2.2.looks:=hq
  have hp:partMs (S.ss q v).ts parts=partMs S.ts parts:=part_like (ss_like hx)
  have hms: ∀ r∈partMs S.ts parts,r∈v.refs->50000<=r:=by
   intro r hr hrv
   simp only [partMs,List.mem_flatMap] at hr
   obtain ⟨p,hp1,hp2⟩:=hr
   have hsub: ∀ u:V, ∀ r∈u.mss,r∈u.refs:=by
    intro u
    refine V.rec (motive_1:=fun u=> ∀ r∈u.mss,r∈u.refs) (motive_2:=fun us=> ∀ r∈V.msss us,r∈V.refss us) ?_ ?_ ?_ ?_ ?_ ?_ ?_ ?_ ?_ ?_ ?_ ?_ ?_ ?_ ?_ ?_ u
    ·intro _ _ r h;cases h
    ·intro _ r h;cases h
    ·intro _ _ r h;cases h
    ·intro _ _ _ _ r h;cases h
    ·intro _ _ _ _ r h;cases h
    ·intro _ _ r h;cases h
    ·intro _ _ _ r h;cases h
    ·intro _ r h;exact h
    ·intro _ ih r h;exact ih r h
    ·intro _ ih r h;exact ih r h
    ·intro _ _ ih r h;exact ih r h
    ·intro _ _ ih r h;exact ih r h
    ·intro r h;cases h
    ·intro r h;cases h
    ·intro r h;cases h
    ·intro a b i1 i2 r h
     simp only [V.msss,V.refss,List.mem_append] at h ⊢
     exact h.imp (i1 r) (i2 r)
   have:=hxr p.2.2 (fun j hj=>List.mem_flatMap.2 ⟨p,hp1,hj⟩) r (hsub _ r hp2)
   exact hv r hrv this
  simp only [MO.run,hp]
  rw [ss_fzs _ hms]
  have hf: ∀ cells,fillV ((S.fzs (partMs S.ts parts)).ss q v).ts cells parts=fillV (S.fzs (partMs S.ts parts)).ts cells parts:=fun cells=>fill_like (ss_like hx)
  simp only [hf]
  split
  ·split
   ·split
    ·split
     ·split
      ·split
       ·unfold bsA
        simp only [ss_free]
        split
        ·split
         ·rename_i hf
          rw [ss_alloc fun h=>by have:=hv k h hk;have:=free_lt5 hf;omega]
         ·rfl
        ·rfl
       ·rfl
      ·rfl
     ·rfl
    ·rfl
   ·unfold bvA
    have hfv: ∀ cells,fillV (S.ss q v).ts cells parts=fillV S.ts cells parts:=fun cells=>fill_like (ss_like hx)
    simp only [hp,hfv,ss_free]
    split
    ·split
     ·split
      ·split
       ·rename_i hf
        rw [ss_alloc fun h=>by have:=hv k h hk;have:=free_lt5 hf;omega]
       ·rfl
      ·rfl
     ·rfl
    ·rfl
  ·rfl
 |app e sz bytes x y=>
  simp only [MO.looks,List.mem_append,not_or] at hq
  simp only [MO.run,xv_ss hq.1,xv_ss hq.2,ss_src]
  split
  ·split
   ·split
    ·split
     ·unfold appA
      simp only [ss_free]
      congr 1
      split
      ·rename_i hf
       rw [ss_alloc (hnk hf)]
      ·rfl
     ·rfl
    ·rfl
   ·rfl
  ·rename_i j hj
   have hjv:(S.dim j).free j=true->j ∉ v.refs:=fun hf h=>by
    have h1:=free_lt5 hf
    have h2:=hv j h (hxr x (fun i hi=>by simp [MO.looks,hi]) j (by rw [hj];simp [V.refs]))
    omega
   have hst:(S.ss q v).st j=S.st j:=id rfl
   simp only [hst]
   split
   ·split
    ·split
     ·unfold appA
      have hdim:(S.ss q v).dim j=(S.dim j).ss q v:=rfl
      simp only [hdim,ss_free]
      congr 1
      split
      ·rename_i hf
       rw [ss_alloc (hjv hf)]
      ·rfl
     ·rfl
    ·rfl
   ·rfl
  ·rename_i sz' j lo m hj
   have hjv:(S.dim j).free j=true->j ∉ v.refs:=fun hf h=>by
    have h1:=free_lt5 hf
    have h2:=hv j h (hxr x (fun i hi=>by simp [MO.looks,hi]) j (by rw [hj];simp [V.refs]))
    omega
   have hst:(S.ss q v).st j=S.st j:=id rfl
   simp only [hst]
   split
   ·split
    ·split
     ·unfold appA
      have hdim:(S.ss q v).dim j=(S.dim j).ss q v:=rfl
      simp only [hdim,ss_free]
      congr 1
      split
      ·rename_i hf
       rw [ss_alloc (hjv hf)]
      ·rfl
     ·rfl
    ·rfl
   ·rfl
  ·rfl
theorem callR_ss {F:List V->List VO->Option (Bool×V×List VO)}{vs:List V}{d:Nat}{K:VS->V->Option β}{ks:List Nat}(hv: ∀ r∈v.refs,r∈ks->50000<=r)(hd: ∀ i,i<4->d+5000*i∈ks):
  callR F (S.ss q v) vs d K=callR F S vs d fun S' u=>K (S'.ss q v) u:=by
 have hl: ∀ l,(S.ss q v).lends vs l=S.lends vs l:=fun l=>id rfl
 have hst: ∀ k,(S.ss q v).st k=S.st k:=fun k=>id rfl
 unfold callR
 simp only [ss_reach,hl,hst,ss_back]
 split
 ·split
  ·rename_i q' r os hF
   congr 1
   split
   ·rename_i hb
    rw [ss_allocs _ (fun p hp hpv=> ?_)]
    ·cases VS.allocs _ _<;>rfl
    ·obtain ⟨p1,p2⟩:=p
     have h1:=(List.of_mem_zip hp).1
     simp only [imps,List.mem_map,List.mem_range] at h1
     obtain ⟨i,hi,rfl⟩:=h1
     simp only [backOk,Bool.and_eq_true,decide_eq_true_eq] at hb
     have h4:=hb.1.2
     simp only [imps,List.length_map,List.length_range] at h4
     exact hv _ hpv (hd i (by omega))
   ·rfl
  ·rfl
 ·rfl
theorem mss_sub: ∀ u:V, ∀ r∈u.mss,r∈u.refs:=by
 intro u
 refine V.rec (motive_1:=fun u=> ∀ r∈u.mss,r∈u.refs) (motive_2:=fun us=> ∀ r∈V.msss us,r∈V.refss us) ?_ ?_ ?_ ?_ ?_ ?_ ?_ ?_ ?_ ?_ ?_ ?_ ?_ ?_ ?_ ?_ u
 ·intro _ _ r h;cases h
 ·intro _ r h;cases h
 ·intro _ _ r h;cases h
 ·intro _ _ _ _ r h;cases h
 ·intro _ _ _ _ r h;cases h
 ·intro _ _ r h;cases h
 ·intro _ _ _ r h;cases h
 ·intro _ r h;exact h
 ·intro _ ih r h;exact ih r h
 ·intro _ ih r h;exact ih r h
 ·intro _ _ ih r h;exact ih r h
 ·intro _ _ ih r h;exact ih r h
 ·intro r h;cases h
 ·intro r h;cases h
 ·intro r h;cases h
 ·intro a b i1 i2 r h
  simp only [V.msss,V.refss,List.mem_append] at h ⊢
  exact h.imp (i1 r) (i2 r)
theorem vals_mss {S:VS}{l:List AX}{ks:List Nat}(hl: ∀ j∈l.flatMap AX.looks, ∀ r∈(S.ts j).refs,r∈ks): ∀ r∈V.msss (vals S.ts l),r∈ks:=by
 induction l with
 |nil=>intro r h;cases h
 |cons x l ih=>
  intro r h
  simp only [vals,List.map_cons,V.msss,List.mem_append] at h
  rcases h with h|h
  ·have hr:=mss_sub _ r h
   cases x with
   |t i=>exact hl i (by simp [AX.looks]) r hr
   |c d=>
    cases d with
    |v z=>cases z<;>cases hr
    |_=>cases hr
  ·exact ih (fun j hj=>hl j (by simp only [List.flatMap_cons,List.mem_append];exact .inr hj)) r h
theorem frz_ss {g:G}{f:Nat}{vs:List V}{ks:List Nat}(hv: ∀ r∈v.refs,r∈ks->50000<=r)(h: ∀ r∈V.msss vs,r∈ks):frz g f (S.ss q v) vs=(frz g f S vs).ss q v:=by
 unfold frz
 split
 ·rfl
 ·exact ss_fzs _ fun k hk hkv=>hv k hkv (h k hk)
theorem rk_ss {g:G}{d:Option Nat}{K:VS->Option β}{k:RK}{ks:List Nat}(hq:q ∉ k.looks)(hdq:d≠some q)(hv: ∀ r∈v.refs,r∈ks->50000<=r)(hd:k.isSt=true∨ ∀ i,i<4->d.getD 0+5000*i∈ks)(hl: ∀ j∈k.looks, ∀ r∈(S.ts j).refs,r∈ks):
  k.run g (S.ss q v) d K=k.run g S d fun S'=>K (S'.ss q v):=by
 cases hst:k.isSt with
 |true=>
  cases k with
  |m mo=>
   cases mo with
   |st n x y=>
    have hq':q ∉ x.looks++y.looks:=hq
    simp only [List.mem_append,not_or] at hq'
    simp only [RK.run,MO.run,xv_ss hq'.1,xv_ss hq'.2]
    have e: ∀ S' u,putR g.n (S'.ss q v) d u K=putR g.n S' d u fun S'=>K (S'.ss q v):=fun S' u=>ss_putR hdq
    simp only [←e]
    rfl
   |_=>cases hst
  |_=>cases hst
 |false=>
 rw [hst] at hd
 have hd:=hd.resolve_left (by simp)
 have hd0:d.getD 0∈ks:=by simpa using hd 0 (by omega)
 cases k with
 |m mo=>
  simp only [RK.run]
  rw [mo_ss hq hv hd0 hl]
  congr 1
  funext S' u
  exact ss_putR hdq
 |call f l=>
  have hq':q ∉ l.flatMap AX.looks:=hq
  have e1:vals (S.ss q v).ts l=vals S.ts l:=vals_like (ss_like hq')
  simp only [RK.run,e1,callA,frz_ss hv (vals_mss hl)]
  have e2:vals ((frz g f S (vals S.ts l)).ss q v).ts l=vals (frz g f S (vals S.ts l)).ts l:=vals_like (ss_like hq')
  simp only [e2]
  split
  ·rw [callR_ss hv hd]
   congr 1
   funext S' u
   exact ss_putR hdq
  ·rfl
 |cv x l=>
  simp only [RK.looks,List.mem_append,not_or] at hq
  have hl2: ∀ j∈l.flatMap AX.looks, ∀ r∈(S.ts j).refs,r∈ks:=fun j hj=>hl j (by simp only [RK.looks,List.mem_append];exact .inr hj)
  have e0:x.xv (S.ss q v).ts=x.xv S.ts:=xv_ss hq.1
  have e1:vals (S.ss q v).ts l=vals S.ts l:=vals_like (ss_like hq.2)
  simp only [RK.run,e0,e1]
  split
  ·rename_i f _
   split
   ·simp only [callA,frz_ss hv (vals_mss hl2)]
    have e2:vals ((frz g f S (vals S.ts l)).ss q v).ts l=vals (frz g f S (vals S.ts l)).ts l:=vals_like (ss_like hq.2)
    simp only [e2]
    split
    ·rw [callR_ss hv hd]
     congr 1
     funext S' u
     exact ss_putR hdq
    ·rfl
   ·rfl
  ·rename_i f caps _
   split
   ·simp only [callA,frz_ss hv (vals_mss hl2)]
    have e2:vals ((frz g f S (vals S.ts l)).ss q v).ts l=vals (frz g f S (vals S.ts l)).ts l:=vals_like (ss_like hq.2)
    simp only [e2]
    split
    ·rw [callR_ss hv hd]
     congr 1
     funext S' u
     exact ss_putR hdq
    ·rfl
   ·split
    ·simp only [callA,frz_ss hv (vals_mss hl2)]
     have e2:vals ((frz g (f-1000000) S (vals S.ts l)).ss q v).ts l=vals (frz g (f-1000000) S (vals S.ts l)).ts l:=vals_like (ss_like hq.2)
     simp only [e2]
     split
     ·rw [callR_ss hv hd]
      congr 1
      funext S' u
      exact ss_putR hdq
     ·rfl
    ·rfl
  ·rfl
 |mf f caps=>
  have e1:vals (S.ss q v).ts caps=vals S.ts caps:=vals_like (ss_like hq)
  simp only [RK.run,e1]
  split
  ·exact ss_putR hdq
  ·rfl
 |o op=>rfl
 |bad=>rfl
theorem ro_ss {g:G}{K:VS->Option β}{r:RO}{ks:List Nat}(hq:q ∉ r.looks)(hdq:r.dst≠some q)(hv: ∀ x∈v.refs,x∈ks->50000<=x)(hd:r.k.isSt=true∨ ∀ i,i<4->r.dst.getD 0+5000*i∈ks)(hl: ∀ j∈r.looks, ∀ x∈(S.ts j).refs,x∈ks):
  r.run g (S.ss q v) K=r.run g S fun S'=>K (S'.ss q v):=by
 have hqk:q ∉ r.k.looks:=fun h=>hq (List.mem_append_right _ h)
 have hlk: ∀ j∈r.k.looks, ∀ x∈(S.ts j).refs,x∈ks:=fun j hj=>hl j (List.mem_append_right _ hj)
 unfold RO.run
 split
 ·exact rk_ss hqk hdq hv hd hlk
 ·rename_i s b hg
  have hs:(S.ss q v).ts s=S.ts s:=upd_ne _ _ fun e=>hq (by simp [RO.looks,hg,e])
  rw [hs]
  split
  ·split<;>rw [rk_ss hqk hdq hv hd hlk,ss_putR hdq]
  ·exact ss_putR hdq
  ·rfl
end
end Go.Proofs.YtmokmalepelinaaGreatDoor.K
/-
 Regions whose order is open:what an operation turns,and the rule.
-/
namespace Go.Proofs.YtmokmalepelinaaGreatDoor.K
open Go.RowKit
mutual
theorem fz_refs {k:Nat}{y:Ty}{l:List y.T}: ∀ (v:V), ∀ r∈(v.fz k y l).refs,r∈v.refs
 |.ms j,r,h=>by
  simp only [V.fz] at h
  split at h
  ·cases h
  ·exact h
 |.pa sz j i o,r,h=>by
  simp only [V.fz] at h
  split at h
  ·cases h
  ·exact h
 |.wn sz j a m,r,h=>by
  simp only [V.fz] at h
  split at h
  ·cases h
  ·exact h
 |.bv j n,r,h=>by
  simp only [V.fz] at h
  split at h
  ·cases h
  ·exact h
 |.ptr j o,r,h=>by
  simp only [V.fz] at h
  split at h
  ·cases h
  ·exact h
 |.ag vs,r,h=>by
  simp only [V.fz,V.refs] at h ⊢
  exact fzs_refs vs r h
 |.tu vs,r,h=>by
  simp only [V.fz,V.refs] at h ⊢
  exact fzs_refs vs r h
 |.fn f vs,r,h=>by
  simp only [V.fz,V.refs] at h ⊢
  exact fzs_refs vs r h
 |.ifc n x,r,h=>by
  simp only [V.fz,V.refs] at h ⊢
  exact fz_refs x r h
 |.t y' x,r,h=>h
 |.c x,r,h=>h
 |.el y' x o,r,h=>h
 |.ud,r,h=>h
 |.un,r,h=>h
theorem fzs_refs {k:Nat}{y:Ty}{l:List y.T}: ∀ (vs:List V), ∀ r∈V.refss (V.fzs k y l vs),r∈V.refss vs
 | [],r,h=>h
 |v::vs,r,h=>by
  simp only [V.fzs,V.refss,List.mem_append] at h ⊢
  exact h.imp (fz_refs v r) (fzs_refs vs r)
end
theorem sfz_refs (S:VS)(k:Nat):(∀ i, ∀ r∈((S.fz k).ts i).refs,r∈(S.ts i).refs)/\(∀ i, ∀ r∈((S.fz k).st i).refs,r∈(S.st i).refs)/\(S.fz k).dom=S.dom∧ ∀ i,S.st i= .no->(S.fz k).st i= .no:=by
 unfold VS.fz
 split
 ·split
  ·refine ⟨fun i r h=>fz_refs _ r h,fun i r h=> ?_,rfl,fun i h=> ?_⟩
   ·simp only at h
    split at h
    ·cases h
    ·cases ho:S.st i with
     |no=>rw [ho] at h;exact h
     |box v=>rw [ho] at h;exact fz_refs v r h
     |arr e y l=>rw [ho] at h;exact h
   ·simp only
    split
    ·rfl
    ·rw [h];rfl
  ·exact ⟨fun _ _ h=>h,fun _ _ h=>h,rfl,fun _ h=>h⟩
 ·exact ⟨fun _ _ h=>h,fun _ _ h=>h,rfl,fun _ h=>h⟩
theorem sfzs_refs: ∀ (l:List Nat) (S:VS),(∀ i, ∀ r∈((S.fzs l).ts i).refs,r∈(S.ts i).refs)/\(∀ i, ∀ r∈((S.fzs l).st i).refs,r∈(S.st i).refs)/\(S.fzs l).dom=S.dom∧ ∀ i,S.st i= .no->(S.fzs l).st i= .no
 | [],S=>⟨fun _ _ h=>h,fun _ _ h=>h,rfl,fun _ h=>h⟩
 |k::l,S=>by
  obtain ⟨a1,a2,a3,a4⟩:=sfz_refs S k
  obtain ⟨b1,b2,b3,b4⟩:=sfzs_refs l (S.fz k)
  exact ⟨fun i r h=>a1 i r (b1 i r h),fun i r h=>a2 i r (b2 i r h),b3.trans a3,fun i h=>b4 i (a4 i h)⟩
theorem frz_refs (g:G)(f:Nat)(S:VS)(vs:List V):(∀ i, ∀ r∈((frz g f S vs).ts i).refs,r∈(S.ts i).refs)/\(∀ i, ∀ r∈((frz g f S vs).st i).refs,r∈(S.st i).refs):=by
 unfold frz
 split
 ·exact ⟨fun _ _ h=>h,fun _ _ h=>h⟩
 ·exact ⟨(sfzs_refs _ S).1,(sfzs_refs _ S).2.1⟩
theorem frz_eff {g:G}{f:Nat}{S:VS}{vs:List V}{ks:List Nat}(h: ∀ r∈V.msss vs,r∈ks):Eff0 ks S (frz g f S vs):=by
 unfold frz
 split
 ·exact Eff0.refl _ _
 ·exact fzs_eff _ h
theorem vals_refs {S:VS}{l:List AX}{ks:List Nat}(hl: ∀ j∈l.flatMap AX.looks, ∀ r∈(S.ts j).refs,r∈ks): ∀ r∈V.refss (vals S.ts l),r∈ks:=by
 induction l with
 |nil=>intro r h;cases h
 |cons x l ih=>
  intro r h
  simp only [vals,List.map_cons,V.refss,List.mem_append] at h
  rcases h with h|h
  ·cases x with
   |t i=>exact hl i (by simp [AX.looks]) r h
   |c d=>
    cases d with
    |v z=>cases z<;>cases h
    |_=>cases h
  ·exact ih (fun j hj=>hl j (by simp only [List.flatMap_cons,List.mem_append];exact .inr hj)) r h
theorem reach_sub {S:VS}{ks:List Nat}(hc: ∀ k∈ks, ∀ r∈(S.st k).refs,r∈ks): ∀ (n:Nat) (l acc:List Nat),(∀ k∈l,k∈ks)->(∀ k∈acc,k∈ks)→ ∀ k∈S.reach n l acc,k∈ks
 |0,_,acc,_,ha=>ha
 |_+1,[],acc,_,ha=>ha
 |n+1,k::l,acc,hl,ha=>by
  simp only [VS.reach]
  split
  ·exact reach_sub hc n l acc (fun j hj=>hl j (by simp [hj])) ha
  ·refine reach_sub hc n _ _ (fun j hj=> ?_) (fun j hj=> ?_)
   ·rcases List.mem_append.1 hj with hj|hj
    ·exact hc k (hl k (by simp)) j hj
    ·exact hl j (by simp [hj])
   ·rcases List.mem_append.1 hj with hj|hj
    ·exact ha j hj
    ·simp only [List.mem_singleton] at hj
     subst hj
     exact hl j (by simp)
theorem callR_eff {β:Type}{F:List V->List VO->Option (Bool×V×List VO)}{S:VS}{vs:List V}{d:Nat}{K:VS->V->Option β}{x:β}{ks:List Nat}(h:callR F S vs d K=some x)(hd: ∀ i,i<4->d+5000*i∈ks)(hv: ∀ r∈V.refss vs,r∈ks)(hc: ∀ k∈ks, ∀ r∈(S.st k).refs,r∈ks):
  ∃ v S',K S' v=some x/\Eff0 ks S S':=by
 have hsub:=reach_sub hc 20 (V.refss vs) [] hv (fun k hk=>by cases hk)
 unfold callR at h
 generalize S.reach 20 (V.refss vs) []=js at h hsub
 split at h
 ·split at h
  ·rename_i q r os hF
   obtain ⟨rfl,h⟩:=br_none h
   split at h
   ·rename_i hb
    split at h
    ·rename_i S' hS'
     have hbk: ∀ (T:VS) (os':List VO),Eff0 ks T (T.back js os' (kr js (imps d (os.length-js.length)))):=fun T os'=>⟨fun _ _=>rfl,fun k hk _=>by
      simp only [VS.back]
      rw [if_neg]
      intro hm
      exact hk (hsub k (by simpa using hm)),fun _ h=>h⟩
     refine ⟨_,_,h,(Eff0.trans (hbk S _) (allocs_eff _ hS' fun p hp=> ?_)).trans (hbk S' _)⟩
     ·obtain ⟨p1,p2⟩:=p
      have h1:=(List.of_mem_zip hp).1
      simp only [imps,List.mem_map,List.mem_range] at h1
      obtain ⟨i,hi,rfl⟩:=h1
      simp only [backOk,Bool.and_eq_true,decide_eq_true_eq] at hb
      have h4:=hb.1.2
      simp only [imps,List.length_map,List.length_range] at h4
      exact hd i (by omega)
    ·cases h
   ·cases h
  ·cases h
 ·cases h
theorem mo_eff {β:Type}{TY:Nat->Option Ty}{own:Bool}{k:Nat}{S:VS}{K:VS->V->Option β}{mo:MO}{x:β}{ks:List Nat}(h:mo.run TY own k S K=some x)(hk:k∈ks)(hl: ∀ j∈mo.looks, ∀ r∈(S.ts j).refs,r∈ks):
  ∃ v S',K S' v=some x/\Eff0 ks S S':=by
 have hxr: ∀ x:AX,(∀ j∈x.looks,j∈mo.looks)→ ∀ r∈(x.xv S.ts).refs,r∈ks:=by
  intro x hx r hr
  cases x with
  |t i=>exact hl i (hx i (by simp [AX.looks])) r hr
  |c d=>
   cases d with
   |v z=>cases z<;>cases hr
   |_=>cases hr
 cases mo with
 |pu ao=>
  simp only [MO.run] at h
  rw [ao_bind] at h
  obtain ⟨v,_,h2⟩:=Option.bind_eq_some_iff.1 h
  exact ⟨v,S,h2,Eff0.refl _ _⟩
 |new zs=>
  simp only [MO.run] at h
  split at h
  ·split at h
   ·rename_i hf
    exact ⟨_,_,h,alloc_eff hf hk⟩
   ·cases h
  ·cases h
 |box y=>
  simp only [MO.run] at h
  split at h
  ·split at h
   ·rename_i hf
    exact ⟨_,_,h,alloc_eff hf hk⟩
   ·cases h
  ·cases h
 |ld agg n y=>
  rw [ld_bind] at h
  obtain ⟨v,_,h2⟩:=Option.bind_eq_some_iff.1 h
  exact ⟨v,S,h2,Eff0.refl _ _⟩
 |st n y z=>
  simp only [MO.run] at h
  split at h
  ·split at h
   ·rename_i j o hy
    have hj:j∈ks:=hxr y (fun i hi=>by simp [MO.looks,hi]) j (by rw [hy];simp [V.refs])
    split at h
    ·split at h
     ·exact ⟨_,_,h,setO_eff hj⟩
     ·cases h
    ·cases h
   ·rename_i sz j i o hy
    have hj:j∈ks:=hxr y (fun i hi=>by simp [MO.looks,hi]) j (by rw [hy];simp [V.refs])
    split at h
    ·split at h
     ·unfold stA at h
      obtain ⟨_,h⟩:=br_none h
      split at h
      ·split at h
       ·exact ⟨_,_,h,setO_eff hj⟩
       ·cases h
      ·cases h
     ·cases h
    ·cases h
   ·cases h
  ·cases h
 |bs e sz len init parts=>
  have hms: ∀ r∈partMs S.ts parts,r∈ks:=by
   intro r hr
   simp only [partMs,List.mem_flatMap] at hr
   obtain ⟨p,hp1,hp2⟩:=hr
   exact hxr p.2.2 (fun j hj=>List.mem_flatMap.2 ⟨p,hp1,hj⟩) r (mss_sub _ r hp2)
  simp only [MO.run] at h
  split at h
  ·split at h
   ·split at h
    ·split at h
     ·split at h
      ·split at h
       ·unfold bsA at h
        split at h
        ·split at h
         ·rename_i hf
          exact ⟨_,_,h,(fzs_eff _ hms).trans (alloc_eff hf hk)⟩
         ·cases h
        ·exact ⟨_,_,h,fzs_eff _ hms⟩
       ·cases h
      ·cases h
     ·cases h
    ·cases h
   ·unfold bvA at h
    split at h
    ·split at h
     ·split at h
      ·split at h
       ·rename_i hf
        exact ⟨_,_,h,alloc_eff hf hk⟩
       ·cases h
      ·cases h
     ·cases h
    ·cases h
  ·cases h
 |app e sz bytes y z=>
  simp only [MO.run] at h
  split at h
  ·split at h
   ·split at h
    ·split at h
     ·obtain ⟨_,h⟩:=br_none h
      split at h
      ·rename_i hf
       exact ⟨_,_,h,alloc_eff hf hk⟩
      ·cases h
     ·cases h
    ·cases h
   ·cases h
  ·rename_i j hy
   have hj:j∈ks:=hxr y (fun i hi=>by simp [MO.looks,hi]) j (by rw [hy];simp [V.refs])
   split at h
   ·split at h
    ·split at h
     ·obtain ⟨_,h⟩:=br_none h
      split at h
      ·rename_i hf
       exact ⟨_,_,h,(dim_eff hj).trans (alloc_eff hf hj)⟩
      ·cases h
     ·cases h
    ·cases h
   ·cases h
  ·rename_i sz' j lo m hy
   have hj:j∈ks:=hxr y (fun i hi=>by simp [MO.looks,hi]) j (by rw [hy];simp [V.refs])
   split at h
   ·split at h
    ·split at h
     ·obtain ⟨_,h⟩:=br_none h
      split at h
      ·rename_i hf
       exact ⟨_,_,h,(dim_eff hj).trans (alloc_eff hf hj)⟩
      ·cases h
     ·cases h
    ·cases h
   ·cases h
  ·cases h
theorem putR_eff {β:Type}{n:Nat}{S S1:VS}{d:Option Nat}{v:V}{K:VS->Option β}{x:β}{ks:List Nat}(h:putR n S1 d v K=some x)(he:Eff0 ks S S1): ∃ S',K S'=some x/\Eff ks d S S':=by
 cases d with
 |none=>exact ⟨S1,h,fun j _ hr=>he.ts j hr,he.st,he.dom⟩
 |some d=>
  simp only [putR] at h
  split at h
  ·refine ⟨_,h,fun j hj hr=> ?_,he.st,he.dom⟩
   simp only [VS.set]
   rw [upd_ne _ _ (hj d rfl)]
   exact he.ts j hr
  ·cases h
theorem refss_cells (v:V):V.refss v.cells=v.refs:=by rw [←V.refss_d,V.cells_ds,V.refs_dcells]
theorem mem_setFrom {α:Type}: ∀ (vs cs:List α) (o:Nat) (x:α),x∈setFrom cs o vs->x∈cs∨x∈vs
 | [],cs,o,x,h=> .inl h
 |v::vs,cs,o,x,h=>by
  rw [setFrom] at h
  rcases mem_setFrom vs _ _ x h with h|h
  ·rcases List.mem_or_eq_of_mem_set h with h|h
   ·exact .inl h
   ·exact .inr (by simp [h])
  ·exact .inr (by simp [h])
theorem refss_setFrom {vs cs:List V}{o:Nat}: ∀ q∈V.refss (setFrom cs o vs),q∈V.refss cs∨q∈V.refss vs:=by
 intro q hq
 simp only [V.refss_eq,List.mem_flatMap] at hq ⊢
 obtain ⟨x,h1,h2⟩:=hq
 rcases mem_setFrom _ _ _ _ h1 with h|h
 ·exact .inl ⟨x,h,h2⟩
 ·exact .inr ⟨x,h,h2⟩
theorem put_refs {c v z:V}{o n:Nat}(h:c.put o n v=some z): ∀ q∈z.refs,q∈c.refs∨q∈v.refs:=by
 have key: ∀ cs:List V,V.refss cs=c.refs→ ∀ q∈(V.ag (setFrom cs o v.cells)).refs,q∈c.refs∨q∈v.refs:=by
  intro cs hcs q hq
  simp only [V.refs] at hq
  rcases refss_setFrom q hq with h|h
  ·exact .inl (hcs▸h)
  ·exact .inr (refss_cells v▸h)
 unfold V.put at h
 split at h
 ·split at h
  ·injection h with h
   subst h
   exact fun q hq=> .inr hq
  ·split at h
   ·split at h
    ·injection h with h
     subst h
     intro q hq
     cases hq
    ·injection h with h
     subst h
     exact key _ (refss_cells (.t _ _))
   ·injection h with h
    subst h
    exact key _ (refss_cells _)
 ·cases h
theorem xv_refs {S:VS}{x:AX}: ∀ q∈(x.xv S.ts).refs, ∃ i,x= .t i/\q∈(S.ts i).refs:=by
 intro q hq
 cases x with
 |t i=>exact ⟨i,rfl,hq⟩
 |c d=>
  cases d with
  |v z=>cases z<;>cases hq
  |_=>cases hq
theorem st_eff {β:Type}{TY:Nat->Option Ty}{own:Bool}{k:Nat}{S:VS}{K:VS->V->Option β}{n:Nat}{x y:AX}{r:β}(h:MO.run TY own k S K (.st n x y)=some r):
  ∃ j o,(∃ i,x= .t i/\j∈(S.ts i).refs)/\S.st j≠ .no/\(∀ q∈o.refs,q∈(S.st j).refs∨ ∃ i,y= .t i/\q∈(S.ts i).refs)/\K (S.setO j o) .un=some r:=by
 simp only [MO.run] at h
 split at h
 ·split at h
  ·rename_i j off hx
   have hj:=xv_refs (S:=S) (x:=x) j (by rw [hx];simp [V.refs])
   split at h
   ·rename_i c hc
    split at h
    ·rename_i c' hp
     refine ⟨j,.box c',hj,by rw [hc];simp,fun q hq=> ?_,h⟩
     rcases put_refs hp q hq with h1|h1
     ·exact .inl (by rw [hc];exact h1)
     ·exact .inr (xv_refs q h1)
    ·cases h
   ·cases h
  ·rename_i sz j i off hx
   have hj:=xv_refs (S:=S) (x:=x) j (by rw [hx];simp [V.refs])
   split at h
   ·rename_i e t l hc
    split at h
    ·unfold stA at h
     obtain ⟨_,h⟩:=br_none h
     split at h
     ·split at h
      ·exact ⟨j,.arr e t _,hj,by rw [hc];simp,(fun q hq=>by cases hq),h⟩
      ·cases h
     ·cases h
    ·cases h
   ·cases h
  ·cases h
 ·cases h
theorem rk_eff {β:Type}{g:G}{S:VS}{d:Option Nat}{K:VS->Option β}{k:RK}{x:β}{ks:List Nat}(h:k.run g S d K=some x)(hd:k.isSt=true∨ ∀ i,i<4->d.getD 0+5000*i∈ks)(hl: ∀ j∈k.looks, ∀ r∈(S.ts j).refs,r∈ks)(hc: ∀ k∈ks, ∀ r∈(S.st k).refs,r∈ks):
  ∃ S',K S'=some x/\Eff ks d S S':=by
 cases hst:k.isSt with
 |true=>
  cases k with
  |m mo=>
   cases mo with
   |st n a b=>
    simp only [RK.run] at h
    obtain ⟨j,o,⟨i,rfl,hj⟩,_,_,h1⟩:=st_eff h
    exact putR_eff h1 (setO_eff (hl i (by simp [RK.looks,MO.looks,AX.looks]) j hj))
   |_=>cases hst
  |_=>cases hst
 |false=>
 rw [hst] at hd
 have hd:=hd.resolve_left (by simp)
 have hd0:d.getD 0∈ks:=by simpa using hd 0 (by omega)
 have call: ∀ {f:Nat} {l:List AX} {pre caps:List V},(∀ j∈l.flatMap AX.looks, ∀ r∈(S.ts j).refs,r∈ks)->(∀ r∈V.refss pre,r∈ks)->(∀ r∈V.refss caps,r∈ks)->callA g f S (frz g f S (vals S.ts l)) (pre++(vals (frz g f S (vals S.ts l)).ts l++caps)) d K=some x→ ∃ S',K S'=some x/\Eff ks d S S':=by
  intro f l pre caps hl hpre hcaps h
  unfold callA at h
  split at h
  ·obtain ⟨r1,r2⟩:=frz_refs g f S (vals S.ts l)
   have hv: ∀ r∈V.refss (pre++(vals (frz g f S (vals S.ts l)).ts l++caps)),r∈ks:=by
    intro r hr
    rw [V.refss_eq,List.flatMap_append,List.flatMap_append, ← V.refss_eq, ← V.refss_eq, ← V.refss_eq,List.mem_append,List.mem_append] at hr
    rcases hr with hr|hr|hr
    ·exact hpre r hr
    ·exact vals_refs (S:=frz g f S (vals S.ts l)) (fun j hj q hq=>hl j hj q (r1 j q hq)) r hr
    ·exact hcaps r hr
   obtain ⟨v,S',h1,h2⟩:=callR_eff h hd hv (fun k hk r hr=>hc k hk r (r2 k r hr))
   exact putR_eff h1 ((frz_eff (vals_mss hl)).trans h2)
  ·cases h
 cases k with
 |m mo=>
  simp only [RK.run] at h
  obtain ⟨v,S1,h1,h2⟩:=mo_eff h hd0 hl
  exact putR_eff h1 h2
 |call f l=>
  simp only [RK.run] at h
  exact call (pre:=[]) (caps:=[]) hl (fun r hr=>by cases hr) (fun r hr=>by cases hr) (by rw [List.append_nil];exact h)
 |cv y l=>
  have hl2: ∀ j∈l.flatMap AX.looks, ∀ r∈(S.ts j).refs,r∈ks:=fun j hj=>hl j (by simp only [RK.looks,List.mem_append];exact .inr hj)
  simp only [RK.run] at h
  split at h
  ·split at h
   ·exact call (pre:=[]) (caps:=[]) hl2 (fun r hr=>by cases hr) (fun r hr=>by cases hr) (by rw [List.append_nil];exact h)
   ·cases h
  ·rename_i f caps hy
   have hcp: ∀ r∈V.refss caps,r∈ks:=fun r hr=>by
    cases y with
    |t i=>exact hl i (by simp [RK.looks,AX.looks]) r (by simp only [AX.xv] at hy;rw [hy];exact hr)
    |c d=>
     cases d with
     |v z=>cases z<;>cases hy
     |_=>cases hy
   split at h
   ·exact call (pre:=[]) hl2 (fun r hr=>by cases hr) hcp h
   ·split at h
    ·exact call (caps:=[]) hl2 hcp (fun r hr=>by cases hr) h
    ·cases h
  ·cases h
 |mf f caps=>
  simp only [RK.run] at h
  split at h
  ·exact putR_eff h (Eff0.refl _ _)
  ·cases h
 |o op=>cases h
 |bad=>cases h
theorem ro_eff {β:Type}{g:G}{S:VS}{K:VS->Option β}{r:RO}{x:β}{ks:List Nat}(h:r.run g S K=some x)(hd:r.k.isSt=true∨ ∀ i,i<4->r.dst.getD 0+5000*i∈ks)(hl: ∀ j∈r.looks, ∀ x∈(S.ts j).refs,x∈ks)(hc: ∀ k∈ks, ∀ r∈(S.st k).refs,r∈ks):
  ∃ S',K S'=some x/\Eff ks r.dst S S':=by
 have hlk: ∀ j∈r.k.looks, ∀ x∈(S.ts j).refs,x∈ks:=fun j hj=>hl j (List.mem_append_right _ hj)
 unfold RO.run at h
 split at h
 ·exact rk_eff h hd hlk hc
 ·split at h
  ·split at h
   ·rcases br_some h with ⟨_,h⟩|⟨_,h⟩
    ·exact rk_eff h hd hlk hc
    ·exact putR_eff h (Eff0.refl _ _)
   ·rcases br_some h with ⟨_,h⟩|⟨_,h⟩
    ·exact putR_eff h (Eff0.refl _ _)
    ·exact rk_eff h hd hlk hc
  ·exact putR_eff h (Eff0.refl _ _)
  ·cases h
theorem stepD_eff {β:Type}{g:G}{S:VS}{K:VS->Option β}{r:RO}{x:β}{ks:List Nat}(h:stepD g S K r ks=some x):
  within S r.looks ks=true/\((r.k.quick g.own r.dst ks=true∧ ∃ v,r.q g S some=some v/\(∀ x∈v.refs,x∈ks)∧ ∃ S',putR g.n S r.dst v some=some S'/\K S'=some x)∨
   (r.k.quick g.own r.dst ks=false/\apartK S r.k.isSt r.dst ks=true∧ ∃ S',K S'=some x/\Eff ks r.dst S S')):=by
 unfold stepD at h
 split at h
 ·rename_i hw
  refine ⟨hw, ?_⟩
  split at h
  ·rename_i hq
   left
   rw [roq_bind] at h
   obtain ⟨v,h1,h2⟩:=Option.bind_eq_some_iff.1 h
   split at h2
   ·rename_i hr
    refine ⟨hq,v,h1,fun x hx=> ?_, ?_⟩
    ·have:=List.all_eq_true.1 hr x hx
     simpa using this
    ·cases hd:r.dst with
     |none=>rw [hd] at h2;exact ⟨S,rfl,h2⟩
     |some d=>
      rw [hd] at h2
      simp only [putR] at h2 ⊢
      split at h2
      ·rename_i hlt
       rw [if_pos hlt]
       exact ⟨_,rfl,h2⟩
      ·cases h2
   ·cases h2
  ·rename_i hq
   right
   split at h
   ·rename_i hap
    simp only [within,List.all_eq_true,Bool.and_eq_true,List.contains_iff_mem] at hw
    simp only [apartK,Bool.and_eq_true,List.all_eq_true,List.contains_iff_mem,List.mem_range,Bool.or_eq_true] at hap
    obtain ⟨⟨a1,a2⟩,a3⟩:=hap
    refine ⟨by simpa using hq,by simp only [apartK,Bool.and_eq_true,List.all_eq_true,List.contains_iff_mem,List.mem_range,Bool.or_eq_true];exact ⟨⟨a1,a2⟩,a3⟩,ro_eff h a3 (fun j hj y hy=>(hw j hj y hy).1) (fun k hk y hy=> ?_)⟩
    rcases a2 k hk with hkd|hkd
    ·have:=a1 k hkd
     rw [if_pos hk] at this
     simp only [List.all_eq_true,List.contains_iff_mem] at this
     exact this y hy
    ·cases ho:S.st k with
     |no=>rw [ho] at hy;cases hy
     |box v=>rw [ho] at hkd;cases hkd
     |arr e t l=>rw [ho] at hy;cases hy
   ·cases h
 ·cases h
end Go.Proofs.YtmokmalepelinaaGreatDoor.K
/-
 Regions whose order is open:a thing that is written aside.
-/
namespace Go.Proofs.YtmokmalepelinaaGreatDoor.K
open Go.RowKit
structure Far (S:VS) (j:Nat) (o:VO) (ks:List Nat):Prop where
 key:j ∉ ks
 new: ∀ r∈o.refs,r ∉ ks
 old: ∀ r∈(S.st j).refs,r ∉ ks
section
variable {β:Type}{S:VS}{j:Nat}{o:VO}{ks:List Nat}
end
end Go.Proofs.YtmokmalepelinaaGreatDoor.K
/-
 Regions whose order is open:the rule.
-/
namespace Go.Proofs.YtmokmalepelinaaGreatDoor.K
open Go.RowKit
section
variable {β:Type}
theorem putR_bind (n:Nat)(S:VS)(d:Option Nat)(v:V)(K:VS->Option β):putR n S d v K=(putR n S d v some).bind K:=by
 cases d with
 |none=>rfl
 |some d=>simp only [putR];split<;>rfl
theorem mo_bind (TY:Nat->Option Ty)(own:Bool)(k:Nat)(S:VS)(K:VS->V->Option β)(mo:MO):mo.run TY own k S K=(mo.run TY own k S fun S v=>some (S,v)).bind fun p=>K p.1 p.2:=by
 cases mo with
 |pu ao=>
  simp only [MO.run]
  rw [ao_bind S (K S),ao_bind S (fun v=>some (S,v))]
  cases AO.run S some ao<;>rfl
 |new zs=>simp only [MO.run];split<;>(try split)<;>rfl
 |box x=>simp only [MO.run];split<;>(try split)<;>rfl
 |ld agg n x=>
  rw [ld_bind S K,ld_bind S (fun S v=>some (S,v))]
  cases MO.run TY false 0 S (fun _ v=>some v) (.ld agg n x)<;>rfl
 |st n x y=>
  simp only [MO.run]
  split
  ·split
   ·split
    ·split<;>rfl
    ·rfl
   ·split
    ·split
     ·unfold stA
      rw [br_bind]
      congr 1
      split
      ·split<;>rfl
      ·rfl
     ·rfl
    ·rfl
   ·rfl
  ·rfl
 |bs e sz len init parts=>
  simp only [MO.run]
  split
  ·split
   ·split
    ·split
     ·split
      ·split
       ·unfold bsA
        split
        ·split<;>rfl
        ·rfl
       ·rfl
      ·rfl
     ·rfl
    ·rfl
   ·unfold bvA
    split
    ·split
     ·split
      ·split<;>rfl
      ·rfl
     ·rfl
    ·rfl
  ·rfl
 |app e sz bytes x y=>
  simp only [MO.run]
  split
  ·split
   ·split
    ·split
     ·unfold appA
      rw [br_bind]
      congr 1
      split<;>rfl
     ·rfl
    ·rfl
   ·rfl
  ·split
   ·split
    ·split
     ·unfold appA
      rw [br_bind]
      congr 1
      split<;>rfl
     ·rfl
    ·rfl
   ·rfl
  ·split
   ·split
    ·split
     ·unfold appA
      rw [br_bind]
      congr 1
      split<;>rfl
     ·rfl
    ·rfl
   ·rfl
  ·rfl
theorem callR_bind (F:List V->List VO->Option (Bool×V×List VO))(S:VS)(vs:List V)(d:Nat)(K:VS->V->Option β):callR F S vs d K=(callR F S vs d fun S v=>some (S,v)).bind fun p=>K p.1 p.2:=by
 unfold callR
 split
 ·split
  ·rw [br_bind]
   congr 1
   split
   ·split<;>rfl
   ·rfl
  ·rfl
 ·rfl
theorem callA_bind (g:G)(f:Nat)(S S1:VS)(vs:List V)(d:Option Nat)(K:VS->Option β):callA g f S S1 vs d K=(callA g f S S1 vs d some).bind K:=by
 unfold callA
 split
 ·rw [callR_bind _ _ _ _ (fun S' v=>putR g.n S' d v K),callR_bind _ _ _ _ (fun S' v=>putR g.n S' d v some)]
  cases callR (g.E f) S1 vs (d.getD 0) fun S v=>some (S,v) with
  |none=>rfl
  |some p=>exact putR_bind ..
 ·rfl
theorem rk_bind (g:G)(S:VS)(d:Option Nat)(K:VS->Option β)(k:RK):k.run g S d K=(k.run g S d some).bind K:=by
 cases k with
 |m mo=>
  simp only [RK.run]
  rw [mo_bind _ _ _ _ (fun S' v=>putR g.n S' d v K),mo_bind _ _ _ _ (fun S' v=>putR g.n S' d v some)]
  cases MO.run g.TY (g.own.contains (d.getD 0)) (d.getD 0) S (fun S v=>some (S,v)) mo with
  |none=>rfl
  |some p=>exact putR_bind ..
 |call f l=>exact callA_bind g f S _ _ _ _
 |cv x l=>
  simp only [RK.run]
  split
  ·split
   ·exact callA_bind _ _ S _ _ _ _
   ·rfl
  ·split
   ·exact callA_bind _ _ S _ _ _ _
   ·split
    ·exact callA_bind _ _ S _ _ _ _
    ·rfl
  ·rfl
 |mf f caps=>
  simp only [RK.run]
  split
  ·exact putR_bind ..
  ·rfl
 |o op=>rfl
 |bad=>rfl
theorem ro_bind (g:G)(S:VS)(K:VS->Option β)(r:RO):r.run g S K=(r.run g S some).bind K:=by
 unfold RO.run
 split
 ·exact rk_bind ..
 ·split
  ·split
   ·rw [br_bind, ← rk_bind, ← putR_bind]
   ·rw [br_bind, ← rk_bind, ← putR_bind]
  ·exact putR_bind ..
  ·rfl
theorem stepD_bind (g:G)(S:VS)(K:VS->Option β)(r:RO)(ks:List Nat):stepD g S K r ks=(stepD g S some r ks).bind K:=by
 unfold stepD
 split
 ·split
  ·rw [roq_bind g S (fun v=>if (v.refs.all ks.contains)=true then putR g.n S r.dst v K else none),roq_bind g S (fun v=>if (v.refs.all ks.contains)=true then putR g.n S r.dst v some else none)]
   cases RO.q g S some r with
   |none=>rfl
   |some v=>
    simp only [Option.bind_some]
    split
    ·exact putR_bind ..
    ·rfl
  ·split
   ·exact ro_bind ..
   ·rfl
 ·rfl
end
theorem within_ss {S:VS}{q:Nat}{v:V}{looks ks:List Nat}(h:q ∉ looks):within (S.ss q v) looks ks=within S looks ks:=by
 unfold within
 have key: ∀ l:List Nat,(∀ j∈l,j∈looks)->(l.all fun j=>((S.ss q v).ts j).refs.all fun k=>ks.contains k&&(S.ss q v).dom.contains k)=l.all fun j=>(S.ts j).refs.all fun k=>ks.contains k&&S.dom.contains k:=by
  intro l
  induction l with
  |nil=>intro _;rfl
  |cons j l ih=>
   intro hl
   simp only [List.all_cons]
   rw [ih fun i hi=>hl i (by simp [hi])]
   have:(S.ss q v).ts j=S.ts j:=upd_ne _ _ fun e=>h (e▸hl j (by simp))
   rw [this]
   rfl
 exact key looks fun _ h=>h
theorem stepD_ss {g:G}{S:VS}{q:Nat}{v:V}{r:RO}{ks:List Nat}(hq:q ∉ r.looks)(hd:r.dst≠some q)(hv:r.k.quick g.own r.dst ks=false→ ∀ x∈v.refs,x∈ks->50000<=x):
  stepD g (S.ss q v) some r ks=(stepD g S some r ks).map (VS.ss · q v):=by
 unfold stepD
 rw [within_ss hq]
 split
 ·rename_i hw
  split
  ·rw [roq_like (ss_like hq),roq_bind g S (fun u=>if (u.refs.all ks.contains)=true then putR g.n (S.ss q v) r.dst u some else none),roq_bind g S (fun u=>if (u.refs.all ks.contains)=true then putR g.n S r.dst u some else none)]
   cases RO.q g S some r with
   |none=>rfl
   |some u=>
    simp only [Option.bind_some]
    split
    ·rw [ss_putR hd,putR_bind g.n S r.dst u (fun S'=>some (S'.ss q v))]
     cases putR g.n S r.dst u some<;>rfl
    ·rfl
  ·rename_i hquick
   have hap:apartK (S.ss q v) r.k.isSt r.dst ks=apartK S r.k.isSt r.dst ks:=id rfl
   rw [hap]
   split
   ·rename_i ha
    simp only [within,List.all_eq_true,Bool.and_eq_true,List.contains_iff_mem] at hw
    simp only [apartK,Bool.and_eq_true,List.all_eq_true,List.contains_iff_mem,List.mem_range,Bool.or_eq_true] at ha
    rw [ro_ss hq hd (hv (by simpa using hquick)) ha.2 (fun j hj x hx=>(hw j hj x hx).1),ro_bind g S (fun S'=>some (S'.ss q v))]
    cases RO.run g S some r<;>rfl
   ·rfl
 ·rfl
theorem ao_ts {β:Type}{S T:VS}{K:V->Option β}{ao:AO}(h:(RK.m (.pu ao)).isTs=true)(ht:T.ts=S.ts):ao.run T K=ao.run S K:=by
 cases ao with
 |ix sz x i=>cases h
 |len b x=>
  cases b with
  |false=>cases h
  |true=>simp only [AO.run,ht]
 |slc sz x lo hi top=>cases h
 |_=>simp only [AO.run,ht]
theorem roq_ts {β:Type}{g:G}{S T:VS}{K:V->Option β}{r:RO}(h:r.k.isTs=true)(ht: ∀ j∈r.looks,T.ts j=S.ts j):r.q g T K=r.q g S K:=by
 have e1:r.q g ⟨T.ts,S.st,T.dom⟩ K=r.q g S K:=roq_like ⟨ht,fun _ _ _ _=>rfl⟩
 rw [←e1]
 obtain ⟨d,gd,k⟩:=r
 cases k with
 |m mo=>
  cases mo with
  |pu ao=>
   have e: ∀ K:V->Option β,ao.run T K=ao.run (⟨T.ts,S.st,T.dom⟩:VS) K:=fun K=>(ao_ts (S:=T) (T:=⟨T.ts,S.st,T.dom⟩) h rfl).symm
   unfold RO.q RK.q
   simp only [e]
  |_=>cases h
 |_=>cases h
def JAny (g:G)(ds:List DO)(os:List (Nat×List Nat))(Q:VS->Prop):Nat->List Bool->VS->Prop
 |0,l,S=>rdy ds l=[]/\Q S
 |n+1,l,S=>(rdy ds l=[]->Q S)∧ ∀ i∈rdy ds l, ∀ d,ds[i]? = some d→ ∃ S',stepD g S some d.r (keysOf os i)=some S'/\JAny g ds os Q n (l.set i true) S'
theorem rdy_mem {ds:List DO}{l:List Bool}{i:Nat}:i∈rdy ds l↔i<ds.length/\l.getD i true=false∧ ∃ d,ds[i]? = some d/\d.pre.all (fun j=>l.getD j false)=true:=by
 simp only [rdy,List.mem_filter,List.mem_range,Bool.and_eq_true,Bool.not_eq_true']
 constructor
 ·rintro ⟨h1,h2,h3⟩
  refine ⟨h1,h2,ds[i],List.getElem?_eq_getElem h1, ?_⟩
  rw [List.getElem?_eq_getElem h1] at h3
  simpa using h3
 ·rintro ⟨h1,h2,d,h3,h4⟩
  refine ⟨h1,h2, ?_⟩
  rw [h3]
  simpa using h4
theorem getD_set_ne {l:List Bool}{i k:Nat}(h:i≠k)(b x:Bool):(l.set k b).getD i x=l.getD i x:=by
 simp only [List.getD_eq_getElem?_getD]
 rw [List.getElem?_set_ne (fun e=>h e.symm)]
theorem getD_set_le {l:List Bool}{i k:Nat}{x:Bool}(h:l.getD i x=true):(l.set k true).getD i x=true:=by
 by_cases he:i=k
 ·subst he
  simp only [List.getD_eq_getElem?_getD,List.getElem?_set]
  simp only [if_true]
  split
  ·rfl
  ·rename_i hl
   simp only [List.getD_eq_getElem?_getD] at h
   rw [List.getElem?_eq_none (by omega)] at h
   simpa using h
 ·rw [getD_set_ne he];exact h
theorem blk_rdy {ds:List DO}{l:List Bool}{i k n:Nat}(hi:i∈rdy ds l)(hk:l.getD k true=false):blk ds l k n i=false:=by
 cases n with
 |zero=>rfl
 |succ n=>
  obtain ⟨_,_,d,h3,h4⟩:=rdy_mem.1 hi
  simp only [blk,h3]
  cases hq:d.pre.any fun j=>j==k||(!l.getD j false&&blk ds l k n j) with
  |false=>rfl
  |true=>
   exfalso
   obtain ⟨j,hj,hq⟩:=List.any_eq_true.1 hq
   have hd:=List.all_eq_true.1 h4 j hj
   rw [hd] at hq
   simp only [Bool.not_true,Bool.false_and,Bool.or_false,beq_iff_eq] at hq
   subst hq
   have hlt:j<l.length:=by
    rcases Nat.lt_or_ge j l.length with h|h
    ·exact h
    ·rw [List.getD_eq_getElem?_getD,List.getElem?_eq_none h] at hk
     cases hk
   simp only [List.getD_eq_getElem?_getD,List.getElem?_eq_getElem hlt,Option.getD_some] at hd hk
   rw [hk] at hd
   cases hd
theorem blk_set {ds:List DO}{l:List Bool}{i k:Nat}(hi:i∈rdy ds l)(hk:l.getD k true=false): ∀ {n j:Nat},blk ds l k n j=true->blk ds (l.set i true) k n j=true
 |0,j,h=>by simp [blk] at h
 |n+1,j,h=>by
  simp only [blk] at h ⊢
  cases hd:ds[j]? with
  |none=>rw [hd] at h;cases h
  |some d=>
   rw [hd] at h
   simp only at h ⊢
   obtain ⟨j',hj',hq⟩:=List.any_eq_true.1 h
   refine List.any_eq_true.2 ⟨j',hj', ?_⟩
   simp only [Bool.or_eq_true,Bool.and_eq_true] at hq ⊢
   rcases hq with hq|⟨hq,hb⟩
   ·exact .inl hq
   ·refine .inr ⟨?_,blk_set hi hk hb⟩
    have hne:j'≠i:=by
     intro e
     subst e
     rw [blk_rdy hi hk] at hb
     cases hb
    rw [getD_set_ne hne]
    exact hq
theorem free_set {own:List Nat}{ds:List DO}{os:List (Nat×List Nat)}{l:List Bool}{i k:Nat}(hi:i∈rdy ds l)(hkl:l.getD k true=false)(h:free own ds os l k=true):free own ds os (l.set i true) k=true:=by
 unfold free at h ⊢
 split
 ·rename_i hk;rw [hk] at h;cases h
 ·rename_i dk hk
  rw [hk] at h
  simp only [Bool.and_eq_true,List.all_eq_true] at h ⊢
  refine ⟨h.1,fun j hj=> ?_⟩
  have hfj:=h.2 j hj
  revert hfj
  cases ds[j]? with
  |none=>exact fun _=>rfl
  |some dj=>
   intro hfj
   simp only [Bool.or_eq_true] at hfj ⊢
   rcases hfj with hfj|hfj|hfj|hfj
   ·exact .inl (getD_set_le hfj)
   ·exact .inr (.inl hfj)
   ·exact .inr (.inr (.inl (blk_set hi hkl hfj)))
   ·exact .inr (.inr (.inr hfj))
set_option maxHeartbeats 1000000 in
/-- THE RULE: a quiet operation may be taken first -/
theorem jany_take {g:G}{Q:VS->Prop}{ds:List DO}{os:List (Nat×List Nat)}: ∀ {n:Nat} {l:List Bool} {S S':VS} {k:Nat} {dk:DO},l.length=ds.length->ds[k]? = some dk->k∈rdy ds l->free g.own ds os l k=true->stepD g S some dk.r (keysOf os k)=some S'→
  JAny g ds os Q n (l.set k true) S'->JAny g ds os Q (n+1) l S:=by
 intro n
 induction n with
 |zero=>
  intro l S S' k dk hlen hk hr hf hs h
  refine ⟨(fun he=>by rw [he] at hr;cases hr),fun i hi di hdi=> ?_⟩
  obtain ⟨h1,h2,d',h3,h4⟩:=rdy_mem.1 hi
  by_cases hik:i=k
  ·subst hik
   rw [hk] at hdi
   injection hdi with hdi
   subst hdi
   exact ⟨S',hs,h⟩
  ·exfalso
   have:i∈rdy ds (l.set k true):=rdy_mem.2 ⟨h1,by rw [getD_set_ne hik];exact h2,d',h3,List.all_eq_true.2 fun j hj=>getD_set_le (List.all_eq_true.1 h4 j hj)⟩
   rw [h.1] at this
   cases this
 |succ n ih=>
  intro l S S' k dk hlen hk hr hf hs h
  refine ⟨(fun he=>by rw [he] at hr;cases hr),fun i hi di hdi=> ?_⟩
  obtain ⟨h1,h2,d',h3,h4⟩:=rdy_mem.1 hi
  by_cases hik:i=k
  ·subst hik
   rw [hk] at hdi
   injection hdi with hdi
   subst hdi
   exact ⟨S',hs,h⟩
  ·have hi':i∈rdy ds (l.set k true):=rdy_mem.2 ⟨h1,by rw [getD_set_ne hik];exact h2,d',h3,List.all_eq_true.2 fun j hj=>getD_set_le (List.all_eq_true.1 h4 j hj)⟩
   obtain ⟨S2,hs2,hj2⟩:=h.2 i hi' di hdi
   rw [hdi] at h3
   injection h3 with h3
   subst h3
   obtain ⟨k1,k2,dk',k3,k4⟩:=rdy_mem.1 hr
   rw [hk] at k3
   injection k3 with k3
   subst k3
   have hfree:=hf
   unfold free at hfree
   rw [hk] at hfree
   simp only [Bool.and_eq_true] at hfree
   have hfi:=List.all_eq_true.1 hfree.2 i (List.mem_range.2 h1)
   rw [hdi] at hfi
   have hnp:blk ds l k 4 i=false:=blk_rdy hi k2
   have hik':(i==k)=false:=by simpa using hik
   simp only [h2,hik',hnp,Bool.false_or,Bool.and_eq_true] at hfi
   obtain ⟨f1,f2,f3⟩:=hfi
   obtain ⟨hw,hcase⟩:=stepD_eff hs
   rcases hcase with ⟨_,v,hv,hvr,S'',hp,hS''⟩|⟨hnq,_⟩
   ·injection hS'' with hS''
    subst hS''
    have hcomm:(l.set k true).set i true=(l.set i true).set k true:=List.set_comm _ _ (fun e=>hik e.symm)
    rw [hcomm] at hj2
    have hr':k∈rdy ds (l.set i true):=rdy_mem.2 ⟨k1,by rw [getD_set_ne (fun e=>hik e.symm)];exact k2,dk,hk,List.all_eq_true.2 fun j hj=>getD_set_le (List.all_eq_true.1 k4 j hj)⟩
    have hdisj:di.r.k.quick g.own di.r.dst (keysOf os i)=false→ ∀ x∈keysOf os k,x∈keysOf os i->dk.r.k.isTs=true/\50000<=x:=by
     intro hq x hx hxi
     rw [hq,Bool.false_or] at f3
     have:=List.all_eq_true.1 f3 x hx
     simp only [Bool.or_eq_true,Bool.not_eq_true',Bool.and_eq_true,decide_eq_true_eq] at this
     rcases this with this|this
     ·have:(keysOf os i).contains x=true:=by simpa using hxi
      simp_all
     ·exact this
    -- the other one first
    have other: ∃ S1,stepD g S some di.r (keysOf os i)=some S1∧ ∃ S3,stepD g S1 some dk.r (keysOf os k)=some S3/\S3=S2:=by
     have step1: ∃ S1,stepD g S some di.r (keysOf os i)=some S1/\(∀ qq,dk.r.dst=some qq->S2=S1.ss qq v)/\(dk.r.dst=none->S2=S1):=by
      cases hdst:dk.r.dst with
      |none=>
       rw [hdst] at hp
       simp only [putR,Option.some.injEq] at hp
       subst hp
       refine ⟨S2,hs2, ?_, ?_⟩
       ·intro qq hq
        cases hq
       ·intro _
        rfl
      |some qq=>
       rw [hdst] at hp f2 f1
       simp only [putR] at hp
       split at hp
       ·simp only [Option.some.injEq] at hp
        subst hp
        have e1:S.set (some qq) v=S.ss qq v:=rfl
        rw [e1,stepD_ss (by simpa using f2) (fun e=>by rw [e] at f1;simp at f1) (fun hq x hx hxi=>(hdisj hq x (hvr x hx) hxi).2)] at hs2
        cases hx:stepD g S some di.r (keysOf os i) with
        |none=>rw [hx] at hs2;cases hs2
        |some S1=>
         rw [hx] at hs2
         simp only [Option.map_some,Option.some.injEq] at hs2
         exact ⟨S1,rfl,fun q' hq'=>by injection hq' with hq';rw [←hq',hs2],fun h=>by cases h⟩
       ·cases hp
     obtain ⟨S1,hs1,hS2,hS2'⟩:=step1
     refine ⟨S1,hs1, ?_⟩
     -- the quiet one behind it
     simp only [within,List.all_eq_true,Bool.and_eq_true,List.contains_iff_mem] at hw
     have hdi1: ∀ j∈dk.r.looks, ∀ q,di.r.dst=some q->j≠q:=by
      intro j hj q hq e
      rw [hq] at f1
      simp only [Bool.and_eq_true,Bool.not_eq_true'] at f1
      have:=f1.1
      rw [←e] at this
      simp [hj] at this
     have alike:((∀ j∈dk.r.looks,S1.ts j=S.ts j)/\(dk.r.k.isTs=false->Alike S S1 dk.r.looks))∧ ∀ x∈S.dom,x∈S1.dom:=by
      obtain ⟨hwi,hci⟩:=stepD_eff hs1
      rcases hci with ⟨_,u,_,_,S5,hp5,hS5⟩|⟨hnq,hap,S5,hS5,he⟩
      ·injection hS5 with hS5
       subst hS5
       cases hdd:di.r.dst with
       |none=>
        rw [hdd] at hp5
        simp only [putR,Option.some.injEq] at hp5
        subst hp5
        exact ⟨⟨fun _ _=>rfl,fun _=>⟨fun _ _=>rfl,fun _ _ _ _=>rfl⟩⟩,fun _ h=>h⟩
       |some dd=>
        rw [hdd] at hp5
        simp only [putR] at hp5
        split at hp5
        ·simp only [Option.some.injEq] at hp5
         subst hp5
         exact ⟨⟨fun j hj=>upd_ne _ _ (hdi1 j hj dd hdd),fun _=>⟨fun j hj=>upd_ne _ _ (hdi1 j hj dd hdd),fun _ _ _ _=>rfl⟩⟩,fun _ h=>h⟩
        ·cases hp5
      ·injection hS5 with hS5
       subst hS5
       simp only [apartK,Bool.and_eq_true,List.all_eq_true,List.contains_iff_mem,List.mem_range] at hap
       have hts:=fun (j:Nat) (hj:j∈dk.r.looks)=>he.ts j (hdi1 j hj) fun x hx hxi=>(hdisj hnq x (hw j hj x hx).1 hxi).2
       refine ⟨⟨hts,fun hnt=>⟨hts,fun j hj x hx=> ?_⟩⟩,he.dom⟩
       have hxn:x ∉ keysOf os i:=fun hxi=>by
        have:=(hdisj hnq x (hw j hj x hx).1 hxi).1
        rw [hnt] at this
        cases this
       refine he.st x hxn fun y hy=> ?_
       have:=hap.1.1 x (hw j hj x hx).2
       rw [if_neg hxn] at this
       have:=List.all_eq_true.1 this y hy
       simpa using this
     have hw1:within S1 dk.r.looks (keysOf os k)=true:=by
      simp only [within,List.all_eq_true,Bool.and_eq_true,List.contains_iff_mem]
      intro j hj x hx
      rw [alike.1.1 j hj] at hx
      exact ⟨(hw j hj x hx).1,alike.2 x (hw j hj x hx).2⟩
     have hq1:dk.r.q g S1 some=some v:=by
      cases hts:dk.r.k.isTs with
      |true=>rw [roq_ts hts alike.1.1];exact hv
      |false=>rw [roq_like (alike.1.2 hts)];exact hv
     have hvr':(v.refs.all (keysOf os k).contains)=true:=by
      simp only [List.all_eq_true,List.contains_iff_mem]
      exact hvr
     refine ⟨S2, ?_,rfl⟩
     unfold stepD
     rw [if_pos hw1,if_pos hfree.1,roq_bind,hq1]
     simp only [Option.bind_some]
     rw [if_pos hvr']
     cases hdst:dk.r.dst with
     |none=>rw [hS2' hdst];rfl
     |some qq=>
      rw [hdst] at hp
      simp only [putR] at hp ⊢
      split at hp
      ·rename_i hlt
       rw [if_pos hlt,hS2 qq hdst]
       rfl
      ·cases hp
    obtain ⟨S1,o1,S3,o2,rfl⟩:=other
    exact ⟨S1,o1,ih (by simp [hlen]) hk hr' (free_set hi k2 hf) o2 hj2⟩
   ·rw [hfree.1] at hnq
    cases hnq
theorem jany_more {g:G}{ds:List DO}{os:List (Nat×List Nat)}{Q:VS->Prop}: ∀ {m:Nat} {l:List Bool} {S:VS} (m':Nat),JAny g ds os Q m l S->m<=m'->JAny g ds os Q m' l S
 |0,l,S,0,h,_=>h
 |0,l,S,m'+1,h,_=>⟨fun _=>h.2,fun i hi=>by rw [h.1] at hi;cases hi⟩
 |m+1,l,S,0,h,hm=>by omega
 |m+1,l,S,m'+1,h,hm=>⟨h.1,fun i hi d hd=>by
  obtain ⟨S',h1,h2⟩:=h.2 i hi d hd
  exact ⟨S',h1,jany_more m' h2 (by omega)⟩⟩
def PAny (g:G)(ds:List DO)(os:List (Nat×List Nat))(Q:VS->Prop)(seen:List Nat)(n:Nat)(l:List Bool)(S:VS):Prop:=
 (rdy ds l=[]->Q S)∧ ∀ i∈rdy ds l,i ∉ seen→ ∀ d,ds[i]? = some d→ ∃ S',stepD g S some d.r (keysOf os i)=some S'∧ ∃ m,m+1<=n/\JAny g ds os Q m (l.set i true) S'
theorem jany_of_p {g:G}{ds:List DO}{os:List (Nat×List Nat)}{Q:VS->Prop}{n:Nat}{l:List Bool}{S:VS}(h:PAny g ds os Q [] n l S):JAny g ds os Q n l S:=by
 cases n with
 |zero=>
  have he:rdy ds l=[]:=List.eq_nil_iff_forall_not_mem.2 fun i hi=>by
   obtain ⟨_,_,d,hd,_⟩:=rdy_mem.1 hi
   obtain ⟨_,_,m,hm,_⟩:=h.2 i hi (by simp) d hd
   omega
  exact ⟨he,h.1 he⟩
 |succ n=>exact ⟨h.1,fun i hi d hd=>by
   obtain ⟨S',h1,m,hm,h2⟩:=h.2 i hi (by simp) d hd
   exact ⟨S',h1,jany_more n h2 (by omega)⟩⟩
theorem pick_spec {ds:List DO}: ∀ {p:List Nat} {rem:List (Nat×DO)},pickD ds p=some rem->rem.map Prod.fst=p∧ ∀ x∈rem,ds[x.1]? = some x.2
 | [],rem,h=>by
  simp only [pickD,Option.some.injEq] at h
  subst h
  exact ⟨rfl,fun x hx=>by cases hx⟩
 |i::r,rem,h=>by
  simp only [pickD] at h
  split at h
  ·rename_i d l h1 h2
   simp only [Option.some.injEq] at h
   subst h
   obtain ⟨q1,q2⟩:=pick_spec h2
   refine ⟨by rw [List.map_cons,q1],fun x hx=> ?_⟩
   rcases List.mem_cons.1 hx with rfl|hx
   ·exact h1
   ·exact q2 x hx
  ·cases h
theorem getD_in {l:List Bool}{p:Nat}(h:l.getD p true=false):l.getD p false=false:=by
 rw [List.getD_eq_getElem?_getD] at h ⊢
 cases hp:l[p]? with
 |none=>rw [hp] at h;cases h
 |some b=>rw [hp] at h;exact h
theorem getD_tr {l:List Bool}{p:Nat}(hp:p<l.length)(h:l.getD p true≠false):l.getD p false=true:=by
 rw [List.getD_eq_getElem?_getD,List.getElem?_eq_getElem hp] at h ⊢
 simpa using h
theorem plan_f {own:List Nat}{ds:List DO}{os:List (Nat×List Nat)}: ∀ (t:PT) (p:List Nat) (rem:List (Nat×DO)) (l:List Bool),t.lst=some p->pickD ds p=some rem->planF own os ds.length rem=true->l.length=ds.length→
  (∀ j,j<ds.length->(l.getD j true=false↔j∈p))->planOk own ds os t l []=true
 |.nil,p,rem,l,hp,_,_,hl,h=>by
  simp only [PT.lst,Option.some.injEq] at hp
  subst hp
  simp only [planOk,List.isEmpty_iff]
  refine List.eq_nil_iff_forall_not_mem.2 fun i hi=> ?_
  obtain ⟨h1,h2,_⟩:=rdy_mem.1 hi
  have:=(h i h1).1 h2
  cases this
 |.alt i t u,p,rem,l,hp,_,_,_,_=>by simp only [PT.lst] at hp;cases hp
 |.one i t,p,rem,l,hp,hr,hf,hl,h=>by
  simp only [PT.lst,Option.map_eq_some_iff] at hp
  obtain ⟨p',hp',rfl⟩:=hp
  simp only [pickD] at hr
  split at hr
  ·rename_i d r h1 h2
   simp only [Option.some.injEq] at hr
   subst hr
   obtain ⟨q1,q2⟩:=pick_spec h2
   have inr: ∀ j,(r.any fun x=>x.1==j)=true↔j∈p':=fun j=>by
    rw [←q1]
    simp only [List.any_eq_true,beq_iff_eq,List.mem_map]
   simp only [planF,Bool.and_eq_true,decide_eq_true_eq,List.all_eq_true,Bool.not_eq_true',bne_iff_ne] at hf
   obtain ⟨⟨f1,f2,f3⟩,f4,f5⟩:=hf
   have hi0:l.getD i true=false:=(h i f1).2 (by simp)
   have hin:i ∉ p':=fun hm=>by rw [(inr i).2 hm] at f3;cases f3
   have hrd:i∈rdy ds l:=by
    refine rdy_mem.2 ⟨f1,hi0,d,h1,List.all_eq_true.2 fun q hq=> ?_⟩
    obtain ⟨g1,g2,g3⟩:=f2 q hq
    refine getD_tr (by omega) fun hc=> ?_
    rcases List.mem_cons.1 ((h q g1).1 hc) with e|hm
    ·exact g2 e
    ·rw [(inr q).2 hm] at g3
     cases g3
   have mem: ∀ j d',ds[j]? = some d'->l.getD j true=false->j≠i->(j,d')∈r:=by
    intro j d' hd hj hji
    have hjl:=(List.getElem?_eq_some_iff.1 hd).1
    rcases List.mem_cons.1 ((h j hjl).1 hj) with e|hm
    ·exact absurd e hji
    ·rw [←q1] at hm
     obtain ⟨x,hx,e⟩:=List.mem_map.1 hm
     obtain ⟨x1,x2⟩:=x
     simp only at e
     subst e
     have:=q2 _ hx
     rw [hd] at this
     injection this with this
     rw [this]
     exact hx
   simp only [planOk,Bool.and_eq_true,List.contains_iff_mem]
   refine ⟨⟨hrd, ?_⟩,plan_f t p' r (l.set i true) hp' h2 f5 (by simp [hl]) fun j hj=> ?_⟩
   ·rcases Bool.or_eq_true_iff.1 f4 with f4|f4
    ·rw [Bool.or_eq_true_iff]
     left
     simp only [Bool.and_eq_true,List.all_eq_true] at f4
     simp only [List.isEmpty_nil,Bool.true_and]
     unfold free
     rw [h1]
     simp only [Bool.and_eq_true,List.all_eq_true]
     refine ⟨f4.1,fun j _=> ?_⟩
     cases hd:ds[j]? with
     |none=>rfl
     |some d'=>
      simp only
      cases hj:l.getD j true with
      |true=>rfl
      |false=>
       by_cases hji:j=i
       ·simp [hji]
       ·have:=f4.2 _ (mem j d' hd hj hji)
        simp only [Bool.false_or,Bool.or_eq_true]
        rcases Bool.or_eq_true_iff.1 this with hc|hc
        ·right;left
         simp only [blk,hd,List.any_eq_true,Bool.or_eq_true,beq_iff_eq]
         exact ⟨i,by simpa using hc,.inl rfl⟩
        ·exact .inr (.inr (by simpa only [noC] using hc))
    ·rw [Bool.or_eq_true_iff]
     right
     refine List.all_eq_true.2 fun j hj=> ?_
     obtain ⟨j1,j2,d',j3,j4⟩:=rdy_mem.1 hj
     by_cases hji:j=i
     ·simp [hji]
     ·exfalso
      obtain ⟨q,hq,hc⟩:=List.any_eq_true.1 (List.all_eq_true.1 f4 _ (mem j d' j3 j2 hji))
      have hq1:=List.all_eq_true.1 j4 q hq
      have hqp:q=i∨q∈p':=by
       simp only [Bool.or_eq_true,beq_iff_eq] at hc
       exact hc.imp id fun hc=>(inr q).1 hc
      have hqf:l.getD q true=false:=by
       rcases hqp with e|hm
       ·rw [e];exact hi0
       ·rcases Nat.lt_or_ge q ds.length with hlt|hge
        ·exact (h q hlt).2 (List.mem_cons_of_mem _ hm)
        ·rw [←q1] at hm
         obtain ⟨x,hx,e⟩:=List.mem_map.1 hm
         have:=(List.getElem?_eq_some_iff.1 (q2 x hx)).1
         omega
      rw [getD_in hqf] at hq1
      cases hq1
   ·by_cases hji:j=i
    ·rw [hji]
     refine ⟨fun hc=> ?_,fun hm=>absurd hm hin⟩
     rw [List.getD_eq_getElem?_getD,List.getElem?_set_self (by omega)] at hc
     cases hc
    ·rw [getD_set_ne hji,h j hj,List.mem_cons]
     exact ⟨fun hc=>hc.resolve_left hji,.inr⟩
  ·cases hr
theorem plan_q {own:List Nat}{ds:List DO}{os:List (Nat×List Nat)}{t:PT}(h:planQ own ds os t=true):planOk own ds os t (List.replicate ds.length false) []=true:=by
 unfold planQ at h
 split at h
 ·rename_i p hp
  split at h
  ·rename_i l hl
   simp only [Bool.and_eq_true,List.all_eq_true,List.mem_range,List.contains_iff_mem] at h
   refine plan_f t p l _ hp hl h.2 (by simp) fun j hj=>⟨fun _=>h.1 j hj,fun _=> ?_⟩
   rw [List.getD_eq_getElem?_getD,List.getElem?_replicate]
   simp [hj]
  ·cases h
 ·cases h
theorem plan_any {β:Type}{g:G}{ds:List DO}{os:List (Nat×List Nat)}{K:VS->Option β}{r:β}{Q:VS->Prop}(hQ: ∀ S',K S'=some r->Q S'): ∀ {t:PT} {l:List Bool} {seen:List Nat} {S:VS},l.length=ds.length->planOk g.own ds os t l seen=true->evT g ds os t S K=some r->PAny g ds os Q seen t.depth l S
 |.nil,l,seen,S,hl,hp,h=>by
  simp only [planOk,List.isEmpty_iff] at hp
  exact ⟨fun _=>hQ S h,fun i hi=>by rw [hp] at hi;cases hi⟩
 |.one i t,l,seen,S,hl,hp,h=>by
  simp only [planOk,Bool.and_eq_true,Bool.or_eq_true,List.contains_iff_mem,List.isEmpty_iff] at hp
  obtain ⟨⟨p1,p2⟩,p4⟩:=hp
  simp only [evT] at h
  split at h
  ·rename_i d hd
   have h:=learn_some h
   rw [stepD_bind] at h
   obtain ⟨S',h1,h2⟩:=Option.bind_eq_some_iff.1 h
   have hrec:=jany_of_p (plan_any hQ (t:=t) (l:=l.set i true) (seen:=[]) (S:=S') (by simp [hl]) p4 h2)
   rcases p2 with ⟨p2,p3⟩|p2
   ·subst p2
    have hj:=jany_take hl hd p1 p3 h1 hrec
    exact ⟨hj.1,fun j hj' _ dj hdj=>by
     obtain ⟨S2,k1,k2⟩:=hj.2 j hj' dj hdj
     exact ⟨S2,k1,t.depth,Nat.le_refl _,k2⟩⟩
   ·refine ⟨(fun he=>by rw [he] at p1;cases p1),fun j hj hns dj hdj=> ?_⟩
    have:=List.all_eq_true.1 p2 j hj
    simp only [Bool.or_eq_true,beq_iff_eq,List.contains_iff_mem] at this
    rcases this with rfl|this
    ·rw [hd] at hdj
     injection hdj with hdj
     subst hdj
     exact ⟨S',h1,t.depth,Nat.le_refl _,hrec⟩
    ·exact absurd this hns
  ·cases h
 |.alt i t u,l,seen,S,hl,hp,h=>by
  simp only [planOk,Bool.and_eq_true,List.contains_iff_mem] at hp
  obtain ⟨p1,p2,p3⟩:=hp
  simp only [evT] at h
  obtain ⟨ha,hb⟩:=frk_some h
  have hu:=plan_any hQ (t:=u) (l:=l) (seen:=i::seen) (S:=S) hl p3 hb
  split at ha
  ·rename_i d hd
   have ha:=learn_some ha
   rw [stepD_bind] at ha
   obtain ⟨S',h1,h2⟩:=Option.bind_eq_some_iff.1 ha
   have hrec:=jany_of_p (plan_any hQ (t:=t) (l:=l.set i true) (seen:=[]) (S:=S') (by simp [hl]) p2 h2)
   refine ⟨hu.1,fun j hj hns dj hdj=> ?_⟩
   by_cases hji:j=i
   ·subst hji
    rw [hd] at hdj
    injection hdj with hdj
    subst hdj
    exact ⟨S',h1,t.depth,Nat.le_max_left _ _,hrec⟩
   ·obtain ⟨S2,k1,m,hm,k2⟩:=hu.2 j hj (by simp [hji,hns]) dj hdj
    exact ⟨S2,k1,m,Nat.le_trans hm (Nat.le_max_right _ _),k2⟩
  ·cases ha
section
variable {P:Program}{B:Base}{X X':Nat->Nat->Prop}{w w':World}{σ σ':Pl}{n:Nat}{S:VS}{us:List Value}
theorem rdy_eq {ops:Array Oper}{l:List Bool}:rdy (ops.toList.map (trD P ops)) l=Region.ready .any ops l.toArray:=by
 unfold rdy Region.ready
 simp only [List.length_map,Array.length_toList]
 refine List.filter_congr fun i hi=> ?_
 simp only [List.getElem?_map,Array.getElem?_toList,Option.map_map]
 have hl: ∀ j x,l.getD j x=l.toArray.getD j x:=fun j x=>by simp
 rw [hl]
 congr 1
 cases ops[i]? with
 |none=>rfl
 |some o=>
  simp only [Option.map_some,Option.getD_some,Function.comp,trD]
  rw [List.all_map,List.all_filter, ← Array.all_toList]
  congr 1
  funext e
  simp [Function.comp]
theorem jany_sound {g:G}{Q:Exit->VS->Prop}{ops:Array Oper}{os:List (Nat×List Nat)}(hg:GOk P g): ∀ (m:Nat) {l:List Bool} {S:VS} {X:Nat->Nat->Prop} {w:World} {σ:Pl} {us:List Value} {ro:Option Nat} {nn:Nat} {ms:List Nat},JAny g (ops.toList.map (trD P ops)) os (Q .normal) m l S->At (B.mk' ms) X w σ g.n S us->wpAnyIn (Fw ro) nn P .any ops (lift B g.n Q) m l.toArray ⟨us.toArray,mks ms⟩ w:=by
 intro m
 induction m with
 |zero=>
  intro l S X w σ us ro nn ms h ha
  simp only [JAny,rdy_eq] at h
  exact ⟨h.1,S,X,σ,us,ms,ha,rfl,h.2⟩
 |succ m ih=>
  intro l S X w σ us ro nn ms h ha
  simp only [JAny,rdy_eq] at h
  refine ⟨fun he=>⟨S,X,σ,us,ms,ha,rfl,h.1 he⟩,fun i hir=> ?_⟩
  have hlt:i<ops.size:=by
   simp only [Region.ready,List.mem_filter,List.mem_range] at hir
   exact hir.1
  have ho:ops[i]? = some ops[i]:=Array.getElem?_eq_getElem hlt
  obtain ⟨S',h1,h2⟩:=h.2 i hir (trD P ops ops[i]) (by simp [ho])
  have h3:=stepD_run h1
  unfold wpOpIn
  rw [ho]
  simp only
  rcases ro_sound hg h3 (ops:=ops) (o:=ops[i]) rfl ha with ⟨hw,hrun⟩|⟨hw,S2,e1,e2⟩
  ·rw [if_pos hw]
   refine hrun fun S2 X' w' σ' us' ha' hk=> ?_
   injection hk with hk
   subst hk
   have:=ih (ro:=ro) (nn:=nn) h2 ha'
   simpa using this
  ·rw [if_neg (by rw [hw];simp),put_eq]
   injection e1 with e1
   subst e1
   have:=ih (ro:=ro) (nn:=nn) h2 e2
   exact ⟨fun _ _=>trivial,by simpa using this⟩
theorem At.drew (h:At B X w σ n S us):At B X w.drew σ n S us:=by
 have ex:Ext X w X w.drew:=⟨Nat.le_refl _,fun _ _ _ h=>⟨h,rfl⟩,fun _ _ _=>rfl⟩
 refine ⟨⟨h.ti.fin,fun k=> ?_,h.ti.apart,h.ti.own,h.ti.fr.step (Fr.drew [] w) (by simp),h.ti.old,h.ti.lnt,zz_ext h.ti.zz ex,h.ti.zn,h.ti.ex.trans ex.weak⟩,h.rel.step ex fun i=> .inl ⟨rfl,fun _ _=>rfl⟩,h.dom⟩
 exact (h.ti.obj k).ext ex rfl (fun _ _=>rfl) fun b _=>⟨rfl,fun _ hq=>hq⟩
theorem evD_sound {β:Type}{ro:Option Nat}{g:G}{ds:List DO}{os:List (Nat×List Nat)}{t:PT}{K:VS->Option β}{r:β}{Q:Exit->VS->Prop}(hg:GOk P g)(hm:P.follows .mixedOrders=true)(h:evD g ds os t S K=some r)(hQ: ∀ S',K S'=some r->Q .normal S'):JV P B g.n ro Q (.dr ds) S:=by
 unfold evD at h
 split at h
 ·rename_i hp
  simp only [Bool.and_eq_true,Bool.or_eq_true,decide_eq_true_eq] at hp
  have hj:=jany_more ds.length (jany_of_p (plan_any (Q:=Q .normal) hQ (by simp) (hp.1.elim plan_q id) h)) hp.2
  intro c hc nn X w σ us ms ha
  cases c with
  |region id ops d=>
   cases d with
   |false=>simp [trC] at hc
   |true=>
    simp only [trC,AC.dr.injEq] at hc
    subst hc
    refine wpIn_region_any hm ?_
    have:=jany_sound (B:=B) hg _ (ro:=ro) (nn:=nn) hj ha.drew
    simpa using this
  |cond x a b=>simp only [trC] at hc;split at hc<;>cases hc
  |rangeFunc x p a b=>simp only [trC] at hc;split at hc<;>cases hc
  |_=>simp [trC] at hc
 ·cases h
end
end Go.Proofs.YtmokmalepelinaaGreatDoor.K
/-
 Blocks that are no cells,and that a run leaves alone:the records of ranges over functions,and their marks.
-/
namespace Go.Proofs.YtmokmalepelinaaGreatDoor.K
open Go.RowKit
section
variable {P:Program}{X:Nat->Nat->Prop}{w w0:World}{σ pl:Pl}{n:Nat}{S:VS}{us:List Value}{X0 X1:Nat->Nat->Prop}{w1:World}{lent:List Nat}{z z' z1 z2:List (Nat×Obj)}
theorem At.subz (h:At ⟨X0,w0,lent,pl,z,X1,w1⟩ X w σ n S us)(hz:z'.Sublist z):At ⟨X0,w0,lent,pl,z',X1,w1⟩ X w σ n S us:=
 ⟨⟨h.ti.fin,h.ti.obj,h.ti.apart,h.ti.own,h.ti.fr,h.ti.old,h.ti.lnt,fun p hp=>h.ti.zz p (hz.subset hp),⟨(hz.map _).nodup h.ti.zn.1,fun p hp=>h.ti.zn.2 p (hz.subset hp)⟩,h.ti.ex⟩,h.rel,h.dom⟩
theorem At.addz (h:At ⟨X0,w0,lent,pl,z,X1,w1⟩ X w σ n S us){D:Nat}{o:Obj}(h1:w.heap[D]? = some o)(h2: ∀ q, ¬ X D q)(h3:w0.heap.size<=D)(h4:D ∉ z.map Prod.fst):At ⟨X0,w0,lent,pl,(D,o)::z,X1,w1⟩ X w σ n S us:=
 ⟨⟨h.ti.fin,h.ti.obj,h.ti.apart,h.ti.own,h.ti.fr,h.ti.old,h.ti.lnt,fun p hp=>by
  rcases List.mem_cons.1 hp with rfl|hp
  ·exact ⟨h1,h2⟩
  ·exact h.ti.zz p hp,by
  refine ⟨?_,fun p hp=> ?_⟩
  ·simp only [List.map_cons]
   exact List.nodup_cons.2 ⟨h4,h.ti.zn.1⟩
  ·rcases List.mem_cons.1 hp with rfl|hp
   ·exact h3
   ·exact h.ti.zn.2 p hp,h.ti.ex⟩,h.rel,h.dom⟩
theorem putObj_other {w:World}{l k:Nat}{o:Obj}(h:k≠l):(w.putObj l o).heap[k]? = w.heap[k]? :=World.putObj_heap_other h
theorem putObj_cell {w:World}{l:Nat}{o o':Obj}(h:w.heap[l]? = some o)(h1:o.isCells=false)(h2:o'.isCells=false)(a:Addr):(w.putObj l o').cell? a=w.cell? a:=by
 have nc: ∀ x:Obj,x.isCells=false→ ∀ y:World,y.heap[l]? = some x->a.block=l->y.cell? a=none:=by
  intro x hx y hy ha
  unfold World.cell?
  rw [ha,hy]
  cases x<;>first|rfl|cases hx
 by_cases ha:a.block=l
 ·rw [nc o' h2 _ (World.putObj_heap_same (Array.getElem?_eq_some_iff.1 h).1) ha,nc o h1 _ h ha]
 ·exact World.cell?_of_block (putObj_other ha)
theorem At.putz {D:Nat}{o o':Obj}(h:At ⟨X0,w0,lent,pl,z1++(D,o)::z2,X1,w1⟩ X w σ n S us)(hc:o.isCells=false)(hc':o'.isCells=false):At ⟨X0,w0,lent,pl,z1++(D,o')::z2,X1,w1⟩ X (w.putObj D o') σ n S us:=by
 have hm:(D,o)∈z1++(D,o)::z2:=by simp
 obtain ⟨hD,hX⟩:=h.ti.zz _ hm
 have hDl:=(Array.getElem?_eq_some_iff.1 hD).1
 have hge:=h.ti.zn.2 _ hm
 have ex:Ext0 X w X (w.putObj D o'):=⟨by simp [World.putObj],fun b q hb hx=>⟨hx,putObj_cell hD hc hc' _⟩⟩
 have ne: ∀ k b,S.st k≠ .no->(σ k).blk=some b->b≠D:=fun k b hk hb he=>hX 0 (he▸(h.ti.obj k).all hk hb 0)
 refine ⟨⟨fun b q hb=>Nat.lt_of_lt_of_le (h.ti.fin b q hb) ex.size,fun k=> ?_,h.ti.apart,h.ti.own, ?_,h.ti.old,h.ti.lnt,fun p hp=> ?_,⟨?_,fun p hp=> ?_⟩,h.ti.ex.trans ex⟩,h.rel.step0 ex fun i=> .inl ⟨rfl,fun _ _=>rfl⟩,h.dom⟩
 ·by_cases hn:S.st k= .no
  ·rw [hn];trivial
  ·exact (h.ti.obj k).ext0 ex rfl (fun _ _=>rfl) fun b hb=>⟨putObj_other (ne k b hn hb),fun q hq=>hq⟩
 ·refine ⟨h.ti.fr.os,h.ti.fr.tape,h.ti.fr.output,Nat.le_trans h.ti.fr.size ex.size,fun b hb hl=> ?_⟩
  rw [putObj_other (Nat.ne_of_lt (Nat.lt_of_lt_of_le hb hge))]
  exact h.ti.fr.keep b hb hl
 ·have nd:=h.ti.zn.1
  simp only [List.map_append,List.map_cons] at nd
  rw [List.nodup_append] at nd
  obtain ⟨_,nd2,nd3⟩:=nd
  rw [List.nodup_cons] at nd2
  rcases List.mem_append.1 hp with hp|hp
  ·have:=h.ti.zz p (List.mem_append.2 (.inl hp))
   exact ⟨(putObj_other (fun he=>nd3 _ (List.mem_map_of_mem (f:=Prod.fst) hp) D (by simp) he)).trans this.1,this.2⟩
  ·rcases List.mem_cons.1 hp with rfl|hp
   ·exact ⟨World.putObj_heap_same hDl,hX⟩
   ·have:=h.ti.zz p (List.mem_append.2 (.inr (List.mem_cons_of_mem _ hp)))
    exact ⟨(putObj_other (fun he:p.1=D=>nd2.1 (by rw [←he];exact List.mem_map_of_mem (f:=Prod.fst) hp))).trans this.1,this.2⟩
 ·have nd:=h.ti.zn.1
  simpa using nd
 ·rcases List.mem_append.1 hp with hp|hp
  ·exact h.ti.zn.2 p (List.mem_append.2 (.inl hp))
  ·rcases List.mem_cons.1 hp with rfl|hp
   ·exact hge
   ·exact h.ti.zn.2 p (List.mem_append.2 (.inr (List.mem_cons_of_mem _ hp)))
theorem marks_end: ∀ {ms:List Nat} {w:World},At ((⟨X0,w0,lent,pl,[],X1,w1⟩:Base).mk' ms) X w σ n S us→
  ∃ w',At ⟨X0,w0,lent,pl,[],X1,w1⟩ X w' σ n S us∧ ∀ {F:Fence} {nn:Nat} {fn:Func} {tmps:Array Value} {R:Ending->World->Prop},(∃ v,(results fn tmps).run P w'= .ok v w'/\R (.returned v) w')->LeavesInM F nn P fn tmps R (mks ms) .returning w
 | [],w,h=>⟨w,h,fun hr=>hr⟩
 |D::ms,w,h=>by
  have h':At ⟨X0,w0,lent,pl,[]++(D,.deferred (some []))::(ms.map fun D=>(D,.deferred (some []))),X1,w1⟩ X w σ n S us:=h
  have hz:=h'.ti.zz (D,.deferred (some [])) (by simp)
  have h2:=h'.putz (o':= .deferred none) rfl rfl
  have h3:At ((⟨X0,w0,lent,pl,[],X1,w1⟩:Base).mk' ms) X (w.putObj D (.deferred none)) σ n S us:=h2.subz (List.sublist_cons_self _ _)
  obtain ⟨w',k1,k2⟩:=marks_end h3
  exact ⟨w',k1,fun hr=>⟨by simp,.inl ⟨D,_,rfl,run_takeDeferred hz.1,k2 hr⟩⟩⟩
theorem At.grow (h:At ⟨X0,w0,lent,pl,z,X1,w1⟩ X w σ n S us){w':World}(hb:Below w.heap.size w w'):At ⟨X0,w0,lent,pl,z,X1,w1⟩ X w' σ n S us:=by
 have ex:Ext X w X w':=⟨hb.size,fun b q hq hx=>⟨hx,World.cell?_of_block (w:=w) (a:=⟨b,q,none⟩) (hb.block b hq)⟩,fun b hq _=>hb.block b hq⟩
 refine ⟨⟨fun b q hq=>Nat.lt_of_lt_of_le (h.ti.fin b q hq) hb.size,fun k=> ?_,h.ti.apart,h.ti.own,⟨hb.os.trans h.ti.fr.os,hb.tape.trans h.ti.fr.tape,hb.output.trans h.ti.fr.output,Nat.le_trans h.ti.fr.size hb.size,fun b hq hl=>(hb.block b (Nat.lt_of_lt_of_le hq h.ti.fr.size)).trans (h.ti.fr.keep b hq hl)⟩,h.ti.old,h.ti.lnt,zz_ext h.ti.zz ex,h.ti.zn,h.ti.ex.trans ex.weak⟩,h.rel.step ex fun i=> .inl ⟨rfl,fun _ _=>rfl⟩,h.dom⟩
 by_cases hn:S.st k= .no
 ·rw [hn];trivial
 ·exact (h.ti.obj k).ext ex rfl (fun _ _=>rfl) fun b hq=>⟨hb.block b ((h.ti.obj k).lt hn hq),fun q hq=>hq⟩
theorem At.since (h:At ⟨X0,w0,lent,pl,z,X1,w1⟩ X w σ n S us):At ⟨X0,w0,lent,pl,z,X,w⟩ X w σ n S us:=
 ⟨⟨h.ti.fin,h.ti.obj,h.ti.apart,h.ti.own,h.ti.fr,h.ti.old,h.ti.lnt,h.ti.zz,h.ti.zn,⟨Ext0.refl X w,h.ti.ex.tab⟩⟩,h.rel,h.dom⟩
theorem At.before {X2:Nat->Nat->Prop}{w2:World}(h:At ⟨X0,w0,lent,pl,z,X2,w2⟩ X w σ n S us)(e:Ext0 X1 w1 X2 w2):At ⟨X0,w0,lent,pl,z,X1,w1⟩ X w σ n S us:=
 ⟨⟨h.ti.fin,h.ti.obj,h.ti.apart,h.ti.own,h.ti.fr,h.ti.old,h.ti.lnt,h.ti.zz,h.ti.zn,⟨e.trans h.ti.ex.toExt0,h.ti.ex.tab⟩⟩,h.rel,h.dom⟩
theorem At.rem (h:At ⟨X0,w0,lent,pl,z,X1,w1⟩ X w σ n S us){ks:List Nat}(hk: ∀ k∈ks,k<50000/\S.st k≠ .no):
  At ⟨X0,w0,lent,pl,z,X1,w1⟩ (fun b q=>X b q∧ ∀ k∈ks,(σ k).blk≠some b) w σ n (S.rem ks) us:=by
 have ex:Ext X w (fun b q=>X b q∧ ∀ k∈ks,(σ k).blk≠some b) w:=⟨Nat.le_refl _,fun b q _ hx=>⟨fun hx'=>hx hx'.1,rfl⟩,fun _ _ _=>rfl⟩
 have st: ∀ k,(S.rem ks).st k≠ .no->S.st k≠ .no/\k ∉ ks/\(S.rem ks).st k=S.st k:=by
  intro k hn
  simp only [VS.rem] at hn ⊢
  split at hn
  ·exact absurd rfl hn
  ·rename_i hc
   exact ⟨hn,fun hm=>hc (by simpa using hm),if_neg hc⟩
 refine ⟨⟨fun b q hq=>h.ti.fin b q hq.1,fun k=> ?_,fun i j b hij hi hj=>h.ti.apart i j b hij (st i hi).1 (st j hj).1,fun k b hn=>h.ti.own k b (st k hn).1,h.ti.fr,fun b q hb=>⟨fun hx=>(h.ti.old b q hb).1 hx.1,fun hl hx=>⟨(h.ti.old b q hb).2 hl hx,fun k hkm hkb=> ?_⟩⟩,h.ti.lnt,zz_ext h.ti.zz ex,h.ti.zn,h.ti.ex.trans ex.weak⟩,h.rel.step ex fun i=> .inl ⟨rfl,fun _ _=>rfl⟩,fun j hj=>h.dom j (st j hj).1⟩
 ·by_cases hn:(S.rem ks).st k= .no
  ·rw [hn];trivial
  ·obtain ⟨q1,q2,q3⟩:=st k hn
   rw [q3]
   exact (h.ti.obj k).ext ex rfl (fun _ _=>rfl) fun b hb=>⟨rfl,fun q hq=>⟨hq,fun k' hk' hb'=>h.ti.apart k k' b (fun he=>q2 (he▸hk')) q1 (hk k' hk').2 hb hb'⟩⟩
 ·rcases h.ti.own k b (hk k hkm).2 hkb with q|q
  ·exact hl q
  ·exact absurd hb (Nat.not_lt_of_le q)
def psig (σ:Pl)(pr:List Nat):Pl:=fun k=>if 60000<=k/\k-60000<pr.length then σ (pr.getD (k-60000) 0) else σ k
theorem prk_in {pr:List Nat}{k:Nat}(h:k∈pr):prk pr k=60000+pr.idxOf k:=if_pos (by simpa using h)
theorem prk_out {pr:List Nat}{k:Nat}(h:k ∉ pr):prk pr k=k:=if_neg (by simpa using h)
theorem idx_lt {pr:List Nat}{k:Nat}(h:k∈pr):pr.idxOf k<pr.length:=List.idxOf_lt_length_of_mem h
theorem prb_prk {pr:List Nat}{k:Nat}(hk: ¬ (60000<=k/\k-60000<pr.length)):prb pr (prk pr k)=k:=by
 by_cases h:k∈pr
 ·have:=idx_lt h
  rw [prk_in h,prb,if_pos ⟨by omega,by omega⟩,show 60000+pr.idxOf k-60000=pr.idxOf k from by omega,List.getD_eq_getElem?_getD,List.getElem?_eq_getElem this]
  simp
 ·rw [prk_out h,prb,if_neg hk]
theorem prk_prb {pr:List Nat}(hnd:pr.Nodup)(hlow: ∀ k∈pr,k<50000){k:Nat}(hk:k ∉ pr):prk pr (prb pr k)=k:=by
 unfold prb
 split
 ·rename_i h
  have hi:=List.getElem?_eq_getElem (l:=pr) (i:=k-60000) h.2
  rw [List.getD_eq_getElem?_getD,hi]
  simp only [Option.getD_some]
  rw [prk_in (List.getElem_mem _),idxOf_nodup hnd hi]
  omega
 ·exact prk_out hk
theorem psig_prk {pr:List Nat}{k:Nat}(hk:k∈pr∨k<60000):psig σ pr (prk pr k)=σ k:=by
 by_cases h:k∈pr
 ·have:=idx_lt h
  rw [prk_in h,psig,if_pos ⟨by omega,by omega⟩,show 60000+pr.idxOf k-60000=pr.idxOf k from by omega,List.getD_eq_getElem?_getD,List.getElem?_eq_getElem this]
  simp
 ·rw [prk_out h,psig,if_neg]
  have:=hk.resolve_left h
  omega
theorem At.prot (h:At ⟨X0,w0,lent,pl,z,X1,w1⟩ X w σ n S us){pr:List Nat}(hok:protOk S pr=true):At ⟨X0,w0,lent,psig σ pr,z,X1,w1⟩ X w (psig σ pr) n (S.prot pr) us:=by
 simp only [protOk,Bool.and_eq_true,decide_eq_true_eq,List.all_eq_true] at hok
 obtain ⟨⟨hnd,hlow⟩,hcl⟩:=hok
 have hlow': ∀ k∈pr,k<50000:=fun k hk=>(hlow k hk).1
 -- a live thing
 have live: ∀ k,(S.prot pr).st k≠ .no->k ∉ pr/\S.st (prb pr k)≠ .no/\prb pr k<60000/\prk pr (prb pr k)=k/\psig σ pr k=σ (prb pr k):=by
  intro k hn
  simp only [VS.prot] at hn
  split at hn
  ·exact absurd rfl hn
  ·rename_i hc
   have hc:k ∉ pr:=fun hm=>hc (by simpa using hm)
   have hn':S.st (prb pr k)≠ .no:=fun he=>hn (by rw [he];rfl)
   have hd:=hcl _ (h.dom _ hn')
   have e:=prk_prb hnd hlow' hc
   refine ⟨hc,hn',hd.1,e, ?_⟩
   rw [←psig_prk (σ:=σ) (pr:=pr) (k:=prb pr k) (.inr hd.1),e]
 refine ⟨⟨h.ti.fin,fun k=> ?_,fun i j b hij hi hj hb=> ?_,fun k b hn hb=> ?_,h.ti.fr,h.ti.old,fun k _=>rfl,h.ti.zz,h.ti.zn,h.ti.ex⟩,⟨h.rel.len,fun i u hu=> ?_,fun i hi=> ?_⟩,fun j hj=> ?_⟩
 ·by_cases hn:(S.prot pr).st k= .no
  ·rw [hn];trivial
  ·obtain ⟨q1,q2,q3,q4,q5⟩:=live k hn
   have hst:(S.prot pr).st k=(S.st (prb pr k)).ren (prk pr):=if_neg (by simpa using q1)
   rw [hst]
   have:=ren_oat (f:=prk pr) (σ':=psig σ pr) (h.ti.obj (prb pr k)) (by rw [q4,q5]) (fun r hr=>psig_prk (.inr ((hcl _ (h.dom _ q2)).2 r hr)))
   rw [q4] at this
   exact this
 ·obtain ⟨_,q2,_,q4,q5⟩:=live i hi
  obtain ⟨_,p2,_,p4,p5⟩:=live j hj
  rw [q5] at hb
  rw [p5]
  exact h.ti.apart _ _ b (fun he=>hij (by rw [←q4, ← p4,he])) q2 p2 hb
 ·obtain ⟨q1,q2,q3,q4,q5⟩:=live k hn
  rw [q5] at hb
  exact h.ti.own _ b q2 hb
 ·simp only [VS.prot]
  split
  ·rename_i hc
   refine ren_c _ u (fun r hr=>psig_prk ?_) (h.rel.at_ i u hu)
   have:=List.all_eq_true.1 hc r hr
   simp only [Bool.or_eq_true,List.contains_iff_mem,decide_eq_true_eq] at this
   rcases this with q|q
   ·exact .inl q
   ·exact .inr q.2
  ·exact C.any_ u
 ·simp only [VS.prot,h.rel.out i hi]
  split<;>rfl
 ·obtain ⟨q1,q2,q3,q4,q5⟩:=live j hj
  exact List.mem_map.2 ⟨_,h.dom _ q2,q4⟩
theorem At.unprot {S2:VS}{us0:List Value}{z0:List (Nat×Obj)}{σ0:Pl}{Y Y1:Nat->Nat->Prop}{v v1:World}(h0:At ⟨X0,w0,lent,pl,z0,Y1,v1⟩ Y v σ0 n S us0){pr:List Nat}(hok:protOk S pr=true)(h:At ⟨X0,w0,lent,psig σ0 pr,z,X1,w1⟩ X w σ n S2 us)(hok2:unprotOk S2 pr=true):
  ∃ σ3,At ⟨X0,w0,lent,pl,z,X1,w1⟩ X w σ3 n (S2.unprot pr) us:=by
 simp only [protOk,Bool.and_eq_true,decide_eq_true_eq,List.all_eq_true] at hok
 obtain ⟨⟨hnd,hlow⟩,hcl⟩:=hok
 have hlow': ∀ k∈pr,k<50000:=fun k hk=>(hlow k hk).1
 simp only [unprotOk,Bool.and_eq_true,List.all_eq_true,Bool.not_eq_true'] at hok2
 obtain ⟨hno,hrf⟩:=hok2
 let σ3:Pl:=fun k=>if 60000<=k/\k-60000<pr.length then pl k else σ (prk pr k)
 have s3: ∀ r,r ∉ pr->σ3 (prb pr r)=σ r:=by
  intro r hr
  by_cases hc:60000<=r/\r-60000<pr.length
  ·have hp:prb pr r=pr.getD (r-60000) 0:=if_pos hc
   have hm:prb pr r∈pr:=by
    rw [hp,List.getD_eq_getElem?_getD,List.getElem?_eq_getElem hc.2]
    exact List.getElem_mem _
   have:=hlow' _ hm
   show (if 60000<=prb pr r/\prb pr r-60000<pr.length then pl (prb pr r) else σ (prk pr (prb pr r)))=σ r
   rw [if_neg (by omega),prk_prb hnd hlow' hr]
  ·have hp:prb pr r=r:=if_neg hc
   show (if 60000<=prb pr r/\prb pr r-60000<pr.length then pl (prb pr r) else σ (prk pr (prb pr r)))=σ r
   rw [hp,if_neg hc,prk_out hr]
 have live: ∀ k,(S2.unprot pr).st k≠ .no→ ¬ (60000<=k/\k-60000<pr.length)/\S2.st (prk pr k)≠ .no/\σ3 k=σ (prk pr k)/\prb pr (prk pr k)=k:=by
  intro k hn
  simp only [VS.unprot] at hn
  split at hn
  ·exact absurd rfl hn
  ·rename_i hc
   exact ⟨hc,fun he=>hn (by rw [he];rfl),if_neg hc,prb_prk hc⟩
 refine ⟨σ3,⟨h.ti.fin,fun k=> ?_,fun i j b hij hi hj hb=> ?_,fun k b hn hb=> ?_,h.ti.fr,h.ti.old,fun k hk=> ?_,h.ti.zz,h.ti.zn,h.ti.ex⟩,⟨h.rel.len,fun i u hu=> ?_,fun i hi=> ?_⟩,fun j hj=> ?_⟩
 ·by_cases hn:(S2.unprot pr).st k= .no
  ·rw [hn];trivial
  ·obtain ⟨q1,q2,q3,q4⟩:=live k hn
   have hst:(S2.unprot pr).st k=(S2.st (prk pr k)).ren (prb pr):=if_neg q1
   rw [hst]
   have:=ren_oat (f:=prb pr) (σ':=σ3) (h.ti.obj (prk pr k)) (by rw [q4,q3]) (fun r hr=>s3 r (fun hm=>by
    have:=hrf _ (h.dom _ q2) r hr
    rw [List.contains_iff_mem.2 hm] at this
    cases this))
   rw [q4] at this
   exact this
 ·obtain ⟨q1,q2,q3,q4⟩:=live i hi
  obtain ⟨p1,p2,p3,p4⟩:=live j hj
  rw [q3] at hb
  rw [p3]
  exact h.ti.apart _ _ b (fun he=>hij (by rw [←q4, ← p4,he])) q2 p2 hb
 ·obtain ⟨q1,q2,q3,q4⟩:=live k hn
  rw [q3] at hb
  by_cases hk:k∈pr
  ·have hl:=h.ti.lnt (prk pr k) (by rw [prk_in hk];simp only [lentK];omega)
   have hl:σ (prk pr k)=psig σ0 pr (prk pr k):=hl
   rw [hl] at hb
   have e:psig σ0 pr (prk pr k)=σ0 k:=psig_prk (.inl hk)
   rw [e] at hb
   have hlv:=(hlow k hk).2
   exact h0.ti.own k b (fun he=>by rw [he] at hlv;simp [VO.isNo] at hlv) hb
  ·rw [prk_out hk] at hb q2
   exact h.ti.own k b q2 hb
 ·by_cases hc:60000<=k/\k-60000<pr.length
  ·exact if_pos hc
  ·have hkp:k ∉ pr:=fun hm=>by have:=hlow' k hm;simp only [lentK] at hk;omega
   have e1:σ3 k=σ (prk pr k):=if_neg hc
   rw [e1,prk_out hkp,h.ti.lnt k hk]
   show (if 60000<=k/\k-60000<pr.length then _ else σ0 k)=pl k
   rw [if_neg hc]
   exact h0.ti.lnt k hk
 ·simp only [VS.unprot]
  split
  ·rename_i hc
   refine ren_c _ u (fun r hr=>s3 r fun hm=> ?_) (h.rel.at_ i u hu)
   have:=List.all_eq_true.1 hc r hr
   rw [List.contains_iff_mem.2 hm] at this
   cases this
  ·exact C.any_ u
 ·simp only [VS.unprot,h.rel.out i hi]
  split<;>rfl
 ·obtain ⟨q1,q2,q3,q4⟩:=live j hj
  exact List.mem_map.2 ⟨_,h.dom _ q2,q4⟩
end
end Go.Proofs.YtmokmalepelinaaGreatDoor.K
/-
 A range over a function does what is said of it.
-/
namespace Go.Proofs.YtmokmalepelinaaGreatDoor.K
open Go.RowKit
section
variable {P:Program}{B:Base}{X:Nat->Nat->Prop}{w:World}{σ:Pl}{n:Nat}{S:VS}{us:List Value}
theorem wpIn_nn {ro:Option Nat}{m nn:Nat}{c:Code}{Q:Exit->Act->World->Prop}{a:Act}(h:c.wpIn (Fw ro) m P Q a w):c.wpIn (Fw ro) nn P Q a w:=
 fun b k cs hro hb _=>h b k cs hro hb (fun d hd=>by cases hd)
theorem At.mk0 (h:At B X w σ n S us):At (B.mk' []) X w σ n S us:=by
 have:B.mk' []=B:=by
  unfold Base.mk'
  simp
 rw [this]
 exact h
theorem At.memz {X0 X1:Nat->Nat->Prop}{w0 w1:World}{lent:List Nat}{pl:Pl}{z z':List (Nat×Obj)}(h:At ⟨X0,w0,lent,pl,z,X1,w1⟩ X w σ n S us)(hz: ∀ p∈z',p∈z)(hn:(z'.map Prod.fst).Nodup):At ⟨X0,w0,lent,pl,z',X1,w1⟩ X w σ n S us:=
 ⟨⟨h.ti.fin,h.ti.obj,h.ti.apart,h.ti.own,h.ti.fr,h.ti.old,h.ti.lnt,fun p hp=>h.ti.zz p (hz p hp),⟨hn,fun p hp=>h.ti.zn.2 p (hz p hp)⟩,h.ti.ex⟩,h.rel,h.dom⟩
theorem itS_core {g:G}(hg:GOk P g){f':Nat}{caps:List V}{ks:List Nat}{yr:Ty}{rows:List yr.T}(hl:S.lends caps ks=true)(hI:g.I f' (V.rens (rk ks) caps) (ks.map fun k=>(S.st k).ren (rk ks))=some (true,⟨yr,rows⟩))
  {X0 X1:Nat->Nat->Prop} {w0 w1:World} {lent:List Nat} {pl:Pl} {z:List (Nat×Obj)} (ha:At ⟨X0,w0,lent,pl,z,X1,w1⟩ X w σ n S us) {lb:List Value} (hcs:Cs X w σ (V.ds caps) lb):
  (∀ args w,(callFunc (itB f') args).run P w= .ok (.enter (itB f') args) w)∧ ∃ encs,RowsAt X w yr rows encs/\ItOk P (itB f') lb encs (fun b q=>X b q/\(1000000<=f'∨ ∀ k∈ks,(σ k).blk≠some b)) w:=by
 simp only [VS.lends,Bool.and_eq_true,List.all_eq_true,List.contains_iff_mem,decide_eq_true_eq] at hl
 obtain ⟨l1,l2,l3⟩:=hl
 have live: ∀ k∈ks,S.st k≠ .no:=fun k hk hn=>by have:=(l3 k hk).1;rw [hn] at this;cases this
 let ρ:Pl:=fun k=>if 50000<=k/\k-50000<ks.length then σ (ks.getD (k-50000) 0) else .no
 have ρ1: ∀ (i:Nat) k,ks[i]? = some k->ρ (50000+i)=σ k:=by
  intro i k hi
  have hlt:=(List.getElem?_eq_some_iff.1 hi).1
  have:50000+i-50000=i:=by omega
  simp only [ρ,this]
  rw [if_pos ⟨by omega,hlt⟩,List.getD_eq_getElem?_getD,hi]
  rfl
 have ρ2: ∀ k∈ks,ρ (rk ks k)=σ k:=by
  intro k hk
  obtain ⟨i,hi⟩:=List.mem_iff_getElem?.1 hk
  rw [rk,idxOf_nodup l1 hi]
  exact ρ1 i k hi
 have hlen:(ks.map fun k=>(S.st k).ren (rk ks)).length=ks.length:=List.length_map _
 have hlent:Lent X w ρ (ks.map fun k=>(S.st k).ren (rk ks)):=by
  refine ⟨fun j o hj=> ?_,fun i j b hij hi hj hb hb'=> ?_⟩
  ·simp only [List.getElem?_map,Option.map_eq_some_iff] at hj
   obtain ⟨k,hk,rfl⟩:=hj
   have hkm:=List.mem_of_getElem? hk
   refine ⟨?_,ren_no (live k hkm)⟩
   have:=ren_oat (σ':=ρ) (f:=rk ks) (ha.ti.obj k) (ρ2 k hkm) (fun r hr=>ρ2 r ((l3 k hkm).2 r hr))
   rw [rk,idxOf_nodup l1 hk] at this
   exact this
  ·rw [hlen] at hi hj
   have hi':=List.getElem?_eq_getElem hi
   have hj':=List.getElem?_eq_getElem hj
   rw [ρ1 _ _ hi'] at hb
   rw [ρ1 _ _ hj'] at hb'
   refine ha.ti.apart ks[i] ks[j] b (fun he=>hij ?_) (live _ (List.getElem_mem hi)) (live _ (List.getElem_mem hj)) hb hb'
   exact (List.getElem_inj l1).1 he
 obtain ⟨it1,it2⟩:=hg.2 f' _ _ _ hI
 obtain ⟨encs,h1,h2⟩:=it2 _ _ yr rows hI X w ρ lb ha.ti.fin hlent (ren_cs caps lb (fun k hk=>ρ2 k (l2 k hk)) hcs)
 have hX:(fun b q=>X b q/\(1000000<=f'∨ ∀ j,j<(ks.map fun k=>(S.st k).ren (rk ks)).length->(ρ (50000+j)).blk≠some b))=fun b q=>X b q/\(1000000<=f'∨ ∀ k∈ks,(σ k).blk≠some b):=by
  funext b q
  refine propext ⟨fun hx=>⟨hx.1,hx.2.imp id fun hx k hk hb=> ?_⟩,fun hx=>⟨hx.1,hx.2.imp id fun hx j hj hb=> ?_⟩⟩
  ·obtain ⟨i,hi⟩:=List.mem_iff_getElem?.1 hk
   exact hx i (by rw [hlen];exact (List.getElem?_eq_some_iff.1 hi).1) (by rw [ρ1 i k hi];exact hb)
  ·rw [hlen] at hj
   have hj':=List.getElem?_eq_getElem hj
   rw [ρ1 _ _ hj'] at hb
   exact hx _ (List.getElem_mem hj) hb
 rw [hX] at h2
 exact ⟨it1,encs,h1,h2⟩
theorem itS_sound {g:G}(hg:GOk P g){v:V}{u:Value}{S1:VS}{yr:Ty}{rows:List yr.T}(h:itS g S v=some (S1,true,⟨yr,rows⟩)){X0 X1:Nat->Nat->Prop}{w0 w1:World}{lent:List Nat}{pl:Pl}{z:List (Nat×Obj)}
  (ha:At ⟨X0,w0,lent,pl,z,X1,w1⟩ X w σ n S us) (hc:C X w σ v.d u):
  ∃ gf lb encs Xf,u= .func (.func gf) #[] (List.toArray lb)/\(∀ args w,(callFunc gf args).run P w= .ok (.enter gf args) w)/\RowsAt Xf w yr rows encs/\ItOk P gf lb encs Xf w/\At ⟨X0,w0,lent,pl,z,X1,w1⟩ Xf w σ n S1 us:=by
 unfold itS at h
 split at h
 ·rename_i gf caps
  generalize S.reach 20 (V.refss caps) []=ks at h
  simp only [V.d,C] at hc
  obtain ⟨lb,rfl,hcs⟩:=hc
  split at h
  ·rename_i hl
   split at h
   ·rename_i q r hI
    simp only [Option.some.injEq,Prod.mk.injEq] at h
    obtain ⟨rfl,rfl,rfl⟩:=h
    simp only [Bool.and_eq_true,decide_eq_true_eq] at hl
    obtain ⟨hgf,hl,l4⟩:=hl
    have l4: ∀ k∈ks,k<50000:=fun k hk=>of_decide_eq_true (List.all_eq_true.1 l4 k hk)
    obtain ⟨it1,encs,h1,h2⟩:=itS_core hg hl hI ha hcs
    simp only [VS.lends,Bool.and_eq_true,List.all_eq_true,List.contains_iff_mem,decide_eq_true_eq] at hl
    obtain ⟨l1,l2,l3⟩:=hl
    have live: ∀ k∈ks,S.st k≠ .no:=fun k hk hn=>by have:=(l3 k hk).1;rw [hn] at this;cases this
    rw [fnv_lt hgf]
    rw [itB_lt hgf] at it1 h2
    have har:=ha.rem (ks:=ks) (fun k hk=>⟨l4 k hk,live k hk⟩)
    have hX:(fun b q=>X b q/\(1000000<=gf∨ ∀ k∈ks,(σ k).blk≠some b))=fun b q=>X b q∧ ∀ k∈ks,(σ k).blk≠some b:=by
     funext b q
     exact propext ⟨fun hx=>⟨hx.1,hx.2.resolve_left (by omega)⟩,fun hx=>⟨hx.1,.inr hx.2⟩⟩
    rw [hX] at h2
    have ex:Ext X w (fun b q=>X b q∧ ∀ k∈ks,(σ k).blk≠some b) w:=⟨Nat.le_refl _,fun b q _ hx=>⟨fun hx'=>hx hx'.1,rfl⟩,fun _ _ _=>rfl⟩
    exact ⟨gf,lb,encs,_,rfl,it1,⟨h1.1,fun i r v hr hv=>Cs.ext ex _ _ (fun _ _=>rfl) (h1.2 i r v hr hv)⟩,h2,har⟩
   ·cases h
  ·split at h
   ·rename_i hl
    split at h
    ·rename_i q r hI
     simp only [Option.some.injEq,Prod.mk.injEq] at h
     obtain ⟨rfl,rfl,rfl⟩:=h
     simp only [Bool.and_eq_true,decide_eq_true_eq] at hl
     obtain ⟨hgf,hl,l4⟩:=hl
     obtain ⟨it1,encs,h1,h2⟩:=itS_core hg hl hI ha hcs
     rw [fnv_lt hgf]
     rw [itB_add] at it1 h2
     have hX:(fun b q=>X b q/\(1000000<=gf+1000000∨ ∀ k∈ks,(σ k).blk≠some b))=X:=by
      funext b q
      exact propext ⟨fun hx=>hx.1,fun hx=>⟨hx,.inl (by omega)⟩⟩
     rw [hX] at h2
     exact ⟨gf,lb,encs,X,rfl,it1,h1,h2,ha⟩
    ·cases h
   ·cases h
 ·cases h
def putUs:List Value->List Nat->List Value->List Value
 |us,p::ps,v::vs=>putUs (us.set p v) ps vs
 |us,_,_=>us
theorem foldl_put: ∀ (ps:List Nat) (us vs:List Value),(ps.zip vs).foldl (fun (t:Array Value) (p:Nat×Value)=>t.setIfInBounds p.1 p.2) us.toArray=(putUs us ps vs).toArray
 | [],us,vs=>by simp [putUs]
 |p::ps,us,[]=>by simp [putUs]
 |p::ps,us,v::vs=>by
  simp only [List.zip_cons_cons,List.foldl_cons,putUs]
  rw [List.setIfInBounds_toArray]
  exact foldl_put ps _ vs
theorem putL_at: ∀ (ps:List Nat) {S:VS} {us:List Value} (vs:List V) (xs:List Value),At B X w σ n S us->(∀ p∈ps,p<n)->Cs X w σ (V.ds vs) xs->At B X w σ n (putL S ps vs) (putUs us ps xs)
 | [],S,us,vs,xs,h,_,_=>by simpa [putL,putUs] using h
 |p::ps,S,us,[],xs,h,_,hc=>by
  simp only [V.ds,Cs] at hc
  subst hc
  simpa [putL,putUs] using h
 |p::ps,S,us,v::vs,xs,h,hp,hc=>by
  simp only [V.ds,Cs] at hc
  obtain ⟨x,xs',rfl,h1,h2⟩:=hc
  simp only [putL,putUs]
  exact putL_at ps vs xs' (h.put (hp p (by simp)) h1) (fun q hq=>hp q (by simp [hq])) h2
theorem fgt_refs {f:Fg}{S:VS}(h: ∀ i, ∀ r∈(S.ts i).refs,lentK<=r): ∀ i, ∀ r∈((fgt f S).ts i).refs,lentK<=r:=by
 intro i r hr
 rcases look_or S.ts f.ks i with ⟨t,h1⟩|h1
 ·have h2:(fgt f S).ts i=nrmV t (S.ts i):=h1
  rw [h2] at hr
  cases t with
  |none=>exact h i r hr
  |some y=>
   simp only [nrmV] at hr
   split at hr
   ·cases hr
   ·exact h i r hr
 ·have h2:(fgt f S).ts i= .un:=h1
  rw [h2] at hr
  cases hr
theorem ren_refs (f:Nat->Nat)(v:V): ∀ r∈(v.ren f).refs, ∃ r'∈v.refs,r=f r':=by
 refine V.rec (motive_1:=fun v=> ∀ r∈(v.ren f).refs, ∃ r'∈v.refs,r=f r') (motive_2:=fun vs=> ∀ r∈V.refss (V.rens f vs), ∃ r'∈V.refss vs,r=f r') ?_ ?_ ?_ ?_ ?_ ?_ ?_ ?_ ?_ ?_ ?_ ?_ ?_ ?_ ?_ ?_ v
 all_goals first
  |(intros;rename_i h;simp [V.ren,V.refs,V.refss,V.rens] at h;done)
  |(intros;simp_all [V.ren,V.refs,V.refss,V.rens];done)
  |(intro x xs h1 h2 r hr;simp only [V.rens,V.refss,List.mem_append] at hr ⊢; rcases hr with hr|hr;(obtain ⟨r',p,q⟩:=h1 r hr;exact ⟨r',.inl p,q⟩);(obtain ⟨r',p,q⟩:=h2 r hr;exact ⟨r',.inr p,q⟩))
theorem prot_refs {pr:List Nat}: ∀ i, ∀ r∈((S.prot pr).ts i).refs,lentK<=r:=by
 intro i r hr
 simp only [VS.prot] at hr
 split at hr
 ·rename_i hc
  obtain ⟨r',h1,rfl⟩:=ren_refs _ _ r hr
  have:=List.all_eq_true.1 hc r' h1
  simp only [Bool.or_eq_true,List.contains_iff_mem,decide_eq_true_eq] at this
  simp only [lentK]
  rcases this with q|q
  ·rw [prk_in q];omega
  ·by_cases hm:r'∈pr
   ·rw [prk_in hm];omega
   ·rw [prk_out hm];omega
 ·cases hr
def Base.rd (B:Base)(σ:Pl)(pr ms:List Nat)(l D:Nat)(o:Obj)(X1:Nat->Nat->Prop)(w1:World):Base:=
 {B with pl:=psig σ pr,z:=(l,o)::(D,.deferred (some []))::(B.z++ms.map fun D=>(D,.deferred (some []))),X1:=X1,w1:=w1}
theorem At.dropMs {ms:List Nat}(h:At (B.mk' ms) X w σ n S us):At B X w σ n S us:=by
 obtain ⟨X0,w0,lent,pl,z,X1,w1⟩:=B
 have h':At ⟨X0,w0,lent,pl,z++ms.map fun D=>(D,.deferred (some [])),X1,w1⟩ X w σ n S us:=h
 exact h'.subz (List.sublist_append_left _ _)
theorem rd_put {pr ms ms':List Nat}{l D:Nat}{o o':Obj}{X1:Nat->Nat->Prop}{w1:World}{σ0:Pl}(h:At ((B.rd σ0 pr ms l D o X1 w1).mk' ms') X w σ n S us)(h1:o.isCells=false)(h2:o'.isCells=false):
  At ((B.rd σ0 pr ms l D o' X1 w1).mk' ms') X (w.putObj l o') σ n S us:=by
 obtain ⟨X0,w0,lent,pl,z,X2,w2⟩:=B
 have h':At ⟨X0,w0,lent,psig σ0 pr,[]++(l,o)::((D,.deferred (some []))::(z++ms.map fun D=>(D,.deferred (some [])))++ms'.map fun D=>(D,.deferred (some []))),X1,w1⟩ X w σ n S us:=h
 exact h'.putz (o':=o') h1 h2
theorem rd_rec {pr ms ms':List Nat}{l D:Nat}{o:Obj}{X1:Nat->Nat->Prop}{w1:World}{σ0:Pl}(h:At ((B.rd σ0 pr ms l D o X1 w1).mk' ms') X w σ n S us):w.heap[l]? = some o:=
 (h.ti.zz (l,o) (by simp [Base.mk',Base.rd])).1
theorem rd_since {pr ms:List Nat}{l D:Nat}{o:Obj}{X1:Nat->Nat->Prop}{w1:World}{σ0:Pl}(h:At (B.rd σ0 pr ms l D o X1 w1) X w σ n S us):At (B.rd σ0 pr ms l D o X w) X w σ n S us:=by
 obtain ⟨X0,w0,lent,pl,z,X2,w2⟩:=B
 exact At.since h
theorem rd_before {pr ms:List Nat}{l D:Nat}{o:Obj}{X1 X2:Nat->Nat->Prop}{w1 w2:World}{σ0:Pl}(h:At (B.rd σ0 pr ms l D o X2 w2) X w σ n S us)(e:Ext0 X1 w1 X2 w2):At (B.rd σ0 pr ms l D o X1 w1) X w σ n S us:=by
 obtain ⟨X0,w0,lent,pl,z,X3,w3⟩:=B
 exact At.before h e
theorem rd_grow {pr ms:List Nat}{l D:Nat}{o:Obj}{X1:Nat->Nat->Prop}{w1 w':World}{σ0:Pl}(h:At (B.rd σ0 pr ms l D o X1 w1) X w σ n S us)(hb:Below w.heap.size w w'):At (B.rd σ0 pr ms l D o X1 w1) X w' σ n S us:=by
 obtain ⟨X0,w0,lent,pl,z,X3,w3⟩:=B
 exact At.grow h hb
set_option maxHeartbeats 2000000 in
theorem rf_sound {g:G}(hg:GOk P g){j:Nat}{f:Fg}{x:AX}{yr:Ty}{ps pr:List Nat}{a b:TC}
  (iha: ∀ {B:Base} {ro:Option Nat} {β:Type} {S:VS} {K:Exit->VS->Option β} {r:β},ro=none∨a.nrf=true->a.lok g->ev g a S K=some r->JV P B g.n ro (fun e S'=>K e S'=some r) a.er S)
  (ihb: ∀ {B:Base} {ro:Option Nat} {β:Type} {S:VS} {K:Exit->VS->Option β} {r:β},ro=none∨b.nrf=true->b.lok g->ev g b S K=some r->JV P B g.n ro (fun e S'=>K e S'=some r) b.er S)
  {β:Type} {K:Exit->VS->Option β} {r:β} (lk:(TC.rf j f x yr ps pr a b).lok g) (h:ev g (.rf j f x yr ps pr a b) S K=some r):JV P B g.n none (fun e S'=>K e S'=some r) (.rf x ps a.er b.er) S:=by
 intro c hc nn X w σ us ms ha
 cases c with
 |region id ops d=>cases d<;>simp [trC] at hc
 |cond x a b=>simp only [trC] at hc;split at hc<;>cases hc
 |rangeFunc go psA asg body=>
  simp only [trC] at hc
  split at hc
  ·rename_i x' hx
   simp only [AC.rf.injEq] at hc
   obtain ⟨rfl,hps,hca,hcb⟩:=hc
   simp only [ev] at h
   split at h
   ·rename_i S1 q yr' rows hit
    split at h
    ·rename_i hyr
     subst hyr
     obtain ⟨rfl,h⟩:=br_none h
     split at h
     ·rename_i hok
      simp only [Bool.and_eq_true,decide_eq_true_eq,List.all_eq_true] at hok
      obtain ⟨⟨hpr,hna,hnb⟩,hpn,hpl⟩:=hok
      split at h
      ·rename_i q2 lal hR
       obtain ⟨_,h⟩:=br_none h
       obtain ⟨hq2,h⟩:=br_none h
       rw [hq2] at hR
       obtain ⟨e1,S3,hp,h⟩:=alts_some h
       split at h
       ·rename_i hun
        have hrange:=lk.1 _ rows lal (e1,S3) hR hp
        -- the iterator
        have hgood:(x'.xv S.ts).good=true:=by
         cases hv:x'.xv S.ts with
         |fn gf caps=>rfl
         |_=>rw [hv] at hit;simp [itS] at hit
        have hcv:=xv_sound hx hgood ha.rel
        obtain ⟨X0,w0,lent,pl,z,Xr,wr⟩:=B
        have ha':At ⟨X0,w0,lent,pl,z++ms.map fun D=>(D,.deferred (some [])),Xr,wr⟩ X w σ g.n S us:=ha
        obtain ⟨gf,lb,encs,Xf,hev,eg,hrows,hIt,ha1⟩:=itS_sound hg hit ha' hcv
        have hsz0:w0.heap.size<=w.heap.size:=ha1.ti.fr.size
        -- the record and the mark
        obtain ⟨W1,hW1⟩: ∃ W1:LoopState->Option Code->FuncId->World,W1=fun st pe fn=>(w.alloc (.deferred (some []))).alloc (.loop {state:=st,pending:=pe,fn,tmps:=us.toArray,params:=psA,assign:=asg,body,defers:=w.heap.size }):=⟨_,rfl⟩
        refine wpIn_nn (m:=9) (wpIn_rangeFunc (F:=Fw none) (n:=9) fun fn _=> ?_)
        obtain ⟨rec,hrec⟩: ∃ rec:LoopState->Option Code->Loop,rec=fun st pe=>{state:=st,pending:=pe,fn,tmps:=us.toArray,params:=psA,assign:=asg,body,defers:=w.heap.size}:=⟨_,rfl⟩
        obtain ⟨W2,hW2⟩: ∃ W2,(w.alloc (.deferred (some []))).alloc (.loop (rec .ready none))=W2:=⟨_,rfl⟩
        have hbel:Below w.heap.size w W2:=by
         rw [←hW2]
         exact ((Below.refl _ w).alloc (Nat.le_refl _) _).alloc (by simp) _
        have hL:W2.heap[w.heap.size+1]? = some (.loop (rec .ready none)):=by
         rw [←hW2]
         have:=World.alloc_heap_new (w.alloc (.deferred (some []))) (.loop (rec .ready none))
         rwa [World.size_alloc] at this
        have hD:W2.heap[w.heap.size]? = some (.deferred (some [])):=by
         rw [←hW2]
         exact (Below.heap_alloc _ _ _ (by simp)).trans (World.alloc_heap_new w _)
        let Bz:Base:=⟨X0,w0,lent,pl,z,Xr,wr⟩
        -- the state ahead of the first round
        have hst0:At (Bz.rd σ pr ms (w.heap.size+1) w.heap.size (.loop (rec .ready none)) Xf w) Xf W2 (psig σ pr) g.n (fgt f (S1.prot pr)) us:=by
         have k1:=(ha1.since.prot hpr).grow hbel
         have hlt: ∀ p∈z++ms.map fun D=>(D,Obj.deferred (some [])),p.1<w.heap.size:=fun p hp=>(Array.getElem?_eq_some_iff.1 (ha1.ti.zz p hp).1).1
         have k2:=k1.addz hD (fun q hq=>absurd (ha1.ti.fin _ _ hq) (Nat.lt_irrefl _)) hsz0 (fun hm=>by
          obtain ⟨p,hp,he⟩:=List.mem_map.1 hm
          have:=hlt p hp
          omega)
         have k3:=k2.addz hL (fun q hq=>absurd (ha1.ti.fin _ _ hq) (by omega)) (by omega) (fun hm=>by
          obtain ⟨p,hp,he⟩:=List.mem_map.1 hm
          rcases List.mem_cons.1 hp with rfl|hp
          ·simp at he
          ·have:=hlt p hp
           omega)
         exact At.fgt k3 f
        refine ⟨w.heap.size+1,[{target:= .collected w.heap.size,args:= #[] }],W2,{target:= .fn (.func gf) lb.toArray,args:= #[.func (.yield (w.heap.size+1)) #[] #[]] },W2,gf, #[.func (.yield (w.heap.size+1)) #[] #[]]++lb.toArray,W2, ?_, ?_, ?_, ?_,(fun h=>by cases h), ?_⟩
        ·rw [←hW2,hrec];exact run_enterLoop_outer _ _ _ _ _
        ·have hev':(Act.eval ⟨us.toArray,mks ms⟩ go)= .func (.func gf) #[] lb.toArray:=hev
         simp only [resolve,hev']
         simp [go_sem]
        ·intro f' _;trivial
        ·simp [invoke,go_sem,eg]
        ·have hargs:(#[Value.func (.yield (w.heap.size+1)) #[] #[]]++lb.toArray)=(Value.func (.yield (w.heap.size+1)) #[] #[]::lb).toArray:=by simp
         rw [hargs]
         refine (hIt (w.heap.size+1)
          (fun s W=> ∃ (S':VS) (X':Nat->Nat->Prop) (σ':Pl) (rows':List yr'.T),RowsAt Xf w yr' rows' s/\rangeF (roundR g f yr' ps a b) rows' S'=some (e1,S3)/\At (Bz.rd σ pr ms (w.heap.size+1) w.heap.size (.loop (rec .ready none)) Xf w) X' W σ' g.n S' us∧ ∀ i, ∀ r∈(S'.ts i).refs,lentK<=r)
          (fun W=> ∃ (X':Nat->Nat->Prop) (σ':Pl) (c:Code),((e1= .ret/\c= .ret)∨ ∃ id,e1= .exit id/\c= .exit id)/\At (Bz.rd σ pr ms (w.heap.size+1) w.heap.size (.loop (rec .done (some c))) Xf w) X' W σ' g.n S3 us)
          W2 ?_ ?_ ?_ ?_ ?_ (fun b o hb=>hbel.cell (p:=⟨b,o,none⟩) hb)).mono ?_
         ·rintro s A C ⟨S',X',σ',rows',q1,q2,q3,q4⟩ hAC
          exact ⟨S',X',σ',rows',q1,q2,rd_grow q3 hAC,q4⟩
         ·rintro A C ⟨X',σ',c,q1,q2⟩ hAC
          exact ⟨X',σ',c,q1,rd_grow q2 hAC⟩
         ·rintro s A ⟨S',X',σ',rows',q1,q2,q3,q4⟩
          exact ⟨q3.ti.ex.size,fun b o hb hx=>(q3.ti.ex.keep b o hb hx).2⟩
         ·-- one round
          rintro v s A ⟨S',X',σ',rows',q1,q2,q3,q4⟩
          cases rows' with
          |nil=>exact absurd q1.1 (by simp)
          |cons row rows'=>
           have hrow:=q1.2 0 row v rfl rfl
           have hrs:RowsAt Xf w yr' rows' s:=⟨by have:=q1.1;simpa using this,fun i r' v' h1 h2=>q1.2 (i+1) r' v' (by simpa using h1) (by simpa using h2)⟩
           have hvs:v.size=psA.size:=by
            have h1:=hrow.len
            rw [V.ds_eq,List.length_map,Ty.canon_len] at h1
            have h2:psA.size=ps.length:=by rw [←hps];simp
            rw [h2,hpl, ← h1]
            simp
           have hrec0:=rd_rec q3.mk0
           have hy:=run_yield (P:=P) (args:=v) hrec0 (by rw [hrec];exact hvs)
           rw [hrec] at hy
           refine ⟨fn,_,asg,body,hy,roundIn_of_wpIn (F:=Fw none) trivial ?_⟩
           have htm:(psA.zip v).foldl (fun (t:Array Value) (p:Nat×Value)=>t.setIfInBounds p.1 p.2) us.toArray=(putUs us ps v.toList).toArray:=by
            rw [←foldl_put, ← hps]
            rw [←Array.foldl_toList]
            simp
           -- the round's run
           simp only [rangeF] at q2
           cases hrd:roundR g f yr' ps a b row S' with
           |none=>rw [hrd] at q2;cases q2
           |some y=>
            rw [hrd] at q2
            have hcr:Cs X' A σ' (V.ds (yr'.canon row)) v.toList:=Cs.up _ _ (Cs.ext0 q3.ti.ex.toExt0 _ _ (fun _ _=>rfl) hrow)
            have k0:=putL_at ps (yr'.canon row) v.toList (rd_since q3) hpn hcr
            have ka:=iha (B:=Bz.rd σ pr ms (w.heap.size+1) w.heap.size (.loop (rec .ready none)) X' A) (ro:=some (w.heap.size+1)) (.inr hna) lk.2.1 hrd asg hca 7 X' A σ' (putUs us ps v.toList) [] k0.mk0
            rw [show (⟨(putUs us ps v.toList).toArray,mks []⟩:Act)={tmps:=(psA.zip v).foldl (fun (t:Array Value) (p:Nat×Value)=>t.setIfInBounds p.1 p.2) us.toArray,defers:=[]} from by rw [htm];rfl] at ka
            refine wpIn_mono ka ?_
            rintro e2 a2 A2 ⟨S2,X2,σ2,us2,ms2,m1,rfl,m3⟩
            cases e2 with
            |normal=>
             have hbz:=rd_put (o':= .loop {rec .ready none with state:= .busy }) m1 rfl rfl
             refine ⟨_,run_beginRound (rd_rec m1) (by rw [hrec]), ?_⟩
             have kb:=ihb (B:=Bz.rd σ pr ms (w.heap.size+1) w.heap.size (.loop {rec .ready none with state:= .busy }) X' A) (ro:=some (w.heap.size+1)) (.inr hnb) lk.2.2 m3 body hcb 7 X2 _ σ2 us2 ms2 hbz
             refine wpIn_mono kb ?_
             rintro e3 a3 A3 ⟨S4,X4,σ4,us4,ms4,m4,rfl,m6⟩
             have hr4:=rd_rec m4
             -- the slots as they were
             have back: ∀ (jump:Option Code),At (Bz.rd σ pr ms (w.heap.size+1) w.heap.size (.loop (rec (if jump.isNone then .ready else .done) jump)) Xf w) X4 (A3.putObj (w.heap.size+1) (.loop (rec (if jump.isNone then .ready else .done) jump))) σ4 g.n ⟨S'.ts,S4.st,S4.dom⟩ us:=by
              intro jump
              have n1:=(rd_put (o':= .loop (rec (if jump.isNone then .ready else .done) jump)) m4 rfl rfl).dropMs
              have hext:Ext0 X' A X4 (A3.putObj (w.heap.size+1) (.loop (rec (if jump.isNone then .ready else .done) jump))):=n1.ti.ex.toExt0
              have n2:At (Bz.rd σ pr ms (w.heap.size+1) w.heap.size (.loop (rec (if jump.isNone then .ready else .done) jump)) X' A) X4 (A3.putObj (w.heap.size+1) (.loop (rec (if jump.isNone then .ready else .done) jump))) σ4 g.n ⟨S'.ts,S4.st,S4.dom⟩ us:=
               ⟨n1.ti,q3.rel.step0 hext fun i=> .inl ⟨rfl,fun k hk=>(n1.ti.lnt k (q4 i k hk)).trans (q3.ti.lnt k (q4 i k hk)).symm⟩,n1.dom⟩
              exact rd_before n2 q3.ti.ex.toExt0
             have fin: ∀ (jump:Option Code),(Instr.endRound (w.heap.size+1) jump).run P A3= .ok (.bool jump.isNone) (A3.putObj (w.heap.size+1) (.loop (rec (if jump.isNone then .ready else .done) jump))):=by
              intro jump
              have:=run_endRound (P:=P) jump hr4
              rw [hrec] at this ⊢
              exact this
             cases e3 with
             |normal=>
              simp only [Option.some.injEq] at m6
              subst m6
              exact ⟨_,_,fin none,.inl ⟨rfl,_,X4,σ4,rows',hrs,q2,(back none).fgt f,fgt_refs q4⟩⟩
             |ret=>
              simp only [Option.some.injEq] at m6
              subst m6
              simp only [Option.some.injEq,Prod.mk.injEq] at q2
              obtain ⟨rfl,rfl⟩:=q2
              exact ⟨_,_,fin (some .ret),.inr ⟨rfl,X4,σ4,.ret,.inl ⟨rfl,rfl⟩,back (some .ret)⟩⟩
             |exit id=>
              simp only [Option.some.injEq] at m6
              subst m6
              simp only [Option.some.injEq,Prod.mk.injEq] at q2
              obtain ⟨rfl,rfl⟩:=q2
              exact ⟨_,_,fin (some (.exit id)),.inr ⟨rfl,X4,σ4,.exit id,.inr ⟨id,rfl,rfl⟩,back (some (.exit id))⟩⟩
             |goto t=>cases m6
             |panic ch=>cases m6
             |outgrown=>cases m6
            |_=>cases m3
         ·exact ⟨_,Xf,psig σ pr,rows,hrows,hrange,hst0,fgt_refs prot_refs⟩
         ·-- behind the iterator
          have fin: ∀ {o:Obj} {X':Nat->Nat->Prop} {σ':Pl} {W':World},At (Bz.rd σ pr ms (w.heap.size+1) w.heap.size o Xf w) X' W' σ' g.n S3 us→ ∃ σ3,At (Bz.mk' (w.heap.size::ms)) X' W' σ3 g.n (S3.unprot pr) us:=by
           intro o X' σ' W' hq
           have n0:At ⟨X0,w0,lent,psig σ pr,(w.heap.size+1,o)::(w.heap.size,.deferred (some []))::(z++ms.map fun D=>(D,.deferred (some []))),Xf,w⟩ X' W' σ' g.n S3 us:=hq
           have nd:=n0.ti.zn.1
           have n1:At ⟨X0,w0,lent,psig σ pr,z++(w.heap.size::ms).map fun D=>(D,.deferred (some [])),Xf,w⟩ X' W' σ' g.n S3 us:=n0.memz (fun p hp=>by
            simp only [List.map_cons,List.mem_append,List.mem_cons] at hp ⊢
            rcases hp with hp|hp|hp
            ·exact .inr (.inr (.inl hp))
            ·exact .inr (.inl hp)
            ·exact .inr (.inr (.inr hp))) (by
            simp only [List.map_cons,List.map_append] at nd ⊢
            exact List.perm_middle.symm.nodup (List.nodup_cons.1 nd).2)
           exact ha1.unprot hpr (n1.before ha1.ti.ex.toExt0) hun
          rintro e W' ⟨⟨v,rfl⟩,hJ|hJx⟩
          ·obtain ⟨S',X',σ',rows',q1,q2,q3,q4⟩:=hJ
           cases rows' with
           |cons row rows'=>exact absurd q1.1 (by simp)
           |nil=>
            simp only [rangeF,Option.some.injEq,Prod.mk.injEq] at q2
            obtain ⟨rfl,rfl⟩:=q2
            have hr:=rd_rec q3.mk0
            have he:=run_endLoop (P:=P) hr (by rw [hrec];simp)
            rw [hrec] at he
            obtain ⟨σ3,n3⟩:=fin (rd_put (o':= .loop (rec .exhausted none)) q3.mk0 rfl rfl).dropMs
            refine ⟨none,_,he, ?_⟩
            rw [hrec] at n3
            exact ⟨_,X',σ3,us,w.heap.size::ms,n3,rfl,h⟩
          ·obtain ⟨X',σ',c,q1,q3⟩:=hJx
           have hr:=rd_rec q3.mk0
           have he:=run_endLoop (P:=P) hr (by rw [hrec];simp)
           rw [hrec] at he
           obtain ⟨σ3,n3⟩:=fin (rd_put (o':= .loop (rec .exhausted (some c))) q3.mk0 rfl rfl).dropMs
           refine ⟨some c,_,he, ?_⟩
           ·rw [hrec] at n3
            rcases q1 with ⟨rfl,rfl⟩|⟨id,rfl,rfl⟩
            ·exact wpIn_ret ⟨_,X',σ3,us,w.heap.size::ms,n3,rfl,h⟩
            ·exact wpIn_exit ⟨_,X',σ3,us,w.heap.size::ms,n3,rfl,h⟩
       ·cases h
      ·cases h
     ·cases h
    ·cases h
   ·cases h
  ·cases hc
 |_=>simp [trC] at hc
end
end Go.Proofs.YtmokmalepelinaaGreatDoor.K
