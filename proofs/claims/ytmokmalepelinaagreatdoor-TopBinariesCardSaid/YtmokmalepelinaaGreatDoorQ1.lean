import Derived.WalkKit
import Derived.WalkSpells
import Derived.WalkLawsBesides
import Derived.Handy
import Derived.Lib.Hide
import Derived.Laws.BitsAllLaws
import Derived.Laws.BitsLemmas
import Derived.Below
import Derived.Laws.OwnMore
import Derived.Deep.AppendLies
import Derived.Deep.Draws
import Derived.Deep.OwnRows
import Derived.Laws.Rows
import Derived.Maps.AppendAt
import Derived.RegionTactic
import Derived.Deep.QuietTactic
import Derived.OwnWalk
import Derived.WideShapes
import Derived.Laws.Concat
import Derived.Laws.IdiomStrings
import Derived.Laws.MakeOwn
import Derived.Deep.MidRow
import Derived.Great.BuildSlice
import Derived.Lib.AppendStr
set_option linter.unusedSimpArgs false
set_option linter.unusedVariables false
/-
 Plain lemmas on words and worlds that every walk of this seat uses.
-/
namespace Go.Proofs.YtmokmalepelinaaGreatDoor
open Go.RowKit
end Go.Proofs.YtmokmalepelinaaGreatDoor
/-
 Words for memory that the walks of this seat share:a slice that reads as a list,a block known whole,how worlds grow.
-/
namespace Go.Proofs.YtmokmalepelinaaGreatDoor
open Go.RowKit
open Go.WideShapes (bytes_inj)
def Reads (w:World)(B size:Nat)(A:Option Addr)(n:Nat)(xs:List Value):Prop:=
 xs.length=n*size/\(0<n→ ∃ ad,A=some ad/\ad.block<B∧ ∀ j u,xs[j]? = some u->w.cell? (ad.add j)=some u)
section
variable {w w':World}{B B' size n:Nat}{A:Option Addr}{xs:List Value}
theorem Reads.none_:Reads w B size A 0 []:=⟨by simp,fun h=>absurd h (by omega)⟩
end
def Blk (w:World)(g:Nat)(t:TypeId)(cs:Array Value):Prop:=w.heap[g]? = some (.cells cs t (0,0))
section
variable {w w':World}{g:Nat}{t:TypeId}{cs:Array Value}
theorem Blk.lt (h:Blk w g t cs):g<w.heap.size:=by
 rcases Nat.lt_or_ge g w.heap.size with hlt|hge
 ·exact hlt
 ·unfold Blk at h;rw [Array.getElem?_eq_none hge] at h;cases h
theorem Blk.cell (h:Blk w g t cs)(i:Nat):w.cell? ⟨g,i,none⟩=cs[i]? :=cell_of_row w g i cs t (0,0) h
theorem Blk.frozen (h:Blk w g t cs)(i:Nat):w.frozen? ⟨g,i,none⟩=false:=by
 unfold Blk at h
 simp [World.frozen?, h]
theorem Blk.new (w:World)(t:TypeId)(cs:Array Value):Blk (w.alloc (.cells cs t)) w.heap.size t cs:=heap_alloc_new w _
theorem Blk.alloc (h:Blk w g t cs)(o:Obj):Blk (w.alloc o) g t cs:=(Below.heap_alloc w o g h.lt).trans h
theorem Blk.set_ (h:Blk w g t cs)(i:Nat)(u:Value):Blk (w.setCell ⟨g,i,none⟩ u) g t (cs.setIfInBounds i u):=by
 unfold Blk at h ⊢
 simp [World.setCell,Array.getElem?_modify,h]
theorem Blk.far (h:Blk w g t cs){p:Addr}(hp:g≠p.block)(u:Value):Blk (w.setCell p u) g t cs:=(Below.heap_setCell w p u g hp).trans h
theorem Blk.below {B:Nat}(h:Blk w g t cs)(hb:Below B w w')(hg:g<B):Blk w' g t cs:=(hb.block g hg).trans h
end
section
variable {w w':World}{g:Nat}{t:TypeId}{cs:Array Value}
theorem Blk.ext (h:Blk w g t cs)(hb:Below w.heap.size w w'):Blk w' g t cs:=h.below hb h.lt
end
theorem only_of_below {a w:World}(h:Below a.heap.size a w)(row:Option Nat):a.grownBy w row:=⟨h.os,h.tape,h.output,h.size,fun i hi _=>h.block i hi⟩
theorem only_trans {a b c:World}{row:Option Nat}(h:a.grownBy b row)(k:b.grownBy c row):a.grownBy c row:=
 ⟨k.os.trans h.os,k.tape.trans h.tape,k.output.trans h.output,Nat.le_trans h.size k.size,fun i hi hne=>(k.block i (Nat.lt_of_lt_of_le hi h.size) hne).trans (h.block i hi hne)⟩
theorem below_of_only {B:Nat}{a b c:World}{g:Nat}(h:Below B a b)(k:b.grownBy c (some g))(hg:B<=g)(hB:B<=b.heap.size):Below B a c:=
 ⟨k.os.trans h.os,k.tape.trans h.tape,k.output.trans h.output,Nat.le_trans h.size k.size,fun i hi=>(k.block i (by omega) (fun e=>by injection e;omega)).trans (h.block i hi)⟩
theorem below_step {B C:Nat}{a b c:World}(h:Below B a b)(k:Below C b c)(hc:B<=C):Below B a c:=h.trans (k.mono hc)
def Sl (w:World)(v:Value)(size n:Nat)(xs:List Value):Prop:=
 xs.length=n*size∧ ∃ (A:Option Addr) (c:Nat),v= .slice A n c/\n<=c/\c<=maxLen∧
  (0<n→ ∃ b off,A=some ⟨b,off,none⟩/\b<w.heap.size∧ ∀ j u,xs[j]? = some u->w.cell? ⟨b,off+j,none⟩=some u)
section
variable {w w':World}{v:Value}{size n:Nat}{xs:List Value}
theorem Sl.ext (h:Sl w v size n xs)(hb:Below w.heap.size w w'):Sl w' v size n xs:=by
 obtain ⟨h1,A,c,h2,h3,h4,h5⟩:=h
 refine ⟨h1,A,c,h2,h3,h4,fun hn=> ?_⟩
 obtain ⟨b,off,e,hlt,hc⟩:=h5 hn
 exact ⟨b,off,e,Nat.lt_of_lt_of_le hlt hb.size,fun j u hu=>(hb.cell (p:=⟨b,off+j,none⟩) hlt).trans (hc j u hu)⟩
theorem Sl.alloc (h:Sl w v size n xs)(o:Obj):Sl (w.alloc o) v size n xs:=h.ext ((Below.refl _ _).alloc (Nat.le_refl _) _)
theorem Sl.of_own {base:Nat}{e:TypeId}(h:w.ownsRow base e size v n xs):Sl w v size n xs:=by
 refine ⟨h.1, ?_⟩
 have hlt:=h.lt
 rcases h.2 with ⟨rfl,rfl⟩|⟨g,cap,cur,rfl,_,hh,hnc,hm,_,ht⟩
 ·exact ⟨none,0,rfl,Nat.le_refl _,by simp [maxLen],fun h=>absurd h (by omega)⟩
 ·refine ⟨_,cap,rfl,hnc,hm,fun _=>⟨g,0,rfl,(hlt g rfl).2,fun j u hu=> ?_⟩⟩
  rw [Nat.zero_add,cell_of_row w g j cur e (0,0) hh]
  rw [←ht] at hu
  have hj:j<n*size:=by
   have:=(List.getElem?_eq_some_iff.1 hu).1
   simp at this
   omega
  rw [List.getElem?_take_of_lt hj] at hu
  simpa using hu
end
def IsRow (k:IntKind)(w:World)(a:Option Addr)(len cap:Nat)(zs:List Int):Prop:=
 (a=none/\len=0/\cap=0/\zs=[])∨
 ∃ x,a=some x/\len<=cap/\cap<=maxLen/\zs.length=cap/\(∀ i,i<zs.length->w.cell? (x.add i)=some (.int k (zs.getD i 0)))∧ ∀ n∈zs,(Lit.int k n).wf=true
end Go.Proofs.YtmokmalepelinaaGreatDoor
/-
 append onto a row of the call's own:the source nil,empty or not.
-/
namespace Go.Proofs.YtmokmalepelinaaGreatDoor
open Go.RowKit
section
variable {P:Program}(w:World)
theorem run_append_of_nil (base:Nat)(t ty e:TypeId)(i:TypeInfo)(size:Nat)(ht:P.underlying t=some (.slice e))(hi:P.info? e=some i)
  (v:Value) (n:Nat) (xs:List Value) (hown:w.ownsRow base e size v n xs) (c:Nat):(Builtin.append_ #[t,t] ty #[v,.slice none 0 c]).run P w= .ok v w:=by
 rcases hown.2 with ⟨rfl,rfl⟩|⟨g,cap,cur,rfl,_,_,hnc,_⟩
 ·simp [Builtin.append_,run_underlying ht,sizeOf,typeInfo,hi,Builtin.lenOf,Builtin.firstCells]
 ·simp [Builtin.append_,run_underlying ht,sizeOf,typeInfo,hi,Builtin.lenOf,Builtin.firstCells,hnc,storeCells]
theorem run_append_any (base:Nat)(t ty e:TypeId)(i:TypeInfo)(z:Value)(size bytes:Nat)(ht:P.underlying t=some (.slice e))(hi:P.info? e=some i)(hz:i.zero=some z)
  (hsize:i.size=size) (hby:i.bytes=bytes) (hzs:z.cells.size=size) (hsz:0<size)
  (v:Value) (n:Nat) (xs:List Value) (hown:w.ownsRow base e size v n xs)
  (B:Nat) (A:Option Addr) (m c:Nat) (news:List Value) (hr:Reads w B size A m news) (h1: ∀ u∈news,u.oneCell'=true)
  (h63:n+m<=maxLen) (hbytes:(n+m)*bytes<=140737488355328) (hbase:base<=w.heap.size):
  ∃ v' w',(Builtin.append_ #[t,t] ty #[v,.slice A m c]).run P w= .ok v' w'/\w'.ownsRow base e size v' (n+m) (xs++news)/\w.grownBy w' v.ownBlock∧
   (v'.ownBlock=v.ownBlock∨v'.ownBlock=some w.heap.size):=by
 rcases A with _|ad
 ·have hm:m=0:=by
   rcases Nat.eq_zero_or_pos m with h0|h0
   ·exact h0
   ·obtain ⟨ad,h,_⟩:=hr.2 h0
    cases h
  subst hm
  have hn:news=[]:=List.eq_nil_of_length_eq_zero (by simpa using hr.1)
  subst hn
  exact ⟨v,w,run_append_of_nil w base t ty e i size ht hi v n xs hown c,by simpa using hown,World.grownBy.refl w _,.inl rfl⟩
 ·have hcells: ∀ j u,news[j]? = some u->w.cell? (ad.add j)=some u:=by
   intro j u hu
   rcases Nat.eq_zero_or_pos m with h0|h0
   ·subst h0
    have hn:news=[]:=List.eq_nil_of_length_eq_zero (by simpa using hr.1)
    subst hn
    simp at hu
   ·obtain ⟨ad',h,_,hc⟩:=hr.2 h0
    injection h with h
    subst h
    exact hc j u hu
  obtain ⟨v',w',hrun,h2,h3,_,h5⟩:=run_append_own_at (P:=P) w base t ty e i z size bytes ht hi hz hsize hby hzs hsz v n xs hown ad m c news hr.1 hcells h1 h63 hbytes hbase
  exact ⟨v',w',hrun,h2,h3,h5⟩
theorem wp_append_any {o:Oper}{a:Act}{K:Act->World->Prop}{Q:Exit->Act->World->Prop}(s x:Operand)(t:TypeId)
  (ho:o.op= .call {callee:= .builtin .append,args:= #[s,x],argTypes:= #[t,t] })
  (base:Nat) (e:TypeId) (i:TypeInfo) (z:Value) (size bytes:Nat) (ht:P.underlying t=some (.slice e)) (hi:P.info? e=some i) (hz:i.zero=some z)
  (hsize:i.size=size) (hby:i.bytes=bytes) (hzs:z.cells.size=size) (hsz:0<size)
  (v:Value) (n:Nat) (xs:List Value) (hs:a.eval s=v) (hown:w.ownsRow base e size v n xs)
  (B:Nat) (A:Option Addr) (m c:Nat) (news:List Value) (hx:a.eval x= .slice A m c) (hr:Reads w B size A m news) (h1: ∀ u∈news,u.oneCell'=true)
  (h63:n+m<=maxLen) (hbytes:(n+m)*bytes<=140737488355328) (hbase:base<=w.heap.size)
  (h: ∀ v' w',w'.ownsRow base e size v' (n+m) (xs++news)->w.grownBy w' v.ownBlock->(v'.ownBlock=v.ownBlock∨v'.ownBlock=some w.heap.size)->K (a.put o.dst v') w'):o.wp P a w K Q:=by
 obtain ⟨v',w',hrun,h2,h3,h4⟩:=run_append_any (P:=P) w base t o.type e i z size bytes ht hi hz hsize hby hzs hsz v n xs hown B A m c news hr h1 h63 hbytes hbase
 unfold Oper.wp execOp
 simp only [ho,resolve,invoke,builtin,Sem.run_bind,Sem.run_pure,Result.andThen_ok,List.map_toArray,List.map_cons,List.map_nil,hs,hx,hrun]
 exact h v' w' h2 h3 h4
theorem wpList_append_any {ops:Array Oper}{rest:List Oper}{o:Oper}{a:Act}{Q:Exit->Act->World->Prop}(hgd:o.guard=none)(s x:Operand)(t:TypeId)
  (ho:o.op= .call {callee:= .builtin .append,args:= #[s,x],argTypes:= #[t,t] })
  (base:Nat) (e:TypeId) (i:TypeInfo) (z:Value) (size bytes:Nat) (ht:P.underlying t=some (.slice e)) (hi:P.info? e=some i) (hz:i.zero=some z)
  (hsize:i.size=size) (hby:i.bytes=bytes) (hzs:z.cells.size=size) (hsz:0<size)
  (v:Value) (n:Nat) (xs:List Value) (hs:a.eval s=v) (hown:w.ownsRow base e size v n xs)
  (B:Nat) (A:Option Addr) (m c:Nat) (news:List Value) (hx:a.eval x= .slice A m c) (hr:Reads w B size A m news) (h1: ∀ u∈news,u.oneCell'=true)
  (h63:n+m<=maxLen) (hbytes:(n+m)*bytes<=140737488355328) (hbase:base<=w.heap.size)
  (h: ∀ v' w',w'.ownsRow base e size v' (n+m) (xs++news)->w.grownBy w' v.ownBlock->(v'.ownBlock=v.ownBlock∨v'.ownBlock=some w.heap.size)->wpList P ops Q rest (a.put o.dst v') w'):wpList P ops Q (o::rest) a w:=
 wpList_plain hgd fun _ hK=>wp_append_any w s x t ho base e i z size bytes ht hi hz hsize hby hzs hsz v n xs hs hown B A m c news hx hr h1 h63 hbytes hbase fun v' w' h2 h3 h4=>hK _ _ (h v' w' h2 h3 h4)
theorem step_append_any {ops:Array Oper}{o:Oper}{a:Act}{K:Act->World->Prop}{Q:Exit->Act->World->Prop}{E:Prop}(hgd:o.guard=none)(s x:Operand)(t:TypeId)
  (ho:o.op= .call {callee:= .builtin .append,args:= #[s,x],argTypes:= #[t,t] })
  (base:Nat) (e:TypeId) (i:TypeInfo) (z:Value) (size bytes:Nat) (ht:P.underlying t=some (.slice e)) (hi:P.info? e=some i) (hz:i.zero=some z)
  (hsize:i.size=size) (hby:i.bytes=bytes) (hzs:z.cells.size=size) (hsz:0<size)
  (v:Value) (n:Nat) (xs:List Value) (hs:a.eval s=v) (hown:w.ownsRow base e size v n xs)
  (B:Nat) (A:Option Addr) (m c:Nat) (news:List Value) (hx:a.eval x= .slice A m c) (hr:Reads w B size A m news) (h1: ∀ u∈news,u.oneCell'=true)
  (h63:n+m<=maxLen) (hbytes:(n+m)*bytes<=140737488355328) (hbase:base<=w.heap.size)
  (h: ∀ v' w',w'.ownsRow base e size v' (n+m) (xs++news)->w.grownBy w' v.ownBlock->(v'.ownBlock=v.ownBlock∨v'.ownBlock=some w.heap.size)->K (a.put o.dst v') w'):
  if Region.wanted o (yielded ops a.tmps)=true then Oper.wp P o a w K Q else E:=by
 have hw:Region.wanted o (yielded ops a.tmps)=true:=by simp [Region.wanted,hgd]
 rw [if_pos hw]
 exact wp_append_any w s x t ho base e i z size bytes ht hi hz hsize hby hzs hsz v n xs hs hown B A m c news hx hr h1 h63 hbytes hbase h
end
structure ElemOk (P:Program) (t e:TypeId) (size bytes:Nat):Prop where
 has: ∃ (i:TypeInfo) (z:Value),P.underlying t=some (.slice e)/\P.info? e=some i/\i.zero=some z/\i.size=size/\i.bytes=bytes/\z.cells.size=size/\0<size
theorem ElemOk.of {P:Program}{t e:TypeId}{size bytes:Nat}(z:Value)(ht:P.underlying t=some (.slice e))(hi:(P.info? e).map (fun i=>(i.zero,i.size,i.bytes))=some (some z,size,bytes))(hz:z.cells.size=size)(hs:0<size):ElemOk P t e size bytes:=by
 cases hq:P.info? e with
 |none=>rw [hq] at hi;cases hi
 |some i=>
  rw [hq] at hi
  simp only [Option.map_some,Option.some.injEq,Prod.mk.injEq] at hi
  exact ⟨i,z,ht,hq,hi.1,hi.2.1,hi.2.2,hz,hs⟩
theorem addr_add (b o j:Nat):(Addr.mk b o none).add j=⟨b,o+j,none⟩:=by
 unfold Addr.add
 by_cases h0:j=0<;>simp [h0]
theorem Sl.reads {w:World}{A:Option Addr}{n c size:Nat}{xs:List Value}(h:Sl w (.slice A n c) size n xs):Reads w w.heap.size size A n xs:=by
 obtain ⟨h1,A',c',hv,_,_,h5⟩:=h
 injection hv with hA hn hc
 subst hA
 refine ⟨h1,fun hn=> ?_⟩
 obtain ⟨b,off,e,hlt,hcell⟩:=h5 hn
 exact ⟨_,e,hlt,fun j u hu=>by rw [addr_add];exact hcell j u hu⟩
theorem Sl.made (w:World)(e:TypeId)(n size:Nat)(cs:Array Value)(h:cs.size=n*size)(hm:n<=maxLen):Sl (w.alloc (.cells cs e)) (.slice (some ⟨w.heap.size,0,none⟩) n n) size n cs.toList:=by
 refine ⟨by simpa using h,_,n,rfl,Nat.le_refl _,hm,fun _=>⟨_,0,rfl,by simp,fun j u hu=> ?_⟩⟩
 rw [Nat.zero_add,(Blk.new w e cs).cell]
 simpa using hu
theorem own_grown {w w':World}{base:Nat}{e:TypeId}{size n:Nat}{v:Value}{xs:List Value}{row:Option Nat}(h:w.ownsRow base e size v n xs)(hg:w.grownBy w' row)(hne: ∀ b,v.ownBlock=some b->some b≠row):w'.ownsRow base e size v n xs:=by
 have hlt:=h.lt
 refine ⟨h.1, ?_⟩
 rcases h.2 with ⟨rfl,rfl⟩|⟨g,cap,cur,rfl,h1,hh,h2⟩
 ·exact .inl ⟨rfl,rfl⟩
 ·exact .inr ⟨g,cap,cur,rfl,h1,(hg.block g (hlt g rfl).2 (hne g rfl)).trans hh,h2⟩
section
variable {P:Program}{w:World}
theorem wpList_app {ops:Array Oper}{rest:List Oper}{o:Oper}{a:Act}{Q:Exit->Act->World->Prop}{t e:TypeId}{size bytes:Nat}(hE:ElemOk P t e size bytes)(hgd:o.guard=none)(s x:Operand)
  (ho:o.op= .call {callee:= .builtin .append,args:= #[s,x],argTypes:= #[t,t] })
  (base:Nat) (v:Value) (n:Nat) (xs:List Value) (hs:a.eval s=v) (hown:w.ownsRow base e size v n xs)
  (A:Option Addr) (m c:Nat) (news:List Value) (hx:a.eval x= .slice A m c) (hr:Sl w (.slice A m c) size m news) (h1: ∀ u∈news,u.oneCell'=true)
  (hbytes:n+m<=1000000000) (hby:bytes<=100000) (hbase:base<=w.heap.size)
  (h: ∀ v' w',w'.ownsRow base e size v' (n+m) (xs++news)->w.grownBy w' v.ownBlock->(v'.ownBlock=v.ownBlock∨v'.ownBlock=some w.heap.size)->wpList P ops Q rest (a.put o.dst v') w'):wpList P ops Q (o::rest) a w:=by
 obtain ⟨i,z,k1,k2,k3,k4,k5,k6,k7⟩:=hE.has
 refine wpList_append_any w hgd s x t ho base e i z size bytes k1 k2 k3 k4 k5 k6 k7 v n xs hs hown w.heap.size A m c news hx hr.reads h1 (by unfold maxLen;omega) ?_ hbase h
 have:=Nat.mul_le_mul hbytes hby
 omega
end
end Go.Proofs.YtmokmalepelinaaGreatDoor
/-
 Values without addresses ('D'),and what they stand for in a world:the base of the runs by values.
-/
namespace Go.Proofs.YtmokmalepelinaaGreatDoor.K
open Go.RowKit
inductive D where
 |v (x:Value)
 |sl (n:Nat) (cs:List D)
 |ag (cs:List D)
 |tu (cs:List D)
 |bx (k off:Nat)
 |el (cs:List D)
 |ms (k:Nat)
 |ba (k off:Nat)
 |wn (k sz lo n:Nat)
 |bv (k n:Nat)
 |fn (f:Nat) (cs:List D)
 |ifc (t:Nat) (d:D)
 |gd (p:Bool) (d:D)
 |any
 deriving Inhabited
inductive SC where
 |no
 |box (b:Nat)
 |arr (u:Value)
abbrev Pl:=Nat->SC
def nowhere:Pl:=fun _=> .no
structure Fix (X:Nat->Nat->Prop) (w:World) (b off:Nat) (vs:List Value):Prop where
 lt:b<w.heap.size
 nx: ∀ j,j<vs.length→ ¬ X b (off+j)
 at_:w.rangeAt b off vs
 one: ∀ v∈vs,v.oneCell'=true
def fnv (f:Nat)(vs:Array Value):Value:=if f<1000000 then .func (.func f) #[] vs else .func (.func (f-1000000)) vs #[]
theorem fnv_lt {f:Nat}{vs:Array Value}(h:f<1000000):fnv f vs= .func (.func f) #[] vs:=if_pos h
theorem fnv_ge {f:Nat}{vs:Array Value}(h: ¬ f<1000000):fnv f vs= .func (.func (f-1000000)) vs #[]:=if_neg h
theorem fnv_one (f:Nat)(vs:Array Value):(fnv f vs).oneCell'=true:=by unfold fnv;split<;>rfl
mutual
def C (X:Nat->Nat->Prop)(w:World)(σ:Pl):D->Value->Prop
 |.v x,u=>u=x/\x.oneCell'=true
 |.sl n cs,u=> ∃ A c,u= .slice A n c/\n<=c/\c<=maxLen/\(n=0->cs=[])∧
   (0<n→ ∃ b off vs,A=some ⟨b,off,none⟩/\Cs X w nowhere cs vs/\Fix X w b off vs)
 |.ag cs,u=> ∃ vs,u= .agg vs.toArray/\Cs X w σ cs vs
 |.tu cs,u=> ∃ vs,u= .tuple vs.toArray/\Cs X w σ cs vs
 |.bx k off,u=> ∃ b,σ k= .box b/\u= .pointer (some ⟨b,off,none⟩)
 |.el cs,u=> ∃ b off vs,u= .pointer (some ⟨b,off,none⟩)/\Cs X w nowhere cs vs/\Fix X w b off vs
 |.ms k,u=>σ k= .arr u/\u.oneCell'=true
 |.ba k off,u=> ∃ s b,σ k= .arr s/\s.ownBlock=some b/\u= .pointer (some ⟨b,off,none⟩)
 |.wn k sz lo n,u=>(∃ b m c,σ k= .arr (.slice (some ⟨b,0,none⟩) m c)/\lo+n<=c/\u= .slice (some ⟨b,if c=lo then 0 else lo*sz,none⟩) n (c-lo))∨(σ k= .arr (.slice none 0 0)/\lo=0/\n=0/\u= .slice none 0 0)
 |.bv k n,u=> ∃ b,σ k= .box b/\u= .slice (some ⟨b,0,none⟩) n n
 |.fn f cs,u=> ∃ vs,u=fnv f vs.toArray/\Cs X w σ cs vs
 |.ifc t d,u=> ∃ x,u= .iface t x/\C X w σ d x
 |.gd p d,u=>(p=true->C X w σ d u)/\(p=false->u=undef)
 |.any,_=>True
def Cs (X:Nat->Nat->Prop)(w:World)(σ:Pl):List D->List Value->Prop
 | [],vs=>vs=[]
 |d::ds,vs=> ∃ u us,vs=u::us/\C X w σ d u/\Cs X w σ ds us
end
mutual
def D.refs:D->List Nat
 |.bx k _|.ms k|.ba k _|.wn k _ _ _|.bv k _=>[k]
 |.ag cs=>D.refss cs
 |.tu cs=>D.refss cs
 |.fn _ cs=>D.refss cs
 |.ifc _ d=>d.refs
 |.gd _ d=>d.refs
 |.v _|.sl _ _|.el _|.any=>[]
def D.refss:List D->List Nat
 | []=>[]
 |d::ds=>d.refs++D.refss ds
end
structure Ext (X:Nat->Nat->Prop) (w:World) (X':Nat->Nat->Prop) (w':World):Prop where
 size:w.heap.size<=w'.heap.size
 keep: ∀ b o,b<w.heap.size→ ¬ X b o→ ¬ X' b o/\w'.cell? ⟨b,o,none⟩=w.cell? ⟨b,o,none⟩
 blk: ∀ b,b<w.heap.size->(∀ o, ¬ X b o)->w'.heap[b]? = w.heap[b]?
structure Ext0 (X:Nat->Nat->Prop) (w:World) (X':Nat->Nat->Prop) (w':World):Prop where
 size:w.heap.size<=w'.heap.size
 keep: ∀ b o,b<w.heap.size→ ¬ X b o→ ¬ X' b o/\w'.cell? ⟨b,o,none⟩=w.cell? ⟨b,o,none⟩
theorem Ext0.refl (X:Nat->Nat->Prop)(w:World):Ext0 X w X w:=⟨Nat.le_refl _,fun _ _ _ h=>⟨h,rfl⟩⟩
theorem Ext0.trans {X X' X'':Nat->Nat->Prop}{w w' w'':World}(h:Ext0 X w X' w')(k:Ext0 X' w' X'' w''):Ext0 X w X'' w'':=
 ⟨Nat.le_trans h.size k.size,fun b o hb hx=>by
  have h1:=h.keep b o hb hx
  have h2:=k.keep b o (Nat.lt_of_lt_of_le hb h.size) h1.1
  exact ⟨h2.1,h2.2.trans h1.2⟩⟩
def tabG:Option Nat:=some 5
def tabZ:List Int:=[1,10,100,1000,10000,100000,1000000,10000000,100000000,1000000000,10000000000,100000000000,1000000000000,10000000000000,100000000000000,1000000000000000,10000000000000000,100000000000000000,1000000000000000000,10000000000000000000]
def TabI (X:Nat->Nat->Prop)(w:World):Prop:= ∀ g,tabG=some g->g<w.heap.size/\(∀ o, ¬ X g o)∧ ∀ i:Nat,w.cell? ⟨g,i,none⟩=(tabZ[i]?).map (Value.int .u64)
theorem TabI.ext {X X':Nat->Nat->Prop}{w w':World}(h:TabI X w)(e:Ext0 X w X' w'):TabI X' w':=fun g hg=>by
 obtain ⟨h1,h2,h3⟩:=h g hg
 exact ⟨Nat.lt_of_lt_of_le h1 e.size,fun o=>(e.keep g o h1 (h2 o)).1,fun i=>by rw [(e.keep g i h1 (h2 i)).2];exact h3 i⟩
structure Ext1 (X:Nat->Nat->Prop) (w:World) (X':Nat->Nat->Prop) (w':World):Prop extends Ext0 X w X' w' where
 tab:TabI X' w'
theorem Ext1.trans {X X' X'':Nat->Nat->Prop}{w w' w'':World}(h:Ext1 X w X' w')(k:Ext0 X' w' X'' w''):Ext1 X w X'' w'':=⟨h.toExt0.trans k,h.tab.ext k⟩
structure Fin2 (X:Nat->Nat->Prop) (w:World):Prop where
 fin: ∀ b q,X b q->b<w.heap.size
 tab:TabI X w
instance {X:Nat->Nat->Prop} {w:World}:CoeFun (Fin2 X w) fun _=> ∀ b q,X b q->b<w.heap.size:=⟨Fin2.fin⟩
theorem Ext.weak {X X':Nat->Nat->Prop}{w w':World}(e:Ext X w X' w'):Ext0 X w X' w':=⟨e.size,e.keep⟩
theorem Ext.refl (X:Nat->Nat->Prop)(w:World):Ext X w X w:=⟨Nat.le_refl _,fun _ _ _ h=>⟨h,rfl⟩,fun _ _ _=>rfl⟩
theorem Ext.trans {X X' X'':Nat->Nat->Prop}{w w' w'':World}(h:Ext X w X' w')(k:Ext X' w' X'' w''):Ext X w X'' w'':=
 ⟨Nat.le_trans h.size k.size,fun b o hb hx=>by
  have h1:=h.keep b o hb hx
  have h2:=k.keep b o (Nat.lt_of_lt_of_le hb h.size) h1.1
  exact ⟨h2.1,h2.2.trans h1.2⟩,fun b hb hx=>(k.blk b (Nat.lt_of_lt_of_le hb h.size) fun o=>(h.keep b o hb (hx o)).1).trans (h.blk b hb hx)⟩
theorem Fix.ext {X X':Nat->Nat->Prop}{w w':World}{b off:Nat}{vs:List Value}(h:Fix X w b off vs)(e:Ext0 X w X' w'):Fix X' w' b off vs:=
 ⟨Nat.lt_of_lt_of_le h.lt e.size,fun j hj=>(e.keep b _ h.lt (h.nx j hj)).1,(fun j v hv=>by
  have hj:j<vs.length:=(List.getElem?_eq_some_iff.1 hv).1
  rw [(e.keep b _ h.lt (h.nx j hj)).2]
  exact h.at_ j v hv),h.one⟩
theorem Fix.drop_ {X:Nat->Nat->Prop}{w:World}{b off:Nat}{vs:List Value}(h:Fix X w b off vs)(n:Nat):Fix X w b (off+n) (vs.drop n):=
 ⟨h.lt,fun j hj=>by rw [Nat.add_assoc];exact h.nx (n+j) (by simp at hj;omega),(fun j v hv=>by
  rw [List.getElem?_drop] at hv
  rw [Nat.add_assoc]
  exact h.at_ _ v hv),fun v hv=>h.one v (List.mem_of_mem_drop hv)⟩
theorem Fix.take_ {X:Nat->Nat->Prop}{w:World}{b off:Nat}{vs:List Value}(h:Fix X w b off vs)(n:Nat):Fix X w b off (vs.take n):=
 ⟨h.lt,fun j hj=>h.nx j (by simp at hj;omega),(fun j v hv=>by
  rw [List.getElem?_take] at hv
  split at hv
  ·exact h.at_ _ v hv
  ·cases hv),fun v hv=>h.one v (List.mem_of_mem_take hv)⟩
section
variable {X X':Nat->Nat->Prop}{w w':World}
mutual
theorem C.ext0 {σ σ':Pl}(e:Ext0 X w X' w'): ∀ (d:D) (u:Value),(∀ k∈d.refs,σ' k=σ k)->C X w σ d u->C X' w' σ' d u
 |.v x,u,_,h=>by simpa only [C] using h
 |.sl n cs,u,_,h=>by
  simp only [C] at h ⊢
  obtain ⟨A,c,h1,h2,h3,h4,h5⟩:=h
  refine ⟨A,c,h1,h2,h3,h4,fun hn=> ?_⟩
  obtain ⟨b,off,vs,g1,g4,g5⟩:=h5 hn
  exact ⟨b,off,vs,g1,Cs.ext0 e cs vs (fun _ _=>rfl) g4,g5.ext e⟩
 |.ag cs,u,r,h=>by
  simp only [C] at h ⊢
  obtain ⟨vs,h1,h2⟩:=h
  exact ⟨vs,h1,Cs.ext0 e cs vs (fun k hk=>r k (by simpa only [D.refs] using hk)) h2⟩
 |.tu cs,u,r,h=>by
  simp only [C] at h ⊢
  obtain ⟨vs,h1,h2⟩:=h
  exact ⟨vs,h1,Cs.ext0 e cs vs (fun k hk=>r k (by simpa only [D.refs] using hk)) h2⟩
 |.bx k off,u,r,h=>by
  simp only [C] at h ⊢
  obtain ⟨b,h1,h2⟩:=h
  exact ⟨b,(r k (by simp [D.refs])).trans h1,h2⟩
 |.el cs,u,_,h=>by
  simp only [C] at h ⊢
  obtain ⟨b,off,vs,g1,g4,g5⟩:=h
  exact ⟨b,off,vs,g1,Cs.ext0 e cs vs (fun _ _=>rfl) g4,g5.ext e⟩
 |.ms k,u,r,h=>by
  simp only [C] at h ⊢
  exact ⟨(r k (by simp [D.refs])).trans h.1,h.2⟩
 |.ba k off,u,r,h=>by
  simp only [C] at h ⊢
  obtain ⟨s,b,h1,h2⟩:=h
  exact ⟨s,b,(r k (by simp [D.refs])).trans h1,h2⟩
 |.wn k sz lo n,u,r,h=>by
  simp only [C] at h ⊢
  rw [r k (by simp [D.refs])]
  exact h
 |.bv k n,u,r,h=>by
  simp only [C] at h ⊢
  obtain ⟨b,h1,h2⟩:=h
  exact ⟨b,(r k (by simp [D.refs])).trans h1,h2⟩
 |.fn f cs,u,r,h=>by
  simp only [C] at h ⊢
  obtain ⟨vs,h1,h2⟩:=h
  exact ⟨vs,h1,Cs.ext0 e cs vs (fun k hk=>r k (by simpa only [D.refs] using hk)) h2⟩
 |.ifc t d,u,r,h=>by
  simp only [C] at h ⊢
  obtain ⟨x,h1,h2⟩:=h
  exact ⟨x,h1,C.ext0 e d x (fun k hk=>r k (by simpa only [D.refs] using hk)) h2⟩
 |.gd p d,u,r,h=>by
  simp only [C] at h ⊢
  exact ⟨fun hp=>C.ext0 e d u (fun k hk=>r k (by simpa only [D.refs] using hk)) (h.1 hp),h.2⟩
 |.any,u,_,h=>by simp only [C]
theorem Cs.ext0 {σ σ':Pl}(e:Ext0 X w X' w'): ∀ (ds:List D) (us:List Value),(∀ k∈D.refss ds,σ' k=σ k)->Cs X w σ ds us->Cs X' w' σ' ds us
 | [],us,_,h=>by simpa only [Cs] using h
 |d::ds,us,r,h=>by
  simp only [Cs] at h ⊢
  obtain ⟨u,us',h1,h2,h3⟩:=h
  exact ⟨u,us',h1,C.ext0 e d u (fun k hk=>r k (by simp only [D.refss,List.mem_append];exact .inl hk)) h2,Cs.ext0 e ds us' (fun k hk=>r k (by simp only [D.refss,List.mem_append];exact .inr hk)) h3⟩
end
theorem C.ext {σ σ':Pl}(e:Ext X w X' w')(d:D)(u:Value)(hr: ∀ k∈d.refs,σ' k=σ k)(h:C X w σ d u):C X' w' σ' d u:=C.ext0 e.weak d u hr h
theorem Cs.ext {σ σ':Pl}(e:Ext X w X' w')(ds:List D)(us:List Value)(hr: ∀ k∈D.refss ds,σ' k=σ k)(h:Cs X w σ ds us):Cs X' w' σ' ds us:=Cs.ext0 e.weak ds us hr h
mutual
theorem C.up {σ:Pl}: ∀ (d:D) (u:Value),C X w nowhere d u->C X w σ d u
 |.v x,u,h=>by simpa only [C] using h
 |.sl n cs,u,h=>by simpa only [C] using h
 |.ag cs,u,h=>by
  simp only [C] at h ⊢
  obtain ⟨vs,h1,h2⟩:=h
  exact ⟨vs,h1,Cs.up cs vs h2⟩
 |.tu cs,u,h=>by
  simp only [C] at h ⊢
  obtain ⟨vs,h1,h2⟩:=h
  exact ⟨vs,h1,Cs.up cs vs h2⟩
 |.bx k off,u,h=>by
  simp only [C,nowhere] at h
  obtain ⟨b,h1,_⟩:=h
  cases h1
 |.el cs,u,h=>by simpa only [C] using h
 |.ms k,u,h=>by
  simp only [C,nowhere] at h
  cases h.1
 |.ba k off,u,h=>by
  simp only [C,nowhere] at h
  obtain ⟨s,b,h1,_⟩:=h
  cases h1
 |.wn k sz lo n,u,h=>by
  simp only [C,nowhere] at h
  rcases h with ⟨b,m,c,h1,_⟩|⟨h1,_⟩<;>cases h1
 |.bv k n,u,h=>by
  simp only [C,nowhere] at h
  obtain ⟨b,h1,_⟩:=h
  cases h1
 |.fn f cs,u,h=>by
  simp only [C] at h ⊢
  obtain ⟨vs,h1,h2⟩:=h
  exact ⟨vs,h1,Cs.up cs vs h2⟩
 |.ifc t d,u,h=>by
  simp only [C] at h ⊢
  obtain ⟨x,h1,h2⟩:=h
  exact ⟨x,h1,C.up d x h2⟩
 |.gd p d,u,h=>by
  simp only [C] at h ⊢
  exact ⟨fun hp=>C.up d u (h.1 hp),h.2⟩
 |.any,u,h=>by simp only [C]
theorem Cs.up {σ:Pl}: ∀ (ds:List D) (us:List Value),Cs X w nowhere ds us->Cs X w σ ds us
 | [],us,h=>by simpa only [Cs] using h
 |d::ds,us,h=>by
  simp only [Cs] at h ⊢
  obtain ⟨u,us',h1,h2,h3⟩:=h
  exact ⟨u,us',h1,C.up d u h2,Cs.up ds us' h3⟩
end
end
section
variable {X:Nat->Nat->Prop}{w:World}{σ:Pl}
theorem C.any_ (u:Value):C X w σ .any u:=by simp only [C]
theorem Cs.len {ds:List D}{us:List Value}(h:Cs X w σ ds us):us.length=ds.length:=by
 induction ds generalizing us with
 |nil=>simp only [Cs] at h;simp [h]
 |cons d ds ih=>
  simp only [Cs] at h
  obtain ⟨u,us',rfl,_,h3⟩:=h
  simp [ih h3]
theorem Cs.at_ {ds:List D}{us:List Value}(h:Cs X w σ ds us){i:Nat}{d:D}(hd:ds[i]? = some d): ∃ u,us[i]? = some u/\C X w σ d u:=by
 induction ds generalizing us i with
 |nil=>simp at hd
 |cons d' ds ih=>
  simp only [Cs] at h
  obtain ⟨u,us',rfl,h2,h3⟩:=h
  rcases i with _|i
  ·simp at hd;subst hd;exact ⟨u,by simp,h2⟩
  ·simp at hd ⊢; exact ih h3 hd
theorem Cs.set_ {ds:List D}{us:List Value}(h:Cs X w σ ds us)(i:Nat){d:D}{u:Value}(hd:C X w σ d u):Cs X w σ (ds.set i d) (us.set i u):=by
 induction ds generalizing us i with
 |nil=>simp only [Cs] at h;subst h;simp [Cs]
 |cons d' ds ih=>
  simp only [Cs] at h
  obtain ⟨u',us',rfl,h2,h3⟩:=h
  rcases i with _|i
  ·simp only [List.set_cons_zero,Cs];exact ⟨u,us',rfl,hd,h3⟩
  ·simp only [List.set_cons_succ,Cs];exact ⟨u',_,rfl,h2,ih h3 i⟩
theorem Cs.app {xs ys:List D}{us vs:List Value}(h:Cs X w σ xs us)(k:Cs X w σ ys vs):Cs X w σ (xs++ys) (us++vs):=by
 induction xs generalizing us with
 |nil=>simp only [Cs] at h;subst h;simpa using k
 |cons d ds ih=>
  simp only [Cs] at h
  obtain ⟨u,us',rfl,h2,h3⟩:=h
  simp only [List.cons_append,Cs]
  exact ⟨u,us'++vs,rfl,h2,ih h3⟩
theorem Cs.take_ {ds:List D}{us:List Value}(h:Cs X w σ ds us)(n:Nat):Cs X w σ (ds.take n) (us.take n):=by
 induction ds generalizing us n with
 |nil=>simp only [Cs] at h;subst h;simp [Cs]
 |cons d' ds ih=>
  simp only [Cs] at h
  obtain ⟨u',us',rfl,h2,h3⟩:=h
  rcases n with _|n
  ·simp [Cs]
  ·simp only [List.take_succ_cons,Cs];exact ⟨u',_,rfl,h2,ih h3 n⟩
theorem Cs.drop_ {ds:List D}{us:List Value}(h:Cs X w σ ds us)(n:Nat):Cs X w σ (ds.drop n) (us.drop n):=by
 induction ds generalizing us n with
 |nil=>simp only [Cs] at h;subst h;simp [Cs]
 |cons d' ds ih=>
  simp only [Cs] at h
  obtain ⟨u',us',rfl,h2,h3⟩:=h
  rcases n with _|n
  ·simp only [List.drop_zero,Cs];exact ⟨u',us',rfl,h2,h3⟩
  ·simp only [List.drop_succ_cons];exact ih h3 n
theorem Cs.split {xs ys:List D}{us:List Value}(h:Cs X w σ (xs++ys) us): ∃ us1 us2,us=us1++us2/\Cs X w σ xs us1/\Cs X w σ ys us2:=
 ⟨us.take xs.length,us.drop xs.length,(List.take_append_drop _ _).symm,by simpa using h.take_ xs.length,by simpa using h.drop_ xs.length⟩
theorem Cs.one {d:D}{us:List Value}(h:Cs X w σ [d] us): ∃ u,us=[u]/\C X w σ d u:=by
 simp only [Cs] at h
 obtain ⟨u,us',rfl,h2,rfl⟩:=h
 exact ⟨u,rfl,h2⟩
theorem Cs.mk1 {d:D}{u:Value}(h:C X w σ d u):Cs X w σ [d] [u]:=by
 simp only [Cs]
 exact ⟨u,[],rfl,h,rfl⟩
theorem Cs.cons {d:D}{u:Value}{ds:List D}{us:List Value}(h:C X w σ d u)(k:Cs X w σ ds us):Cs X w σ (d::ds) (u::us):=by
 simp only [Cs]
 exact ⟨u,us,rfl,h,k⟩
theorem Cs.plain {vs:List Value}(h: ∀ u∈vs,u.oneCell'=true):Cs X w σ (vs.map D.v) vs:=by
 induction vs with
 |nil=>simp [Cs]
 |cons u us ih=>
  simp only [List.map_cons,Cs,C]
  exact ⟨u,us,rfl,⟨rfl,h u (by simp)⟩,ih fun x hx=>h x (by simp [hx])⟩
end
end Go.Proofs.YtmokmalepelinaaGreatDoor.K
/-
 The operations of a function in short ('AO'),what they do to values without addresses,and that they do so.
-/
namespace Go.Proofs.YtmokmalepelinaaGreatDoor.K
open Go.RowKit
inductive AX where
 |t (i:Nat)
 |c (d:D)
 deriving Inhabited
def AX.val (ts:List D):AX->Option (D×Prop)
 |.t i=>match ts[i]? with
  |some (.gd p d)=>some (d,p=true)
  |some .any=>none
  |some d=>some (d,True)
  |none=>none
 |.c d=>some (d,True)
inductive AO where
 |mv (x:AX)
 |pick (c a b:AX)
 |fa (off:Nat) (x:AX)
 |fd (agg:Bool) (off n:Nat) (x:AX)
 |ix (sz:Nat) (x i:AX)
 |sx (x i:AX)
 |bin (bl:Bool) (op:BinOp) (x y:AX)
 |nc (x:AX)
 |nt (x:AX)
 |ng (x:AX)
 |cv (k:IntKind) (x:AX)
 |ext (i:Nat) (x:AX)
 |len (str:Bool) (x:AX)
 |mx (x y:AX)
 |mx3 (x y z:AX)
 |mn (x y:AX)
 |eqs (neg:Bool) (ks:List Nat) (x y:AX)
 |slc (sz:Nat) (x:AX) (lo hi mx:Option AX)
 |sls (x:AX) (lo hi:Option AX)
 |bd (init:List D) (parts:List (Nat×Nat×AX))
 |lde (agg:Bool) (n:Nat) (x:AX)
def trX:Operand->Option AX
 |.tmp t=>some (.t t)
 |.const v=>if v.oneCell' then some (.c (.v v)) else none
 |.global g=>some (.c (.v (.pointer (some ⟨g,0,none⟩))))
 |.func f=>some (.c (.v (.func (.func f) #[] #[])))
section
variable {X:Nat->Nat->Prop}{w:World}{σ:Pl}{ts:List D}{us:List Value}
theorem val_sound {o:Operand}{x:AX}{d:D}{φ:Prop}(hx:trX o=some x)(hv:x.val ts=some (d,φ))(hc:Cs X w σ ts us)(hφ:φ):C X w σ d (Act.eval ⟨us.toArray,[]⟩ o):=by
 cases o with
 |tmp t=>
  simp only [trX,Option.some.injEq] at hx
  subst hx
  simp only [AX.val] at hv
  cases ht:ts[t]? with
  |none=>simp [ht] at hv
  |some e=>
   obtain ⟨u,hu,hcu⟩:=hc.at_ ht
   have he:Act.eval ⟨us.toArray,[]⟩ (.tmp t)=u:=by simp [Act.eval,hu]
   rw [he]
   rw [ht] at hv
   cases e<;>simp at hv<;>obtain ⟨rfl,hq⟩:=hv<;>first|exact hcu|(simp only [C] at hcu;exact hcu.1 (by simpa [hq] using hφ))
 |const v=>
  simp only [trX] at hx
  split at hx
  ·rename_i h1
   simp only [Option.some.injEq] at hx
   subst hx
   simp only [AX.val,Option.some.injEq,Prod.mk.injEq] at hv
   obtain ⟨rfl,_⟩:=hv
   simp only [C]
   exact ⟨rfl,h1⟩
  ·simp at hx
 |global g=>
  simp only [trX,Option.some.injEq] at hx
  subst hx
  simp only [AX.val,Option.some.injEq,Prod.mk.injEq] at hv
  obtain ⟨rfl,_⟩:=hv
  simp only [C]
  exact ⟨rfl,rfl⟩
 |func f=>
  simp only [trX,Option.some.injEq] at hx
  subst hx
  simp only [AX.val,Option.some.injEq,Prod.mk.injEq] at hv
  obtain ⟨rfl,_⟩:=hv
  simp only [C]
  exact ⟨rfl,rfl⟩
end
def isRow:TypeDesc->Bool
 |.struct _|.array _ _=>true
 |_=>false
def trParts (place:Nat->Option (Nat×Nat)):List (Nat×Operand)->Option (List (Nat×Nat×AX))
 | []=>some []
 |(i,x)::r=>match place i,trX x,trParts place r with
  |some (off,sz),some ax,some l=>some ((off,sz,ax)::l)
  |_,_,_=>none
def initD (z:Value):Option (List D):=if z.cells.toList.all (·.oneCell') then some (z.cells.toList.map D.v) else none
def placesOf (P:Program)(t:TypeId):Option (Nat->Option (Nat×Nat)):=
 match P.underlying t with
 |some (.struct fs)=>match fs.toList.mapM (fun f=>(P.info? f.type).map fun i=>(f.offset,i.size)) with
  |some places=>some (places.toArray[·]?)
  |none=>none
 |some (.array _ e)=>match P.info? e with
  |some ie=>some (fun i=>some (i*ie.size,ie.size))
  |none=>none
 |_=>none
def flatF (P:Program)(fl:TypeId->Option (List Nat)):List Field->Nat->Option (List Nat)
 | [],_=>some []
 |f::r,off=>if f.name≠ "_" ∧ f.offset=off then match fl f.type,P.info? f.type,flatF P fl r (off+((P.info? f.type).map (·.size)).getD 0) with
  |some ks,some inf,some l=>if inf.size=ks.length then some (ks++l) else none
  |_,_,_=>none
  else none
def flat (P:Program):Nat->TypeId->Option (List Nat)
 |0,_=>none
 |n+1,t=>match P.underlying t with
  |some (.int _)=>some [0]
  |some .bool=>some [1]
  |some .string=>some [2]
  |some (.struct fs)=>if P.stoodInHeld t then none else flatF P (flat P n) fs.toList 0
  |_=>none
def trO:Option Operand->Option (Option AX)
 |none=>some none
 |some x=>(trX x).map some
def trCall (P:Program)(c:Call):Option AO:=
 match c.callee with
 |.builtin .len=>match c.args.toList,c.argTypes.toList with
  | [x],[t]=>match P.underlying t,trX x with
   |some .string,some x=>some (.len true x)
   |some (.slice _),some x=>some (.len false x)
   |_,_=>none
  |_,_=>none
 |.builtin .max=>match c.args.toList with
  | [x,y]=>match trX x,trX y with
   |some x,some y=>some (.mx x y)
   |_,_=>none
  | [x,y,z]=>match trX x,trX y,trX z with
   |some x,some y,some z=>some (.mx3 x y z)
   |_,_,_=>none
  |_=>none
 |.builtin .min=>match c.args.toList with
  | [x,y]=>match trX x,trX y with
   |some x,some y=>some (.mn x y)
   |_,_=>none
  |_=>none
 |_=>none
def tr (P:Program)(o:Op):Option AO:=
 match o with
 |.move x|.assign x=>(trX x).map .mv
 |.pick c a b=>match trX c,trX a,trX b with
  |some c,some a,some b=>some (.pick c a b)
  |_,_,_=>none
 |.fieldAddr s x f=>match P.underlying s,trX x with
  |some (.struct fs),some x=>match fs[f]? with
   |some fd=>match P.info? fd.type with
    |some inf=>if inf.size=0 then none else some (.fa fd.offset x)
    |none=>none
   |none=>none
  |_,_=>none
 |.field s x f=>match P.underlying s,trX x with
  |some (.struct fs),some x=>match fs[f]? with
   |some fd=>match P.info? fd.type,P.underlying fd.type with
    |some inf,some d=>some (.fd (isRow d) fd.offset inf.size x)
    |_,_=>none
   |none=>none
  |_,_=>none
 |.indexAddr t x i=>match P.underlying t,trX x,trX i with
  |some (.slice e),some x,some i=>(P.info? e).map fun inf=> .ix inf.size x i
  |some (.array n e),some x,some (.c (.v (.int _ j)))=>match P.info? e with
   |some inf=>if inf.size=0 then none else if 0<=j/\j<n then some (.fa (j.toNat*inf.size) x) else none
   |none=>none
  |_,_,_=>none
 |.index t x i=>match P.underlying t,trX x,trX i with
  |some .string,some x,some i=>some (.sx x i)
  |_,_,_=>none
 |.binOp op t x y _=>match P.underlying t,trX x,trX y with
  |some (.int _),some x,some y=>some (.bin false op x y)
  |some .string,some x,some y=>some (.bin false op x y)
  |some .bool,some x,some y=>some (.bin true op x y)
  |some (.struct _),some x,some y=>match op with
   |.eql=>if P.eqGuardType P.depth t then none else (flat P 8 t).map fun ks=> .eqs false ks x y
   |.neq=>if P.eqGuardType P.depth t then none else (flat P 8 t).map fun ks=> .eqs true ks x y
   |_=>none
  |_,_,_=>none
 |.nilCheck x=>(trX x).map .nc
 |.unOp .not _ x=>(trX x).map .nt
 |.unOp .neg _ x=>(trX x).map .ng
 |.convert s d x=>match P.underlying s,P.underlying d,trX x with
  |some _,some (.int k),some x=>some (.cv k x)
  |_,_,_=>none
 |.extract x i=>(trX x).map (.ext i)
 |.load t x=>match P.underlying t,P.info? t,trX x with
  |some d,some inf,some x=>some (.lde (isRow d) inf.size x)
  |_,_,_=>none
 |.slice t x lo hi mx=>match P.underlying t,trX x,trO lo,trO hi,trO mx with
  |some (.slice e),some x,some lo,some hi,some mx=>if mx.isSome&&hi.isNone then none else (P.info? e).map fun i=> .slc i.size x lo hi mx
  |some .string,some x,some lo,some hi,some none=>some (.sls x lo hi)
  |_,_,_,_,_=>none
 |.build t parts=>match placesOf P t,(P.info? t).bind (·.zero) with
  |some pl,some z=>match trParts pl parts.toList,initD z with
   |some l,some i=>some (.bd i l)
   |_,_=>none
  |_,_=>none
 |.call c=>trCall P c
 |_=>none
def iband (k:IntKind)(a b:Int):Int:=k.wrap (((BitVec.ofInt k.bits a &&& BitVec.ofInt k.bits b).toNat:Nat):Int)
def ibor (k:IntKind)(a b:Int):Int:=k.wrap (((BitVec.ofInt k.bits a ||| BitVec.ofInt k.bits b).toNat:Nat):Int)
def ibxor (k:IntKind)(a b:Int):Int:=k.wrap (((BitVec.ofInt k.bits a ^^^ BitVec.ofInt k.bits b).toNat:Nat):Int)
def ishl (k:IntKind)(a b:Int):Int:=k.wrap (a*2 ^ (min b.toNat k.bits))
def ishr (k:IntKind)(a b:Int):Int:=a.fdiv (2 ^ (min b.toNat k.bits))
def binI (k:IntKind)(a b:Int):BinOp->Option (Value×Prop)
 |.add=>some (.int k (k.wrap (a+b)),True)
 |.sub=>some (.int k (k.wrap (a-b)),True)
 |.mul=>some (.int k (k.wrap (a*b)),True)
 |.quo=>some (.int k (k.wrap (a.tdiv b)),b≠0)
 |.rem=>some (.int k (a.tmod b),b≠0)
 |.eql=>some (.bool (a==b),True)
 |.neq=>some (.bool (a != b),True)
 |.lss=>some (.bool (decide (a<b)),True)
 |.leq=>some (.bool (decide (a<=b)),True)
 |.gtr=>some (.bool (decide (a > b)),True)
 |.geq=>some (.bool (decide (a≥b)),True)
 |.and=>some (.int k (iband k a b),True)
 |.or=>some (.int k (ibor k a b),True)
 |.xor=>some (.int k (ibxor k a b),True)
 |.shl=>some (.int k (ishl k a b),0<=b)
 |.shr=>some (.int k (ishr k a b),0<=b)
 |_=>none
def shI (k:IntKind)(a b:Int):BinOp->Option (Value×Prop)
 |.shl=>some (.int k (ishl k a b),0<=b)
 |.shr=>some (.int k (ishr k a b),0<=b)
 |_=>none
def slt (a b:ByteArray):Bool:=Op.bytesLess a.toList b.toList
def binS (a b:ByteArray):BinOp->Option (Value×Prop)
 |.eql=>some (.bool (a.toList==b.toList),True)
 |.neq=>some (.bool (!(a.toList==b.toList)),True)
 |.add=>some (.string (a++b),a.size+b.size<=9223372036854775807)
 |.lss=>some (.bool (slt a b),True)
 |.leq=>some (.bool (slt a b||a.toList==b.toList),True)
 |.gtr=>some (.bool (!(slt a b||a.toList==b.toList)),True)
 |.geq=>some (.bool (!slt a b),True)
 |_=>none
def binB (a b:Bool):BinOp->Option (Value×Prop)
 |.eql=>some (.bool (a==b),True)
 |.neq=>some (.bool (!(a==b)),True)
 |_=>none
def binV (bl:Bool)(op:BinOp):Value->Value->Option (Value×Prop)
 |.int k a,.int k' b=>if k=k' then binI k a b op else shI k a b op
 |.string a,.string b=>binS a b op
 |.bool a,.bool b=>if bl then binB a b op else none
 |_,_=>none
def D.cells:D->List D
 |.ag cs=>cs
 |d=>[d]
def D.cell1:D->Bool
 |.v _|.sl _ _|.bx _ _|.el _|.ms _|.ba _ _|.wn _ _ _ _|.bv _ _|.fn _ _|.ifc _ _=>true
 |_=>false
def D.cellable:D->Bool
 |.ag cs=>cs.all D.cell1
 |d=>d.cell1
def setFrom {α:Type}(cs:List α):Nat->List α->List α
 |_,[]=>cs
 |o,v::r=>setFrom (cs.set o v) (o+1) r
def fillD (ts:List D)(cells:List D):List (Nat×Nat×AX)->Option (List D×Prop)
 | []=>some (cells,True)
 |(off,sz,x)::r=>match x.val ts with
  |some (d,φ)=>match fillD ts (setFrom cells off d.cells) r with
   |some (cs,ψ)=>some (cs,(φ/\d.cellable=true/\d.cells.length=sz/\off+sz<=cells.length)/\ψ)
   |none=>none
  |none=>none
def eqK:Nat->D->D->Option Bool
 |0,.v (.int k a),.v (.int k' b)=>if k=k' then some (a==b) else none
 |1,.v (.bool a),.v (.bool b)=>some (a==b)
 |2,.v (.string a),.v (.string b)=>some (a.toList==b.toList)
 |_,_,_=>none
def eqKs:List Nat->List D->List D->Option Bool
 | [],[],[]=>some true
 |k::ks,x::xs,y::ys=>match eqK k x y,eqKs ks xs ys with
  |some a,some b=>some (a&&b)
  |_,_=>none
 |_,_,_=>none
def bndD (ts:List D)(dflt:Int):Option AX->Option (Int×Prop)
 |none=>some (dflt,True)
 |some x=>match x.val ts with
  |some (.v (.int _ j),φ)=>some (j,φ)
  |_=>none
def pickV (p:Bool):Value->Value->Option Value
 |.bool a,.bool b=>some (.bool (bif p then a else b))
 |_,_=>none
def AO.ev (ts:List D):AO->Option (D×Prop)
 |.mv x=>x.val ts
 |.pick c a b=>match c.val ts with
  |some (.v (.bool p),φ)=>match a.val ts,b.val ts with
   |some (.v a,α),some (.v b,β)=>(pickV p a b).map fun r=>(.v r,φ/\(p=true->α)/\(p=false->β))
   |_,_=>none
  |_=>none
 |.fa off x=>match x.val ts with
  |some (.bx k o,φ)=>some (.bx k (o+off),φ)
  |some (.ba k o,φ)=>some (.ba k (o+off),φ)
  |some (.v (.pointer (some ⟨b,o,none⟩)),φ)=>some (.v (.pointer (some ⟨b,o+off,none⟩)),φ)
  |some (.el cs,φ)=>some (.el (cs.drop off),φ)
  |_=>none
 |.fd false off _ x=>match x.val ts with
  |some (.ag cs,φ)=>match cs[off]? with
   |some d=>some (d,φ)
   |none=>none
  |_=>none
 |.fd true off n x=>match x.val ts with
  |some (.ag cs,φ)=>some (.ag ((cs.drop off).take n),φ)
  |_=>none
 |.ix sz x i=>match x.val ts,i.val ts with
  |some (.sl n cs,φ),some (.v (.int _ j),ψ)=>some (.el (cs.drop (j.toNat*sz)),φ/\ψ/\0<=j/\j<n)
  |_,_=>none
 |.sx x i=>match x.val ts,i.val ts with
  |some (.v (.string s),φ),some (.v (.int _ j),ψ)=>some (.v (.int .u8 ((s.data.toList.getD j.toNat 0).toNat:Nat)),φ/\ψ/\0<=j/\j<s.size)
  |_,_=>none
 |.bin bl op x y=>match x.val ts,y.val ts with
  |some (.v a,φ),some (.v b,ψ)=>match binV bl op a b with
   |some (r,χ)=>some (.v r,φ/\ψ/\χ)
   |none=>none
  |_,_=>none
 |.nc x=>match x.val ts with
  |some (.bx k o,φ)=>some (.bx k o,φ)
  |some (.ba k o,φ)=>some (.ba k o,φ)
  |some (.v (.pointer (some a)),φ)=>some (.v (.pointer (some a)),φ)
  |_=>none
 |.nt x=>match x.val ts with
  |some (.v (.bool b),φ)=>some (.v (.bool !b),φ)
  |_=>none
 |.ng x=>match x.val ts with
  |some (.v (.int k n),φ)=>some (.v (.int k (k.wrap (0-n))),φ)
  |_=>none
 |.cv k x=>match x.val ts with
  |some (.v (.int _ n),φ)=>some (.v (.int k (k.wrap n)),φ)
  |_=>none
 |.ext i x=>match x.val ts with
  |some (.tu ds,φ)=>match ds[i]? with
   |some d=>some (d,φ)
   |none=>none
  |_=>none
 |.len false x=>match x.val ts with
  |some (.sl n _,φ)=>some (.v (.int .i64 (n:Int)),φ)
  |some (.v (.slice _ n _),φ)=>some (.v (.int .i64 (n:Int)),φ)
  |_=>none
 |.len true x=>match x.val ts with
  |some (.v (.string s),φ)=>some (.v (.int .i64 (s.size:Int)),φ)
  |_=>none
 |.mx x y=>match x.val ts,y.val ts with
  |some (.v (.int k a),φ),some (.v (.int k' b),ψ)=>if k=k' then some (.v (.int k (if b > a then b else a)),φ/\ψ) else none
  |_,_=>none
 |.mx3 x y z=>match x.val ts,y.val ts,z.val ts with
  |some (.v (.int k a),φ),some (.v (.int k' b),ψ),some (.v (.int k'' c),χ)=>if k=k'/\k=k'' then some (.v (.int k (if c > (if b > a then b else a) then c else (if b > a then b else a))),φ/\ψ/\χ) else none
  |_,_,_=>none
 |.mn x y=>match x.val ts,y.val ts with
  |some (.v (.int k a),φ),some (.v (.int k' b),ψ)=>if k=k' then some (.v (.int k (if b<a then b else a)),φ/\ψ) else none
  |_,_=>none
 |.eqs neg ks x y=>match x.val ts,y.val ts with
  |some (.ag xs,φ),some (.ag ys,ψ)=>match eqKs ks xs ys with
   |some b=>some (.v (.bool (if neg then !b else b)),φ/\ψ)
   |none=>none
  |_,_=>none
 |.slc sz x lo hi top=>match x.val ts with
  |some (.sl n cs,φ)=>match bndD ts 0 lo,bndD ts n hi,bndD ts n top with
   |some (l,ψ1),some (h,ψ2),some (m,ψ3)=>some (.sl (h.toNat-l.toNat) ((cs.drop (l.toNat*sz)).take ((h.toNat-l.toNat)*sz)),φ/\ψ1/\ψ2/\ψ3/\0<=l/\l<=h/\h<=m/\m<=n)
   |_,_,_=>none
  |some (.v (.slice none 0 0),φ)=>match bndD ts 0 lo,bndD ts 0 hi,bndD ts 0 top with
   |some (l,ψ1),some (h,ψ2),some (m,ψ3)=>some (.v (.slice none 0 0),φ/\ψ1/\ψ2/\ψ3/\l=0/\h=0/\m=0)
   |_,_,_=>none
  |_=>none
 |.sls x lo hi=>match x.val ts with
  |some (.v (.string s),φ)=>match bndD ts 0 lo,bndD ts s.size hi with
   |some (l,ψ1),some (h,ψ2)=>some (.v (.string (s.extract l.toNat h.toNat)),φ/\ψ1/\ψ2/\0<=l/\l<=h/\h<=s.size)
   |_,_=>none
  |_=>none
 |.bd init parts=>match fillD ts init parts with
  |some (cs,φ)=>some (.ag cs,φ)
  |none=>none
 |.lde agg n x=>match x.val ts with
  |some (.el cs,φ)=>if agg then some (.ag (cs.take n),φ/\n<=cs.length) else match cs with
   |d::_=>some (d,φ)
   | []=>none
  |_=>none
def D.val? : D->Option Value
 |.v x=>some x
 |_=>none
section
variable {P:Program}{X:Nat->Nat->Prop}{w:World}{σ:Pl}{ts:List D}{us:List Value}
theorem C.v {x u:Value}(h:C X w σ (.v x) u):u=x/\x.oneCell'=true:=by simpa only [C] using h
theorem C.mkv {x:Value}(h:x.oneCell'=true):C X w σ (.v x) x:=by simp only [C];exact ⟨trivial,h⟩
end
def Sound (P:Program)(X:Nat->Nat->Prop)(w:World)(σ:Pl)(ts:List D)(us:List Value)(op:Op):Prop:=
 ∀ (ao:AO) (d:D) (φ:Prop) (dst:Option Tmp) (ty:TypeId) (pos:String) (after:Array Edge) (guard:Option (Nat×Bool)),tr P op=some ao->ao.ev ts=some (d,φ)->φ->Cs X w σ ts us→
  ∃ u,(execOp (Act.eval ⟨us.toArray,[]⟩) ⟨dst,op,ty,pos,after,guard⟩).run P w= .ok (.value u) w/\C X w σ d u
section
variable {P:Program}{X:Nat->Nat->Prop}{w:World}{σ:Pl}{ts:List D}{us:List Value}
theorem sound_move (x:Operand):Sound P X w σ ts us (.move x):=by
 intro ao d φ dst ty pos after guard ht he hφ hc
 simp only [tr,Option.map_eq_some_iff] at ht
 obtain ⟨ax,hx,rfl⟩:=ht
 exact ⟨_,by simp [execOp],val_sound hx he hc hφ⟩
theorem sound_assign (x:Operand):Sound P X w σ ts us (.assign x):=by
 intro ao d φ dst ty pos after guard ht he hφ hc
 simp only [tr,Option.map_eq_some_iff] at ht
 obtain ⟨ax,hx,rfl⟩:=ht
 exact ⟨_,by simp [execOp],val_sound hx he hc hφ⟩
theorem sound_pick (c a b:Operand):Sound P X w σ ts us (.pick c a b):=by
 intro ao d φ dst ty pos after guard ht he hφ hc
 simp only [tr] at ht
 cases hc1:trX c<;>cases hc2:trX a<;>cases hc3:trX b<;>simp only [hc1,hc2,hc3,reduceCtorEq,Option.some.injEq] at ht
 subst ht
 rename_i xc xa xb
 simp only [AO.ev] at he
 split at he
 ·rename_i p α hp
  split at he
  ·rename_i va β vb γ ha hb
   simp only [Option.map_eq_some_iff,Prod.mk.injEq] at he
   obtain ⟨r,hr,rfl,rfl⟩:=he
   have k1:=C.v (val_sound hc1 hp hc hφ.1)
   cases va<;>cases vb<;>simp only [pickV,reduceCtorEq,Option.some.injEq] at hr
   subst hr
   cases p
   ·have k2:=C.v (val_sound hc3 hb hc (hφ.2.2 rfl))
    exact ⟨_,by simp [execOp,k1.1,k2.1,asBool],C.mkv rfl⟩
   ·have k2:=C.v (val_sound hc2 ha hc (hφ.2.1 rfl))
    exact ⟨_,by simp [execOp,k1.1,k2.1,asBool],C.mkv rfl⟩
  ·cases he
 ·cases he
theorem sound_extract (x:Operand)(i:Nat):Sound P X w σ ts us (.extract x i):=by
 intro ao d φ dst ty pos after guard ht he hφ hc
 simp only [tr,Option.map_eq_some_iff] at ht
 obtain ⟨ax,hx,rfl⟩:=ht
 simp only [AO.ev] at he
 split at he
 ·rename_i ds ψ hv
  split at he
  ·rename_i d' hd
   simp only [Option.some.injEq,Prod.mk.injEq] at he
   obtain ⟨rfl,rfl⟩:=he
   have k:=val_sound hx hv hc hφ
   simp only [C] at k
   obtain ⟨vs,e1,e2⟩:=k
   obtain ⟨u,hu,hcu⟩:=e2.at_ hd
   exact ⟨u,by simp [execOp,e1,Instr.extract,hu],hcu⟩
  ·cases he
 ·cases he
theorem sound_nilCheck (x:Operand):Sound P X w σ ts us (.nilCheck x):=by
 intro ao d φ dst ty pos after guard ht he hφ hc
 simp only [tr,Option.map_eq_some_iff] at ht
 obtain ⟨ax,hx,rfl⟩:=ht
 simp only [AO.ev] at he
 split at he
 ·rename_i k o ψ hv
  simp only [Option.some.injEq,Prod.mk.injEq] at he
  obtain ⟨rfl,rfl⟩:=he
  have k1:=val_sound hx hv hc hφ
  have k2:=k1
  simp only [C] at k2
  obtain ⟨b,_,e⟩:=k2
  exact ⟨_,by simp [execOp,e],e▸k1⟩
 ·rename_i k o ψ hv
  simp only [Option.some.injEq,Prod.mk.injEq] at he
  obtain ⟨rfl,rfl⟩:=he
  have k1:=val_sound hx hv hc hφ
  have k2:=k1
  simp only [C] at k2
  obtain ⟨s',b,_,_,e⟩:=k2
  exact ⟨_,by simp [execOp,e],e▸k1⟩
 ·rename_i a ψ hv
  simp only [Option.some.injEq,Prod.mk.injEq] at he
  obtain ⟨rfl,rfl⟩:=he
  have k1:=val_sound hx hv hc hφ
  exact ⟨_,by simp [execOp,k1.v.1],C.mkv rfl⟩
 ·cases he
theorem sound_un (op:UnOp)(t:TypeId)(x:Operand):Sound P X w σ ts us (.unOp op t x):=by
 intro ao d φ dst ty pos after guard ht he hφ hc
 cases op<;>simp only [tr,Option.map_eq_some_iff,reduceCtorEq] at ht<;>obtain ⟨ax,hx,rfl⟩:=ht<;>simp only [AO.ev] at he<;>split at he
 ·rename_i k n ψ hv
  simp only [Option.some.injEq,Prod.mk.injEq] at he
  obtain ⟨rfl,rfl⟩:=he
  have k1:=C.v (val_sound hx hv hc hφ)
  exact ⟨_,by simp [execOp,k1.1,Op.unary,Op.intArith],C.mkv rfl⟩
 ·cases he
 ·rename_i b ψ hv
  simp only [Option.some.injEq,Prod.mk.injEq] at he
  obtain ⟨rfl,rfl⟩:=he
  have k1:=C.v (val_sound hx hv hc hφ)
  exact ⟨_,by simp [execOp,k1.1,Op.unary],C.mkv rfl⟩
 ·cases he
theorem sound_convert (s t:TypeId)(x:Operand):Sound P X w σ ts us (.convert s t x):=by
 intro ao d φ dst ty pos after guard ht he hφ hc
 simp only [tr] at ht
 split at ht
 ·rename_i d1 k ax h1 h2 hx
  simp only [Option.some.injEq] at ht
  subst ht
  simp only [AO.ev] at he
  split at he
  ·rename_i k' n ψ hv
   simp only [Option.some.injEq,Prod.mk.injEq] at he
   obtain ⟨rfl,rfl⟩:=he
   have k1:=C.v (val_sound hx hv hc hφ)
   refine ⟨.int k (k.wrap n), ?_,C.mkv rfl⟩
   have hr:(convert s t (.int k' n)).run P w= .ok (.int k (k.wrap n)) w:=by
    unfold convert
    simp only [Sem.run_bind,run_underlying h1,run_underlying h2,Result.andThen_ok,Conv.intToInt,Sem.run_pure]
   simp [execOp,k1.1,hr]
  ·cases he
 ·cases ht
theorem sound_fieldAddr (s:TypeId)(x:Operand)(f:Nat):Sound P X w σ ts us (.fieldAddr s x f):=by
 intro ao d φ dst ty pos after guard ht he hφ hc
 simp only [tr] at ht
 split at ht
 ·rename_i fs ax h1 hx
  split at ht
  ·rename_i fd hf
   split at ht
   ·rename_i inf hi
    split at ht
    ·cases ht
    ·rename_i hz
     simp only [Option.some.injEq] at ht
     subst ht
     have hadd: ∀ b o,(Addr.mk b o none).add fd.offset=⟨b,o+fd.offset,none⟩:=fun b o=>Addr.add_mid b o fd.offset
     have hr: ∀ b o,(Instr.fieldAt s (.pointer (some ⟨b,o,none⟩)) f).run P w= .ok (.pointer (some ⟨b,o+fd.offset,none⟩)) w:=by
      intro b o
      simp [Instr.fieldAt,run_underlying h1,hf,Instr.sureAddr,fieldPlace,sizeOf,typeInfo,hi,hz,hadd]
     simp only [AO.ev] at he
     split at he
     ·rename_i k o ψ hv
      simp only [Option.some.injEq,Prod.mk.injEq] at he
      obtain ⟨rfl,rfl⟩:=he
      have k1:=val_sound hx hv hc hφ
      simp only [C] at k1
      obtain ⟨b,e1,e2⟩:=k1
      refine ⟨_,by simp [execOp,e2,hr];rfl, ?_⟩
      simp only [C]
      exact ⟨b,e1,rfl⟩
     ·rename_i k o ψ hv
      simp only [Option.some.injEq,Prod.mk.injEq] at he
      obtain ⟨rfl,rfl⟩:=he
      have k1:=val_sound hx hv hc hφ
      simp only [C] at k1
      obtain ⟨s',b,e1,e0,e2⟩:=k1
      refine ⟨_,by simp [execOp,e2,hr];rfl, ?_⟩
      simp only [C]
      exact ⟨s',b,e1,e0,rfl⟩
     ·rename_i b o ψ hv
      simp only [Option.some.injEq,Prod.mk.injEq] at he
      obtain ⟨rfl,rfl⟩:=he
      have k1:=C.v (val_sound hx hv hc hφ)
      exact ⟨_,by simp [execOp,k1.1,hr],C.mkv rfl⟩
     ·rename_i cs ψ hv
      simp only [Option.some.injEq,Prod.mk.injEq] at he
      obtain ⟨rfl,rfl⟩:=he
      have k1:=val_sound hx hv hc hφ
      simp only [C] at k1
      obtain ⟨b,o,vs,e1,e4,e5⟩:=k1
      refine ⟨_,by simp [execOp,e1,hr];rfl, ?_⟩
      simp only [C]
      exact ⟨b,o+fd.offset,vs.drop fd.offset,rfl,e4.drop_ _,e5.drop_ _⟩
     ·cases he
   ·cases ht
  ·cases ht
 ·cases ht
theorem run_isAgg_of {t:TypeId}{dd:TypeDesc}(h:P.underlying t=some dd):(isAgg t).run P w= .ok (isRow dd) w:=by
 unfold isAgg
 rw [Sem.run_bind,run_underlying h]
 cases dd<;>simp [isRow]
theorem sound_field (s:TypeId)(x:Operand)(f:Nat):Sound P X w σ ts us (.field s x f):=by
 intro ao d φ dst ty pos after guard ht he hφ hc
 simp only [tr] at ht
 split at ht
 ·rename_i fs ax h1 hx
  split at ht
  ·rename_i fd hf
   split at ht
   ·rename_i inf dd hi hu
    simp only [Option.some.injEq] at ht
    subst ht
    cases hrow:isRow dd
    ·rw [hrow] at he
     simp only [AO.ev] at he
     split at he
     ·rename_i cs ψ hv
      split at he
      ·rename_i d' hd
       simp only [Option.some.injEq,Prod.mk.injEq] at he
       obtain ⟨rfl,rfl⟩:=he
       have k1:=val_sound hx hv hc hφ
       simp only [C] at k1
       obtain ⟨vs,e1,e2⟩:=k1
       obtain ⟨u,hu',hcu⟩:=e2.at_ hd
       refine ⟨u, ?_,hcu⟩
       simp [execOp,e1,Instr.field,run_underlying h1,hf,asAgg,part,run_isAgg_of hu,hrow,hu']
      ·cases he
     ·cases he
    ·rw [hrow] at he
     simp only [AO.ev] at he
     split at he
     ·rename_i cs ψ hv
      simp only [Option.some.injEq,Prod.mk.injEq] at he
      obtain ⟨rfl,rfl⟩:=he
      have k1:=val_sound hx hv hc hφ
      simp only [C] at k1
      obtain ⟨vs,e1,e2⟩:=k1
      refine ⟨.agg ((vs.drop fd.offset).take inf.size).toArray, ?_, ?_⟩
      ·simp [execOp,e1,Instr.field,run_underlying h1,hf,asAgg,part,run_isAgg_of hu,hrow,sizeOf,typeInfo,hi,List.take_drop]
      ·simp only [C]
       exact ⟨_,rfl,(e2.drop_ _).take_ _⟩
     ·cases he
   ·cases ht
  ·cases ht
 ·cases ht
theorem sound_indexAddr (t:TypeId)(x i:Operand):Sound P X w σ ts us (.indexAddr t x i):=by
 intro ao d φ dst ty pos after guard ht he hφ hc
 simp only [tr] at ht
 split at ht
 ·rename_i e ax ai h1 hx hi
  simp only [Option.map_eq_some_iff] at ht
  obtain ⟨inf,hinf,rfl⟩:=ht
  simp only [AO.ev] at he
  split at he
  ·rename_i n cs φ1 k j φ2 hv hj
   simp only [Option.some.injEq,Prod.mk.injEq] at he
   obtain ⟨rfl,rfl⟩:=he
   obtain ⟨p1,p2,p3,p4⟩:=hφ
   have k1:=val_sound hx hv hc p1
   have k2:=C.v (val_sound hi hj hc p2)
   simp only [C] at k1
   obtain ⟨A,c,e1,e2,e3,e4,e5⟩:=k1
   obtain ⟨b,o,vs,g1,g4,g5⟩:=e5 (by omega)
   subst g1
   refine ⟨.pointer (some ⟨b,o+j.toNat*inf.size,none⟩), ?_, ?_⟩
   ·simp [execOp,e1,k2.1,Instr.indexAt,asIntOf,run_underlying h1,p3,p4,sizeOf,typeInfo,hinf,Addr.add_mid]
   ·simp only [C]
    exact ⟨b,_,vs.drop (j.toNat*inf.size),rfl,g4.drop_ _,g5.drop_ _⟩
  ·cases he
 ·rename_i n e ax k j h1 hx hi
  split at ht
  ·rename_i inf hinf
   split at ht
   ·cases ht
   ·split at ht
    ·rename_i hz hj
     simp only [Option.some.injEq] at ht
     subst ht
     have hei:Act.eval ⟨us.toArray,[]⟩ i= .int k j:=by
      cases i<;>simp only [trX,Option.some.injEq,reduceCtorEq,AX.c.injEq,D.v.injEq] at hi
      ·split at hi
       ·simp only [Option.some.injEq,AX.c.injEq,D.v.injEq] at hi
        subst hi
        rfl
       ·cases hi
     have hadd: ∀ b o,(Addr.mk b o none).add (j.toNat*inf.size)=⟨b,o+j.toNat*inf.size,none⟩:=fun b o=>Addr.add_mid b o _
     have hr: ∀ b o,(Instr.indexAt t (.pointer (some ⟨b,o,none⟩)) (.int k j)).run P w= .ok (.pointer (some ⟨b,o+j.toNat*inf.size,none⟩)) w:=by
      intro b o
      simp [Instr.indexAt,asIntOf,run_underlying h1,Instr.sureAddr,hj.1,hj.2,sizeOf,typeInfo,hinf,hadd]
     simp only [AO.ev] at he
     split at he
     ·rename_i k o ψ hv
      simp only [Option.some.injEq,Prod.mk.injEq] at he
      obtain ⟨rfl,rfl⟩:=he
      have k1:=val_sound hx hv hc hφ
      simp only [C] at k1
      obtain ⟨b,e1,e2⟩:=k1
      refine ⟨_,by simp [execOp,e2,hei,hr];rfl, ?_⟩
      simp only [C]
      exact ⟨b,e1,rfl⟩
     ·rename_i k o ψ hv
      simp only [Option.some.injEq,Prod.mk.injEq] at he
      obtain ⟨rfl,rfl⟩:=he
      have k1:=val_sound hx hv hc hφ
      simp only [C] at k1
      obtain ⟨s',b,e1,e0,e2⟩:=k1
      refine ⟨_,by simp [execOp,e2,hei,hr];rfl, ?_⟩
      simp only [C]
      exact ⟨s',b,e1,e0,rfl⟩
     ·rename_i b o ψ hv
      simp only [Option.some.injEq,Prod.mk.injEq] at he
      obtain ⟨rfl,rfl⟩:=he
      have k1:=C.v (val_sound hx hv hc hφ)
      exact ⟨_,by simp [execOp,k1.1,hei,hr],C.mkv rfl⟩
     ·rename_i cs ψ hv
      simp only [Option.some.injEq,Prod.mk.injEq] at he
      obtain ⟨rfl,rfl⟩:=he
      have k1:=val_sound hx hv hc hφ
      simp only [C] at k1
      obtain ⟨b,o,vs,e1,e4,e5⟩:=k1
      refine ⟨_,by simp [execOp,e1,hei,hr];rfl, ?_⟩
      simp only [C]
      exact ⟨b,o+j.toNat*inf.size,vs.drop (j.toNat*inf.size),rfl,e4.drop_ _,e5.drop_ _⟩
     ·cases he
    ·cases ht
  ·cases ht
 ·cases ht
theorem sound_index (t:TypeId)(x i:Operand):Sound P X w σ ts us (.index t x i):=by
 intro ao d φ dst ty pos after guard ht he hφ hc
 simp only [tr] at ht
 split at ht
 ·rename_i ax ai h1 hx hi
  simp only [Option.some.injEq] at ht
  subst ht
  simp only [AO.ev] at he
  split at he
  ·rename_i s φ1 k j φ2 hv hj
   simp only [Option.some.injEq,Prod.mk.injEq] at he
   obtain ⟨rfl,rfl⟩:=he
   obtain ⟨p1,p2,p3,p4⟩:=hφ
   have k1:=C.v (val_sound hx hv hc p1)
   have k2:=C.v (val_sound hi hj hc p2)
   have hlt:j.toNat<s.size:=by omega
   have hl2:j.toNat<s.data.toList.length:=by have:s.data.size=s.size:=rfl;simpa using hlt
   have hg:s.data.toList.getD j.toNat 0=s[j.toNat]:=by
    rw [List.getD_eq_getElem?_getD,List.getElem?_eq_getElem hl2]
    rfl
   refine ⟨_, ?_,C.mkv rfl⟩
   rw [hg]
   simp [execOp,k1.1,k2.1,Instr.index,asIntOf,run_underlying h1,p3,hlt]
  ·cases he
 ·cases ht
theorem sound_load_el (t:TypeId)(x:Operand):Sound P X w σ ts us (.load t x):=by
 intro ao d φ dst ty pos after guard ht he hφ hc
 simp only [tr] at ht
 split at ht
 ·rename_i dd inf ax h1 hi hx
  simp only [Option.some.injEq] at ht
  subst ht
  simp only [AO.ev] at he
  split at he
  ·rename_i cs ψ hv
   cases hrow:isRow dd
   ·rw [hrow] at he
    simp only [Bool.false_eq_true,if_false] at he
    split at he
    ·rename_i d' r hd
     simp only [Option.some.injEq,Prod.mk.injEq] at he
     obtain ⟨rfl,rfl⟩:=he
     have k1:=val_sound hx hv hc hφ
     simp only [C,Cs] at k1
     obtain ⟨b,o,vs,e1,⟨u,us',rfl,h5,h6⟩,e5⟩:=k1
     refine ⟨u, ?_,C.up _ _ h5⟩
     have hc0:=e5.at_ 0 u (by simp)
     simp only [Nat.add_zero] at hc0
     simp [execOp,e1,Instr.loadAt,Instr.sureAddr,loadVar,run_isAgg_of h1,hrow,hc0]
    ·cases he
   ·rw [hrow] at he
    simp only [if_true,Option.some.injEq,Prod.mk.injEq] at he
    obtain ⟨rfl,rfl⟩:=he
    have k1:=val_sound hx hv hc hφ.1
    simp only [C] at k1
    obtain ⟨b,o,vs,e1,e4,e5⟩:=k1
    have hlen:=e4.len
    have hrun:=run_loadVar_mid (P:=P) w b o t (vs.take inf.size) dd (e5.take_ _).at_ h1 (by cases dd<;>simp_all [isRow,TypeDesc.isRow]) (by simp [hi];omega)
    refine ⟨_,by simp [execOp,e1,Instr.loadAt,Instr.sureAddr,hrun];rfl, ?_⟩
    simp only [C]
    exact ⟨_,rfl,Cs.up _ _ (e4.take_ _)⟩
  ·cases he
 ·cases ht
theorem binV_one {bl:Bool}{op:BinOp}{a b r:Value}{χ:Prop}(h:binV bl op a b=some (r,χ)):r.oneCell'=true:=by
 unfold binV at h
 split at h
 ·split at h
  ·cases op<;>simp only [binI,Option.some.injEq,Prod.mk.injEq,reduceCtorEq] at h<;>(obtain ⟨rfl,_⟩:=h;rfl)
  ·cases op<;>simp only [shI,Option.some.injEq,Prod.mk.injEq,reduceCtorEq] at h<;>(obtain ⟨rfl,_⟩:=h;rfl)
 ·cases op<;>simp only [binS,Option.some.injEq,Prod.mk.injEq,reduceCtorEq] at h<;>(obtain ⟨rfl,_⟩:=h;rfl)
 ·split at h
  ·cases op<;>simp only [binB,Option.some.injEq,Prod.mk.injEq,reduceCtorEq] at h<;>(obtain ⟨rfl,_⟩:=h;rfl)
  ·cases h
 ·cases h
theorem equal_bool {t:TypeId}(a b:Bool)(ht:P.underlying t=some .bool):(Op.equal t (.bool a) (.bool b)).run P w= .ok (a==b) w:=run_equalIn_bool' w 9999 t a b ht
theorem binV_run {bl:Bool}{op:BinOp}{t:TypeId}{a b r:Value}{χ:Prop}(h:binV bl op a b=some (r,χ))(hχ:χ)(hb:bl=true->P.underlying t=some .bool):(binOp op t a b).run P w= .ok r w:=by
 unfold binV at h
 split at h
 ·split at h
  ·rename_i k a k' b hk
   subst hk
   cases op<;>simp only [binI,Option.some.injEq,Prod.mk.injEq,reduceCtorEq] at h<;>(obtain ⟨rfl,rfl⟩:=h;first|(simp [binOp,Op.intArith,Op.intCmp];done)|(simp [binOp,Op.intDiv,hχ];done)|(simp [binOp,Op.intBits,iband,ibor,ibxor];done)|simp [binOp,Op.shift,Int.not_lt.2 hχ,ishl,ishr])
  ·cases op<;>simp only [shI,Option.some.injEq,Prod.mk.injEq,reduceCtorEq] at h<;>(obtain ⟨rfl,rfl⟩:=h;simp [binOp,Op.shift,Int.not_lt.2 hχ,ishl,ishr])
 ·rename_i a b
  cases op<;>simp only [binS,Option.some.injEq,Prod.mk.injEq,reduceCtorEq] at h<;>(obtain ⟨rfl,rfl⟩:=h)
  ·have h1: ¬ IntKind.i64.max<((a.size+b.size:Nat):Int):=by
    have:IntKind.i64.max=9223372036854775807:=by decide
    omega
   simp only [binOp,Op.stringOp]
   rw [if_neg (by exact h1)]
   rfl
  all_goals simp [binOp,Op.stringOp,slt]
 ·rename_i a b
  split at h
  ·rename_i hbl
   have ht:=hb hbl
   cases op<;>simp only [binB,Option.some.injEq,Prod.mk.injEq,reduceCtorEq] at h<;>(obtain ⟨rfl,rfl⟩:=h;simp [binOp,equal_bool a b ht])
  ·cases h
 ·cases h
theorem bin_sound {bl:Bool}{op:BinOp}{t:TypeId}{x y:Operand}{ax ay:AX}{d:D}{φ:Prop}(hx:trX x=some ax)(hy:trX y=some ay)(he:(AO.bin bl op ax ay).ev ts=some (d,φ))(hφ:φ)(hc:Cs X w σ ts us)(hb:bl=true->P.underlying t=some .bool)
  (dst:Option Tmp) (ty t2:TypeId) (pos:String) (after:Array Edge) (guard:Option (Nat×Bool)):
  ∃ u,(execOp (Act.eval ⟨us.toArray,[]⟩) ⟨dst,.binOp op t x y t2,ty,pos,after,guard⟩).run P w= .ok (.value u) w/\C X w σ d u:=by
 simp only [AO.ev] at he
 split at he
 ·rename_i va φ1 vb φ2 hv hj
  split at he
  ·rename_i r χ hbv
   simp only [Option.some.injEq,Prod.mk.injEq] at he
   obtain ⟨rfl,rfl⟩:=he
   obtain ⟨p1,p2,p3⟩:=hφ
   have k1:=C.v (val_sound hx hv hc p1)
   have k2:=C.v (val_sound hy hj hc p2)
   refine ⟨r, ?_,C.mkv (binV_one hbv)⟩
   have hg:(eqGuard op t x y va vb).run P w= .ok () w:=by
    unfold eqGuard
    unfold binV at hbv
    split at hbv<;>first|(cases hbv;done)|(cases op<;>simp)
   simp only [execOp,k1.1,k2.1,Sem.run_bind,hg,Result.andThen_ok,binV_run hbv p3 hb,Sem.run_pure]
  ·cases he
 ·cases he
def eqV:Nat->Value->Value->Option Bool
 |0,.int k a,.int k' b=>if k=k' then some (a==b) else none
 |1,.bool a,.bool b=>some (a==b)
 |2,.string a,.string b=>some (a.toList==b.toList)
 |_,_,_=>none
def eqVs:List Nat->List Value->List Value->Option Bool
 | [],[],[]=>some true
 |k::ks,x::xs,y::ys=>match eqV k x y,eqVs ks xs ys with
  |some a,some b=>some (a&&b)
  |_,_=>none
 |_,_,_=>none
theorem eqVs_of: ∀ {ks:List Nat} {xs ys:List D} {us vs:List Value} {b:Bool},eqKs ks xs ys=some b->Cs X w σ xs us->Cs X w σ ys vs->eqVs ks us vs=some b
 | [],[],[],us,vs,b,h,h1,h2=>by
  simp only [Cs] at h1 h2
  subst h1 h2
  simpa [eqKs,eqVs] using h
 |k::ks,x::xs,y::ys,us,vs,b,h,h1,h2=>by
  simp only [Cs] at h1 h2
  obtain ⟨u,us',rfl,c1,c2⟩:=h1
  obtain ⟨v,vs',rfl,d1,d2⟩:=h2
  simp only [eqKs] at h
  split at h
  ·rename_i a b' ha hb
   simp only [Option.some.injEq] at h
   subst h
   simp only [eqVs,eqVs_of hb c2 d2]
   have:eqV k u v=some a:=by
    unfold eqK at ha
    split at ha
    ·rw [c1.v.1,d1.v.1];exact ha
    ·rw [c1.v.1,d1.v.1];exact ha
    ·rw [c1.v.1,d1.v.1];exact ha
    ·cases ha
   rw [this]
  ·cases h
 | [],_::_,_,_,_,_,h,_,_=>by simp [eqKs] at h
 | [],[],_::_,_,_,_,h,_,_=>by simp [eqKs] at h
 |_::_,[],_,_,_,_,h,_,_=>by simp [eqKs] at h
 |_::_,_::_,[],_,_,_,h,_,_=>by simp [eqKs] at h
theorem eqVs_split: ∀ {k1 k2:List Nat} {us vs:List Value} {b:Bool},eqVs (k1++k2) us vs=some b→ ∃ b1 b2,eqVs k1 (us.take k1.length) (vs.take k1.length)=some b1/\eqVs k2 (us.drop k1.length) (vs.drop k1.length)=some b2/\b=(b1&&b2)
 | [],k2,us,vs,b,h=>⟨true,b,by simp [eqVs],by simpa using h,by simp⟩
 |k::k1,k2,u::us,v::vs,b,h=>by
  simp only [List.cons_append,eqVs] at h
  split at h
  ·rename_i a b' ha hb
   simp only [Option.some.injEq] at h
   subst h
   obtain ⟨b1,b2,h1,h2,rfl⟩:=eqVs_split hb
   exact ⟨a&&b1,b2,by simp [eqVs,ha,h1],by simpa using h2,by rw [Bool.and_assoc]⟩
  ·cases h
 |_::_,_,[],_,_,h=>by simp [eqVs] at h
 |_::_,_,_::_,[],_,h=>by simp [eqVs] at h
theorem eqVs_len: ∀ {ks:List Nat} {us vs:List Value} {b:Bool},eqVs ks us vs=some b->us.length=ks.length/\vs.length=ks.length
 | [],[],[],_,_=>⟨rfl,rfl⟩
 |k::ks,u::us,v::vs,b,h=>by
  simp only [eqVs] at h
  split at h
  ·rename_i a b' _ hb
   have:=eqVs_len hb
   simp only [List.length_cons]
   omega
  ·cases h
 | [],_::_,_,_,h=>by simp [eqVs] at h
 | [],[],_::_,_,h=>by simp [eqVs] at h
 |_::_,[],_,_,h=>by simp [eqVs] at h
 |_::_,_::_,[],_,h=>by simp [eqVs] at h
def ofCells (row:Bool)(cs:List Value):Value:=if row then .agg cs.toArray else cs.getD 0 undef
theorem equal_flat: ∀ (n d:Nat) (t:TypeId) (dd:TypeDesc) (ks:List Nat) (us vs:List Value) (b:Bool),flat P n t=some ks->n<=d->P.underlying t=some dd->eqVs ks us vs=some b->(Op.equalIn d t (ofCells (isRow dd) us) (ofCells (isRow dd) vs)).run P w= .ok b w:=by
 intro n
 induction n with
 |zero=>intro d t dd ks us vs b h;simp [flat] at h
 |succ n ih=>
  intro d t dd ks us vs b h hd hu he
  obtain ⟨d,rfl⟩: ∃ e,d=e+1:=⟨d-1,by omega⟩
  simp only [flat,hu] at h
  have one: ∀ k,ks=[k]→ ∃ u v,us=[u]/\vs=[v]/\eqV k u v=some b:=by
   rintro k rfl
   have hl:=eqVs_len he
   rcases us with _|⟨u,_|_⟩<;>rcases vs with _|⟨v,_|_⟩<;>simp at hl
   refine ⟨u,v,rfl,rfl, ?_⟩
   simp only [eqVs] at he
   split at he
   ·rename_i a b' ha hb
    simp only [Option.some.injEq] at hb he
    rw [ha, ← he, ← hb,Bool.and_true]
   ·cases he
  split at h
  ·rename_i k hk
   simp only [Option.some.injEq] at hk h
   subst hk
   obtain ⟨u,v,rfl,rfl,hv⟩:=one 0 h.symm
   cases u<;>cases v<;>simp only [eqV,reduceCtorEq] at hv
   split at hv
   ·rename_i hkk
    simp only [Option.some.injEq] at hv
    rw [←hv,hkk]
    exact run_equalIn_int w d t _ _ _ _ hu
   ·cases hv
  ·rename_i hk
   simp only [Option.some.injEq] at hk h
   subst hk
   obtain ⟨u,v,rfl,rfl,hv⟩:=one 1 h.symm
   cases u<;>cases v<;>simp only [eqV,reduceCtorEq,Option.some.injEq] at hv
   rw [←hv]
   exact run_equalIn_bool' w d t _ _ hu
  ·rename_i hk
   simp only [Option.some.injEq] at hk h
   subst hk
   obtain ⟨u,v,rfl,rfl,hv⟩:=one 2 h.symm
   cases u<;>cases v<;>simp only [eqV,reduceCtorEq,Option.some.injEq] at hv
   rw [←hv]
   exact run_equalIn_string w d t _ _ hu
  ·rename_i fs hk
   simp only [Option.some.injEq] at hk
   subst hk
   split at h
   ·cases h
   ·rename_i hp
    have hfs:P.fieldsOf t=fs:=by simp [Program.fieldsOf,hu]
    have hrow:isRow (.struct fs)=true:=rfl
    simp only [ofCells,hrow,if_true]
    rw [run_equalIn_agg w d t _ _ (by rw [hfs];exact hu) (by simpa using hp),hfs]
    have key: ∀ (l:List Field) (off:Nat) (ks:List Nat) (b:Bool),flatF P (flat P n) l off=some ks->eqVs ks (us.drop off) (vs.drop off)=some b->(Op.eqFields d us.toArray vs.toArray l).run P w= .ok b w:=by
     intro l
     induction l with
     |nil=>
      intro off ks b h1 h2
      simp only [flatF,Option.some.injEq] at h1
      subst h1
      have hl:=eqVs_len h2
      have e1:us.drop off=[]:=List.eq_nil_of_length_eq_zero hl.1
      have e2:vs.drop off=[]:=List.eq_nil_of_length_eq_zero hl.2
      rw [e1,e2] at h2
      simp only [eqVs,Option.some.injEq] at h2
      subst h2
      simp [Op.eqFields]
     |cons f l ihl=>
      intro off ks b h1 h2
      simp only [flatF] at h1
      split at h1
      ·rename_i hc
       split at h1
       ·rename_i k1 inf k2 hf hi hr
        split at h1
        ·rename_i hsz
         simp only [Option.some.injEq] at h1
         subst h1
         obtain ⟨b1,b2,q1,q2,rfl⟩:=eqVs_split h2
         rw [hi] at hr
         simp only [Option.map_some,Option.getD_some,hsz] at hr
         rw [List.drop_drop,List.drop_drop] at q2
         have ihr:=ihl (off+k1.length) k2 b2 hr q2
         have hlen:=eqVs_len h2
         obtain ⟨fd,hfd⟩: ∃ fd,P.underlying f.type=some fd:=by
          cases hfd:P.underlying f.type with
          |none=>cases n<;>simp [flat,hfd] at hf
          |some fd=>exact ⟨fd,rfl⟩
         have hpart: ∀ zs:List Value,(zs.drop off).length=(k1++k2).length->(part f.type zs.toArray off).run P w= .ok (ofCells (isRow fd) ((zs.drop off).take k1.length)) w:=by
          intro zs hz
          unfold ofCells
          cases hrw:isRow fd
          ·have h1:k1.length=1:=by
            cases n with
            |zero=>simp [flat] at hf
            |succ n=>
             simp only [flat,hfd] at hf
             cases fd<;>simp [isRow] at hrw hf<;>simp [←hf]
           have hlt:off<zs.length:=by simp only [List.length_drop,List.length_append,h1] at hz;omega
           have:(zs.drop off).take k1.length=[zs[off]]:=by rw [h1,List.drop_eq_getElem_cons hlt];rfl
           simp [part,run_isAgg_of hfd,hrw,this,hlt]
          ·simp [part,run_isAgg_of hfd,hrw,sizeOf,typeInfo,hi,hsz,List.take_drop]
         have e1:=ih d f.type fd k1 _ _ b1 hf (by omega) hfd q1
         simp only [Op.eqFields]
         rw [if_pos hc.1]
         simp only [hc.2,Sem.run_bind,hpart us hlen.1,hpart vs hlen.2,Result.andThen_ok,e1]
         cases b1
         ·simp
         ·simp only [Bool.not_true,Bool.false_eq_true,if_false,Bool.true_and]
          exact ihr
        ·cases h1
       ·cases h1
      ·cases h1
    exact key fs.toList 0 ks b h (by simpa using he)
  ·cases h
theorem bnd_sound {dflt j:Int}{o:Option Operand}{a:Option AX}{φ:Prop}(ht:trO o=some a)(he:bndD ts dflt a=some (j,φ))(hφ:φ)(hc:Cs X w σ ts us):
  (o=none/\j=dflt)∨ ∃ x k,o=some x/\Act.eval ⟨us.toArray,[]⟩ x= .int k j:=by
 cases o with
 |none=>
  simp only [trO,Option.some.injEq] at ht
  subst ht
  simp only [bndD,Option.some.injEq,Prod.mk.injEq] at he
  exact .inl ⟨rfl,he.1.symm⟩
 |some x=>
  simp only [trO,Option.map_eq_some_iff] at ht
  obtain ⟨ax,hx,rfl⟩:=ht
  simp only [bndD] at he
  split at he
  ·rename_i k j' ψ hv
   simp only [Option.some.injEq,Prod.mk.injEq] at he
   obtain ⟨rfl,rfl⟩:=he
   exact .inr ⟨x,k,rfl,(val_sound hx hv hc hφ).v.1⟩
  ·cases he
theorem run_bound {k:IntKind}{i:Int}{y:Nat}{code:BoundsCode}(h0:0<=i)(h1:i<=y):(Instr.sliceBound (.int k i) y code).run P w= .ok i.toNat w:=by
 simp [Instr.sliceBound,asIntOf,h0,h1]
theorem run_slc {t:TypeId}{x:Operand}{lo hi:Option Operand}{e:TypeId}{inf:TypeInfo}(hu:P.underlying t=some (.slice e))(hi0:P.info? e=some inf){A:Option Addr}{n c:Nat}{l h:Int}
  (hx':Act.eval ⟨us.toArray,[]⟩ x= .slice A n c) (hl':(lo=none/\l=0)∨ ∃ y k,lo=some y/\Act.eval ⟨us.toArray,[]⟩ y= .int k l) (hh':(hi=none/\h=n)∨ ∃ y k,hi=some y/\Act.eval ⟨us.toArray,[]⟩ y= .int k h)
  (h0:0<=l) (h1:l<=h) (h2:h<=n) (h4:n<=c) (dst:Option Tmp) (ty:TypeId) (pos:String) (after:Array Edge) (guard:Option (Nat×Bool)):
  (execOp (Act.eval ⟨us.toArray,[]⟩) ⟨dst,.slice t x lo hi none,ty,pos,after,guard⟩).run P w= .ok (.value (.slice (if c=l.toNat then A else A.map (·.add (l.toNat*inf.size))) (h.toNat-l.toNat) (c-l.toNat))) w:=by
 have hsz:(sizeOf e).run P w= .ok inf.size w:=by simp [sizeOf,typeInfo,hi0]
 rcases hh' with ⟨rfl,rfl⟩|⟨yh,kh,rfl,hyh⟩
 ·rcases hl' with ⟨rfl,rfl⟩|⟨yl,kl,rfl,hyl⟩
  ·simp [execOp,hx',Instr.sliceAt,Instr.slice,run_underlying hu,Instr.sliceBounds,hsz]
  ·simp [execOp,hx',hyl,Instr.sliceAt,Instr.slice,run_underlying hu,Instr.sliceBounds,hsz,run_bound h0 h1]
 ·rcases hl' with ⟨rfl,rfl⟩|⟨yl,kl,rfl,hyl⟩
  ·simp [execOp,hx',hyh,Instr.sliceAt,Instr.slice,run_underlying hu,Instr.sliceBounds,hsz,run_bound (P:=P) (w:=w) (k:=kh) (i:=h) (y:=c) (code:= .sliceAcap) (by omega) (by omega)]
  ·simp [execOp,hx',hyh,hyl,Instr.sliceAt,Instr.slice,run_underlying hu,Instr.sliceBounds,hsz,run_bound (P:=P) (w:=w) (k:=kh) (i:=h) (y:=c) (code:= .sliceAcap) (by omega) (by omega),run_bound (P:=P) (w:=w) (k:=kl) (i:=l) (y:=h.toNat) (code:= .sliceB) h0 (by omega)]
theorem sound_slice (t:TypeId)(x:Operand)(lo hi mx:Option Operand):Sound P X w σ ts us (.slice t x lo hi mx):=by
 intro ao d φ dst ty pos after guard ht he hφ hc
 simp only [tr] at ht
 split at ht
 ·rename_i e ax al ah am hu hx hl hh hm
  split at ht
  ·cases ht
  ·rename_i hmh
   simp only [Option.map_eq_some_iff] at ht
   obtain ⟨inf,hi0,rfl⟩:=ht
   have hgen: ∀ (A:Option Addr) (n c:Nat) (l h m:Int) (dl dh dm:Int),Act.eval ⟨us.toArray,[]⟩ x= .slice A n c->((lo=none/\l=0)∨ ∃ y k,lo=some y/\Act.eval ⟨us.toArray,[]⟩ y= .int k l)->((hi=none/\h=n)∨ ∃ y k,hi=some y/\Act.eval ⟨us.toArray,[]⟩ y= .int k h)→
     ((mx=none/\m=n)∨ ∃ y k,mx=some y/\Act.eval ⟨us.toArray,[]⟩ y= .int k m)->0<=l->l<=h->h<=m->m<=n->n<=c→
     ∃ m':Nat,h<=m'/\m'<=c/\(execOp (Act.eval ⟨us.toArray,[]⟩) ⟨dst,.slice t x lo hi mx,ty,pos,after,guard⟩).run P w= .ok (.value (.slice (if m'=l.toNat then A else A.map (·.add (l.toNat*inf.size))) (h.toNat-l.toNat) (m'-l.toNat))) w:=by
    intro A n c l h m _ _ _ hx' hl' hh' hm' h0 h1 h2 h3 h4
    have hsz:(sizeOf e).run P w= .ok inf.size w:=by simp [sizeOf,typeInfo,hi0]
    rcases hm' with ⟨rfl,rfl⟩|⟨ym,km,rfl,hym⟩
    ·refine ⟨c,by omega,Nat.le_refl _, ?_⟩
     rcases hh' with ⟨rfl,rfl⟩|⟨yh,kh,rfl,hyh⟩
     ·rcases hl' with ⟨rfl,rfl⟩|⟨yl,kl,rfl,hyl⟩
      ·simp [execOp,hx',Instr.sliceAt,Instr.slice,run_underlying hu,Instr.sliceBounds,hsz]
      ·simp [execOp,hx',hyl,Instr.sliceAt,Instr.slice,run_underlying hu,Instr.sliceBounds,hsz,run_bound h0 h1]
     ·rcases hl' with ⟨rfl,rfl⟩|⟨yl,kl,rfl,hyl⟩
      ·simp [execOp,hx',hyh,Instr.sliceAt,Instr.slice,run_underlying hu,Instr.sliceBounds,hsz,run_bound (P:=P) (w:=w) (k:=kh) (i:=h) (y:=c) (code:= .sliceAcap) (by omega) (by omega)]
      ·simp [execOp,hx',hyh,hyl,Instr.sliceAt,Instr.slice,run_underlying hu,Instr.sliceBounds,hsz,run_bound (P:=P) (w:=w) (k:=kh) (i:=h) (y:=c) (code:= .sliceAcap) (by omega) (by omega),run_bound (P:=P) (w:=w) (k:=kl) (i:=l) (y:=h.toNat) (code:= .sliceB) h0 (by omega)]
    ·refine ⟨m.toNat,by omega,by omega, ?_⟩
     rcases hh' with ⟨rfl,rfl⟩|⟨yh,kh,rfl,hyh⟩
     ·exfalso
      simp only [trO,Option.some.injEq] at hh
      subst hh
      simp only [trO,Option.map_eq_some_iff] at hm
      obtain ⟨_,_,rfl⟩:=hm
      simp at hmh
     ·rcases hl' with ⟨rfl,rfl⟩|⟨yl,kl,rfl,hyl⟩
      ·simp [execOp,hx',hyh,hym,Instr.sliceAt,Instr.slice,run_underlying hu,Instr.sliceBounds,hsz,run_bound (P:=P) (w:=w) (k:=km) (i:=m) (y:=c) (code:= .slice3Acap) (by omega) (by omega),run_bound (P:=P) (w:=w) (k:=kh) (i:=h) (y:=m.toNat) (code:= .slice3B) (by omega) (by omega)]
      ·simp [execOp,hx',hyh,hyl,hym,Instr.sliceAt,Instr.slice,run_underlying hu,Instr.sliceBounds,hsz,run_bound (P:=P) (w:=w) (k:=km) (i:=m) (y:=c) (code:= .slice3Acap) (by omega) (by omega),run_bound (P:=P) (w:=w) (k:=kh) (i:=h) (y:=m.toNat) (code:= .slice3B) (by omega) (by omega),run_bound (P:=P) (w:=w) (k:=kl) (i:=l) (y:=h.toNat) (code:= .slice3C) h0 (by omega)]
   simp only [AO.ev] at he
   split at he
   ·rename_i n cs ψ hv
    split at he
    ·rename_i l ψ1 h ψ2 m ψ3 e1 e2 e3
     simp only [Option.some.injEq,Prod.mk.injEq] at he
     obtain ⟨rfl,rfl⟩:=he
     obtain ⟨p0,p1,p2,p3,p4,p5,p6,p7⟩:=hφ
     have k0:=val_sound hx hv hc p0
     simp only [C] at k0
     obtain ⟨A,c,q1,q2,q3,q4,q5⟩:=k0
     obtain ⟨m',r1,r2,r3⟩:=hgen A n c l h m 0 0 0 q1 (bnd_sound hl e1 p1 hc) (bnd_sound hh e2 p2 hc) (bnd_sound hm e3 p3 hc) p4 p5 p6 p7 q2
     refine ⟨_,r3, ?_⟩
     simp only [C]
     refine ⟨_,_,rfl,by omega,by omega,fun h0=>by rw [h0];simp,fun h0=> ?_⟩
     obtain ⟨b,off,vs,g1,g4,g5⟩:=q5 (by omega)
     rw [if_neg (by omega),g1]
     exact ⟨b,_,_,by rw [Option.map_some,Addr.add_mid],(g4.drop_ _).take_ _,(g5.drop_ _).take_ _⟩
    ·cases he
   ·rename_i ψ hv
    split at he
    ·rename_i l ψ1 h ψ2 m ψ3 e1 e2 e3
     simp only [Option.some.injEq,Prod.mk.injEq] at he
     obtain ⟨rfl,rfl⟩:=he
     obtain ⟨p0,p1,p2,p3,rfl,rfl,rfl⟩:=hφ
     have k0:=(val_sound hx hv hc p0).v.1
     obtain ⟨m',r1,r2,r3⟩:=hgen none 0 0 0 0 0 0 0 0 k0 (bnd_sound hl e1 p1 hc) (bnd_sound hh e2 p2 hc) (bnd_sound hm e3 p3 hc) (by omega) (by omega) (by omega) (by omega) (by omega)
     have hm0:m'=0:=by omega
     subst hm0
     exact ⟨_,r3,C.mkv rfl⟩
    ·cases he
   ·cases he
 ·rename_i ax al ah hu hx hl hh hm
  simp only [Option.some.injEq] at ht
  subst ht
  have hmx:mx=none:=by
   cases mx with
   |none=>rfl
   |some y=>simp only [trO,Option.map_eq_some_iff] at hm;obtain ⟨_,_,q⟩:=hm;cases q
  subst hmx
  simp only [AO.ev] at he
  split at he
  ·rename_i s ψ hv
   split at he
   ·rename_i l ψ1 h ψ2 e1 e2
    simp only [Option.some.injEq,Prod.mk.injEq] at he
    obtain ⟨rfl,rfl⟩:=he
    obtain ⟨p0,p1,p2,p4,p5,p6⟩:=hφ
    have k0:=(val_sound hx hv hc p0).v.1
    refine ⟨_, ?_,C.mkv rfl⟩
    rcases bnd_sound hh e2 p2 hc with ⟨rfl,rfl⟩|⟨yh,kh,rfl,hyh⟩
    ·rcases bnd_sound hl e1 p1 hc with ⟨rfl,rfl⟩|⟨yl,kl,rfl,hyl⟩
     ·simp [execOp,k0,Instr.sliceAt,Instr.slice,run_underlying hu,Instr.sliceBounds]
     ·simp [execOp,k0,hyl,Instr.sliceAt,Instr.slice,run_underlying hu,Instr.sliceBounds,run_bound p4 p5]
    ·rcases bnd_sound hl e1 p1 hc with ⟨rfl,rfl⟩|⟨yl,kl,rfl,hyl⟩
     ·simp [execOp,k0,hyh,Instr.sliceAt,Instr.slice,run_underlying hu,Instr.sliceBounds,run_bound (P:=P) (w:=w) (k:=kh) (i:=h) (y:=s.size) (code:= .sliceAlen) (by omega) (by omega)]
     ·simp [execOp,k0,hyh,hyl,Instr.sliceAt,Instr.slice,run_underlying hu,Instr.sliceBounds,run_bound (P:=P) (w:=w) (k:=kh) (i:=h) (y:=s.size) (code:= .sliceAlen) (by omega) (by omega),run_bound (P:=P) (w:=w) (k:=kl) (i:=l) (y:=h.toNat) (code:= .sliceB) p4 (by omega)]
   ·cases he
  ·cases he
 ·cases ht
theorem eqs_sound {neg:Bool}{t:TypeId}{x y:Operand}{ax ay:AX}{ks:List Nat}{fs:Array Field}{d:D}{φ:Prop}(hu:P.underlying t=some (.struct fs))(hg:P.eqGuardType P.depth t=false)(hf:flat P 8 t=some ks)(hx:trX x=some ax)(hy:trX y=some ay)(he:(AO.eqs neg ks ax ay).ev ts=some (d,φ))(hφ:φ)(hc:Cs X w σ ts us)
  (dst:Option Tmp) (ty t2:TypeId) (pos:String) (after:Array Edge) (guard:Option (Nat×Bool)):
  ∃ u,(execOp (Act.eval ⟨us.toArray,[]⟩) ⟨dst,.binOp (if neg then .neq else .eql) t x y t2,ty,pos,after,guard⟩).run P w= .ok (.value u) w/\C X w σ d u:=by
 simp only [AO.ev] at he
 split at he
 ·rename_i xs φ1 ys φ2 hv hj
  split at he
  ·rename_i b hb
   simp only [Option.some.injEq,Prod.mk.injEq] at he
   obtain ⟨rfl,rfl⟩:=he
   have k1:=val_sound hx hv hc hφ.1
   have k2:=val_sound hy hj hc hφ.2
   simp only [C] at k1 k2
   obtain ⟨us1,e1,c1⟩:=k1
   obtain ⟨us2,e2,c2⟩:=k2
   have h1:=equal_flat (w:=w) 8 10000 t _ ks us1 us2 b hf (by omega) hu (eqVs_of hb c1 c2)
   simp only [ofCells,isRow,if_true] at h1
   refine ⟨_, ?_,C.mkv rfl⟩
   cases neg
   ·simp only [Bool.false_eq_true,if_false,execOp,e1,e2,Sem.run_bind,run_eqGuard_agg w .eql t x y _ _ hg,Result.andThen_ok,run_eql_struct w t,h1,Sem.run_pure]
   ·simp only [if_true,execOp,e1,e2,Sem.run_bind,run_eqGuard_agg w .neq t x y _ _ hg,Result.andThen_ok,run_neq_struct w t,h1,Sem.run_pure]
  ·cases he
 ·cases he
theorem sound_bin (op:BinOp)(t:TypeId)(x y:Operand)(t2:TypeId):Sound P X w σ ts us (.binOp op t x y t2):=by
 intro ao d φ dst ty pos after guard ht he hφ hc
 simp only [tr] at ht
 split at ht
 ·rename_i ax ay hu hx hy
  simp only [Option.some.injEq] at ht
  subst ht
  exact bin_sound hx hy he hφ hc (fun h=>by cases h) ..
 ·rename_i ax ay hu hx hy
  simp only [Option.some.injEq] at ht
  subst ht
  exact bin_sound hx hy he hφ hc (fun h=>by cases h) ..
 ·rename_i ax ay hu hx hy
  simp only [Option.some.injEq] at ht
  subst ht
  exact bin_sound hx hy he hφ hc (fun _=>hu) ..
 ·rename_i fs ax ay hu hx hy
  split at ht
  ·split at ht
   ·cases ht
   ·rename_i hg
    simp only [Option.map_eq_some_iff] at ht
    obtain ⟨ks,hf,rfl⟩:=ht
    exact eqs_sound (neg:=false) hu (by simpa using hg) hf hx hy he hφ hc ..
  ·split at ht
   ·cases ht
   ·rename_i hg
    simp only [Option.map_eq_some_iff] at ht
    obtain ⟨ks,hf,rfl⟩:=ht
    exact eqs_sound (neg:=true) hu (by simpa using hg) hf hx hy he hφ hc ..
  ·cases ht
 ·cases ht
theorem sound_call (c:Call):Sound P X w σ ts us (.call c):=by
 intro ao d φ dst ty pos after guard ht he hφ hc
 obtain ⟨cal,args,tys⟩:=c
 obtain ⟨args⟩:=args
 obtain ⟨tys⟩:=tys
 simp only [tr,trCall] at ht
 split at ht
 ·split at ht
  ·rename_i x t
   split at ht
   ·rename_i ax h1 hx
    simp only [Option.some.injEq] at ht
    subst ht
    simp only [AO.ev] at he
    split at he
    ·rename_i s ψ hv
     simp only [Option.some.injEq,Prod.mk.injEq] at he
     obtain ⟨rfl,rfl⟩:=he
     have k1:=C.v (val_sound hx hv hc hφ)
     exact ⟨_,by simp [execOp,resolve,invoke,builtin,k1.1,Builtin.len_,run_underlying h1,goInt],C.mkv rfl⟩
    ·cases he
   ·rename_i e ax h1 hx
    simp only [Option.some.injEq] at ht
    subst ht
    simp only [AO.ev] at he
    split at he
    ·rename_i n cs ψ hv
     simp only [Option.some.injEq,Prod.mk.injEq] at he
     obtain ⟨rfl,rfl⟩:=he
     have k1:=val_sound hx hv hc hφ
     simp only [C] at k1
     obtain ⟨A,c,e1,_⟩:=k1
     exact ⟨_,by simp [execOp,resolve,invoke,builtin,e1,Builtin.len_,run_underlying h1,goInt],C.mkv rfl⟩
    ·rename_i A n c ψ hv
     simp only [Option.some.injEq,Prod.mk.injEq] at he
     obtain ⟨rfl,rfl⟩:=he
     have k1:=C.v (val_sound hx hv hc hφ)
     exact ⟨_,by simp [execOp,resolve,invoke,builtin,k1.1,Builtin.len_,run_underlying h1,goInt],C.mkv rfl⟩
    ·cases he
   ·cases ht
  ·cases ht
 ·split at ht
  ·rename_i x y
   split at ht
   ·rename_i ax ay hx hy
    simp only [Option.some.injEq] at ht
    subst ht
    simp only [AO.ev] at he
    split at he
    ·rename_i k a φ1 k' b φ2 hv hj
     split at he
     ·rename_i hk
      subst hk
      simp only [Option.some.injEq,Prod.mk.injEq] at he
      obtain ⟨rfl,rfl⟩:=he
      have k1:=C.v (val_sound hx hv hc hφ.1)
      have k2:=C.v (val_sound hy hj hc hφ.2)
      exact ⟨_,by simp [execOp,resolve,invoke,builtin,k1.1,k2.1,Builtin.max_,Builtin.max2],C.mkv rfl⟩
     ·cases he
    ·cases he
   ·cases ht
  ·rename_i x y z
   split at ht
   ·rename_i ax ay az hx hy hz
    simp only [Option.some.injEq] at ht
    subst ht
    simp only [AO.ev] at he
    split at he
    ·rename_i k a φ1 k' b φ2 k'' c φ3 hv hj hk3
     split at he
     ·rename_i hk
      obtain ⟨rfl,rfl⟩:=hk
      simp only [Option.some.injEq,Prod.mk.injEq] at he
      obtain ⟨rfl,rfl⟩:=he
      have k1:=C.v (val_sound hx hv hc hφ.1)
      have k2:=C.v (val_sound hy hj hc hφ.2.1)
      have k3:=C.v (val_sound hz hk3 hc hφ.2.2)
      exact ⟨_,by simp [execOp,resolve,invoke,builtin,k1.1,k2.1,k3.1,Builtin.max_,Builtin.max2],C.mkv rfl⟩
     ·cases he
    ·cases he
   ·cases ht
  ·cases ht
 ·split at ht
  ·rename_i x y
   split at ht
   ·rename_i ax ay hx hy
    simp only [Option.some.injEq] at ht
    subst ht
    simp only [AO.ev] at he
    split at he
    ·rename_i k a φ1 k' b φ2 hv hj
     split at he
     ·rename_i hk
      subst hk
      simp only [Option.some.injEq,Prod.mk.injEq] at he
      obtain ⟨rfl,rfl⟩:=he
      have k1:=C.v (val_sound hx hv hc hφ.1)
      have k2:=C.v (val_sound hy hj hc hφ.2)
      exact ⟨_,by simp [execOp,resolve,invoke,builtin,k1.1,k2.1,Builtin.min_,Builtin.min2],C.mkv rfl⟩
     ·cases he
    ·cases he
   ·cases ht
  ·cases ht
 ·cases ht
theorem C.cell1 {d:D}{u:Value}(h:C X w σ d u)(h1:d.cell1=true):u.oneCell'=true:=by
 cases d<;>simp only [D.cell1,Bool.false_eq_true] at h1<;>simp only [C] at h
 ·rw [h.1];exact h.2
 ·obtain ⟨A,c,rfl,_⟩:=h;rfl
 ·obtain ⟨b,_,rfl⟩:=h;rfl
 ·obtain ⟨b,o,vs,rfl,_⟩:=h;rfl
 ·exact h.2
 ·obtain ⟨s,b,_,_,rfl⟩:=h;rfl
 ·rcases h with ⟨b,m,c,_,_,rfl⟩|⟨_,_,_,rfl⟩<;>rfl
 ·obtain ⟨b,_,rfl⟩:=h;rfl
 ·obtain ⟨vs,rfl,_⟩:=h;exact fnv_one _ _
 ·obtain ⟨x,rfl,_⟩:=h;rfl
theorem Cs.cell1 {ds:List D}{us:List Value}(h:Cs X w σ ds us)(h1:ds.all D.cell1=true): ∀ u∈us,u.oneCell'=true:=by
 induction ds generalizing us with
 |nil=>simp only [Cs] at h;subst h;simp
 |cons d ds ih=>
  simp only [Cs] at h
  obtain ⟨u,us',rfl,h2,h3⟩:=h
  simp only [List.all_cons,Bool.and_eq_true] at h1
  intro x hx
  rcases List.mem_cons.1 hx with rfl|hx
  ·exact h2.cell1 h1.1
  ·exact ih h3 h1.2 x hx
theorem cells_one {u:Value}(h:u.oneCell'=true):u.cells.toList=[u]:=by cases u<;>simp [Value.oneCell',Value.cells] at h ⊢
theorem C.cells {d:D}{u:Value}(h:C X w σ d u)(h1:d.cellable=true):Cs X w σ d.cells u.cells.toList∧ ∀ x∈u.cells.toList,x.oneCell'=true:=by
 have key:d.cell1=true->d.cells=[d]->Cs X w σ d.cells u.cells.toList∧ ∀ x∈u.cells.toList,x.oneCell'=true:=by
  intro h2 h3
  have h4:=h.cell1 h2
  rw [h3,cells_one h4]
  exact ⟨by simp only [Cs];exact ⟨u,[],rfl,h,rfl⟩,fun x hx=>by simp at hx;rw [hx];exact h4⟩
 cases d with
 |ag cs=>
  simp only [C] at h
  obtain ⟨vs,rfl,h2⟩:=h
  simp only [D.cells,Value.cells]
  exact ⟨h2,h2.cell1 h1⟩
 |v x=>exact key h1 rfl
 |sl n cs=>exact key h1 rfl
 |bx k o=>exact key h1 rfl
 |el cs=>exact key h1 rfl
 |ms k=>exact key h1 rfl
 |ba k o=>exact key h1 rfl
 |wn k sz lo n=>exact key h1 rfl
 |bv k n=>exact key h1 rfl
 |fn f cs=>exact key h1 rfl
 |ifc t d=>exact key h1 rfl
 |tu cs=>simp [D.cellable,D.cell1] at h1
 |gd p d=>simp [D.cellable,D.cell1] at h1
 |any=>simp [D.cellable,D.cell1] at h1
theorem setFrom_len {α:Type}(vs:List α): ∀ (cs:List α) (o:Nat),(setFrom cs o vs).length=cs.length:=by
 induction vs with
 |nil=>intro cs o;rfl
 |cons v r ih=>intro cs o;simp [setFrom,ih]
theorem Cs.setFrom_: ∀ {ds:List D} {us:List Value} (o:Nat) {cs:List D} {vs:List Value},Cs X w σ ds us->Cs X w σ cs vs->Cs X w σ (setFrom cs o ds) (setFrom vs o us)
 | [],us,o,cs,vs,h,k=>by simp only [Cs] at h;subst h;exact k
 |d::ds,us,o,cs,vs,h,k=>by
  simp only [Cs] at h
  obtain ⟨u,us',rfl,h2,h3⟩:=h
  exact Cs.setFrom_ (o+1) h3 (k.set_ o h2)
theorem fold_setFrom (vs:List Value): ∀ (cs:List Value) (off k:Nat),(vs.zipIdx k).foldl (fun (cs:Array Value) (p:Value×Nat)=>cs.setIfInBounds (off+p.2) p.1) cs.toArray=(setFrom cs (off+k) vs).toArray:=by
 induction vs with
 |nil=>intro cs off k;rfl
 |cons v r ih=>
  intro cs off k
  rw [List.zipIdx_cons,List.foldl_cons,setFrom]
  have:=ih (cs.set (off+k) v) off (k+1)
  rw [Nat.add_assoc]
  simpa using this
theorem setFrom_one: ∀ (r cs:List Value) (o:Nat),(∀ v∈cs,v.oneCell'=true)->(∀ v∈r,v.oneCell'=true)→ ∀ v∈setFrom cs o r,v.oneCell'=true:=by
 intro r
 induction r with
 |nil=>intro cs o h1 h2;exact h1
 |cons a r ih=>
  intro cs o h1 h2
  refine ih (cs.set o a) (o+1) (fun v hv=> ?_) (fun v hv=>h2 v (List.mem_cons_of_mem _ hv))
  rcases List.mem_or_eq_of_mem_set hv with hv|rfl
  ·exact h1 v hv
  ·exact h2 v List.mem_cons_self
theorem fill_sound {place:Nat->Option (Nat×Nat)}: ∀ {parts:List (Nat×Operand)} {l:List (Nat×Nat×AX)} {cells cs:List D} {vs:List Value} {φ:Prop},trParts place parts=some l->fillD ts cells l=some (cs,φ)->φ->Cs X w σ ts us->Cs X w σ cells vs->(∀ v∈vs,v.oneCell'=true)→
  ∃ xs:List Value,Instr.fill place vs.toArray (parts.map fun p=>(p.1,Act.eval ⟨us.toArray,[]⟩ p.2))=some xs.toArray/\Cs X w σ cs xs/\(∀ v∈xs,v.oneCell'=true)/\xs.length=vs.length
 | [],l,cells,cs,vs,φ,h1,h2,hφ,hc,hv,ho=>by
  simp only [trParts,Option.some.injEq] at h1
  subst h1
  simp only [fillD,Option.some.injEq,Prod.mk.injEq] at h2
  obtain ⟨rfl,_⟩:=h2
  exact ⟨vs,rfl,hv,ho,rfl⟩
 |(i,x)::parts,l,cells,cs,vs,φ,h1,h2,hφ,hc,hv,ho=>by
  simp only [trParts] at h1
  split at h1
  ·rename_i off sz ax l' hp hx hr
   simp only [Option.some.injEq] at h1
   subst h1
   simp only [fillD] at h2
   split at h2
   ·rename_i d ψ1 hd
    split at h2
    ·rename_i cs' ψ hf
     simp only [Option.some.injEq,Prod.mk.injEq] at h2
     obtain ⟨rfl,rfl⟩:=h2
     obtain ⟨⟨p1,p2,p3,p4⟩,p5⟩:=hφ
     have k0:=val_sound hx hd hc p1
     obtain ⟨k1,k2⟩:=k0.cells p2
     have hlen:=k1.len
     have hvl:=hv.len
     obtain ⟨xs,q1,q2,q3,q4⟩:=fill_sound (vs:=setFrom vs off (Act.eval ⟨us.toArray,[]⟩ x).cells.toList) hr hf p5 hc (Cs.setFrom_ off k1 hv) (setFrom_one _ _ _ ho k2)
     refine ⟨xs, ?_,q2,q3,by rw [q4,setFrom_len]⟩
     simp only [List.map_cons,Instr.fill,hp]
     have hsz:(Act.eval ⟨us.toArray,[]⟩ x).cells.size=sz:=by rw [←p3, ← hlen];simp
     have hcond:((Act.eval ⟨us.toArray,[]⟩ x).cells.size≠sz||off+(Act.eval ⟨us.toArray,[]⟩ x).cells.size > vs.toArray.size)=false:=by
      simp [hsz];omega
     rw [if_neg (by rw [hcond];simp)]
     rw [←q1]
     congr 1
     have:=fold_setFrom (Act.eval ⟨us.toArray,[]⟩ x).cells.toList vs off 0
     rw [Nat.add_zero] at this
     rw [←this, ← Array.foldl_toList,Array.toList_zipIdx]
    ·cases h2
   ·cases h2
  ·cases h1
theorem initD_sound {z:Value}{i:List D}(h:initD z=some i):Cs X w σ i z.cells.toList∧ ∀ v∈z.cells.toList,v.oneCell'=true:=by
 unfold initD at h
 split at h
 ·rename_i hone
  simp only [Option.some.injEq] at h
  subst h
  have ho: ∀ v∈z.cells.toList,v.oneCell'=true:=fun u hu=>by simpa using (List.all_eq_true.1 hone) u hu
  exact ⟨Cs.plain ho,ho⟩
 ·cases h
theorem sound_build (t:TypeId)(parts:Array (Nat×Operand)):Sound P X w σ ts us (.build t parts):=by
 intro ao d φ dst ty pos after guard ht he hφ hc
 simp only [tr] at ht
 split at ht
 ·rename_i pl z hpl hz
  split at ht
  ·rename_i l i hl hi
   simp only [Option.some.injEq] at ht
   subst ht
   simp only [AO.ev] at he
   split at he
   ·rename_i cs ψ hf
    simp only [Option.some.injEq,Prod.mk.injEq] at he
    obtain ⟨rfl,rfl⟩:=he
    obtain ⟨h1,h2⟩:=initD_sound (X:=X) (w:=w) (σ:=σ) hi
    obtain ⟨xs,q1,q2,_⟩:=fill_sound hl hf hφ hc h1 h2
    refine ⟨.agg xs.toArray, ?_,by simp only [C];exact ⟨xs,rfl,q2⟩⟩
    have hb:P.built t ((parts.map fun (i,x)=>(i,Act.eval ⟨us.toArray,[]⟩ x)).toList)=some xs.toArray:=by
     rw [Array.toList_map]
     simp only [Array.toArray_toList] at q1
     simp only [Option.bind_eq_some_iff] at hz
     obtain ⟨it,hit,hz⟩:=hz
     unfold placesOf at hpl
     unfold Program.built
     rw [hit]
     split at hpl
     ·rename_i fs hu
      split at hpl
      ·rename_i places hm
       simp only [Option.some.injEq] at hpl
       subst hpl
       simp only [hu,hz,hm]
       exact q1
      ·cases hpl
     ·rename_i n e hu
      split at hpl
      ·rename_i ie hie
       simp only [Option.some.injEq] at hpl
       subst hpl
       simp only [hu,hz,hie]
       exact q1
      ·cases hpl
     ·cases hpl
    simp only [execOp,Sem.run_bind,run_build w t _ _ hb,Result.andThen_ok,Sem.run_pure]
   ·cases he
  ·cases ht
 ·cases ht
theorem ev_sound (o:Oper){ao:AO}{d:D}{φ:Prop}(ht:tr P o.op=some ao)(he:ao.ev ts=some (d,φ))(hφ:φ)(hc:Cs X w σ ts us):
  ∃ u,(execOp (Act.eval ⟨us.toArray,[]⟩) o).run P w= .ok (.value u) w/\C X w σ d u:=by
 obtain ⟨dst,op,ty,pos,after,guard⟩:=o
 simp only at ht
 cases op with
 |move x=>exact sound_move x ao d φ dst ty pos after guard ht he hφ hc
 |assign x=>exact sound_assign x ao d φ dst ty pos after guard ht he hφ hc
 |pick c a b=>exact sound_pick c a b ao d φ dst ty pos after guard ht he hφ hc
 |fieldAddr s x f=>exact sound_fieldAddr s x f ao d φ dst ty pos after guard ht he hφ hc
 |field s x f=>exact sound_field s x f ao d φ dst ty pos after guard ht he hφ hc
 |indexAddr s x f=>exact sound_indexAddr s x f ao d φ dst ty pos after guard ht he hφ hc
 |index s x f=>exact sound_index s x f ao d φ dst ty pos after guard ht he hφ hc
 |binOp op t x y t2=>exact sound_bin op t x y t2 ao d φ dst ty pos after guard ht he hφ hc
 |unOp op t x=>exact sound_un op t x ao d φ dst ty pos after guard ht he hφ hc
 |convert s t x=>exact sound_convert s t x ao d φ dst ty pos after guard ht he hφ hc
 |extract x i=>exact sound_extract x i ao d φ dst ty pos after guard ht he hφ hc
 |build t parts=>exact sound_build t parts ao d φ dst ty pos after guard ht he hφ hc
 |slice t x lo hi mx=>exact sound_slice t x lo hi mx ao d φ dst ty pos after guard ht he hφ hc
 |nilCheck x=>exact sound_nilCheck x ao d φ dst ty pos after guard ht he hφ hc
 |load t x=>exact sound_load_el t x ao d φ dst ty pos after guard ht he hφ hc
 |call c=>exact sound_call c ao d φ dst ty pos after guard ht he hφ hc
 |_=>simp [tr] at ht
end
end Go.Proofs.YtmokmalepelinaaGreatDoor.K
/-
 Typed values,and what an operation makes of them.
-/
namespace Go.Proofs.YtmokmalepelinaaGreatDoor.K
open Go.RowKit
inductive Val where
 |mk (tag:Int) (bytes:List Int) (nested:Bool) (els:List Val)
inductive Blk where
 |mk (words:List ByteArray) (op:Bool) (within:List Blk) (line:Int)
mutual
def Val.ds:Val->List D
 |.mk t b n es=>[.v (.int .i64 t),.sl (List.length b) (List.flatMap (fun x=>[.v (.int .u8 x)]) b),.v (.bool n),.sl (List.length es) (Val.dss es)]
def Val.dss:List Val->List D
 | []=>[]
 |v::r=>v.ds++Val.dss r
end
mutual
def Blk.ds:Blk->List D
 |.mk ws o es n=>[.sl (List.length ws) (List.flatMap (fun x=>[.v (.string x)]) ws),.v (.bool o),.sl (List.length es) (Blk.dss es),.v (.int .i64 n)]
def Blk.dss:List Blk->List D
 | []=>[]
 |v::r=>v.ds++Blk.dss r
end
abbrev ValT:Type:=Int×List Int×Bool×List Val×Unit
abbrev BlkT:Type:=List ByteArray×Bool×List Blk×Int×Unit
def Val.un:Val->ValT
 |.mk t b n es=>(t,b,n,es,())
def Val.of (x:ValT):Val:= .mk x.1 x.2.1 x.2.2.1 x.2.2.2.1
def Blk.un:Blk->BlkT
 |.mk ws o es n=>(ws,o,es,n,())
def Blk.of (x:BlkT):Blk:= .mk x.1 x.2.1 x.2.2.1 x.2.2.2.1
theorem Val.un_of (x:ValT):(Val.of x).un=x:=rfl
theorem Blk.un_of (x:BlkT):(Blk.of x).un=x:=rfl
inductive Ty where
 |int (k:IntKind)
 |bool
 |str
 |sl (e:Ty)
 |nil
 |pr (f r:Ty)
 |rv
 |rb
 |ov
 deriving DecidableEq
abbrev tyValT:Ty:= .pr (.int .i64) (.pr (.sl (.int .u8)) (.pr .bool (.pr .rv .nil)))
abbrev tyBlkT:Ty:= .pr (.sl .str) (.pr .bool (.pr .rb (.pr (.int .i64) .nil)))
@[reducible] def Ty.T:Ty->Type
 |.int _=>Int
 |.bool=>Bool
 |.str=>ByteArray
 |.sl e=>List e.T
 |.nil=>Unit
 |.pr f r=>f.T×r.T
 |.rv=>List Val
 |.rb=>List Blk
 |.ov=>Value
def Ty.sz:Ty->Nat
 |.nil=>0
 |.pr f r=>f.sz+r.sz
 |_=>1
def Ty.row:Ty->Bool
 |.nil=>true
 |.pr _ _=>true
 |_=>false
def Ty.zero:(y:Ty)->y.T
 |.int _=>(0:Int)
 |.bool=>false
 |.str=>ByteArray.empty
 |.sl _=>[]
 |.nil=>()
 |.pr f r=>(f.zero,r.zero)
 |.rv=>([]:List Val)
 |.rb=>([]:List Blk)
 |.ov=>Value.bool false
def Ty.cells:(y:Ty)->y.T->List D
 |.int k,n=>[.v (.int k n)]
 |.bool,x=>[.v (.bool x)]
 |.str,x=>[.v (.string x)]
 |.sl e,l=>[.sl (List.length l) (List.flatMap e.cells l)]
 |.nil,_=>[]
 |.pr f r,x=>f.cells x.1++r.cells x.2
 |.rv,l=>[.sl (List.length l) (Val.dss l)]
 |.rb,l=>[.sl (List.length l) (Blk.dss l)]
 |.ov,x=>[.v x]
def Ty.d:(y:Ty)->y.T->D
 |.int k,n=> .v (.int k n)
 |.bool,x=> .v (.bool x)
 |.str,x=> .v (.string x)
 |.sl e,l=> .sl (List.length l) (List.flatMap e.cells l)
 |.nil,_=> .ag []
 |.pr f r,x=> .ag (f.cells x.1++r.cells x.2)
 |.rv,l=> .sl (List.length l) (Val.dss l)
 |.rb,l=> .sl (List.length l) (Blk.dss l)
 |.ov,x=> .v x
inductive V where
 |t (ty:Ty) (x:ty.T)
 |c (x:Value)
 |ptr (k off:Nat)
 |pa (sz k i off:Nat)
 |wn (sz k lo n:Nat)
 |bv (k n:Nat)
 |el (ty:Ty) (x:ty.T) (off:Nat)
 |ms (k:Nat)
 |ag (vs:List V)
 |tu (vs:List V)
 |fn (f:Nat) (vs:List V)
 |ifc (t:Nat) (v:V)
 |ud
 |un
mutual
def V.d:V->D
 |.t ty x=>ty.d x
 |.c x=> .v x
 |.ptr k o=> .bx k o
 |.pa sz k i o=> .ba k (i*sz+o)
 |.wn sz k lo n=> .wn k sz lo n
 |.bv k n=> .bv k n
 |.el ty x o=> .el ((ty.cells x).drop o)
 |.ms k=> .ms k
 |.ag vs=> .ag (V.ds vs)
 |.tu vs=> .tu (V.ds vs)
 |.fn f vs=> .fn f (V.ds vs)
 |.ifc n x=> .ifc n x.d
 |.ud=> .gd false .any
 |.un=> .any
def V.ds:List V->List D
 | []=>[]
 |v::vs=>v.d::V.ds vs
end
mutual
def V.refs:V->List Nat
 |.ptr k _|.ms k=>[k]
 |.pa _ k _ _=>[k]
 |.wn _ k _ _=>[k]
 |.bv k _=>[k]
 |.ag vs=>V.refss vs
 |.tu vs=>V.refss vs
 |.fn _ vs=>V.refss vs
 |.ifc _ v=>v.refs
 |.t _ _|.c _|.el _ _ _|.ud|.un=>[]
def V.refss:List V->List Nat
 | []=>[]
 |v::vs=>v.refs++V.refss vs
end
inductive VO where
 |no
 |box (v:V)
 |arr (e:Nat) (ty:Ty) (l:List ty.T)
def VO.refs:VO->List Nat
 |.box v=>v.refs
 |_=>[]
def V.one:V->Bool
 |.t ty _=> !ty.row
 |.c x=>x.oneCell'
 |.ptr _ _|.pa _ _ _ _|.wn _ _ _ _|.bv _ _|.el _ _ _|.ms _|.fn _ _|.ifc _ _=>true
 |_=>false
def V.good:V->Bool
 |.un|.ud=>false
 |_=>true
def br {β:Type}:Bool->Option β->Option β->Option β
 |true,a,_=>a
 |false,_,b=>b
theorem br_intro {β:Type}{q:Bool}{a b r:Option β}(h1:q=true->a=r)(h0:q=false->b=r):br q a b=r:=by
 cases q
 ·exact h0 rfl
 ·exact h1 rfl
theorem br_some {β:Type}{q:Bool}{a b:Option β}{r:β}(h:br q a b=some r):(q=true/\a=some r)∨(q=false/\b=some r):=by
 cases q
 ·exact .inr ⟨rfl,h⟩
 ·exact .inl ⟨rfl,h⟩
theorem br_none {β:Type}{q:Bool}{a:Option β}{r:β}(h:br q a none=some r):q=true/\a=some r:=by
 cases q
 ·cases h
 ·exact ⟨rfl,h⟩
abbrev Env:=Nat->V
structure VS where
 ts:Nat->V
 st:Nat->VO
 dom:List Nat
def ofV:Value->V
 |.int k n=> .t (.int k) n
 |.bool q=> .t .bool q
 |.string z=> .t .str z
 |x=> .c x
def ofD:D->V
 |.v x=>ofV x
 |_=> .un
def AX.xv (e:Env):AX->V
 |.t i=>e i
 |.c d=>ofD d
def Ty.sub:(top:Bool)->(y:Ty)->y.T->(off n:Nat)->(agg:Bool)->Option V
 |top,.pr f r,x,off,n,agg=>
  if (top&&(off==0&&(n==(Ty.pr f r).sz&&agg)))=true then some (.t (.pr f r) x)
  else if off<f.sz then f.sub true x.1 off n agg else r.sub false x.2 (off-f.sz) n agg
 |top,.nil,x,off,n,agg=>if (top&&(off==0&&(n==0&&agg)))=true then some (.t .nil x) else none
 |_,.int k,x,off,_,agg=>if (off==0&& !agg)=true then some (.t (.int k) x) else none
 |_,.bool,x,off,_,agg=>if (off==0&& !agg)=true then some (.t .bool x) else none
 |_,.str,x,off,_,agg=>if (off==0&& !agg)=true then some (.t .str x) else none
 |_,.sl e,x,off,_,agg=>if (off==0&& !agg)=true then some (.t (.sl e) x) else none
 |_,.rv,x,off,_,agg=>if (off==0&& !agg)=true then some (.t (.sl tyValT) (List.map Val.un x)) else none
 |_,.rb,x,off,_,agg=>if (off==0&& !agg)=true then some (.t (.sl tyBlkT) (List.map Blk.un x)) else none
 |_,.ov,x,off,_,agg=>if (off==0&& !agg)=true then some (.t .ov x) else none
def Ty.vs:(y:Ty)->y.T->List V
 |.int k,n=>[.t (.int k) n]
 |.bool,x=>[.t .bool x]
 |.str,x=>[.t .str x]
 |.sl e,l=>[.t (.sl e) l]
 |.nil,_=>[]
 |.pr f r,x=>f.vs x.1++r.vs x.2
 |.rv,l=>[.t (.sl tyValT) (List.map Val.un l)]
 |.rb,l=>[.t (.sl tyBlkT) (List.map Blk.un l)]
 |.ov,x=>[.t .ov x]
def V.cells:V->List V
 |.t y x=>y.vs x
 |.ag vs=>vs
 |v=>[v]
def V.row:V->Bool
 |.t y _=>y.row
 |.ag _=>true
 |_=>false
def V.cellable:V->Bool
 |.ag vs=>vs.all V.one
 |.t _ _=>true
 |v=>v.one
def V.sub (top:Bool)(v:V)(off n:Nat)(agg:Bool):Option V:=
 match v with
 |.t y x=>y.sub top x off n agg
 |.ag vs=>if agg=true then (if off+n<=vs.length then some (.ag ((vs.drop off).take n)) else none) else vs[off]?
 |v=>if (top&&(off==0&&(!agg&&v.one)))=true then some v else none
def Ty.nilOf:(y:Ty)->Option y.T
 |.sl _=>some []
 |.rv=>some ([]:List Val)
 |.rb=>some ([]:List Blk)
 |_=>none
def Ty.fold (y y':Ty)(x:y'.T):Option y.T:=
 match y with
 |.rv=>if h:y'= .sl tyValT then some (List.map Val.of (h▸x:(Ty.sl tyValT).T)) else none
 |.rb=>if h:y'= .sl tyBlkT then some (List.map Blk.of (h▸x:(Ty.sl tyBlkT).T)) else none
 |_=>none
def Ty.rd1 (y:Ty)(v:V):Option y.T:=
 match v with
 |.t y' x=>if h:y'=y then some (h▸x) else y.fold y' x
 |.c (.slice none 0 0)=>y.nilOf
 |_=>none
def Ty.rdS (y:Ty):List V->Option (y.T×List V)
 |v::vs=>match y.rd1 v with
  |some x=>some (x,vs)
  |none=>none
 | []=>none
def Ty.rd:(y:Ty)->List V->Option (y.T×List V)
 |.nil,vs=>some ((),vs)
 |.pr f r,vs=>match f.rd vs with
  |some (x,vs)=>match r.rd vs with
   |some (z,vs)=>some ((x,z),vs)
   |none=>none
  |none=>none
 |.int k,vs=>(Ty.int k).rdS vs
 |.bool,vs=>Ty.bool.rdS vs
 |.str,vs=>Ty.str.rdS vs
 |.sl e,vs=>(Ty.sl e).rdS vs
 |.rv,vs=>Ty.rv.rdS vs
 |.rb,vs=>Ty.rb.rdS vs
 |.ov,vs=>Ty.ov.rdS vs
def Ty.full (y:Ty)(vs:List V):Option y.T:=
 match y.rd vs with
 |some (x,[])=>some x
 |_=>none
def V.as (y:Ty)(v:V):Option y.T:=
 match v with
 |.t y' x=>if h:y'=y then some (h▸x) else if (y'.row&&y.row)=true then y.full (y'.vs x) else y.fold y' x
 |.ag vs=>if y.row=true then y.full vs else none
 |v=>if y.row=true then none else y.rd1 v
def Ty.rds (y:Ty):Nat->List V->Option (List y.T)
 |0,[]=>some []
 |0,_::_=>none
 |n+1,vs=>match y.rd vs with
  |some (x,vs)=>match y.rds n vs with
   |some l=>some (x::l)
   |none=>none
  |none=>none
def Ty.put:(y:Ty)->y.T->Nat->V->Option y.T
 |.pr f r,x,o,v=>if o<f.sz then
   match (if o=0 then v.as f else none) with
   |some z=>some (z,x.2)
   |none=>match f.put x.1 o v with
    |some z=>some (z,x.2)
    |none=>none
  else match r.put x.2 (o-f.sz) v with
   |some z=>some (x.1,z)
   |none=>none
 |_,_,_,_=>none
def V.put (c:V)(o n:Nat)(v:V):Option V:=
 if (v.cellable&&(v.cells.length==n&&decide (o+n<=c.cells.length)))=true then
  if (o==0&&(n==c.cells.length&&c.row==v.row))=true then some v
  else match c with
   |.t y x=>match y.put x o v with
    |some z=>some (.t y z)
    |none=>some (.ag (setFrom (y.vs x) o v.cells))
   |c=>some (.ag (setFrom c.cells o v.cells))
 else none
def eqT:Nat->V->V->Option Bool
 |0,.t (.int k) a,.t (.int k') b=>if k=k' then some (a==b) else none
 |1,.t .bool a,.t .bool b=>some (a==b)
 |2,.t .str a,.t .str b=>some (a.toList==b.toList)
 |_,_,_=>none
def eqTs:List Nat->List V->List V->Option Bool
 | [],[],[]=>some true
 |k::ks,x::xs,y::ys=>match eqT k x y,eqTs ks xs ys with
  |some a,some b=>some (a&&b)
  |_,_=>none
 |_,_,_=>none
section
variable {β:Type}
def binTI (k:IntKind)(a b:Int)(K:V->Option β):BinOp->Option β
 |.add=>K (.t (.int k) (k.wrap (a+b)))
 |.sub=>K (.t (.int k) (k.wrap (a-b)))
 |.mul=>K (.t (.int k) (k.wrap (a*b)))
 |.quo=>br (decide (b≠0)) (K (.t (.int k) (k.wrap (a.tdiv b)))) none
 |.rem=>br (decide (b≠0)) (K (.t (.int k) (a.tmod b))) none
 |.eql=>K (.t .bool (a==b))
 |.neq=>K (.t .bool (a != b))
 |.lss=>K (.t .bool (decide (a<b)))
 |.leq=>K (.t .bool (decide (a<=b)))
 |.gtr=>K (.t .bool (decide (a > b)))
 |.geq=>K (.t .bool (decide (a≥b)))
 |.and=>K (.t (.int k) (iband k a b))
 |.or=>K (.t (.int k) (ibor k a b))
 |.xor=>K (.t (.int k) (ibxor k a b))
 |.shl=>br (decide (0<=b)) (K (.t (.int k) (ishl k a b))) none
 |.shr=>br (decide (0<=b)) (K (.t (.int k) (ishr k a b))) none
 |_=>none
def shT (k:IntKind)(a b:Int)(K:V->Option β):BinOp->Option β
 |.shl=>br (decide (0<=b)) (K (.t (.int k) (ishl k a b))) none
 |.shr=>br (decide (0<=b)) (K (.t (.int k) (ishr k a b))) none
 |_=>none
def binTS (a b:ByteArray)(K:V->Option β):BinOp->Option β
 |.eql=>K (.t .bool (a.toList==b.toList))
 |.neq=>K (.t .bool (!(a.toList==b.toList)))
 |.lss=>K (.t .bool (slt a b))
 |.leq=>K (.t .bool (slt a b||a.toList==b.toList))
 |.gtr=>K (.t .bool (!(slt a b||a.toList==b.toList)))
 |.geq=>K (.t .bool (!slt a b))
 |.add=>br (decide (a.size+b.size<=9223372036854775807)) (K (.t .str (a++b))) none
 |_=>none
def binTB (a b:Bool)(K:V->Option β):BinOp->Option β
 |.eql=>K (.t .bool (a==b))
 |.neq=>K (.t .bool (!(a==b)))
 |_=>none
def binT (bl:Bool)(op:BinOp)(x y:V)(K:V->Option β):Option β:=
 match x,y with
 |.t (.int k) a,.t (.int k') b=>if k=k' then binTI k a b K op else shT k a b K op
 |.t .str a,.t .str b=>binTS a b K op
 |.t .bool a,.t .bool b=>if bl=true then binTB a b K op else none
 |_,_=>none
def bndV (e:Env)(dflt:Int):Option AX->Option Int
 |none=>some dflt
 |some x=>match x.xv e with
  |.t (.int _) j=>some j
  |_=>none
def fillV (e:Env)(cells:List V):List (Nat×Nat×AX)->Option (List V)
 | []=>some cells
 |(off,sz,x)::r=>
  if ((x.xv e).good&&((x.xv e).cellable&&((x.xv e).cells.length==sz&&decide (off+sz<=cells.length))))=true then fillV e (setFrom cells off (x.xv e).cells) r else none
def nz (v:V)(K:V->Option β):Option β:=if v.good=true then K v else none
def ixT (sz:Nat)(y:Ty)(l:List y.T)(j:Int)(K:V->Option β):Option β:=
 if y.sz=sz then br (decide (0<=j/\j<(l.length:Nat))) (K (.el y (l.getD j.toNat y.zero) 0)) none else none
def ixM (sz k:Nat)(y:Ty)(l:List y.T)(j:Int)(K:V->Option β):Option β:=
 if y.sz=sz then br (decide (0<=j/\j<(l.length:Nat))) (K (.pa sz k j.toNat 0)) none else none
def sxT (z:ByteArray)(j:Int)(K:V->Option β):Option β:=
 br (decide (0<=j/\j<(z.size:Nat))) (K (.t (.int .u8) (((z.data.toList.getD j.toNat 0).toNat:Nat):Int))) none
def lenT (n:Nat)(K:V->Option β):Option β:=K (.t (.int .i64) (n:Int))
def mxT (k:IntKind)(a b:Int)(K:V->Option β):Option β:=K (.t (.int k) (if b > a then b else a))
def mnT (k:IntKind)(a b:Int)(K:V->Option β):Option β:=K (.t (.int k) (if b<a then b else a))
def ngT (k:IntKind)(n:Int)(K:V->Option β):Option β:=K (.t (.int k) (k.wrap (0-n)))
def cvT (k:IntKind)(n:Int)(K:V->Option β):Option β:=K (.t (.int k) (k.wrap n))
def slcT (y:Ty)(l:List y.T)(a h m:Int)(K:V->Option β):Option β:=
 br (decide (0<=a/\a<=h/\h<=m/\m<=(l.length:Nat))) (K (.t (.sl y) ((l.drop a.toNat).take (h.toNat-a.toNat)))) none
def wnT (sz k n:Nat)(a h:Int)(K:V->Option β):Option β:=
 br (decide (0<=a/\a<=h/\h<=(n:Nat))) (K (.wn sz k a.toNat (h.toNat-a.toNat))) none
def slsT (z:ByteArray)(a h:Int)(K:V->Option β):Option β:=
 br (decide (0<=a/\a<=h/\h<=(z.size:Nat))) (K (.t .str (z.extract a.toNat h.toNat))) none
def AO.run (S:VS)(K:V->Option β):AO->Option β
 |.mv x=>nz (x.xv S.ts) K
 |.pick c a b=>match c.xv S.ts with
  |.t .bool q=>br q (nz (a.xv S.ts) K) (nz (b.xv S.ts) K)
  |_=>none
 |.fa off x=>match x.xv S.ts with
  |.ptr k o=>K (.ptr k (o+off))
  |.pa sz k i o=>K (.pa sz k i (o+off))
  |.el y z o=>K (.el y z (o+off))
  |_=>none
 |.fd agg off n x=>if (x.xv S.ts).row=true then match (x.xv S.ts).sub false off n agg with
  |some v=>nz v K
  |none=>none
  else none
 |.ix sz x i=>match i.xv S.ts with
  |.t (.int _) j=>match x.xv S.ts with
   |.t (.sl y) l=>ixT sz y l j K
   |.ms k=>match S.st k with
    |.arr _ y l=>ixM sz k y l j K
    |_=>none
   |.wn sz' k lo n=>if sz'=sz then br (decide (0<=j/\j<(n:Nat))) (K (.pa sz k (lo+j.toNat) 0)) none else none
   |.bv k n=>if sz=1 then br (decide (0<=j/\j<(n:Nat))) (K (.ptr k j.toNat)) none else none
   |_=>none
  |_=>none
 |.sx x i=>match x.xv S.ts,i.xv S.ts with
  |.t .str z,.t (.int _) j=>sxT z j K
  |_,_=>none
 |.bin bl op x y=>binT bl op (x.xv S.ts) (y.xv S.ts) K
 |.nc x=>match x.xv S.ts with
  |.ptr k o=>K (.ptr k o)
  |.pa sz k i o=>K (.pa sz k i o)
  |_=>none
 |.nt x=>match x.xv S.ts with
  |.t .bool q=>K (.t .bool !q)
  |_=>none
 |.ng x=>match x.xv S.ts with
  |.t (.int k) n=>ngT k n K
  |_=>none
 |.cv k x=>match x.xv S.ts with
  |.t (.int _) n=>cvT k n K
  |_=>none
 |.ext i x=>match x.xv S.ts with
  |.tu vs=>match vs[i]? with
   |some v=>nz v K
   |none=>none
  |_=>none
 |.len false x=>match x.xv S.ts with
  |.t (.sl _) l=>lenT (List.length l) K
  |.c (.slice _ n _)=>lenT n K
  |.ms k=>match S.st k with
   |.arr _ _ l=>lenT (List.length l) K
   |_=>none
  |.wn _ _ _ n=>lenT n K
  |.bv _ n=>lenT n K
  |_=>none
 |.len true x=>match x.xv S.ts with
  |.t .str z=>lenT (ByteArray.size z) K
  |_=>none
 |.mx x y=>match x.xv S.ts,y.xv S.ts with
  |.t (.int k) a,.t (.int k') b=>if k=k' then mxT k a b K else none
  |_,_=>none
 |.mx3 x y z=>match x.xv S.ts,y.xv S.ts,z.xv S.ts with
  |.t (.int k) a,.t (.int k') b,.t (.int k'') c=>if k=k'/\k=k'' then mxT k (if b > a then b else a) c K else none
  |_,_,_=>none
 |.mn x y=>match x.xv S.ts,y.xv S.ts with
  |.t (.int k) a,.t (.int k') b=>if k=k' then mnT k a b K else none
  |_,_=>none
 |.eqs neg ks x y=>if ((x.xv S.ts).row&&(y.xv S.ts).row)=true then match eqTs ks (x.xv S.ts).cells (y.xv S.ts).cells with
  |some q=>K (.t .bool (if neg=true then !q else q))
  |none=>none
  else none
 |.slc sz x lo hi top=>match x.xv S.ts with
  |.t (.sl y) l=>if y.sz=sz then match bndV S.ts 0 lo,bndV S.ts (List.length l:Nat) hi,bndV S.ts (List.length l:Nat) top with
   |some a,some h,some m=>slcT y l a h m K
   |_,_,_=>none
   else none
  |.c (.slice none 0 0)=>match bndV S.ts 0 lo,bndV S.ts 0 hi,bndV S.ts 0 top with
   |some a,some h,some m=>br (decide (a=0/\h=0/\m=0)) (K (.c (.slice none 0 0))) none
   |_,_,_=>none
  |.ms k=>match S.st k,top with
   |.arr _ y l,none=>if y.sz=sz then match bndV S.ts 0 lo,bndV S.ts (List.length l:Nat) hi with
    |some a,some h=>wnT sz k (List.length l) a h K
    |_,_=>none
    else none
   |_,_=>none
  |_=>none
 |.sls x lo hi=>match x.xv S.ts with
  |.t .str z=>match bndV S.ts 0 lo,bndV S.ts (ByteArray.size z:Nat) hi with
   |some a,some h=>slsT z a h K
   |_,_=>none
  |_=>none
 |.bd init parts=>if (init.all fun d=>(ofD d).one)=true then match fillV S.ts (init.map ofD) parts with
  |some vs=>K (.ag vs)
  |none=>none
  else none
 |.lde _ _ _=>none
end
def upd {α:Type}(f:Nat->α)(k:Nat)(x:α):Nat->α:=fun i=>if i=k then x else f i
def V.mask (k:Nat)(v:V):V:=if v.refs.contains k=true then .un else v
def VS.free (S:VS)(k:Nat):Bool:=decide (k<50000)&&S.dom.all fun j=> !(S.st j).refs.contains k
def VS.alloc (S:VS)(k:Nat)(o:VO):VS:=⟨fun i=>(S.ts i).mask k,upd S.st k o,k::S.dom⟩
def VS.setO (S:VS)(k:Nat)(o:VO):VS:=⟨S.ts,upd S.st k o,S.dom⟩
def VS.set (S:VS)(dst:Option Nat)(v:V):VS:=
 match dst with
 |some d=>⟨upd S.ts d v,S.st,S.dom⟩
 |none=>S
mutual
def V.fz (k:Nat)(y:Ty)(l:List y.T):V->V
 |.ms j=>if j=k then .t (.sl y) l else .ms j
 |.pa sz j i o=>if j=k then .un else .pa sz j i o
 |.wn sz j a m=>if j=k then .un else .wn sz j a m
 |.bv j n=>if j=k then .un else .bv j n
 |.ptr j o=>if j=k then .un else .ptr j o
 |.ag vs=> .ag (V.fzs k y l vs)
 |.tu vs=> .tu (V.fzs k y l vs)
 |.fn f vs=> .fn f (V.fzs k y l vs)
 |.ifc n x=> .ifc n (x.fz k y l)
 |.t y' x=> .t y' x
 |.c x=> .c x
 |.el y' x o=> .el y' x o
 |.ud=> .ud
 |.un=> .un
def V.fzs (k:Nat)(y:Ty)(l:List y.T):List V->List V
 | []=>[]
 |v::vs=>v.fz k y l::V.fzs k y l vs
end
def VO.fz (k:Nat)(y:Ty)(l:List y.T):VO->VO
 |.box v=> .box (v.fz k y l)
 |o=>o
def lentK:Nat:=50000
def VS.fz (S:VS)(k:Nat):VS:=
 match S.st k with
 |.arr _ y l=>if k<50000 then ⟨fun i=>(S.ts i).fz k y l,fun j=>if j=k then .no else (S.st j).fz k y l,S.dom⟩ else S
 |_=>S
def VS.fzs (S:VS)(ks:List Nat):VS:=ks.foldl VS.fz S
mutual
def V.mss:V->List Nat
 |.ms k=>[k]
 |.ag vs=>V.msss vs
 |.tu vs=>V.msss vs
 |.fn _ vs=>V.msss vs
 |.ifc _ x=>x.mss
 |_=>[]
def V.msss:List V->List Nat
 | []=>[]
 |v::vs=>v.mss++V.msss vs
end
end Go.Proofs.YtmokmalepelinaaGreatDoor.K
/-
 The plain operations on typed values do what the program's do.
-/
namespace Go.Proofs.YtmokmalepelinaaGreatDoor.K
open Go.RowKit
theorem val_cells: ∀ v:Val,Ty.cells tyValT v.un=v.ds
 |.mk t b n es=>by simp only [Ty.cells,Val.un,Val.ds,List.cons_append,List.nil_append]
theorem vals_cells: ∀ l:List Val,List.flatMap (Ty.cells tyValT) (List.map Val.un l)=Val.dss l
 | []=>rfl
 |v::r=>by
  rw [List.map_cons,List.flatMap_cons,vals_cells r,val_cells v]
  rfl
theorem blk_cells: ∀ v:Blk,Ty.cells tyBlkT v.un=v.ds
 |.mk ws o es n=>by simp only [Ty.cells,Blk.un,Blk.ds,List.cons_append,List.nil_append]
theorem blks_cells: ∀ l:List Blk,List.flatMap (Ty.cells tyBlkT) (List.map Blk.un l)=Blk.dss l
 | []=>rfl
 |v::r=>by
  rw [List.map_cons,List.flatMap_cons,blks_cells r,blk_cells v]
  rfl
theorem vals_sl (l:List Val):(V.t (.sl tyValT) (List.map Val.un l)).d=Ty.d .rv l:=by
 show D.sl (List.length (List.map Val.un l)) (List.flatMap (Ty.cells tyValT) (List.map Val.un l))=D.sl (List.length l) (Val.dss l)
 rw [vals_cells,List.length_map]
theorem blks_sl (l:List Blk):(V.t (.sl tyBlkT) (List.map Blk.un l)).d=Ty.d .rb l:=by
 show D.sl (List.length (List.map Blk.un l)) (List.flatMap (Ty.cells tyBlkT) (List.map Blk.un l))=D.sl (List.length l) (Blk.dss l)
 rw [blks_cells,List.length_map]
theorem vals_of (m:List ValT):Ty.d .rv (List.map Val.of m)=(V.t (.sl tyValT) m).d:=by
 rw [←vals_sl,List.map_map]
 have:(Val.un ∘ Val.of)=id:=funext Val.un_of
 rw [this,List.map_id]
theorem blks_of (m:List BlkT):Ty.d .rb (List.map Blk.of m)=(V.t (.sl tyBlkT) m).d:=by
 rw [←blks_sl,List.map_map]
 have:(Blk.un ∘ Blk.of)=id:=funext Blk.un_of
 rw [this,List.map_id]
theorem Ty.cells_len: ∀ (y:Ty) (x:y.T),(y.cells x).length=y.sz
 |.int _,_=>rfl
 |.bool,_=>rfl
 |.str,_=>rfl
 |.sl _,_=>rfl
 |.nil,_=>rfl
 |.rv,_=>rfl
 |.rb,_=>rfl
 |.ov,_=>rfl
 |.pr f r,x=>by simp only [Ty.cells,List.length_append,Ty.cells_len f,Ty.cells_len r,Ty.sz]
theorem V.ds_eq: ∀ (vs:List V),V.ds vs=vs.map V.d
 | []=>rfl
 |v::vs=>by simp only [V.ds,V.ds_eq vs,List.map_cons]
theorem V.refss_eq: ∀ (vs:List V),V.refss vs=vs.flatMap V.refs
 | []=>rfl
 |v::vs=>by simp only [V.refss,V.refss_eq vs,List.flatMap_cons]
theorem V.ds_app (a b:List V):V.ds (a++b)=V.ds a++V.ds b:=by simp [V.ds_eq]
theorem Ty.vs_ds: ∀ (y:Ty) (x:y.T),V.ds (y.vs x)=y.cells x
 |.int _,_=>rfl
 |.bool,_=>rfl
 |.str,_=>rfl
 |.sl _,_=>rfl
 |.nil,_=>rfl
 |.rv,l=>congrArg (fun d=>[d]) (vals_sl l)
 |.rb,l=>congrArg (fun d=>[d]) (blks_sl l)
 |.ov,_=>rfl
 |.pr f r,x=>by simp only [Ty.vs,V.ds_app,Ty.vs_ds f,Ty.vs_ds r,Ty.cells]
theorem Ty.d_cells: ∀ (y:Ty) (x:y.T),(y.d x).cells=y.cells x
 |.int _,_=>rfl
 |.bool,_=>rfl
 |.str,_=>rfl
 |.sl _,_=>rfl
 |.nil,_=>rfl
 |.rv,_=>rfl
 |.rb,_=>rfl
 |.ov,_=>rfl
 |.pr f r,x=>rfl
theorem Ty.d_row: ∀ (y:Ty) (x:y.T),y.row=true->y.d x= .ag (y.cells x)
 |.int _,_,h=>by cases h
 |.bool,_,h=>by cases h
 |.str,_,h=>by cases h
 |.sl _,_,h=>by cases h
 |.rv,_,h=>by cases h
 |.rb,_,h=>by cases h
 |.ov,_,h=>by cases h
 |.nil,_,_=>rfl
 |.pr f r,x,_=>rfl
theorem Ty.d_one: ∀ (y:Ty) (x:y.T),y.row=false->y.cells x=[y.d x]
 |.int _,_,_=>rfl
 |.bool,_,_=>rfl
 |.str,_,_=>rfl
 |.sl _,_,_=>rfl
 |.rv,_,_=>rfl
 |.rb,_,_=>rfl
 |.ov,_,_=>rfl
 |.nil,_,h=>by cases h
 |.pr f r,x,h=>by cases h
theorem Ty.cells_cell1: ∀ (y:Ty) (x:y.T),(y.cells x).all D.cell1=true
 |.int _,_=>rfl
 |.bool,_=>rfl
 |.str,_=>rfl
 |.sl _,_=>rfl
 |.nil,_=>rfl
 |.rv,_=>rfl
 |.rb,_=>rfl
 |.ov,_=>rfl
 |.pr f r,x=>by simp only [Ty.cells,List.all_append,Ty.cells_cell1 f,Ty.cells_cell1 r,Bool.and_self]
theorem Ty.refs_cells: ∀ (y:Ty) (x:y.T),D.refss (y.cells x)=[]
 |.int _,_=>rfl
 |.bool,_=>rfl
 |.str,_=>rfl
 |.sl _,_=>rfl
 |.nil,_=>rfl
 |.rv,_=>rfl
 |.rb,_=>rfl
 |.ov,_=>rfl
 |.pr f r,x=>by
  have h: ∀ a b:List D,D.refss (a++b)=D.refss a++D.refss b:=by
   intro a b
   induction a with
   |nil=>rfl
   |cons d a ih=>simp only [List.cons_append,D.refss,ih,List.append_assoc]
  simp only [Ty.cells,h,Ty.refs_cells f,Ty.refs_cells r,List.append_nil]
theorem Ty.refs_d (y:Ty)(x:y.T):(y.d x).refs=[]:=by
 cases hr:y.row with
 |true=>rw [y.d_row x hr];simp only [D.refs,y.refs_cells x]
 |false=>
  have h:=y.refs_cells x
  rw [y.d_one x hr] at h
  simpa only [D.refss,List.append_nil] using h
mutual
theorem V.refs_d: ∀ v:V,v.d.refs=v.refs
 |.t y x=>by simp only [V.d,Ty.refs_d,V.refs]
 |.c x=>rfl
 |.ptr k o=>rfl
 |.pa sz k i o=>rfl
 |.wn sz k lo n=>rfl
 |.bv k n=>rfl
 |.el y x o=>rfl
 |.ms k=>rfl
 |.ag vs=>by simp only [V.d,D.refs,V.refs,V.refss_d vs]
 |.tu vs=>by simp only [V.d,D.refs,V.refs,V.refss_d vs]
 |.fn f vs=>by simp only [V.d,D.refs,V.refs,V.refss_d vs]
 |.ifc n x=>by simp only [V.d,D.refs,V.refs,V.refs_d x]
 |.ud=>rfl
 |.un=>rfl
theorem V.refss_d: ∀ vs:List V,D.refss (V.ds vs)=V.refss vs
 | []=>rfl
 |v::vs=>by simp only [V.ds,D.refss,V.refss,V.refs_d v,V.refss_d vs]
end
theorem V.cells_ds (v:V):V.ds v.cells=v.d.cells:=by
 cases v with
 |t y x=>simp only [V.cells,V.d,Ty.vs_ds,Ty.d_cells]
 |ag vs=>rfl
 |_=>rfl
theorem V.d_row (v:V)(h:v.row=true):v.d= .ag v.d.cells:=by
 cases v with
 |t y x=>simp only [V.row] at h;simp only [V.d,y.d_row x h,D.cells]
 |ag vs=>rfl
 |_=>cases h
theorem V.one_cell1 (v:V)(h:v.one=true):v.d.cell1=true:=by
 cases v with
 |t y x=>
  simp only [V.one,Bool.not_eq_true'] at h
  have h1:=y.cells_cell1 x
  rw [y.d_one x h] at h1
  simpa only [List.all_cons,List.all_nil,Bool.and_true,V.d] using h1
 |_=>first|rfl|cases h|exact h
theorem V.cellable_d (v:V)(h:v.cellable=true):v.d.cellable=true:=by
 cases v with
 |t y x=>
  cases hr:y.row with
  |true=>simp only [V.d,y.d_row x hr,D.cellable,y.cells_cell1 x]
  |false=>
   have h1:=y.cells_cell1 x
   rw [y.d_one x hr] at h1
   simp only [List.all_cons,List.all_nil,Bool.and_true] at h1
   simp only [V.d]
   cases y<;>first|rfl|cases hr
 |ag vs=>
  simp only [V.cellable,List.all_eq_true] at h
  simp only [V.d,D.cellable,V.ds_eq,List.all_map,List.all_eq_true]
  exact fun v hv=>V.one_cell1 v (h v hv)
 |_=>first|rfl|cases h
theorem Ty.sub_spec: ∀ (top:Bool) (y:Ty) (x:y.T) (off n:Nat) (agg:Bool) (v:V),y.sub top x off n agg=some v→
  v.good=true/\(agg=true->v.d= .ag (((y.cells x).drop off).take n)/\off+n<=(y.cells x).length)/\(agg=false->(y.cells x)[off]? = some v.d)
 |top,.pr f r,x,off,n,agg,v,h=>by
  simp only [Ty.sub] at h
  split at h
  ·rename_i hc
   simp only [Option.some.injEq] at h
   subst h
   simp only [Bool.and_eq_true,beq_iff_eq] at hc
   obtain ⟨_,rfl,rfl,rfl⟩:=hc
   refine ⟨rfl,fun _=>⟨?_, ?_⟩,fun h=>by cases h⟩
   ·have hl:=Ty.cells_len (.pr f r) x
    rw [List.drop_zero,List.take_of_length_le (by omega)]
    rfl
   ·rw [Ty.cells_len];omega
  ·have hf:=Ty.cells_len f x.1
   have hr:=Ty.cells_len r x.2
   split at h
   ·rename_i hlt
    obtain ⟨h1,h2,h3⟩:=Ty.sub_spec true f x.1 off n agg v h
    refine ⟨h1,fun ha=> ?_,fun ha=> ?_⟩
    ·obtain ⟨q1,q2⟩:=h2 ha
     simp only [Ty.cells,List.length_append]
     refine ⟨?_,by omega⟩
     rw [q1,List.drop_append_of_le_length (by omega),List.take_append_of_le_length (by rw [List.length_drop];omega)]
    ·simp only [Ty.cells]
     rw [List.getElem?_append_left (by omega)]
     exact h3 ha
   ·rename_i hge
    obtain ⟨h1,h2,h3⟩:=Ty.sub_spec false r x.2 (off-f.sz) n agg v h
    refine ⟨h1,fun ha=> ?_,fun ha=> ?_⟩
    ·obtain ⟨q1,q2⟩:=h2 ha
     simp only [Ty.cells,List.length_append]
     refine ⟨?_,by omega⟩
     rw [q1,List.drop_append,hf,List.drop_eq_nil_of_le (by omega:(f.cells x.1).length<=off),List.nil_append]
    ·simp only [Ty.cells]
     rw [List.getElem?_append_right (by omega),hf]
     exact h3 ha
 |top,.nil,x,off,n,agg,v,h=>by
  simp only [Ty.sub] at h
  split at h
  ·rename_i hc
   simp only [Option.some.injEq] at h
   subst h
   simp only [Bool.and_eq_true,beq_iff_eq] at hc
   obtain ⟨_,rfl,rfl,rfl⟩:=hc
   exact ⟨rfl,fun _=>⟨rfl,by simp⟩,fun h=>by cases h⟩
  ·cases h
 |top,.int k,x,off,n,agg,v,h=>by
  simp only [Ty.sub] at h
  split at h
  ·rename_i hc
   simp only [Option.some.injEq] at h
   subst h
   simp only [Bool.and_eq_true,beq_iff_eq,Bool.not_eq_true'] at hc
   obtain ⟨rfl,rfl⟩:=hc
   exact ⟨rfl,(fun h=>by cases h),fun _=>rfl⟩
  ·cases h
 |top,.bool,x,off,n,agg,v,h=>by
  simp only [Ty.sub] at h
  split at h
  ·rename_i hc
   simp only [Option.some.injEq] at h
   subst h
   simp only [Bool.and_eq_true,beq_iff_eq,Bool.not_eq_true'] at hc
   obtain ⟨rfl,rfl⟩:=hc
   exact ⟨rfl,(fun h=>by cases h),fun _=>rfl⟩
  ·cases h
 |top,.str,x,off,n,agg,v,h=>by
  simp only [Ty.sub] at h
  split at h
  ·rename_i hc
   simp only [Option.some.injEq] at h
   subst h
   simp only [Bool.and_eq_true,beq_iff_eq,Bool.not_eq_true'] at hc
   obtain ⟨rfl,rfl⟩:=hc
   exact ⟨rfl,(fun h=>by cases h),fun _=>rfl⟩
  ·cases h
 |top,.sl e,x,off,n,agg,v,h=>by
  simp only [Ty.sub] at h
  split at h
  ·rename_i hc
   simp only [Option.some.injEq] at h
   subst h
   simp only [Bool.and_eq_true,beq_iff_eq,Bool.not_eq_true'] at hc
   obtain ⟨rfl,rfl⟩:=hc
   exact ⟨rfl,(fun h=>by cases h),fun _=>rfl⟩
  ·cases h
 |top,.rv,x,off,n,agg,v,h=>by
  simp only [Ty.sub] at h
  split at h
  ·rename_i hc
   simp only [Option.some.injEq] at h
   subst h
   simp only [Bool.and_eq_true,beq_iff_eq,Bool.not_eq_true'] at hc
   obtain ⟨rfl,rfl⟩:=hc
   exact ⟨rfl,(fun h=>by cases h),fun _=>congrArg some (vals_sl x).symm⟩
  ·cases h
 |top,.rb,x,off,n,agg,v,h=>by
  simp only [Ty.sub] at h
  split at h
  ·rename_i hc
   simp only [Option.some.injEq] at h
   subst h
   simp only [Bool.and_eq_true,beq_iff_eq,Bool.not_eq_true'] at hc
   obtain ⟨rfl,rfl⟩:=hc
   exact ⟨rfl,(fun h=>by cases h),fun _=>congrArg some (blks_sl x).symm⟩
  ·cases h
 |top,.ov,x,off,n,agg,v,h=>by
  simp only [Ty.sub] at h
  split at h
  ·rename_i hc
   simp only [Option.some.injEq] at h
   subst h
   simp only [Bool.and_eq_true,beq_iff_eq,Bool.not_eq_true'] at hc
   obtain ⟨rfl,rfl⟩:=hc
   exact ⟨rfl,(fun h=>by cases h),fun _=>rfl⟩
  ·cases h
theorem V.sub_spec {top:Bool}{v w:V}{off n:Nat}{agg:Bool}(h:v.sub top off n agg=some w):
  (agg=true->w.d= .ag ((v.d.cells.drop off).take n)/\off+n<=v.d.cells.length)/\(agg=false->v.d.cells[off]? = some w.d):=by
 cases v with
 |t y x=>
  have:=Ty.sub_spec top y x off n agg w h
  simp only [V.d,Ty.d_cells]
  exact this.2
 |ag vs=>
  simp only [V.sub] at h
  split at h
  ·rename_i ha
   split at h
   ·rename_i hl
    simp only [Option.some.injEq] at h
    subst h
    subst ha
    simp only [V.d,V.ds_eq,D.cells]
    exact ⟨fun _=>⟨by simp [List.map_take,List.map_drop],by simpa using hl⟩,fun h=>by cases h⟩
   ·cases h
  ·rename_i ha
   refine ⟨fun h=>absurd h ha,fun _=> ?_⟩
   simp only [V.d,V.ds_eq,D.cells,List.getElem?_map,h,Option.map_some]
 |_=>
  simp only [V.sub] at h
  split at h
  ·rename_i hc
   simp only [Option.some.injEq] at h
   subst h
   simp only [Bool.and_eq_true,beq_iff_eq,Bool.not_eq_true'] at hc
   obtain ⟨_,rfl,rfl,_⟩:=hc
   exact ⟨(fun h=>by cases h),fun _=>rfl⟩
  ·cases h
theorem eqT_spec {k:Nat}{x y:V}{q:Bool}(h:eqT k x y=some q):eqK k x.d y.d=some q:=by
 unfold eqT at h
 split at h
 ·simpa only [V.d,Ty.d,eqK] using h
 ·simpa only [V.d,Ty.d,eqK] using h
 ·simpa only [V.d,Ty.d,eqK] using h
 ·cases h
theorem eqTs_spec: ∀ {ks:List Nat} {xs ys:List V} {q:Bool},eqTs ks xs ys=some q->eqKs ks (V.ds xs) (V.ds ys)=some q
 | [],[],[],q,h=>by simpa only [eqTs,V.ds,eqKs] using h
 |k::ks,x::xs,y::ys,q,h=>by
  simp only [eqTs] at h
  split at h
  ·rename_i a b h1 h2
   simp only [V.ds,eqKs,eqT_spec h1,eqTs_spec h2]
   exact h
  ·cases h
 | [],[],_::_,_,h=>by simp only [eqTs] at h;cases h
 | [],_::_,_,_,h=>by simp only [eqTs] at h;cases h
 |_::_,[],_,_,h=>by simp only [eqTs] at h;cases h
 |_::_,_::_,[],_,h=>by simp only [eqTs] at h;cases h
end Go.Proofs.YtmokmalepelinaaGreatDoor.K
/-
 The plain operations on typed values do what the program's do.
-/
namespace Go.Proofs.YtmokmalepelinaaGreatDoor.K
open Go.RowKit
def Mk (w:World)(g:Nat)(cur:Array Value)(e:Nat):Prop:=w.heap[g]? = some (.cells cur e (0,0))∨ ∃ ty mk,e=ty+1000000/\(mk=(0,0)∨mk=(cur.size,cur.size+1))/\w.heap[g]? = some (.cells cur ty mk)
def OwnM (w:World)(e sz:Nat)(u:Value)(n:Nat)(xs:List Value):Prop:=
 xs.length=n*sz/\((u= .slice none 0 0/\n=0)∨ ∃ g cap cur,u= .slice (some ⟨g,0,none⟩) n cap/\0<=g/\Mk w g cur e/\n<=cap/\cap<=maxLen/\cur.size=cap*sz/\cur.toList.take (n*sz)=xs)
theorem Mk.two {w:World}{g e:Nat}{cur:Array Value}(h:Mk w g cur e): ∃ ty mk,w.heap[g]? = some (.cells cur ty mk)/\(∀ q,q<cur.size→ ¬ (mk.1<=q/\q<mk.2))∧ ∀ (w':World) (cur':Array Value),cur'.size=cur.size->w'.heap[g]? = some (.cells cur' ty mk)->Mk w' g cur' e:=by
 rcases h with h|⟨ty,mk,h1,h3,h2⟩
 ·exact ⟨_,_,h,fun q _ hq=>by simp at hq,fun w' cur' _ hh=> .inl hh⟩
 ·refine ⟨_,_,h2,fun q hq hh=> ?_,fun w' cur' hs hh=> .inr ⟨ty,mk,h1,by rw [hs];exact h3,hh⟩⟩
  rcases h3 with rfl|rfl<;>simp only at hh<;>omega
theorem Mk.ext {w w':World}{g e:Nat}{cur:Array Value}(h:w'.heap[g]? = w.heap[g]?)(hm:Mk w g cur e):Mk w' g cur e:=by
 unfold Mk at hm ⊢
 rw [h]
 exact hm
theorem OwnM.of {w:World}{base e sz n:Nat}{u:Value}{xs:List Value}(h:w.ownsRow base e sz u n xs):OwnM w e sz u n xs:=by
 refine ⟨h.1, ?_⟩
 rcases h.2 with h1|⟨g,cap,cur,h1,h2,h3,h4⟩
 ·exact .inl h1
 ·exact .inr ⟨g,cap,cur,h1,Nat.zero_le _,.inl h3,h4⟩
theorem OwnM.own {w:World}{e sz n:Nat}{u:Value}{xs:List Value}(h:OwnM w e sz u n xs)(he:e<1000000):w.ownsRow 0 e sz u n xs:=by
 refine ⟨h.1, ?_⟩
 rcases h.2 with h1|⟨g,cap,cur,h1,h2,h3,h4⟩
 ·exact .inl h1
 ·rcases h3 with h3|⟨ty,mk,h5,_⟩
  ·exact .inr ⟨g,cap,cur,h1,h2,h3,h4⟩
  ·omega
theorem OwnM.take_ {w:World}{e sz n n' m:Nat}{A:Option Addr}{c:Nat}{xs:List Value}(h:OwnM w e sz (.slice A n' c) n xs)(hm:m<=n):OwnM w e sz (.slice A m c) m (xs.take (m*sz)):=by
 refine ⟨?_, ?_⟩
 ·rw [List.length_take,h.1]
  exact Nat.min_eq_left (Nat.mul_le_mul_right _ hm)
 ·rcases h.2 with ⟨h1,h2⟩|⟨g,cap,cur,h1,h2,h3,h4,h5,h6,h7⟩
  ·injection h1 with q1 q2 q3
   subst q1 q2 q3
   have:m=0:=by omega
   subst this
   exact .inl ⟨rfl,rfl⟩
  ·injection h1 with q1 q2 q3
   subst q1 q3
   refine .inr ⟨g,c,cur,rfl,h2,h3,by omega,h5,h6, ?_⟩
   rw [←h7,List.take_take,Nat.min_eq_left (Nat.mul_le_mul_right _ hm)]
theorem OwnM.weak {w:World}{e sz n:Nat}{u:Value}{xs:List Value}(h:OwnM w e sz u n xs)(he:e<1000000):OwnM w (e+1000000) sz u n xs:=by
 refine ⟨h.1, ?_⟩
 rcases h.2 with h1|⟨g,cap,cur,h1,h2,h3,h4⟩
 ·exact .inl h1
 ·rcases h3 with h3|⟨ty,mk,h5,_⟩
  ·exact .inr ⟨g,cap,cur,h1,h2,.inr ⟨e,_,rfl,.inl rfl,h3⟩,h4⟩
  ·omega
theorem OwnM.lt {w:World}{e sz n:Nat}{u:Value}{xs:List Value}(h:OwnM w e sz u n xs): ∀ k,u.ownBlock=some k->0<=k/\k<w.heap.size:=by
 intro k hk
 rcases h.2 with ⟨rfl,_⟩|⟨g,cap,cur,rfl,hb,hg,_⟩
 ·simp [Value.ownBlock] at hk
 ·simp [Value.ownBlock] at hk
  subst hk
  obtain ⟨_,_,hg,_⟩:=hg.two
  exact ⟨hb,(Array.getElem?_eq_some_iff.1 hg).1⟩
theorem OwnM.cells {w:World}{e sz n g:Nat}{u:Value}{xs:List Value}(h:OwnM w e sz u n xs)(hg:u.ownBlock=some g): ∀ j v,xs[j]? = some v->w.cell? ((⟨g,0,none⟩:Addr).add j)=some v:=by
 intro j v hj
 rcases h.2 with ⟨rfl,_⟩|⟨g',cap,cur,rfl,hb,hm,h1,h2,h3,h4⟩
 ·simp [Value.ownBlock] at hg
 ·simp [Value.ownBlock] at hg
  subst hg
  obtain ⟨_,_,hg,_⟩:=hm.two
  have hjl:=(List.getElem?_eq_some_iff.1 hj).1
  rw [←h4,List.getElem?_take] at hj
  split at hj
  ·rw [Addr.add_mid,Nat.zero_add]
   simp only [World.cell?, hg]
   rw [←Array.getElem?_toList]
   exact hj
  ·cases hj
def OAt (X:Nat->Nat->Prop)(w:World)(σ:Pl)(k:Nat):VO->Prop
 |.no=>True
 |.box v=> ∃ b ty vs,σ k= .box b/\w.heap[b]? = some (.cells (List.toArray vs) ty (0,0))/\Cs X w σ v.d.cells vs∧ ∀ o,X b o
 |.arr e y l=> ∃ u xs,σ k= .arr u/\OwnM w e y.sz u (List.length l) xs/\Cs X w nowhere (List.flatMap y.cells l) xs/\(∀ x∈xs,x.oneCell'=true)/\(∀ b,u.ownBlock=some b→ ∀ o,X b o)
structure Rel (X:Nat->Nat->Prop) (w:World) (σ:Pl) (n:Nat) (e:Env) (us:List Value):Prop where
 len:us.length=n
 at_: ∀ i u,us[i]? = some u->C X w σ (e i).d u
 out: ∀ i,n<=i->e i= .un
def dts (n:Nat)(e:Env):List D:=(List.range n).map fun i=>(e i).d
section
variable {X:Nat->Nat->Prop}{w:World}{σ:Pl}{n:Nat}{e:Env}{us:List Value}
theorem cs_of: ∀ {ds:List D} {us:List Value},ds.length=us.length->(∀ (i:Nat) d u,ds[i]? = some d->us[i]? = some u->C X w σ d u)->Cs X w σ ds us
 | [],us,hl,_=>by simp only [Cs];exact List.eq_nil_of_length_eq_zero (by simpa using hl.symm)
 |d::ds,[],hl,_=>by simp at hl
 |d::ds,u::us,hl,h=>by
  simp only [Cs]
  exact ⟨u,us,rfl,h 0 d u rfl rfl,cs_of (by simpa using hl) fun i d' u' h1 h2=>h (i+1) d' u' (by simpa using h1) (by simpa using h2)⟩
theorem Rel.cs (h:Rel X w σ n e us):Cs X w σ (dts n e) us:=by
 refine cs_of (by simp [dts,h.len]) fun i d u h1 h2=> ?_
 simp only [dts,List.getElem?_map,Option.map_eq_some_iff] at h1
 obtain ⟨j,hj,rfl⟩:=h1
 rw [List.getElem?_range (by have:=(List.getElem?_eq_some_iff.1 h2).1;have:=h.len;omega)] at hj
 injection hj with hj
 subst hj
 exact h.at_ _ u h2
theorem ofV_d (x:Value):(ofV x).d= .v x:=by cases x<;>rfl
theorem V.good_val {v:V}(h:v.good=true):(∀ p d,v.d≠ .gd p d)/\v.d≠ .any:=by
 cases v with
 |t y x=>cases y<;>exact ⟨fun p d=>by simp [V.d,Ty.d],by simp [V.d,Ty.d]⟩
 |un=>cases h
 |ud=>cases h
 |_=>exact ⟨fun p d=>by simp [V.d],by simp [V.d]⟩
theorem xv_val {x:AX}(h:(x.xv e).good=true)(ho: ∀ i,n<=i->e i= .un):x.val (dts n e)=some ((x.xv e).d,True):=by
 cases x with
 |t i=>
  simp only [AX.xv] at h ⊢
  have hi:i<n:=by
   rcases Nat.lt_or_ge i n with hi|hi
   ·exact hi
   ·rw [ho i hi] at h;cases h
  have hg:(dts n e)[i]? = some (e i).d:=by simp [dts,List.getElem?_range hi]
  simp only [AX.val,hg]
  obtain ⟨h1,h2⟩:=V.good_val h
  generalize (e i).d=d at h1 h2
  cases d<;>first|rfl|exact absurd rfl (h1 _ _)|exact absurd rfl h2
 |c d=>
  simp only [AX.xv] at h ⊢
  cases d with
  |v x=>simp only [AX.val,ofD,ofV_d]
  |_=>cases h
theorem xv_sound {o:Operand}{x:AX}(hx:trX o=some x)(h:(x.xv e).good=true)(hr:Rel X w σ n e us):C X w σ (x.xv e).d (Act.eval ⟨us.toArray,[]⟩ o):=
 val_sound hx (xv_val h hr.out) hr.cs trivial
theorem xv_t {x:AX}{y:Ty}{z:y.T}(h:x.xv e= .t y z)(ho: ∀ i,n<=i->e i= .un):x.val (dts n e)=some (y.d z,True):=by
 have:=xv_val (n:=n) (x:=x) (e:=e) (by rw [h];rfl) ho
 rw [this,h]
 rfl
theorem xv_is {x:AX}{v:V}(h:x.xv e=v)(hv:v.good=true)(ho: ∀ i,n<=i->e i= .un):x.val (dts n e)=some (v.d,True):=by
 subst h
 exact xv_val hv ho
theorem flat_len (y:Ty): ∀ l:List y.T,(l.flatMap y.cells).length=l.length*y.sz
 | []=>by simp
 |x::l=>by rw [List.flatMap_cons,List.length_append,flat_len y l,y.cells_len,List.length_cons,Nat.add_mul,Nat.one_mul,Nat.add_comm]
theorem flat_drop (y:Ty): ∀ (l:List y.T) (j:Nat),(l.flatMap y.cells).drop (j*y.sz)=(l.drop j).flatMap y.cells
 |l,0=>by simp
 | [],j+1=>by simp
 |x::l,j+1=>by
  rw [List.flatMap_cons,List.drop_succ_cons, ← flat_drop y l j,List.drop_append,List.drop_eq_nil_of_le (by rw [y.cells_len,Nat.add_mul,Nat.one_mul];omega),List.nil_append,y.cells_len]
  congr 1
  rw [Nat.add_mul,Nat.one_mul]
  omega
theorem flat_take (y:Ty): ∀ (l:List y.T) (j:Nat),(l.flatMap y.cells).take (j*y.sz)=(l.take j).flatMap y.cells
 |l,0=>by simp
 | [],j+1=>by simp
 |x::l,j+1=>by
  rw [List.flatMap_cons,List.take_succ_cons,List.flatMap_cons, ← flat_take y l j,List.take_append,List.take_of_length_le (by rw [y.cells_len,Nat.add_mul,Nat.one_mul];omega),y.cells_len]
  congr 2
  rw [Nat.add_mul,Nat.one_mul]
  omega
theorem bndV_val {d:Int}{x:Option AX}{j:Int}(h:bndV e d x=some j)(ho: ∀ i,n<=i->e i= .un):bndD (dts n e) d x=some (j,True):=by
 cases x with
 |none=>simp only [bndV,Option.some.injEq] at h;subst h;rfl
 |some x=>
  simp only [bndV] at h
  split at h
  ·rename_i k z hz
   simp only [Option.some.injEq] at h
   subst h
   simp only [bndD,xv_t hz ho,Ty.d]
  ·cases h
theorem fillV_val: ∀ {parts:List (Nat×Nat×AX)} {cells vs:List V},fillV e cells parts=some vs->(∀ i,n<=i->e i= .un)→ ∃ φ:Prop,fillD (dts n e) (V.ds cells) parts=some (V.ds vs,φ)/\φ
 | [],cells,vs,h,ho=>by
  simp only [fillV,Option.some.injEq] at h
  subst h
  exact ⟨True,rfl,trivial⟩
 |(off,sz,x)::r,cells,vs,h,ho=>by
  simp only [fillV] at h
  split at h
  ·rename_i hc
   simp only [Bool.and_eq_true,beq_iff_eq,decide_eq_true_eq] at hc
   obtain ⟨h1,h2,h3,h4⟩:=hc
   obtain ⟨φ,q1,q2⟩:=fillV_val h ho
   have hs:V.ds (setFrom cells off (x.xv e).cells)=setFrom (V.ds cells) off (x.xv e).d.cells:=by
    rw [←V.cells_ds]
    generalize (x.xv e).cells=zs
    have: ∀ (zs cells:List V) (off:Nat),V.ds (setFrom cells off zs)=setFrom (V.ds cells) off (V.ds zs):=by
     intro zs
     induction zs with
     |nil=>intro cells off;rfl
     |cons z zs ih=>intro cells off;simp only [setFrom,V.ds,ih];congr 1;simp [V.ds_eq,List.map_set]
    exact this zs cells off
   rw [hs] at q1
   refine ⟨(True/\(x.xv e).d.cellable=true/\(x.xv e).d.cells.length=sz/\off+sz<=(V.ds cells).length)/\φ,by simp only [fillD,xv_val h1 ho,q1],⟨trivial,V.cellable_d _ h2, ?_, ?_⟩,q2⟩
   ·rw [←V.cells_ds,V.ds_eq,List.length_map,h3]
   ·simpa [V.ds_eq] using h4
  ·cases h
end
theorem tr_ix {P:Program}{op:Op}{sz:Nat}{x i:AX}(h:tr P op=some (.ix sz x i)): ∃ t o j e inf,op= .indexAddr t o j/\P.underlying t=some (.slice e)/\trX o=some x/\trX j=some i/\P.info? e=some inf/\inf.size=sz:=by
 cases op with
 |indexAddr t o j=>
  simp only [tr] at h
  split at h
  ·rename_i e ax ai h1 h2 h3
   simp only [Option.map_eq_some_iff] at h
   obtain ⟨inf,h4,h5⟩:=h
   injection h5 with h5 h6 h7
   subst h5 h6 h7
   exact ⟨t,o,j,e,inf,rfl,h1,h2,h3,h4,rfl⟩
  all_goals (repeat' split at h)
  all_goals cases h
 |call c=>
  simp only [tr,trCall] at h
  repeat' split at h
  all_goals cases h
 |build t ps=>
  simp only [tr] at h
  repeat' split at h
  all_goals cases h
 |slice t a b c d=>
  simp only [tr] at h
  repeat' split at h
  all_goals first|cases h|(simp only [Option.map_eq_some_iff] at h;obtain ⟨_,_,h⟩:=h;cases h)
 |unOp o t x=>
  cases o<;>simp [tr] at h
 |binOp o t x y t2=>
  simp only [tr] at h
  repeat' split at h
  all_goals first|cases h|(simp only [Option.map_eq_some_iff] at h;obtain ⟨_,_,h⟩:=h;cases h)
 |_=>
  simp only [tr] at h
  first
  |cases h
  |(simp only [Option.map_eq_some_iff] at h;obtain ⟨_,_,h⟩:=h;cases h)
  |(repeat' split at h
    all_goals cases h)
theorem tr_pick {P:Program}{op:Op}{c a b:AX}(h:tr P op=some (.pick c a b)): ∃ c' a' b',op= .pick c' a' b'/\trX c'=some c/\trX a'=some a/\trX b'=some b:=by
 cases op with
 |pick c' a' b'=>
  simp only [tr] at h
  split at h
  ·rename_i h1 h2 h3
   simp only [Option.some.injEq,AO.pick.injEq] at h
   obtain ⟨rfl,rfl,rfl⟩:=h
   exact ⟨_,_,_,rfl,h1,h2,h3⟩
  ·cases h
 |call c=>
  simp only [tr,trCall] at h
  repeat' split at h
  all_goals cases h
 |build t ps=>
  simp only [tr] at h
  repeat' split at h
  all_goals cases h
 |slice t a b c d=>
  simp only [tr] at h
  repeat' split at h
  all_goals first|cases h|(simp only [Option.map_eq_some_iff] at h;obtain ⟨_,_,h⟩:=h;cases h)
 |unOp o t x=>
  cases o<;>simp [tr] at h
 |binOp o t x y t2=>
  simp only [tr] at h
  repeat' split at h
  all_goals first|cases h|(simp only [Option.map_eq_some_iff] at h;obtain ⟨_,_,h⟩:=h;cases h)
 |_=>
  simp only [tr] at h
  first
  |cases h
  |(simp only [Option.map_eq_some_iff] at h;obtain ⟨_,_,h⟩:=h;cases h)
  |(repeat' split at h
    all_goals first|cases h|(simp only [Option.map_eq_some_iff] at h;obtain ⟨_,_,h⟩:=h;cases h))
theorem tr_len {P:Program}{op:Op}{x:AX}(h:tr P op=some (.len false x)): ∃ o t e,op= .call ⟨.builtin .len, #[o], #[t]⟩/\P.underlying t=some (.slice e)/\trX o=some x:=by
 cases op with
 |call c=>
  obtain ⟨cal,args,tys⟩:=c
  obtain ⟨args⟩:=args
  obtain ⟨tys⟩:=tys
  simp only [tr,trCall] at h
  split at h
  ·split at h
   ·rename_i x' t'
    split at h
    ·cases h
    ·rename_i e ax h1 h2
     simp only [Option.some.injEq,AO.len.injEq,true_and] at h
     subst h
     exact ⟨_,_,e,rfl,h1,h2⟩
    ·cases h
   ·cases h
  ·repeat' split at h
   all_goals cases h
  ·repeat' split at h
   all_goals cases h
  ·cases h
 |build t ps=>
  simp only [tr] at h
  repeat' split at h
  all_goals cases h
 |slice t a b c d=>
  simp only [tr] at h
  repeat' split at h
  all_goals first|cases h|(simp only [Option.map_eq_some_iff] at h;obtain ⟨_,_,h⟩:=h;cases h)
 |unOp o t x=>
  cases o<;>simp [tr] at h
 |binOp o t x y t2=>
  simp only [tr] at h
  repeat' split at h
  all_goals first|cases h|(simp only [Option.map_eq_some_iff] at h;obtain ⟨_,_,h⟩:=h;cases h)
 |_=>
  simp only [tr] at h
  first
  |cases h
  |(simp only [Option.map_eq_some_iff] at h;obtain ⟨_,_,h⟩:=h;cases h)
  |(repeat' split at h
    all_goals first|cases h|(simp only [Option.map_eq_some_iff] at h;obtain ⟨_,_,h⟩:=h;cases h))
end Go.Proofs.YtmokmalepelinaaGreatDoor.K
/-
 The plain operations on typed values do what the program's do:all of them.
-/
namespace Go.Proofs.YtmokmalepelinaaGreatDoor.K
open Go.RowKit
theorem tr_slc {P:Program}{op:Op}{sz:Nat}{x:AX}{lo hi:Option AX}(h:tr P op=some (.slc sz x lo hi none)):
  ∃ t o ol oh e inf,op= .slice t o ol oh none/\P.underlying t=some (.slice e)/\trX o=some x/\trO ol=some lo/\trO oh=some hi/\P.info? e=some inf/\inf.size=sz:=by
 cases op with
 |slice t o ol oh om=>
  simp only [tr] at h
  split at h
  ·rename_i e ax al ah am h1 h2 h3 h4 h5
   split at h
   ·cases h
   ·simp only [Option.map_eq_some_iff] at h
    obtain ⟨inf,h6,h7⟩:=h
    injection h7 with q1 q2 q3 q4 q5
    subst q1 q2 q3 q4 q5
    have:om=none:=by
     cases om with
     |none=>rfl
     |some y=>simp only [trO,Option.map_eq_some_iff] at h5;obtain ⟨_,_,q⟩:=h5;cases q
    subst this
    exact ⟨t,o,ol,oh,e,inf,rfl,h1,h2,h3,h4,h6,rfl⟩
  all_goals (repeat' split at h)
  all_goals cases h
 |call c=>
  simp only [tr,trCall] at h
  repeat' split at h
  all_goals cases h
 |unOp o t x=>
  cases o<;>simp [tr] at h
 |binOp o t x y t2=>
  simp only [tr] at h
  repeat' split at h
  all_goals first|cases h|(simp only [Option.map_eq_some_iff] at h;obtain ⟨_,_,h⟩:=h;cases h)
 |indexAddr t o j=>
  simp only [tr] at h
  repeat' split at h
  all_goals first|cases h|(simp only [Option.map_eq_some_iff] at h;obtain ⟨_,_,h⟩:=h;cases h)
 |_=>
  simp only [tr] at h
  first
  |cases h
  |(simp only [Option.map_eq_some_iff] at h;obtain ⟨_,_,h⟩:=h;cases h)
  |(repeat' split at h
    all_goals cases h)
section
variable {β:Type}{K:V->Option β}{r:β}
theorem nz_some {v:V}(h:nz v K=some r):v.good=true/\K v=some r:=by
 unfold nz at h
 split at h
 ·rename_i hg;exact ⟨hg,h⟩
 ·cases h
def AtD (ao:AO)(e:Env)(v:V):Prop:= ∀ n,(∀ i,n<=i->e i= .un)→ ∃ φ:Prop,ao.ev (dts n e)=some (v.d,φ)/\φ
theorem AtD.mk {ao:AO}{e:Env}{v:V}(φ:Prop)(h: ∀ n,(∀ i,n<=i->e i= .un)->ao.ev (dts n e)=some (v.d,φ))(hφ:φ):AtD ao e v:=fun n ho=>⟨φ,h n ho,hφ⟩
theorem binTI_spec {k:IntKind}{a b:Int}{op:BinOp}(h:binTI k a b K op=some r): ∃ v x χ,v.good=true/\K v=some r/\binI k a b op=some (x,χ)/\χ/\v.d= .v x:=by
 cases op<;>simp only [binTI] at h<;>first
  |cases h
  |exact ⟨_,_,_,rfl,h,rfl,trivial,rfl⟩
  |(obtain ⟨h1,h2⟩:=br_none h;exact ⟨_,_,_,rfl,h2,rfl,by simpa using h1,rfl⟩)
theorem shT_spec {k:IntKind}{a b:Int}{op:BinOp}(h:shT k a b K op=some r): ∃ v x χ,v.good=true/\K v=some r/\shI k a b op=some (x,χ)/\χ/\v.d= .v x:=by
 cases op<;>simp only [shT] at h<;>first
  |cases h
  |(obtain ⟨h1,h2⟩:=br_none h;exact ⟨_,_,_,rfl,h2,rfl,by simpa using h1,rfl⟩)
theorem binTS_spec {a b:ByteArray}{op:BinOp}(h:binTS a b K op=some r): ∃ v x χ,v.good=true/\K v=some r/\binS a b op=some (x,χ)/\χ/\v.d= .v x:=by
 cases op<;>simp only [binTS] at h<;>first
  |cases h
  |exact ⟨_,_,_,rfl,h,rfl,trivial,rfl⟩
  |(obtain ⟨h1,h2⟩:=br_none h;exact ⟨_,_,_,rfl,h2,rfl,by simpa using h1,rfl⟩)
theorem binTB_spec {a b:Bool}{op:BinOp}(h:binTB a b K op=some r): ∃ v x χ,v.good=true/\K v=some r/\binB a b op=some (x,χ)/\χ/\v.d= .v x:=by
 cases op<;>simp only [binTB] at h<;>first
  |cases h
  |exact ⟨_,_,_,rfl,h,rfl,trivial,rfl⟩
theorem binT_spec {bl:Bool}{op:BinOp}{x y:V}(h:binT bl op x y K=some r): ∃ v a b z χ,v.good=true/\K v=some r/\x.d= .v a/\y.d= .v b/\x.good=true/\y.good=true/\binV bl op a b=some (z,χ)/\χ/\v.d= .v z:=by
 unfold binT at h
 split at h
 ·split at h
  ·rename_i k a k' b hk
   subst hk
   obtain ⟨v,z,χ,h1,h2,h3,h4,h5⟩:=binTI_spec h
   exact ⟨v,_,_,z,χ,h1,h2,rfl,rfl,rfl,rfl,by simp only [binV,if_true,h3],h4,h5⟩
  ·rename_i hk
   obtain ⟨v,z,χ,h1,h2,h3,h4,h5⟩:=shT_spec h
   exact ⟨v,_,_,z,χ,h1,h2,rfl,rfl,rfl,rfl,by simp only [binV,hk,if_false,h3],h4,h5⟩
 ·obtain ⟨v,z,χ,h1,h2,h3,h4,h5⟩:=binTS_spec h
  exact ⟨v,_,_,z,χ,h1,h2,rfl,rfl,rfl,rfl,by simp only [binV,h3],h4,h5⟩
 ·split at h
  ·rename_i hb
   obtain ⟨v,z,χ,h1,h2,h3,h4,h5⟩:=binTB_spec h
   exact ⟨v,_,_,z,χ,h1,h2,rfl,rfl,rfl,rfl,by simp only [binV,hb,if_true,h3],h4,h5⟩
  ·cases h
 ·cases h
theorem ixT_some {sz:Nat}{y:Ty}{l:List y.T}{j:Int}(h:ixT sz y l j K=some r):y.sz=sz/\(0<=j/\j<(l.length:Nat))/\K (.el y (l.getD j.toNat y.zero) 0)=some r:=by
 unfold ixT at h
 split at h
 ·rename_i hsz
  obtain ⟨h1,h2⟩:=br_none h
  exact ⟨hsz,by simpa only [decide_eq_true_eq] using h1,h2⟩
 ·cases h
theorem ixM_some {sz k:Nat}{y:Ty}{l:List y.T}{j:Int}(h:ixM sz k y l j K=some r):y.sz=sz/\(0<=j/\j<(l.length:Nat))/\K (.pa sz k j.toNat 0)=some r:=by
 unfold ixM at h
 split at h
 ·rename_i hsz
  obtain ⟨h1,h2⟩:=br_none h
  exact ⟨hsz,by simpa only [decide_eq_true_eq] using h1,h2⟩
 ·cases h
theorem sxT_some {z:ByteArray}{j:Int}(h:sxT z j K=some r):(0<=j/\j<(z.size:Nat))/\K (.t (.int .u8) (((z.data.toList.getD j.toNat 0).toNat:Nat):Int))=some r:=by
 obtain ⟨h1,h2⟩:=br_none h
 exact ⟨by simpa only [decide_eq_true_eq] using h1,h2⟩
theorem slcT_some {y:Ty}{l:List y.T}{a q m:Int}(h:slcT y l a q m K=some r):(0<=a/\a<=q/\q<=m/\m<=(l.length:Nat))/\K (.t (.sl y) ((l.drop a.toNat).take (q.toNat-a.toNat)))=some r:=by
 obtain ⟨h1,h2⟩:=br_none h
 exact ⟨by simpa only [decide_eq_true_eq] using h1,h2⟩
theorem wnT_some {sz k n:Nat}{a q:Int}(h:wnT sz k n a q K=some r):(0<=a/\a<=q/\q<=(n:Nat))/\K (.wn sz k a.toNat (q.toNat-a.toNat))=some r:=by
 obtain ⟨h1,h2⟩:=br_none h
 exact ⟨by simpa only [decide_eq_true_eq] using h1,h2⟩
theorem slsT_some {z:ByteArray}{a q:Int}(h:slsT z a q K=some r):(0<=a/\a<=q/\q<=(z.size:Nat))/\K (.t .str (z.extract a.toNat q.toNat))=some r:=by
 obtain ⟨h1,h2⟩:=br_none h
 exact ⟨by simpa only [decide_eq_true_eq] using h1,h2⟩
theorem one_good {v:V}(h:v.one=true):v.good=true:=by cases v<;>first|rfl|cases h
theorem drop_cells (y:Ty){l:List y.T}{j:Int}(h0:0<=j)(h1:j<l.length):(l.flatMap y.cells).drop (j.toNat*y.sz)=y.cells (l.getD j.toNat y.zero)++(l.drop (j.toNat+1)).flatMap y.cells:=by
 have hlt:j.toNat<l.length:=by omega
 rw [flat_drop,List.drop_eq_getElem_cons hlt,List.flatMap_cons,List.getD_eq_getElem?_getD,List.getElem?_eq_getElem hlt]
 rfl
theorem C.el_take {X:Nat->Nat->Prop}{w:World}{σ:Pl}{u:Value}{a z:List D}(h:C X w σ (.el (a++z)) u):C X w σ (.el a) u:=by
 simp only [C] at h ⊢
 obtain ⟨b,off,vs,h1,h2,h3⟩:=h
 refine ⟨b,off,vs.take a.length,h1, ?_,h3.take_ _⟩
 have:=h2.take_ a.length
 rwa [List.take_left] at this
set_option maxRecDepth 100000 in
theorem ao_sound {S:VS}{ao:AO}(h:ao.run S K=some r):
  ∃ v,v.good=true/\K v=some r∧ ∀ {P:Program} {X:Nat->Nat->Prop} {w:World} {σ:Pl} {n:Nat} {us:List Value} (o:Oper),tr P o.op=some ao->Rel X w σ n S.ts us->(∀ k,OAt X w σ k (S.st k))→
   ∃ u,(execOp (Act.eval ⟨us.toArray,[]⟩) o).run P w= .ok (.value u) w/\C X w σ v.d u:=by
 have byD: ∀ v,v.good=true->K v=some r->AtD ao S.ts v→ ∃ v,v.good=true/\K v=some r∧ ∀ {P:Program} {X:Nat->Nat->Prop} {w:World} {σ:Pl} {n:Nat} {us:List Value} (o:Oper),tr P o.op=some ao->Rel X w σ n S.ts us->(∀ k,OAt X w σ k (S.st k))→
   ∃ u,(execOp (Act.eval ⟨us.toArray,[]⟩) o).run P w= .ok (.value u) w/\C X w σ v.d u:=by
  intro v h1 h2 h3
  refine ⟨v,h1,h2,fun o ht hr _=> ?_⟩
  obtain ⟨φ,q1,q2⟩:=h3 _ hr.out
  exact ev_sound o ht q1 q2 hr.cs
 cases ao with
 |mv x=>
  obtain ⟨h1,h2⟩:=nz_some h
  exact byD _ h1 h2 fun n ho=>⟨True,by simp only [AO.ev,xv_val h1 ho],trivial⟩
 |pick c a b=>
  simp only [AO.run] at h
  split at h
  ·rename_i q hq
   rcases br_some h with ⟨rfl,h⟩|⟨rfl,h⟩
   ·obtain ⟨h1,h2⟩:=nz_some h
    refine ⟨_,h1,h2,fun o ht hr _=> ?_⟩
    obtain ⟨dst,op,ty,pos,after,guard⟩:=o
    obtain ⟨c',a',b',h3,h4,h5,h6⟩:=tr_pick ht
    simp only at h3
    subst h3
    have k1:=xv_sound h4 (by rw [hq];rfl) hr
    rw [hq] at k1
    have k2:=C.v k1
    exact ⟨_,by simp [execOp,k2.1,asBool],xv_sound h5 h1 hr⟩
   ·obtain ⟨h1,h2⟩:=nz_some h
    refine ⟨_,h1,h2,fun o ht hr _=> ?_⟩
    obtain ⟨dst,op,ty,pos,after,guard⟩:=o
    obtain ⟨c',a',b',h3,h4,h5,h6⟩:=tr_pick ht
    simp only at h3
    subst h3
    have k1:=xv_sound h4 (by rw [hq];rfl) hr
    rw [hq] at k1
    have k2:=C.v k1
    exact ⟨_,by simp [execOp,k2.1,asBool],xv_sound h6 h1 hr⟩
  ·cases h
 |fa off x=>
  simp only [AO.run] at h
  split at h
  ·rename_i k o hx
   exact byD _ rfl h fun n ho=>⟨True,by simp only [AO.ev,xv_is hx rfl ho,V.d],trivial⟩
  ·rename_i sz k i o hx
   exact byD _ rfl h fun n ho=>⟨True,by simp only [AO.ev,xv_is hx rfl ho,V.d,Nat.add_assoc],trivial⟩
  ·rename_i y z o hx
   exact byD _ rfl h fun n ho=>⟨True,by simp only [AO.ev,xv_is hx rfl ho,V.d,List.drop_drop],trivial⟩
  ·cases h
 |fd agg off m x=>
  simp only [AO.run] at h
  split at h
  ·rename_i hrow
   split at h
   ·rename_i v hs
    obtain ⟨h1,h2⟩:=nz_some h
    obtain ⟨q1,q2⟩:=V.sub_spec hs
    have hg:(x.xv S.ts).good=true:=by
     generalize x.xv S.ts=z at hrow
     cases z<;>first|rfl|cases hrow
    refine byD _ h1 h2 fun n ho=>⟨True, ?_,trivial⟩
    have hv:=xv_val (n:=n) hg ho
    rw [V.d_row _ hrow] at hv
    cases agg with
    |true=>simp only [AO.ev,hv,(q1 rfl).1]
    |false=>simp only [AO.ev,hv,q2 rfl]
   ·cases h
  ·cases h
 |ix sz x i=>
  simp only [AO.run] at h
  split at h
  ·rename_i k j hj
   split at h
   ·rename_i y l hx
    obtain ⟨hsz,h1,h2⟩:=ixT_some h
    refine ⟨_,rfl,h2,fun {P X w σ n us} o ht hr _=> ?_⟩
    have e1:AO.ev (dts n S.ts) (.ix sz x i)=some (.el ((List.flatMap y.cells l).drop (Int.toNat j*sz)),True/\True/\(0:Int)<=j/\(j:Int)<(List.length l:Nat)):=by
     simp only [AO.ev,xv_is hx rfl hr.out,xv_is hj rfl hr.out,V.d,Ty.d]
    obtain ⟨u,q1,q2⟩:=ev_sound o ht e1 ⟨trivial,trivial,h1⟩ hr.cs
    refine ⟨u,q1, ?_⟩
    rw [←hsz,drop_cells y h1.1 h1.2] at q2
    simp only [V.d,List.drop_zero]
    exact C.el_take q2
   ·rename_i k hx
    split at h
    ·rename_i e y l hst
     obtain ⟨hsz,h1,h2⟩:=ixM_some h
     refine ⟨_,rfl,h2,fun {P X w σ n us} o ht hr hO=> ?_⟩
     obtain ⟨dst,op,ty,pos,after,guard⟩:=o
     obtain ⟨t,o1,o2,e',inf,rfl,g1,g2,g3,g4,rfl⟩:=tr_ix ht
     have k1:=xv_sound g2 (by rw [hx];rfl) hr
     have k2:=xv_sound g3 (by rw [hj];rfl) hr
     rw [hx] at k1
     rw [hj] at k2
     have k2:=(C.v k2).1
     simp only [V.d,C] at k1
     have hat:=hO k
     rw [hst] at hat
     obtain ⟨u,xs,a1,a2,a3,a4,a5⟩:=hat
     rw [k1.1] at a1
     injection a1 with a1
     subst a1
     rcases a2.2 with ⟨_,a6⟩|⟨g,cap,cur,a6,_⟩
     ·have h3:=h1.2
      rw [a6] at h3
      have h4:=h1.1
      exact absurd (Int.lt_of_le_of_lt h4 h3) (by simp)
     ·refine ⟨.pointer (some ⟨g,Int.toNat j*inf.size,none⟩), ?_, ?_⟩
      ·have p1:(0:Int)<=j:=h1.1
       have p2:(j:Int)<(List.length l:Nat):=h1.2
       simp [execOp,a6,k2,Instr.indexAt,asIntOf,run_underlying g1,p1,p2,sizeOf,typeInfo,g4,Addr.add_mid]
      ·simp only [V.d,C,Nat.add_zero]
       exact ⟨_,g,k1.1,by rw [a6];rfl,rfl⟩
    ·cases h
   ·rename_i sz' k lo m hx
    split at h
    ·rename_i hsz
     obtain ⟨h1,h2⟩:=br_none h
     have h1:0<=j/\j<(m:Nat):=by simpa only [decide_eq_true_eq] using h1
     refine ⟨_,rfl,h2,fun {P X w σ n us} o ht hr hO=> ?_⟩
     obtain ⟨dst,op,ty,pos,after,guard⟩:=o
     obtain ⟨t,o1,o2,e',inf,rfl,g1,g2,g3,g4,g5⟩:=tr_ix ht
     have k1:=xv_sound g2 (by rw [hx];rfl) hr
     have k2:=xv_sound g3 (by rw [hj];rfl) hr
     rw [hx] at k1
     rw [hj] at k2
     have k2:=(C.v k2).1
     simp only [V.d,C] at k1
     have hm:(0:Int)<(m:Nat):=Int.lt_of_le_of_lt h1.1 h1.2
     rcases k1 with ⟨b,q,c,a1,a2,a3⟩|⟨_,_,a4,_⟩
     ·have hcl: ¬ c=lo:=by omega
      rw [if_neg hcl] at a3
      refine ⟨.pointer (some ⟨b,(lo+Int.toNat j)*sz+0,none⟩), ?_, ?_⟩
      ·have p1:(0:Int)<=j:=h1.1
       have p2:(j:Int)<(m:Nat):=h1.2
       have e1:(lo+Int.toNat j)*sz+0=lo*sz'+Int.toNat j*inf.size:=by rw [hsz,g5,Nat.add_mul,Nat.add_zero]
       rw [e1]
       simp [execOp,a3,k2,Instr.indexAt,asIntOf,run_underlying g1,p1,p2,sizeOf,typeInfo,g4,Addr.add_mid]
      ·simp only [V.d,C]
       exact ⟨_,b,a1,rfl,rfl⟩
     ·omega
    ·cases h
   ·rename_i k m hx
    split at h
    ·rename_i hsz
     obtain ⟨h1,h2⟩:=br_none h
     have h1:0<=j/\j<(m:Nat):=by simpa only [decide_eq_true_eq] using h1
     refine ⟨_,rfl,h2,fun {P X w σ n us} o ht hr hO=> ?_⟩
     obtain ⟨dst,op,ty,pos,after,guard⟩:=o
     obtain ⟨t,o1,o2,e',inf,rfl,g1,g2,g3,g4,g5⟩:=tr_ix ht
     have k1:=xv_sound g2 (by rw [hx];rfl) hr
     have k2:=xv_sound g3 (by rw [hj];rfl) hr
     rw [hx] at k1
     rw [hj] at k2
     have k2:=(C.v k2).1
     simp only [V.d,C] at k1
     obtain ⟨b,a1,a2⟩:=k1
     have g6:inf.size=1:=g5.trans hsz
     refine ⟨.pointer (some ⟨b,Int.toNat j,none⟩), ?_, ?_⟩
     ·have p1:(0:Int)<=j:=h1.1
      have p2:(j:Int)<(m:Nat):=h1.2
      simp [execOp,a2,k2,Instr.indexAt,asIntOf,run_underlying g1,p1,p2,sizeOf,typeInfo,g4,g6,Addr.add_mid]
     ·simp only [V.d,C]
      exact ⟨b,a1,rfl⟩
    ·cases h
   ·cases h
  ·cases h
 |sx x i=>
  simp only [AO.run] at h
  split at h
  ·rename_i z k j hx hj
   obtain ⟨h1,h2⟩:=sxT_some h
   exact byD _ rfl h2 (AtD.mk (True/\True/\(0:Int)<=j/\(j:Int)<(ByteArray.size z:Nat)) (fun n ho=>by simp only [AO.ev,xv_is hx rfl ho,xv_is hj rfl ho,V.d,Ty.d]) ⟨trivial,trivial,h1⟩)
  ·cases h
 |bin bl op x y=>
  obtain ⟨v,a,b,z,χ,h1,h2,h3,h4,h5,h6,h7,h8,h9⟩:=binT_spec h
  refine byD v h1 h2 (AtD.mk (True/\True/\χ) (fun n ho=> ?_) ⟨trivial,trivial,h8⟩)
  have hx:=xv_val (n:=n) h5 ho
  have hy:=xv_val (n:=n) h6 ho
  rw [h3] at hx
  rw [h4] at hy
  simp only [AO.ev,hx,hy,h7,h9]
 |nc x=>
  simp only [AO.run] at h
  split at h
  ·rename_i k o hx
   exact byD _ rfl h fun n ho=>⟨True,by simp only [AO.ev,xv_is hx rfl ho,V.d],trivial⟩
  ·rename_i sz k i o hx
   exact byD _ rfl h fun n ho=>⟨True,by simp only [AO.ev,xv_is hx rfl ho,V.d],trivial⟩
  ·cases h
 |nt x=>
  simp only [AO.run] at h
  split at h
  ·rename_i q hx
   exact byD _ rfl h fun n ho=>⟨True,by simp only [AO.ev,xv_is hx rfl ho,V.d,Ty.d],trivial⟩
  ·cases h
 |ng x=>
  simp only [AO.run] at h
  split at h
  ·rename_i k q hx
   exact byD _ rfl h fun n ho=>⟨True,by simp only [AO.ev,xv_is hx rfl ho,V.d,Ty.d],trivial⟩
  ·cases h
 |cv k x=>
  simp only [AO.run] at h
  split at h
  ·rename_i k' q hx
   exact byD _ rfl h fun n ho=>⟨True,by simp only [AO.ev,xv_is hx rfl ho,V.d,Ty.d],trivial⟩
  ·cases h
 |ext i x=>
  simp only [AO.run] at h
  split at h
  ·rename_i vs hx
   split at h
   ·rename_i v hv
    obtain ⟨h1,h2⟩:=nz_some h
    exact byD _ h1 h2 fun n ho=>⟨True,by simp only [AO.ev,xv_is hx rfl ho,V.d,V.ds_eq,List.getElem?_map,hv,Option.map_some],trivial⟩
   ·cases h
  ·cases h
 |len q x=>
  cases q with
  |true=>
   simp only [AO.run] at h
   split at h
   ·rename_i z hx
    exact byD _ rfl h fun n ho=>⟨True,by simp only [AO.ev,xv_is hx rfl ho,V.d,Ty.d],trivial⟩
   ·cases h
  |false=>
   simp only [AO.run] at h
   split at h
   ·rename_i y l hx
    exact byD _ rfl h fun n ho=>⟨True,by simp only [AO.ev,xv_is hx rfl ho,V.d,Ty.d],trivial⟩
   ·rename_i A m c hx
    exact byD _ rfl h fun n ho=>⟨True,by simp only [AO.ev,xv_is hx rfl ho,V.d,Ty.d],trivial⟩
   ·rename_i k hx
    split at h
    ·rename_i e y l hst
     refine ⟨_,rfl,h,fun o ht hr hO=> ?_⟩
     obtain ⟨dst,op,ty,pos,after,guard⟩:=o
     obtain ⟨o1,t,e',h3,g1,g2⟩:=tr_len ht
     simp only at h3
     subst h3
     have k1:=xv_sound g2 (by rw [hx];rfl) hr
     rw [hx] at k1
     simp only [V.d,C] at k1
     have hat:=hO k
     rw [hst] at hat
     obtain ⟨u,xs,a1,a2,a3,a4,a5⟩:=hat
     rw [k1.1] at a1
     injection a1 with a1
     subst a1
     rcases a2.2 with ⟨a6,a7⟩|⟨g,cap,cur,a6,_⟩
     ·refine ⟨_,by simp [execOp,resolve,invoke,builtin,a6,Builtin.len_,run_underlying g1,goInt];rfl, ?_⟩
      rw [a7]
      exact C.mkv rfl
     ·exact ⟨_,by simp [execOp,resolve,invoke,builtin,a6,Builtin.len_,run_underlying g1,goInt],C.mkv rfl⟩
    ·cases h
   ·rename_i sz k lo m hx
    refine ⟨_,rfl,h,fun o ht hr hO=> ?_⟩
    obtain ⟨dst,op,ty,pos,after,guard⟩:=o
    obtain ⟨o1,t,e',h3,g1,g2⟩:=tr_len ht
    simp only at h3
    subst h3
    have k1:=xv_sound g2 (by rw [hx];rfl) hr
    rw [hx] at k1
    simp only [V.d,C] at k1
    rcases k1 with ⟨b,m',c,_,_,a6⟩|⟨_,_,a7,a6⟩
    ·exact ⟨_,by simp [execOp,resolve,invoke,builtin,a6,Builtin.len_,run_underlying g1,goInt],C.mkv rfl⟩
    ·refine ⟨_,by simp [execOp,resolve,invoke,builtin,a6,Builtin.len_,run_underlying g1,goInt];rfl, ?_⟩
     rw [a7]
     exact C.mkv rfl
   ·rename_i k m hx
    refine ⟨_,rfl,h,fun o ht hr hO=> ?_⟩
    obtain ⟨dst,op,ty,pos,after,guard⟩:=o
    obtain ⟨o1,t,e',h3,g1,g2⟩:=tr_len ht
    simp only at h3
    subst h3
    have k1:=xv_sound g2 (by rw [hx];rfl) hr
    rw [hx] at k1
    simp only [V.d,C] at k1
    obtain ⟨b,_,a6⟩:=k1
    exact ⟨_,by simp [execOp,resolve,invoke,builtin,a6,Builtin.len_,run_underlying g1,goInt],C.mkv rfl⟩
   ·cases h
 |mx x y=>
  simp only [AO.run] at h
  split at h
  ·rename_i k a k' b hx hy
   split at h
   ·rename_i hk
    exact byD _ rfl h (AtD.mk (True/\True) (fun n ho=>by simp only [AO.ev,xv_is hx rfl ho,xv_is hy rfl ho,V.d,Ty.d,hk,if_true]) ⟨trivial,trivial⟩)
   ·cases h
  ·cases h
 |mx3 x y z=>
  simp only [AO.run] at h
  split at h
  ·rename_i k a k' b k'' c hx hy hz
   split at h
   ·rename_i hk
    obtain ⟨rfl,rfl⟩:=hk
    exact byD _ rfl h (AtD.mk (True/\True/\True) (fun n ho=>by simp only [AO.ev,xv_is hx rfl ho,xv_is hy rfl ho,xv_is hz rfl ho,V.d,Ty.d,and_self,if_true]) ⟨trivial,trivial,trivial⟩)
   ·cases h
  ·cases h
 |mn x y=>
  simp only [AO.run] at h
  split at h
  ·rename_i k a k' b hx hy
   split at h
   ·rename_i hk
    exact byD _ rfl h (AtD.mk (True/\True) (fun n ho=>by simp only [AO.ev,xv_is hx rfl ho,xv_is hy rfl ho,V.d,Ty.d,hk,if_true]) ⟨trivial,trivial⟩)
   ·cases h
  ·cases h
 |eqs neg ks x y=>
  simp only [AO.run] at h
  split at h
  ·rename_i hrow
   simp only [Bool.and_eq_true] at hrow
   split at h
   ·rename_i q hq
    have hg: ∀ z:V,z.row=true->z.good=true:=fun z hz=>by cases z<;>first|rfl|cases hz
    refine byD _ rfl h (AtD.mk (True/\True) (fun n ho=> ?_) ⟨trivial,trivial⟩)
    have hx:=xv_val (n:=n) (hg _ hrow.1) ho
    have hy:=xv_val (n:=n) (hg _ hrow.2) ho
    rw [V.d_row _ hrow.1] at hx
    rw [V.d_row _ hrow.2] at hy
    have:=eqTs_spec hq
    rw [V.cells_ds,V.cells_ds] at this
    simp only [AO.ev,hx,hy,this,V.d,Ty.d]
   ·cases h
  ·cases h
 |slc sz x lo hi top=>
  simp only [AO.run] at h
  split at h
  ·rename_i y l hx
   split at h
   ·rename_i hsz
    split at h
    ·rename_i a q m e1 e2 e3
     obtain ⟨h1,h2⟩:=slcT_some h
     refine byD _ rfl h2 (AtD.mk (True/\True/\True/\True/\0<=a/\a<=q/\q<=m/\m<=(List.length l:Nat)) (fun n ho=> ?_) ⟨trivial,trivial,trivial,trivial,h1⟩)
     simp only [AO.ev,xv_is hx rfl ho,V.d,Ty.d,bndV_val e1 ho,bndV_val e2 ho,bndV_val e3 ho]
     subst hsz
     rw [flat_drop,flat_take]
     have:(List.take (q.toNat-a.toNat) (List.drop a.toNat l)).length=q.toNat-a.toNat:=by
      rw [List.length_take,List.length_drop]
      omega
     rw [this]
    ·cases h
   ·cases h
  ·rename_i hx
   split at h
   ·rename_i a q m e1 e2 e3
    obtain ⟨h1,h2⟩:=br_none h
    simp only [decide_eq_true_eq] at h1
    refine byD _ rfl h2 (AtD.mk (True/\True/\True/\True/\a=0/\q=0/\m=0) (fun n ho=> ?_) ⟨trivial,trivial,trivial,trivial,h1⟩)
    simp only [AO.ev,xv_is hx rfl ho,V.d,bndV_val e1 ho,bndV_val e2 ho,bndV_val e3 ho]
   ·cases h
  ·rename_i k hx
   split at h
   ·rename_i e' y l hst
    split at h
    ·rename_i hsz
     split at h
     ·rename_i a q e1 e2
      obtain ⟨h1,h2⟩:=wnT_some h
      refine ⟨_,rfl,h2,fun {P X w σ n us} o ht hr hO=> ?_⟩
      obtain ⟨dst,op,ty,pos,after,guard⟩:=o
      obtain ⟨t,o1,ol,oh,e,inf,rfl,g1,g2,g3,g4,g5,rfl⟩:=tr_slc ht
      have k1:=xv_sound g2 (by rw [hx];rfl) hr
      rw [hx] at k1
      simp only [V.d,C] at k1
      have hat:=hO k
      rw [hst] at hat
      obtain ⟨u,xs,a1,a2,a3,a4,a5⟩:=hat
      rw [k1.1] at a1
      injection a1 with a1
      subst a1
      have b1:=bnd_sound g3 (bndV_val e1 hr.out) trivial hr.cs
      have b2:=bnd_sound g4 (bndV_val e2 hr.out) trivial hr.cs
      obtain ⟨p0,p1,p2⟩:=h1
      rcases a2.2 with ⟨a6,a7⟩|⟨g,cap,cur,a6,a8,a9,a10,a11,a12⟩
      ·rw [a7] at p2
       have ha:a=0:=by omega
       have hq:q=0:=by omega
       rw [a7] at b2
       have:=run_slc (P:=P) (w:=w) (us:=us) g1 g5 a6 b1 b2 p0 p1 p2 (Nat.le_refl 0) dst ty pos after guard
       subst ha hq
       refine ⟨_,this, ?_⟩
       simp only [V.d,C]
       exact .inr ⟨by rw [←a6];exact k1.1,rfl,rfl,rfl⟩
      ·have:=run_slc (P:=P) (w:=w) (us:=us) g1 g5 a6 b1 b2 p0 p1 p2 a10 dst ty pos after guard
       refine ⟨_,this, ?_⟩
       simp only [V.d,C]
       refine .inl ⟨g,_,cap,by rw [k1.1,a6],by omega, ?_⟩
       split<;>simp [Addr.add_mid]
     ·cases h
    ·cases h
   ·cases h
  ·cases h
 |sls x lo hi=>
  simp only [AO.run] at h
  split at h
  ·rename_i z hx
   split at h
   ·rename_i a q e1 e2
    obtain ⟨h1,h2⟩:=slsT_some h
    refine byD _ rfl h2 (AtD.mk (True/\True/\True/\0<=a/\a<=q/\q<=(ByteArray.size z:Nat)) (fun n ho=> ?_) ⟨trivial,trivial,trivial,h1⟩)
    simp only [AO.ev,xv_is hx rfl ho,V.d,Ty.d,bndV_val e1 ho,bndV_val e2 ho]
   ·cases h
  ·cases h
 |bd init parts=>
  simp only [AO.run] at h
  split at h
  ·rename_i hi
   split at h
   ·rename_i vs hf
    refine byD _ rfl h fun n ho=> ?_
    obtain ⟨φ,q1,q2⟩:=fillV_val hf ho
    have:V.ds (init.map ofD)=init:=by
     rw [V.ds_eq,List.map_map]
     conv=>rhs;rw [←List.map_id init]
     refine List.map_congr_left fun d hd=> ?_
     have h1:=one_good (List.all_eq_true.1 hi d hd)
     cases d with
     |v x=>exact ofV_d x
     |_=>cases h1
    rw [this] at q1
    exact ⟨φ,by simp only [AO.ev,q1,V.d],q2⟩
   ·cases h
  ·cases h
 |lde agg n x=>cases h
end
end Go.Proofs.YtmokmalepelinaaGreatDoor.K
/-
 Typed values:reading values as values of a type,writing into variables,and the state of a run.
-/
namespace Go.Proofs.YtmokmalepelinaaGreatDoor.K
open Go.RowKit
section
variable {X X':Nat->Nat->Prop}{w w':World}{σ σ':Pl}
theorem Ty.up {y:Ty}{x:y.T}{u:Value}(h:C X w σ (y.d x) u):C X w nowhere (y.d x) u:=
 C.ext (Ext.refl X w) _ _ (fun k hk=>by rw [y.refs_d] at hk;cases hk) h
theorem Ty.cs_up {y:Ty}{x:y.T}{us:List Value}(h:Cs X w σ (y.cells x) us):Cs X w σ' (y.cells x) us:=
 Cs.ext (Ext.refl X w) _ _ (fun k hk=>by rw [y.refs_cells] at hk;cases hk) h
theorem Ty.fold_spec {y y':Ty}{z:y'.T}{x:y.T}{u:Value}(h:y.fold y' z=some x)(hc:C X w σ (V.t y' z).d u):C X w nowhere (y.d x) u:=by
 unfold Ty.fold at h
 split at h
 ·split at h
  ·rename_i hy
   subst hy
   simp only [Option.some.injEq] at h
   subst h
   rw [vals_of]
   exact Ty.up hc
  ·cases h
 ·split at h
  ·rename_i hy
   subst hy
   simp only [Option.some.injEq] at h
   subst h
   rw [blks_of]
   exact Ty.up hc
  ·cases h
 ·cases h
theorem Ty.rd1_spec {y:Ty}{v:V}{x:y.T}{u:Value}(h:y.rd1 v=some x)(hc:C X w σ v.d u):C X w nowhere (y.d x) u:=by
 unfold Ty.rd1 at h
 split at h
 ·split at h
  ·rename_i hy
   subst hy
   simp only [Option.some.injEq] at h
   subst h
   exact Ty.up hc
  ·exact Ty.fold_spec h hc
 ·have hu:=(C.v hc).1
  subst hu
  cases y with
  |rv=>
   simp only [Ty.nilOf,Option.some.injEq] at h
   subst h
   simp only [Ty.d,C]
   exact ⟨none,0,rfl,Nat.le_refl _,by simp [maxLen],fun _=>rfl,fun q=>absurd q (by simp)⟩
  |rb=>
   simp only [Ty.nilOf,Option.some.injEq] at h
   subst h
   simp only [Ty.d,C]
   exact ⟨none,0,rfl,Nat.le_refl _,by simp [maxLen],fun _=>rfl,fun q=>absurd q (by simp)⟩
  |sl e=>
   simp only [Ty.nilOf,Option.some.injEq] at h
   subst h
   simp only [Ty.d,C]
   exact ⟨none,0,rfl,Nat.le_refl _,by simp [maxLen],fun _=>rfl,fun q=>absurd q (by simp)⟩
  |_=>cases h
 ·cases h
theorem Ty.rdS_spec {y:Ty}{vs rest:List V}{x:y.T}{us:List Value}(hr:y.row=false)(h:y.rdS vs=some (x,rest))(hc:Cs X w σ (V.ds vs) us): ∃ us1 us2,us=us1++us2/\Cs X w nowhere (y.cells x) us1/\Cs X w σ (V.ds rest) us2:=by
 cases vs with
 |nil=>simp only [Ty.rdS] at h;cases h
 |cons v vs=>
  simp only [Ty.rdS] at h
  split at h
  ·rename_i x' h1
   simp only [Option.some.injEq,Prod.mk.injEq] at h
   obtain ⟨rfl,rfl⟩:=h
   simp only [V.ds,Cs] at hc
   obtain ⟨u,us',rfl,q1,q2⟩:=hc
   refine ⟨[u],us',rfl, ?_,q2⟩
   rw [y.d_one _ hr]
   exact Cs.mk1 (Ty.rd1_spec h1 q1)
  ·cases h
theorem Ty.rd_spec: ∀ {y:Ty} {vs rest:List V} {x:y.T} {us:List Value},y.rd vs=some (x,rest)->Cs X w σ (V.ds vs) us→ ∃ us1 us2,us=us1++us2/\Cs X w nowhere (y.cells x) us1/\Cs X w σ (V.ds rest) us2
 |.nil,vs,rest,x,us,h,hc=>by
  simp only [Ty.rd,Option.some.injEq,Prod.mk.injEq] at h
  obtain ⟨_,rfl⟩:=h
  exact ⟨[],us,rfl,by simp [Ty.cells,Cs],hc⟩
 |.pr f r,vs,rest,x,us,h,hc=>by
  simp only [Ty.rd] at h
  split at h
  ·rename_i x1 vs1 h1
   split at h
   ·rename_i z1 vs2 h2
    simp only [Option.some.injEq,Prod.mk.injEq] at h
    obtain ⟨rfl,rfl⟩:=h
    obtain ⟨us1,us2,rfl,q1,q2⟩:=Ty.rd_spec h1 hc
    obtain ⟨us3,us4,rfl,q3,q4⟩:=Ty.rd_spec h2 q2
    exact ⟨us1++us3,us4,by simp,by simp only [Ty.cells];exact q1.app q3,q4⟩
   ·cases h
  ·cases h
 |.int k,vs,rest,x,us,h,hc=>Ty.rdS_spec rfl h hc
 |.bool,vs,rest,x,us,h,hc=>Ty.rdS_spec rfl h hc
 |.str,vs,rest,x,us,h,hc=>Ty.rdS_spec rfl h hc
 |.sl e,vs,rest,x,us,h,hc=>Ty.rdS_spec rfl h hc
 |.rv,vs,rest,x,us,h,hc=>Ty.rdS_spec rfl h hc
 |.rb,vs,rest,x,us,h,hc=>Ty.rdS_spec rfl h hc
 |.ov,vs,rest,x,us,h,hc=>Ty.rdS_spec rfl h hc
theorem Ty.rds_spec {y:Ty}: ∀ {n:Nat} {vs:List V} {l:List y.T} {us:List Value},y.rds n vs=some l->Cs X w σ (V.ds vs) us->Cs X w nowhere (l.flatMap y.cells) us/\l.length=n
 |0,[],l,us,h,hc=>by
  simp only [Ty.rds,Option.some.injEq] at h
  subst h
  simp only [V.ds,Cs] at hc
  subst hc
  exact ⟨by simp [Cs],rfl⟩
 |0,_::_,l,us,h,hc=>by simp only [Ty.rds] at h;cases h
 |n+1,vs,l,us,h,hc=>by
  simp only [Ty.rds] at h
  split at h
  ·rename_i x vs1 h1
   split at h
   ·rename_i l1 h2
    simp only [Option.some.injEq] at h
    subst h
    obtain ⟨us1,us2,rfl,q1,q2⟩:=Ty.rd_spec h1 hc
    obtain ⟨q3,q4⟩:=Ty.rds_spec h2 q2
    exact ⟨by rw [List.flatMap_cons];exact q1.app q3,by simp [q4]⟩
   ·cases h
  ·cases h
theorem Ty.full_spec {y:Ty}{vs:List V}{x:y.T}{us:List Value}(h:y.full vs=some x)(hc:Cs X w σ (V.ds vs) us):Cs X w nowhere (y.cells x) us:=by
 unfold Ty.full at h
 split at h
 ·rename_i x' h1
  simp only [Option.some.injEq] at h
  subst h
  obtain ⟨us1,us2,rfl,q1,q2⟩:=Ty.rd_spec h1 hc
  simp only [V.ds,Cs] at q2
  subst q2
  simpa using q1
 ·cases h
theorem V.as_spec {y:Ty}{v:V}{x:y.T}{u:Value}(h:v.as y=some x)(hc:C X w σ v.d u):C X w nowhere (y.d x) u:=by
 unfold V.as at h
 split at h
 ·rename_i y' z
  split at h
  ·rename_i hy
   subst hy
   simp only [Option.some.injEq] at h
   subst h
   exact Ty.up hc
  ·split at h
   ·rename_i hr
    simp only [Bool.and_eq_true] at hr
    simp only [V.d,Ty.d_row _ _ hr.1,C] at hc
    obtain ⟨us,rfl,q⟩:=hc
    rw [←Ty.vs_ds] at q
    simp only [Ty.d_row _ _ hr.2,C]
    exact ⟨us,rfl,Ty.full_spec h q⟩
   ·exact Ty.fold_spec h hc
 ·split at h
  ·rename_i hr
   simp only [V.d,C] at hc
   obtain ⟨us,rfl,q⟩:=hc
   simp only [Ty.d_row _ _ hr,C]
   exact ⟨us,rfl,Ty.full_spec h q⟩
  ·cases h
 ·split at h
  ·cases h
  ·exact Ty.rd1_spec h hc
theorem setFrom_app {α:Type}: ∀ (s a b:List α) (o:Nat),o+s.length<=a.length->setFrom (a++b) o s=setFrom a o s++b
 | [],a,b,o,_=>rfl
 |v::s,a,b,o,h=>by
  simp only [List.length_cons] at h
  rw [setFrom,setFrom,List.set_append_left _ _ (by omega),setFrom_app s _ b (o+1) (by simp;omega)]
theorem setFrom_app_right {α:Type}: ∀ (s a b:List α) (o:Nat),a.length<=o->setFrom (a++b) o s=a++setFrom b (o-a.length) s
 | [],a,b,o,_=>rfl
 |v::s,a,b,o,h=>by
  rw [setFrom,setFrom,List.set_append_right _ _ h,setFrom_app_right s a _ (o+1) (by omega)]
  congr 2
  omega
theorem setFrom_all {α:Type}(s a:List α)(h:s.length=a.length):setFrom a 0 s=s:=by
 have key: ∀ (s p a:List α),s.length=a.length->setFrom (p++a) p.length s=p++s:=by
  intro s
  induction s with
  |nil=>intro p a h;rw [List.eq_nil_of_length_eq_zero h.symm];rfl
  |cons v s ih=>
   intro p a h
   cases a with
   |nil=>simp at h
   |cons b a=>
    rw [setFrom]
    have h1:(p++b::a).set p.length v=(p++[v])++a:=by simp
    have h2:=ih (p++[v]) a (by simpa using h)
    rw [h1]
    simpa using h2
 simpa using key s [] a h
theorem Ty.cs_cells {y:Ty}{x:y.T}{u:Value}(h:C X w σ (y.d x) u):Cs X w nowhere (y.cells x) u.cells.toList:=by
 have:=(C.cells (Ty.up h) (V.cellable_d (.t y x) rfl)).1
 rwa [y.d_cells] at this
theorem Ty.put_spec: ∀ {y:Ty} {x z:y.T} {o:Nat} {v:V} {u:Value} {vs:List Value},y.put x o v=some z->C X w σ v.d u->Cs X w nowhere (y.cells x) vs→
  Cs X w nowhere (y.cells z) (setFrom vs o u.cells.toList)/\o+u.cells.toList.length<=y.sz
 |.pr f r,x,z,o,v,u,vs,h,hc,hv=>by
  simp only [Ty.put] at h
  simp only [Ty.cells] at hv
  obtain ⟨vs1,vs2,rfl,k1,k2⟩:=hv.split
  have l1:=k1.len
  rw [f.cells_len] at l1
  split at h
  ·rename_i hlt
   split at h
   ·rename_i z1 hz
    simp only [Option.some.injEq] at h
    subst h
    split at hz
    ·rename_i h0
     subst h0
     have q:=V.as_spec hz hc
     have q1:=Ty.cs_cells q
     have l2:=q1.len
     rw [f.cells_len] at l2
     refine ⟨?_,by simp only [Ty.sz];omega⟩
     rw [setFrom_app _ _ _ _ (by omega),setFrom_all _ _ (by omega)]
     simp only [Ty.cells]
     exact q1.app k2
    ·cases hz
   ·split at h
    ·rename_i z1 hz
     simp only [Option.some.injEq] at h
     subst h
     obtain ⟨q1,q2⟩:=Ty.put_spec hz hc k1
     refine ⟨?_,by simp only [Ty.sz];omega⟩
     rw [setFrom_app _ _ _ _ (by omega)]
     simp only [Ty.cells]
     exact q1.app k2
    ·cases h
  ·rename_i hge
   split at h
   ·rename_i z1 hz
    simp only [Option.some.injEq] at h
    subst h
    obtain ⟨q1,q2⟩:=Ty.put_spec hz hc k2
    refine ⟨?_,by simp only [Ty.sz];omega⟩
    rw [setFrom_app_right _ _ _ _ (by omega),l1]
    simp only [Ty.cells]
    exact k1.app q1
   ·cases h
 |.nil,_,_,_,_,_,_,h,_,_=>by simp only [Ty.put] at h;cases h
 |.int _,_,_,_,_,_,_,h,_,_=>by simp only [Ty.put] at h;cases h
 |.bool,_,_,_,_,_,_,h,_,_=>by simp only [Ty.put] at h;cases h
 |.str,_,_,_,_,_,_,h,_,_=>by simp only [Ty.put] at h;cases h
 |.sl _,_,_,_,_,_,_,h,_,_=>by simp only [Ty.put] at h;cases h
 |.rv,_,_,_,_,_,_,h,_,_=>by simp only [Ty.put] at h;cases h
 |.rb,_,_,_,_,_,_,h,_,_=>by simp only [Ty.put] at h;cases h
 |.ov,_,_,_,_,_,_,h,_,_=>by simp only [Ty.put] at h;cases h
theorem ds_setFrom: ∀ (zs cells:List V) (off:Nat),V.ds (setFrom cells off zs)=setFrom (V.ds cells) off (V.ds zs):=by
 intro zs
 induction zs with
 |nil=>intro cells off;rfl
 |cons z zs ih=>intro cells off;simp only [setFrom,V.ds,ih];congr 1;simp [V.ds_eq,List.map_set]
theorem V.put_spec {c c' v:V}{o n:Nat}{u:Value}{vs:List Value}(h:c.put o n v=some c')(hc:C X w σ v.d u)(hv:Cs X w σ c.d.cells vs):
  Cs X w σ c'.d.cells (setFrom vs o u.cells.toList)/\o+n<=vs.length/\u.cells.toList.length=n/\(∀ x∈u.cells.toList,x.oneCell'=true):=by
 unfold V.put at h
 split at h
 ·rename_i hcond
  simp only [Bool.and_eq_true,beq_iff_eq,decide_eq_true_eq] at hcond
  obtain ⟨p1,p2,p3⟩:=hcond
  have hcd:=V.cellable_d v p1
  obtain ⟨e1,e2⟩:=hc.cells hcd
  have e3:=e1.len
  have e4:v.d.cells.length=n:=by rw [←V.cells_ds,V.ds_eq,List.length_map,p2]
  have e5:=hv.len
  have e6:c.d.cells.length=c.cells.length:=by rw [←V.cells_ds,V.ds_eq,List.length_map]
  refine ⟨?_,by omega,by omega,e2⟩
  split at h
  ·rename_i hw
   simp only [Bool.and_eq_true,beq_iff_eq] at hw
   simp only [Option.some.injEq] at h
   subst h
   rw [hw.1,setFrom_all _ _ (by omega)]
   exact e1
  ·split at h
   ·rename_i y x
    split at h
    ·rename_i z hz
     simp only [Option.some.injEq] at h
     subst h
     simp only [V.d,Ty.d_cells] at hv ⊢
     exact Ty.cs_up (Ty.put_spec hz hc (Ty.cs_up hv)).1
    ·simp only [Option.some.injEq] at h
     subst h
     simp only [V.d,Ty.d_cells] at hv
     simp only [V.d,D.cells,ds_setFrom,V.cells_ds,Ty.vs_ds]
     exact Cs.setFrom_ o e1 hv
   ·simp only [Option.some.injEq] at h
    subst h
    simp only [V.d,D.cells,ds_setFrom,V.cells_ds]
    exact Cs.setFrom_ o e1 hv
 ·cases h
end
end Go.Proofs.YtmokmalepelinaaGreatDoor.K
/-
 The state of a run:own variables and slices;how they are made.
-/
namespace Go.Proofs.YtmokmalepelinaaGreatDoor.K
open Go.RowKit
structure Base where
 X0:Nat->Nat->Prop
 w0:World
 lent:List Nat
 pl:Pl
 z:List (Nat×Obj)
 X1:Nat->Nat->Prop
 w1:World
structure Fr (lent:List Nat) (a w:World):Prop where
 os:w.os=a.os
 tape:w.tape=a.tape
 output:w.output=a.output
 size:a.heap.size<=w.heap.size
 keep: ∀ b,b<a.heap.size->b ∉ lent->w.heap[b]? = a.heap[b]?
theorem Fr.refl (l:List Nat)(w:World):Fr l w w:=⟨rfl,rfl,rfl,Nat.le_refl _,fun _ _ _=>rfl⟩
theorem Fr.step {l m:List Nat}{a w w':World}(h:Fr l a w)(k:Fr m w w')(hm: ∀ b∈m,b∈l∨a.heap.size<=b):Fr l a w':=
 ⟨k.os.trans h.os,k.tape.trans h.tape,k.output.trans h.output,Nat.le_trans h.size k.size,fun b hb hl=>(k.keep b (Nat.lt_of_lt_of_le hb h.size) (fun hbm=>by
  rcases hm b hbm with h1|h1
  ·exact hl h1
  ·omega)).trans (h.keep b hb hl)⟩
theorem Fr.drew (l:List Nat)(w:World):Fr l w w.drew:=⟨rfl,rfl,rfl,Nat.le_refl _,fun _ _ _=>rfl⟩
theorem setCells_heap (b:Nat): ∀ (vs:List Value) (o:Nat) (w:World) (c:Nat),c≠b->(w.setCells b o vs).heap[c]? = w.heap[c]?
 | [],_,_,_,_=>rfl
 |v::r,o,w,c,h=>by
  rw [World.setCells,setCells_heap b r (o+1) _ c h,Below.heap_setCell _ _ _ _ h]
theorem setCells_size (b:Nat): ∀ (vs:List Value) (o:Nat) (w:World),(w.setCells b o vs).heap.size=w.heap.size
 | [],_,_=>rfl
 |v::r,o,w=>by rw [World.setCells,setCells_size b r];simp [World.setCell]
theorem setCells_fr (b:Nat): ∀ (vs:List Value) (o:Nat) (w:World),Fr [b] w (w.setCells b o vs)
 | [],_,w=>Fr.refl _ w
 |v::r,o,w=>by
  have h1:Fr [b] w (w.setCell ⟨b,o,none⟩ v):=⟨rfl,rfl,rfl,by simp [World.setCell],fun c hc hn=>Below.heap_setCell _ _ _ _ (by simpa using hn)⟩
  exact h1.step (setCells_fr b r (o+1) _) (fun c hc=> .inl hc)
theorem setCells_at (b:Nat)(t:TypeId)(fr:Nat×Nat): ∀ (vs:List Value) (o:Nat) (w:World) (cs:List Value),w.heap[b]? = some (.cells cs.toArray t fr)->(w.setCells b o vs).heap[b]? = some (.cells (setFrom cs o vs).toArray t fr)
 | [],_,_,_,h=>h
 |v::r,o,w,cs,h=>by
  rw [World.setCells,setFrom]
  refine setCells_at b t fr r (o+1) _ (cs.set o v) ?_
  simp [World.setCell,Array.getElem?_modify,h]
theorem run_storeVar_any {P:Program}(w:World)(b o:Nat)(ty:TypeId)(v:Value)(ht:w.there b o v.cells.toList.length)(hi:(P.info? ty).map (·.size)=some v.cells.toList.length)(h1: ∀ x∈v.cells.toList,x.oneCell'=true):
  (storeVar ty ⟨b,o,none⟩ v).run P w= .ok () (w.setCells b o v.cells.toList):=by
 have:=run_storeCells_cells (P:=P) b o v.cells.toList 0 w (fun j hj=>by simpa using (ht j hj).1) (fun j hj=>by simpa using (ht j hj).2) h1
 cases hq:P.info? ty with
 |none=>simp [hq] at hi
 |some i=>
  have hs:v.cells.size=i.size:=by simp [hq] at hi;omega
  simp only [Nat.add_zero] at this
  simp [storeVar,sizeOf,typeInfo,hq,hs,this]
theorem run_append_m {P:Program}(w:World)(t t2 ty e:TypeId)(i:TypeInfo)(z:Value)(size bytes:Nat)(ht:P.underlying t=some (.slice e))(ht2:(∃ e2,P.underlying t2=some (.slice e2))∨P.underlying t2=some .string)(hi:P.info? e=some i)(hz:i.zero=some z)
  (hsize:i.size=size) (hby:i.bytes=bytes) (hzs:z.cells.size=size) (hsz:0<size)
  (v:Value) (n e':Nat) (xs:List Value) (he:e'=e∨e'=e+1000000) (hown:OwnM w e' size v n xs)
  (src:Value) (m:Nat) (news:List Value) (hl:news.length=m*size) (hlen: ∀ w':World,(Builtin.lenOf src).run P w'= .ok m w') (hfc: ∀ w':World,w'.heap=w.heap->(Builtin.firstCells size m src).run P w'= .ok news.toArray w') (h1: ∀ u∈news,u.oneCell'=true)
  (h63:n+m<=maxLen) (hbytes:(n+m)*bytes<=140737488355328):
  ∃ v' w' row,(Builtin.append_ #[t,t2] ty #[v,src]).run P w= .ok v' w'/\OwnM w' e' size v' (n+m) (xs++news)/\w.grownBy w' row∧
   ((row=none/\(v'=v∨v'.ownBlock=some w.heap.size))∨(row=v.ownBlock/\v'.ownBlock=v.ownBlock)):=by
 have hsmall:n+m<=9223372036854775807:=by simp only [maxLen] at h63;omega
 subst hsize
 subst hby
 have hxl:=hown.1
 have hlen2:(xs++news).length=(n+m)*i.size:=by rw [List.length_append,hxl,hl,Nat.add_mul]
 have hd:w.drew.heap=w.heap:=rfl
 have hfd:=hfc w.drew hd
 have hf:=hfc w rfl
 have mkNew: ∀ cur:Array Value,Mk (w.drew.alloc (.cells cur e)) w.heap.size cur e':=by
  intro cur
  have hb:(w.drew.alloc (.cells cur e)).heap[w.heap.size]? = some (.cells cur e (0,0)):=heap_alloc_new w.drew _
  rcases he with rfl|rfl
  ·exact .inl hb
  ·exact .inr ⟨e,_,rfl,.inl rfl,hb⟩
 have grown: ∀ (old:Nat),old<n+m→
   OwnM (w.drew.alloc (.cells (xs.toArray++news.toArray++Builtin.zeroCells z.cells (grownCap w (n+m) old e-(n+m))) e)) e' i.size
    (.slice (some ⟨w.heap.size,0,none⟩) (n+m) (grownCap w (n+m) old e)) (n+m) (xs++news)∧
   w.grownBy (w.drew.alloc (.cells (xs.toArray++news.toArray++Builtin.zeroCells z.cells (grownCap w (n+m) old e-(n+m))) e)) none:=by
  intro old ho
  have hge:=grownCap_ge w (n+m) old e
  have hcm:grownCap w (n+m) old e<=maxLen:=grownCap_le_maxLen w (n+m) old e h63
  refine ⟨⟨hlen2,.inr ⟨w.heap.size,_,_,rfl,Nat.zero_le _,mkNew _,hge,hcm, ?_, ?_⟩⟩,⟨rfl,rfl,rfl,by simp,fun k hk _=>Below.heap_alloc w.drew _ k hk⟩⟩
  ·simp only [Array.size_append,List.size_toArray,size_zeroCells,hzs,hxl,hl, ← Nat.add_mul]
   congr 1
   omega
  ·simp only [Array.toList_append,List.append_assoc]
   rw [←List.append_assoc, ← hlen2]
   exact List.take_left
 have grow_run: ∀ (A:Option Addr) (cap:Nat),cap<n+m->(Builtin.firstCells i.size n (.slice A n cap)).run P w.drew= .ok xs.toArray w.drew→
   (Builtin.append_ #[t,t2] ty #[.slice A n cap,src]).run P w= .ok (.slice (some ⟨w.heap.size,0,none⟩) (n+m) (grownCap w (n+m) cap e)) (w.drew.alloc (.cells (xs.toArray++news.toArray++Builtin.zeroCells z.cells (grownCap w (n+m) cap e-(n+m))) e)):=by
  intro A cap hg hfo
  have hn: ¬ (n+m<=cap):=by omega
  have h48:=growslice_fits (need:=n+m) (old:=cap) (by omega) hbytes
  have h63': ¬ (9223372036854775807<((n:Int)+(m:Int))):=by omega
  have h48': ¬ (281474976710656<Builtin.nextslicecap (n+m) cap*i.bytes):=by omega
  rcases ht2 with ⟨e2,ht2⟩|ht2<;>simp [Builtin.append_,run_underlying ht,run_underlying ht2,sizeOf,typeInfo,zeroValue,hi,hz,hlen,hn,h63',h48',Question.forced,hfd,hfo,newRow,grownCap]<;>(congr 2;apply Array.ext';simp [List.append_assoc])
 rcases hown.2 with ⟨rfl,rfl⟩|⟨g,cap,cur,rfl,hbg,hmk,hnc,hcm,hcs,htake⟩
 ·have hx:xs=[]:=List.eq_nil_of_length_eq_zero (by simpa using hxl)
  subst hx
  by_cases hm:m=0
  ·subst hm
   have hn:news=[]:=List.eq_nil_of_length_eq_zero (by simpa using hl)
   subst hn
   refine ⟨.slice none 0 0,w,none, ?_,⟨by simp,.inl ⟨rfl,rfl⟩⟩,World.grownBy.refl w _,.inl ⟨rfl,.inl rfl⟩⟩
   rcases ht2 with ⟨e2,ht2⟩|ht2<;>simp [Builtin.append_,run_underlying ht,run_underlying ht2,sizeOf,typeInfo,hi,hlen,hf]
  ·have hr:=grow_run none 0 (by omega) (by simp [Builtin.firstCells])
   obtain ⟨q1,q2⟩:=grown 0 (by omega)
   exact ⟨_,_,none,hr,q1,q2,.inl ⟨rfl,.inr rfl⟩⟩
 ·by_cases hroom:n+m<=cap
  ·obtain ⟨bty,mk,hg,hfz,hmk2⟩:=hmk.two
   have hct:cur.toList.length=cur.size:=Array.length_toList
   have hbnd:n*i.size+news.length<=cur.size:=by rw [hl,hcs, ← Nat.add_mul];exact Nat.mul_le_mul_right _ hroom
   have hcur:w.heap[g]? = some (.cells cur.toList.toArray bty mk):=by simpa using hg
   have hst:=run_storeCells_cells (P:=P) g (n*i.size) news 0 w (fun j hj=>by
     rw [Nat.add_zero,cell_of_row w g (n*i.size+j) _ bty mk hg]
     have:n*i.size+j<cur.size:=by omega
     simp [this]) (fun j hj=>by
     have:=hfz (n*i.size+j) (by omega)
     simp only [Nat.add_zero,World.frozen?, hg]
     simp only [not_and,Nat.not_lt,Bool.and_eq_false_imp,decide_eq_true_eq,decide_eq_false_iff_not] at this ⊢
     exact this) h1
   rw [Nat.add_zero] at hst
   have hat:=setCells_at g bty mk news (n*i.size) w cur.toList hcur
   refine ⟨.slice (some ⟨g,0,none⟩) (n+m) cap,w.setCells g (n*i.size) news,some g, ?_,⟨hlen2,.inr ⟨g,cap,(setFrom cur.toList (n*i.size) news).toArray,rfl,Nat.zero_le _,hmk2 _ _ ?_ hat,hroom,hcm, ?_, ?_⟩⟩,⟨(setCells_fr g news _ w).os,(setCells_fr g news _ w).tape,(setCells_fr g news _ w).output,(setCells_fr g news _ w).size,fun k _ hk=>setCells_heap g news _ w k (fun e=>hk (by rw [e]))⟩,.inr ⟨rfl,rfl⟩⟩
   ·rcases ht2 with ⟨e2,ht2⟩|ht2<;>simp [Builtin.append_,run_underlying ht,run_underlying ht2,sizeOf,typeInfo,hi,hlen,hroom,hf,Addr.add_lit,hst]
   ·simp [setFrom_len]
   ·simp [setFrom_len,hcs]
   ·have hsp:cur.toList=xs++cur.toList.drop (n*i.size):=by rw [←htake,List.take_append_drop]
    have e0:xs.length=n*i.size:=hxl
    rw [hsp,setFrom_app_right _ _ _ _ (by omega),e0,Nat.sub_self]
    have hdl:news.length<=(cur.toList.drop (n*i.size)).length:=by rw [List.length_drop];omega
    have e1:setFrom (cur.toList.drop (n*i.size)) 0 news=news++(cur.toList.drop (n*i.size)).drop news.length:=by
     have:=setFrom_app news ((cur.toList.drop (n*i.size)).take news.length) ((cur.toList.drop (n*i.size)).drop news.length) 0 (by rw [List.length_take];omega)
     rw [List.take_append_drop] at this
     rw [this,setFrom_all _ _ (by rw [List.length_take];omega)]
    rw [e1, ← List.append_assoc, ← hlen2]
    exact List.take_left
  ·have holds: ∀ j u,xs[j]? = some u->w.cell? ((⟨g,0,none⟩:Addr).add j)=some u:=hown.cells (g:=g) rfl
   have hr:=grow_run (some ⟨g,0,none⟩) cap (by omega) (run_firstCells_some (P:=P) w.drew i.size n ⟨g,0,none⟩ n cap xs hxl (by simpa using holds))
   obtain ⟨q1,q2⟩:=grown cap (by omega)
   exact ⟨_,_,none,hr,q1,q2,.inl ⟨rfl,.inr rfl⟩⟩
inductive MO where
 |pu (ao:AO)
 |new (zs:List D)
 |box (x:AX)
 |ld (agg:Bool) (n:Nat) (x:AX)
 |st (n:Nat) (x y:AX)
 |bs (e sz len:Nat) (init:List D) (parts:List (Nat×Nat×AX))
 |app (e sz bytes:Nat) (x y:AX)
def isStrT (P:Program)(t:TypeId):Bool:=match P.underlying t with
 |some .string=>true
 |_=>false
theorem isStrT_is {P:Program}{t:TypeId}(h:isStrT P t=true):P.underlying t=some .string:=by
 unfold isStrT at h
 split at h
 ·rename_i e;exact e
 ·cases h
def trM (P:Program)(o:Op):Option MO:=
 match o with
 |.alloc t=>match (P.info? t).bind (·.zero) with
  |some z=>(initD z).map .new
  |none=>none
 |.box _ x=>(trX x).map .box
 |.load t x=>match P.underlying t,P.info? t,trX x with
  |some d,some inf,some x=>some (.ld (isRow d) inf.size x)
  |_,_,_=>none
 |.store t x y=>match P.info? t,trX x,trX y with
  |some inf,some x,some y=>some (.st inf.size x y)
  |_,_,_=>none
 |.buildSlice t len parts=>match P.underlying t with
  |some (.slice e)=>match P.info? e with
   |some ie=>match ie.zero with
    |some z=>match trParts (fun i=>some (i*ie.size,ie.size)) parts.toList,initD (.agg ((Array.range (len*ie.size)).map (z.cells[· % z.cells.size]!))) with
     |some l,some i=>if len*ie.size<=16777216/\0<len*ie.size then some (.bs e ie.size len i l) else if len=0/\parts.toList.length=0 then some (.bs e ie.size 0 [] []) else none
     |_,_=>none
    |none=>none
   |none=>none
  |_=>none
 |.call c=>match c.callee,c.args.toList,c.argTypes.toList with
  |.builtin .append,[x,y],[t,t2]=>match P.underlying t,trX x,trX y with
   |some (.slice e),some x,some y=>match P.info? e with
    |some i=>match i.zero with
     |some z=>if (t=t2∨isStrT P t2=true)/\z.cells.size=i.size/\0<i.size then some (.app e i.size i.bytes x y) else none
     |none=>none
    |none=>none
   |_,_,_=>none
  |_,_,_=>(tr P (.call c)).map .pu
 |o=>(tr P o).map .pu
def SC.blk:SC->Option Nat
 |.no=>none
 |.box b=>some b
 |.arr u=>u.ownBlock
structure TI (B:Base) (X:Nat->Nat->Prop) (w:World) (σ:Pl) (st:Nat->VO):Prop where
 fin: ∀ b q,X b q->b<w.heap.size
 obj: ∀ k,OAt X w σ k (st k)
 apart: ∀ i j b,i≠j->st i≠ .no->st j≠ .no->(σ i).blk=some b->(σ j).blk≠some b
 own: ∀ k b,st k≠ .no->(σ k).blk=some b->b∈B.lent∨B.w0.heap.size<=b
 fr:Fr B.lent B.w0 w
 old: ∀ b q,b<B.w0.heap.size->(X b q->B.X0 b q)/\(b ∉ B.lent->B.X0 b q->X b q)
 lnt: ∀ k,lentK<=k->σ k=B.pl k
 zz: ∀ p∈B.z,w.heap[p.1]? = some p.2∧ ∀ o, ¬ X p.1 o
 zn:(B.z.map Prod.fst).Nodup∧ ∀ p∈B.z,B.w0.heap.size<=p.1
 ex:Ext1 B.X1 B.w1 X w
structure At (B:Base) (X:Nat->Nat->Prop) (w:World) (σ:Pl) (n:Nat) (S:VS) (us:List Value):Prop where
 ti:TI B X w σ S.st
 rel:Rel X w σ n S.ts us
 dom: ∀ j,S.st j≠ .no->j∈S.dom
section
variable {B:Base}{X X':Nat->Nat->Prop}{w w':World}{σ σ':Pl}{st:Nat->VO}{n:Nat}{S:VS}{us:List Value}
theorem refss_app (a b:List D):D.refss (a++b)=D.refss a++D.refss b:=by
 induction a with
 |nil=>rfl
 |cons d a ih=>simp only [List.cons_append,D.refss,ih,List.append_assoc]
theorem Ty.refs_flat (y:Ty)(l:List y.T):D.refss (l.flatMap y.cells)=[]:=by
 induction l with
 |nil=>rfl
 |cons x l ih=>rw [List.flatMap_cons,refss_app,y.refs_cells,ih];rfl
theorem V.refs_dcells (v:V):D.refss v.d.cells=v.refs:=by
 rw [←V.cells_ds,V.refss_d]
 cases v with
 |t y x=>
  have:=y.refs_cells x
  rw [←Ty.vs_ds,V.refss_d] at this
  simpa only [V.cells,V.refs] using this
 |ag vs=>rfl
 |_=>simp [V.cells,V.refss,V.refs]
theorem OAt.lt {k b:Nat}{o:VO}(h:OAt X w σ k o)(hn:o≠ .no)(hb:(σ k).blk=some b):b<w.heap.size:=by
 cases o with
 |no=>exact absurd rfl hn
 |box v=>
  obtain ⟨b',ty,vs,h1,h2,_⟩:=h
  rw [h1] at hb
  injection hb with hb
  subst hb
  exact (Array.getElem?_eq_some_iff.1 h2).1
 |arr e y l=>
  obtain ⟨u,xs,h1,h2,_⟩:=h
  rw [h1] at hb
  exact (h2.lt b hb).2
theorem OAt.ext0 {k:Nat}{o:VO}(h:OAt X w σ k o)(e:Ext0 X w X' w')(hk:σ' k=σ k)(hr: ∀ r∈o.refs,σ' r=σ r)(hb: ∀ b,(σ k).blk=some b->w'.heap[b]? = w.heap[b]? ∧ ∀ q,X b q->X' b q):OAt X' w' σ' k o:=by
 cases o with
 |no=>trivial
 |box v=>
  obtain ⟨b,ty,vs,h1,h2,h3,h4⟩:=h
  obtain ⟨q1,q2⟩:=hb b (by rw [h1];rfl)
  exact ⟨b,ty,vs,hk.trans h1,q1.trans h2,Cs.ext0 e _ _ (fun r hr'=>hr r (by rw [V.refs_dcells] at hr';exact hr')) h3,fun o=>q2 o (h4 o)⟩
 |arr e' y l=>
  obtain ⟨u,xs,h1,h2,h3,h4,h5⟩:=h
  refine ⟨u,xs,hk.trans h1,⟨h2.1, ?_⟩,Cs.ext0 e _ _ (fun r hr'=>by simp [y.refs_flat] at hr') h3,h4,fun b hb' o=>(hb b (by rw [h1];exact hb')).2 o (h5 b hb' o)⟩
  rcases h2.2 with hn|⟨g,cap,cur,rfl,hb0,hg,rest⟩
  ·exact .inl hn
  ·exact .inr ⟨g,cap,cur,rfl,hb0,hg.ext (hb g (by rw [h1];rfl)).1,rest⟩
theorem OAt.ext {k:Nat}{o:VO}(h:OAt X w σ k o)(e:Ext X w X' w')(hk:σ' k=σ k)(hr: ∀ r∈o.refs,σ' r=σ r)(hb: ∀ b,(σ k).blk=some b->w'.heap[b]? = w.heap[b]? ∧ ∀ q,X b q->X' b q):OAt X' w' σ' k o:=h.ext0 e.weak hk hr hb
theorem upd_self {α:Type}(f:Nat->α)(k:Nat)(x:α):upd f k x k=x:=if_pos rfl
theorem upd_ne {α:Type}(f:Nat->α){k j:Nat}(x:α)(h:j≠k):upd f k x j=f j:=if_neg h
theorem zz_ext {z:List (Nat×Obj)}(h: ∀ p∈z,w.heap[p.1]? = some p.2∧ ∀ o, ¬ X p.1 o)(e:Ext X w X' w'): ∀ p∈z,w'.heap[p.1]? = some p.2∧ ∀ o, ¬ X' p.1 o:=fun p hp=>by
 obtain ⟨h1,h2⟩:=h p hp
 have hb:=(Array.getElem?_eq_some_iff.1 h1).1
 exact ⟨(e.blk p.1 hb h2).trans h1,fun o=>(e.keep p.1 o hb (h2 o)).1⟩
theorem TI.step (h:TI B X w σ st){k:Nat}{o:VO}{s:SC}(e:Ext X w X' w')(hs:s=σ k∨(k<lentK∧ ∀ j,j≠k->k ∉ (st j).refs))
  (hblk: ∀ j b,j≠k->st j≠ .no->(σ j).blk=some b->w'.heap[b]? = w.heap[b]? ∧ ∀ q,X b q->X' b q)
  (hat:OAt X' w' (upd σ k s) k o)
  (hnew: ∀ b,o≠ .no->s.blk=some b->(b∈B.lent∨B.w0.heap.size<=b)∧ ∀ j,j≠k->st j≠ .no->(σ j).blk≠some b)
  (hfin: ∀ b q,X' b q->b<w'.heap.size) (hfr:Fr B.lent B.w0 w') (hold: ∀ b q,b<B.w0.heap.size->(X' b q->B.X0 b q)/\(b ∉ B.lent->B.X0 b q->X' b q)):TI B X' w' (upd σ k s) (upd st k o):=by
 refine ⟨hfin,fun j=> ?_,fun i j b hij hi hj hb=> ?_,fun j b hj hb=> ?_,hfr,hold,fun j hj=> ?_,zz_ext h.zz e,h.zn,h.ex.trans e.weak⟩
 ·by_cases hjk:j=k
  ·subst hjk
   rw [upd_self]
   exact hat
  ·rw [upd_ne _ _ hjk]
   by_cases hn:st j= .no
   ·rw [hn];trivial
   ·refine (h.obj j).ext e (upd_ne _ _ hjk) (fun r hr=> ?_) (fun b hb=>hblk j b hjk hn hb)
    by_cases hrk:r=k
    ·subst hrk
     rcases hs with hs|hs
     ·rw [upd_self,hs]
     ·exact absurd hr (hs.2 j hjk)
    ·exact upd_ne _ _ hrk
 ·by_cases hik:i=k
  ·subst hik
   rw [upd_self] at hi hb
   rw [upd_ne _ _ (Ne.symm hij)] at hj ⊢
   exact (hnew b hi hb).2 j (Ne.symm hij) hj
  ·rw [upd_ne _ _ hik] at hi hb
   by_cases hjk:j=k
   ·subst hjk
    rw [upd_self] at hj ⊢
    intro hb'
    exact (hnew b hj hb').2 i hik hi hb
   ·rw [upd_ne _ _ hjk] at hj ⊢
    exact h.apart i j b hij hi hj hb
 ·by_cases hjk:j=k
  ·subst hjk
   rw [upd_self] at hj hb
   exact (hnew b hj hb).1
  ·rw [upd_ne _ _ hjk] at hj hb
   exact h.own j b hj hb
 ·by_cases hjk:j=k
  ·subst hjk
   rcases hs with hs|hs
   ·rw [upd_self,hs];exact h.lnt j hj
   ·omega
  ·rw [upd_ne _ _ hjk];exact h.lnt j hj
theorem Rel.step0 {e e':Env}(h:Rel X w σ n e us)(ex:Ext0 X w X' w')(he: ∀ i,(e' i=e i∧ ∀ r∈(e i).refs,σ' r=σ r)∨e' i= .un):Rel X' w' σ' n e' us:=by
 refine ⟨h.len,fun i u hu=> ?_,fun i hi=> ?_⟩
 ·rcases he i with ⟨h1,h2⟩|h1
  ·rw [h1]
   exact C.ext0 ex _ _ (fun r hr=>h2 r (by rw [V.refs_d] at hr;exact hr)) (h.at_ i u hu)
  ·rw [h1]
   exact C.any_ u
 ·rcases he i with ⟨h1,_⟩|h1
  ·rw [h1];exact h.out i hi
  ·exact h1
theorem mask_is (k:Nat)(v:V):(v.mask k=v/\k ∉ v.refs)∨v.mask k= .un:=by
 unfold V.mask
 split
 ·exact .inr rfl
 ·rename_i hc
  exact .inl ⟨rfl,fun hm=>hc (by simpa using hm)⟩
theorem Rel.step {e e':Env}(h:Rel X w σ n e us)(ex:Ext X w X' w')(he: ∀ i,(e' i=e i∧ ∀ r∈(e i).refs,σ' r=σ r)∨e' i= .un):Rel X' w' σ' n e' us:=h.step0 ex.weak he
theorem Rel.mask (h:Rel X w σ n S.ts us)(ex:Ext X w X' w')(k:Nat)(s:SC):Rel X' w' (upd σ k s) n (fun i=>(S.ts i).mask k) us:=
 h.step ex fun i=>(mask_is k (S.ts i)).imp (fun q=>⟨q.1,fun r hr=>upd_ne _ _ (fun hrk=>q.2 (hrk▸hr))⟩) id
theorem free_spec {k:Nat}(hd: ∀ j,S.st j≠ .no->j∈S.dom)(h:S.free k=true)(j:Nat):k ∉ (S.st j).refs:=by
 unfold VS.free at h
 simp only [Bool.and_eq_true] at h
 by_cases hn:S.st j= .no
 ·rw [hn];simp [VO.refs]
 ·have:=List.all_eq_true.1 h.2 j (hd j hn)
  simpa using this
theorem free_lt {k:Nat}(h:S.free k=true):k<lentK:=by
 unfold VS.free at h
 simp only [Bool.and_eq_true,decide_eq_true_eq] at h
 exact h.1
theorem At.alloc (h:At B X w σ n S us){k:Nat}(hf:S.free k=true){o:VO}{s:SC}{ob:Obj}(hs:s.blk=some w.heap.size)
  (hat:OAt (fun b q=>X b q∨b=w.heap.size) (w.alloc ob) (upd σ k s) k o):At B (fun b q=>X b q∨b=w.heap.size) (w.alloc ob) (upd σ k s) n (S.alloc k o) us/\Ext X w (fun b q=>X b q∨b=w.heap.size) (w.alloc ob):=by
 have ex:Ext X w (fun b q=>X b q∨b=w.heap.size) (w.alloc ob):=⟨by simp,fun b q hb hx=>⟨fun hx'=>hx'.elim hx (by omega),World.cell?_of_block (w:=w) (a:=⟨b,q,none⟩) (Below.heap_alloc w _ b hb)⟩,fun b hb _=>Below.heap_alloc w _ b hb⟩
 have hlt: ∀ j b,S.st j≠ .no->(σ j).blk=some b->b<w.heap.size:=fun j b hj hb=>(h.ti.obj j).lt hj hb
 refine ⟨⟨h.ti.step ex (.inr ⟨free_lt hf,fun j _=>free_spec h.dom hf j⟩) (fun j b _ hj hb=>⟨Below.heap_alloc w _ b (hlt j b hj hb),fun q hq=> .inl hq⟩) hat ?_ ?_ ?_ ?_,h.rel.mask ex k s,fun j hj=> ?_⟩,ex⟩
 ·intro b _ hb
  rw [hs] at hb
  injection hb with hb
  subst hb
  exact ⟨.inr h.ti.fr.size,fun j _ hj hb'=>by have:=hlt j _ hj hb';omega⟩
 ·rintro b q (hb|rfl)
  ·have:=h.ti.fin b q hb;simp;omega
  ·simp
 ·exact h.ti.fr.step (m:=[]) ⟨rfl,rfl,rfl,by simp,fun b hb _=>Below.heap_alloc w _ b hb⟩ (by simp)
 ·intro b q hb
  have:=h.ti.fr.size
  exact ⟨fun hx=>hx.elim (fun hx=>(h.ti.old b q hb).1 hx) (by omega),fun hl hx=> .inl ((h.ti.old b q hb).2 hl hx)⟩
 ·simp only [VS.alloc] at hj ⊢
  by_cases hjk:j=k
  ·exact hjk▸List.mem_cons_self
  ·rw [upd_ne _ _ hjk] at hj
   exact List.mem_cons_of_mem _ (h.dom j hj)
end
end Go.Proofs.YtmokmalepelinaaGreatDoor.K
/-
 What the operations on own variables and slices make of a state,and that they do so.
-/
namespace Go.Proofs.YtmokmalepelinaaGreatDoor.K
open Go.RowKit
section
variable {β:Type}
def bytesL (s:ByteArray):List Int:=s.data.toList.map fun b=>(b.toNat:Int)
def wnL (y:Ty)(l:List y.T)(lo n:Nat):List y.T:=(l.drop lo).take n++List.replicate (if lo+n<=l.length then 0 else 140737488355329) y.zero
theorem wnL_eq {y:Ty}{l:List y.T}{lo n:Nat}(h:lo+n<=l.length):wnL y l lo n=(l.drop lo).take n:=by
 rw [wnL,if_pos h,List.replicate_zero,List.append_nil]
theorem wnL_ok {y:Ty}{l:List y.T}{lo n:Nat}(h:(wnL y l lo n).length<=140737488355328):lo+n<=l.length:=by
 rcases Nat.lt_or_ge l.length (lo+n) with h1|h1
 ·rw [wnL,if_neg (by omega),List.length_append,List.length_replicate] at h
  omega
 ·exact h1
def VS.src (S:VS)(y:Ty):V->Option (List y.T)
 |.t (.sl y') l=>if h:y'=y then some (h▸l) else none
 |.t .str s=>if h:Ty.int .u8=y then some (h▸bytesL s) else none
 |.c (.slice none 0 0)=>some []
 |.ms k=>match S.st k with
  |.arr _ y' l=>if h:y'=y then some (h▸l) else none
  |_=>none
 |.wn sz k lo n=>match S.st k with
  |.arr _ y' l=>if h:y'=y then (if (y'.sz==sz)=true then some (h▸wnL y' l lo n) else none) else none
  |_=>none
 |_=>none
def ldA (y:Ty)(l:List y.T)(i o n:Nat)(agg:Bool)(K:V->Option β):Option β:=
 br (decide (i<l.length)) (match y.sub true (l.getD i y.zero) o n agg with
  |some v=>nz v K
  |none=>none) none
def stA (e:Nat)(y:Ty)(l:List y.T)(i o n:Nat)(v:V)(K:VO->Option β):Option β:=
 br (decide (i<l.length)) (match (V.t y (l.getD i y.zero)).put o n v with
  |some z=>match z.as y with
   |some x=>K (.arr e y (l.set i x))
   |none=>none
  |none=>none) none
def bsA (own:Bool)(S:VS)(k e:Nat)(y:Ty)(l:List y.T)(K:VS->V->Option β):Option β:=
 if own=true then (if S.free k=true then K (S.alloc k (.arr e y l)) (.ms k) else none) else K S (.t (.sl y) l)
def V.dimc (k:Nat):V->V
 |.ag vs=> .ag (vs.map fun v=>if v.refs.contains k=true then .un else v)
 |v=>v
def VO.dim (k:Nat):VO->VO
 |.box v=> .box (v.dimc k)
 |o=>o
def VS.dim (S:VS)(k:Nat):VS:=⟨S.ts,fun i=>(S.st i).dim k,S.dom⟩
def appA (S:VS)(k e bytes:Nat)(y:Ty)(l l2:List y.T)(K:VS->V->Option β):Option β:=
 br (decide ((l.length+l2.length)*(bytes+1)<=140737488355328)) (if S.free k=true then K (S.alloc k (.arr e y (l++l2))) (.ms k) else none) none
def partMs (e:Env)(parts:List (Nat×Nat×AX)):List Nat:=parts.flatMap fun p=>(p.2.2.xv e).mss
def bvA (own:Bool)(S:VS)(k sz len:Nat)(init:List V)(parts:List (Nat×Nat×AX))(K:VS->V->Option β):Option β:=
 if (own&&(decide (sz=1)&&(partMs S.ts parts).isEmpty))=true then match fillV S.ts init parts with
  |some vs=>if ((vs.length==len&&decide (0<len))&&(!(V.refss vs).contains k&&decide (len<=140737488355328)))=true then (if S.free k=true then K (S.alloc k (.box (.ag vs))) (.bv k len) else none) else none
  |none=>none
 else none
def MO.run (TY:Nat->Option Ty)(own:Bool)(k:Nat)(S:VS)(K:VS->V->Option β):MO->Option β
 |.pu ao=>ao.run S (K S)
 |.new zs=>if (zs.all fun d=>(ofD d).one)=true then
   (if S.free k=true then K (S.alloc k (.box (.ag (zs.map ofD)))) (.ptr k 0) else none) else none
 |.box x=>if ((x.xv S.ts).good&&((x.xv S.ts).cellable&& !(x.xv S.ts).refs.contains k))=true then
   (if S.free k=true then K (S.alloc k (.box (x.xv S.ts))) (.ptr k 0) else none) else none
 |.ld agg n x=>match x.xv S.ts with
  |.ptr j o=>match S.st j with
   |.box c=>match c.sub true o n agg with
    |some v=>nz v (K S)
    |none=>none
   |_=>none
  |.el y z o=>match y.sub true z o n agg with
   |some v=>nz v (K S)
   |none=>none
  |.pa sz j i o=>match S.st j with
   |.arr _ y l=>if y.sz=sz then ldA y l i o n agg (K S) else none
   |_=>none
  |_=>none
 |.st n x y=>if (y.xv S.ts).good=true then match x.xv S.ts with
  |.ptr j o=>match S.st j with
   |.box c=>match c.put o n (y.xv S.ts) with
    |some c'=>K (S.setO j (.box c')) .un
    |none=>none
   |_=>none
  |.pa sz j i o=>match S.st j with
   |.arr e t l=>if t.sz=sz then stA e t l i o n (y.xv S.ts) (fun ob=>K (S.setO j ob) .un) else none
   |_=>none
  |_=>none
  else none
 |.bs e sz len init parts=>if (init.all fun d=>(ofD d).one)=true then match TY e with
  |some y=>if y.sz=sz then match fillV (S.fzs (partMs S.ts parts)).ts (init.map ofD) parts with
   |some vs=>match y.rds len vs with
    |some l=>if len<=140737488355328 then bsA own (S.fzs (partMs S.ts parts)) k e y l K else none
    |none=>none
   |none=>none
   else none
  |none=>bvA own S k sz len (init.map ofD) parts K
  else none
 |.app e sz bytes x y=>match x.xv S.ts with
  |.c (.slice none 0 0)=>match TY e with
   |some t=>if t.sz=sz then match S.src t (y.xv S.ts) with
    |some l2=>appA S k e bytes t [] l2 K
    |none=>none
    else none
   |none=>none
  |.ms j=>match S.st j with
   |.arr e' t l=>if ((e'==e||e'==e+1000000)&&t.sz==sz)=true then match S.src t (y.xv S.ts) with
    |some l2=>appA (S.dim j) j e' bytes t l l2 K
    |none=>none
    else none
   |_=>none
  |.wn _ j lo m=>match S.st j with
   |.arr e' t l=>if ((e'==e||e'==e+1000000)&&(t.sz==sz&&lo==0))=true then match S.src t (y.xv S.ts) with
    |some l2=>appA (S.dim j) j e' bytes t (wnL t l 0 m) l2 K
    |none=>none
    else none
   |_=>none
  |_=>none
end
section
variable {B:Base}{X X':Nat->Nat->Prop}{w w':World}{σ σ':Pl}{st:Nat->VO}{n:Nat}{S:VS}{us:List Value}{P:Program}
mutual
theorem fz_c {k:Nat}{y:Ty}{l:List y.T}{e:Nat}(hk:OAt X w σ k (.arr e y l))(ex:Ext X w X' w)(hX: ∀ u b,σ k= .arr u->u.ownBlock=some b→ ∀ q, ¬ X' b q): ∀ (v:V) (u:Value),C X w σ v.d u->C X' w σ (v.fz k y l).d u
 |.ms j,u,h=>by
  simp only [V.fz]
  split
  ·rename_i hj
   subst hj
   obtain ⟨u',xs,h1,h2,h3,h4,h5⟩:=hk
   simp only [V.d,C] at h
   rw [h1] at h
   obtain ⟨h,_⟩:=h
   injection h with h
   subst h
   simp only [V.d,Ty.d,C]
   rcases h2.2 with ⟨a6,a7⟩|⟨g,cap,cur,a6,_,a8,a9,a10,a11,a12⟩
   ·rw [a7]
    have:l=[]:=List.eq_nil_of_length_eq_zero a7
    exact ⟨none,0,a6,Nat.le_refl _,by simp [maxLen],fun _=>by rw [this];rfl,fun q=>absurd q (by simp)⟩
   ·refine ⟨_,cap,a6,a9,a10,fun h0=> ?_,fun _=>⟨g,0,xs,rfl,Cs.ext ex _ _ (fun r hr=>by simp [y.refs_flat] at hr) h3, ?_⟩⟩
    ·have:l=[]:=List.eq_nil_of_length_eq_zero h0
     rw [this];rfl
    ·have hg:(u').ownBlock=some g:=by rw [a6];rfl
     refine ⟨(h2.lt g hg).2,fun j hj=>hX u' g h1 hg _,fun j v hv=> ?_,h4⟩
     have:=h2.cells hg j v hv
     rwa [Addr.add_mid] at this
  ·rename_i hj
   exact C.ext ex _ _ (fun _ _=>rfl) h
 |.pa sz j i o,u,h=>by
  simp only [V.fz]
  split
  ·exact C.any_ u
  ·exact C.ext ex _ _ (fun _ _=>rfl) h
 |.wn sz j a m,u,h=>by
  simp only [V.fz]
  split
  ·exact C.any_ u
  ·exact C.ext ex _ _ (fun _ _=>rfl) h
 |.bv j n,u,h=>by
  simp only [V.fz]
  split
  ·exact C.any_ u
  ·exact C.ext ex _ _ (fun _ _=>rfl) h
 |.ptr j o,u,h=>by
  simp only [V.fz]
  split
  ·exact C.any_ u
  ·exact C.ext ex _ _ (fun _ _=>rfl) h
 |.ag vs,u,h=>by
  simp only [V.fz,V.d,C] at h ⊢
  obtain ⟨us,h1,h2⟩:=h
  exact ⟨us,h1,fz_cs hk ex hX vs us h2⟩
 |.tu vs,u,h=>by
  simp only [V.fz,V.d,C] at h ⊢
  obtain ⟨us,h1,h2⟩:=h
  exact ⟨us,h1,fz_cs hk ex hX vs us h2⟩
 |.fn f vs,u,h=>by
  simp only [V.fz,V.d,C] at h ⊢
  obtain ⟨us,h1,h2⟩:=h
  exact ⟨us,h1,fz_cs hk ex hX vs us h2⟩
 |.ifc m x,u,h=>by
  simp only [V.fz,V.d,C] at h ⊢
  obtain ⟨z,h1,h2⟩:=h
  exact ⟨z,h1,fz_c hk ex hX x z h2⟩
 |.t y' x,u,h=>C.ext ex _ _ (fun _ _=>rfl) h
 |.c x,u,h=>C.ext ex _ _ (fun _ _=>rfl) h
 |.el y' x o,u,h=>C.ext ex _ _ (fun _ _=>rfl) h
 |.ud,u,h=>C.ext ex _ _ (fun _ _=>rfl) h
 |.un,u,h=>C.ext ex _ _ (fun _ _=>rfl) h
theorem fz_cs {k:Nat}{y:Ty}{l:List y.T}{e:Nat}(hk:OAt X w σ k (.arr e y l))(ex:Ext X w X' w)(hX: ∀ u b,σ k= .arr u->u.ownBlock=some b→ ∀ q, ¬ X' b q): ∀ (vs:List V) (us:List Value),Cs X w σ (V.ds vs) us->Cs X' w σ (V.ds (V.fzs k y l vs)) us
 | [],us,h=>by simpa only [V.ds,V.fzs,Cs] using h
 |v::vs,us,h=>by
  simp only [V.ds,V.fzs,Cs] at h ⊢
  obtain ⟨u,us',rfl,h2,h3⟩:=h
  exact ⟨u,us',rfl,fz_c hk ex hX v u h2,fz_cs hk ex hX vs us' h3⟩
end
theorem fz_cells {k:Nat}{y:Ty}{l:List y.T}{e:Nat}(hk:OAt X w σ k (.arr e y l))(ex:Ext X w X' w)(hX: ∀ u b,σ k= .arr u->u.ownBlock=some b→ ∀ q, ¬ X' b q)(v:V){us:List Value}(h:Cs X w σ v.d.cells us):Cs X' w σ (v.fz k y l).d.cells us:=by
 cases v with
 |ag vs=>exact fz_cs hk ex hX vs us h
 |t y' x=>
  simp only [V.fz,V.d,Ty.d_cells] at h ⊢
  exact Cs.ext ex _ _ (fun _ _=>rfl) h
 |ms j=>
  simp only [V.d,D.cells] at h
  obtain ⟨u,rfl,h1⟩:=h.one
  have h2:=fz_c hk ex hX (.ms j) u h1
  simp only [V.fz] at h2 ⊢
  split
  ·rename_i hj
   rw [if_pos hj] at h2
   exact Cs.mk1 h2
  ·rename_i hj
   rw [if_neg hj] at h2
   exact Cs.mk1 h2
 |pa sz j i o=>
  simp only [V.d,D.cells] at h
  obtain ⟨u,rfl,h1⟩:=h.one
  have h2:=fz_c hk ex hX (.pa sz j i o) u h1
  simp only [V.fz] at h2 ⊢
  split
  ·rename_i hj
   rw [if_pos hj] at h2
   exact Cs.mk1 h2
  ·rename_i hj
   rw [if_neg hj] at h2
   exact Cs.mk1 h2
 |wn sz j a m=>
  simp only [V.d,D.cells] at h
  obtain ⟨u,rfl,h1⟩:=h.one
  have h2:=fz_c hk ex hX (.wn sz j a m) u h1
  simp only [V.fz] at h2 ⊢
  split
  ·rename_i hj
   rw [if_pos hj] at h2
   exact Cs.mk1 h2
  ·rename_i hj
   rw [if_neg hj] at h2
   exact Cs.mk1 h2
 |bv j n=>
  simp only [V.d,D.cells] at h
  obtain ⟨u,rfl,h1⟩:=h.one
  have h2:=fz_c hk ex hX (.bv j n) u h1
  simp only [V.fz] at h2 ⊢
  split
  ·rename_i hj
   rw [if_pos hj] at h2
   exact Cs.mk1 h2
  ·rename_i hj
   rw [if_neg hj] at h2
   exact Cs.mk1 h2
 |ptr j o=>
  simp only [V.d,D.cells] at h
  obtain ⟨u,rfl,h1⟩:=h.one
  have h2:=fz_c hk ex hX (.ptr j o) u h1
  simp only [V.fz] at h2 ⊢
  split
  ·rename_i hj
   rw [if_pos hj] at h2
   exact Cs.mk1 h2
  ·rename_i hj
   rw [if_neg hj] at h2
   exact Cs.mk1 h2
 |tu vs=>
  obtain ⟨u,rfl,h1⟩:=h.one
  exact Cs.mk1 (fz_c hk ex hX (.tu vs) u h1)
 |fn f vs=>
  obtain ⟨u,rfl,h1⟩:=h.one
  exact Cs.mk1 (fz_c hk ex hX (.fn f vs) u h1)
 |ifc m x=>
  obtain ⟨u,rfl,h1⟩:=h.one
  exact Cs.mk1 (fz_c hk ex hX (.ifc m x) u h1)
 |c x=>exact Cs.ext ex _ _ (fun _ _=>rfl) h
 |el y' x o=>exact Cs.ext ex _ _ (fun _ _=>rfl) h
 |ud=>exact Cs.ext ex _ _ (fun _ _=>rfl) h
 |un=>exact Cs.ext ex _ _ (fun _ _=>rfl) h
theorem At.fz (h:At B X w σ n S us)(k:Nat): ∃ X',At B X' w σ n (S.fz k) us/\Ext X w X' w:=by
 unfold VS.fz
 split
 ·rename_i e y l hst
  split
  ·rename_i hk
   have hat:=h.ti.obj k
   rw [hst] at hat
   let X':Nat->Nat->Prop:=fun b q=>X b q/\(σ k).blk≠some b
   have ex:Ext X w X' w:=⟨Nat.le_refl _,fun b q _ hx=>⟨fun hx'=>hx hx'.1,rfl⟩,fun _ _ _=>rfl⟩
   have hX: ∀ u b,σ k= .arr u->u.ownBlock=some b→ ∀ q, ¬ X' b q:=fun u b h1 h2 q hx=>hx.2 (by rw [h1];exact h2)
   refine ⟨X',⟨⟨fun b q hx=>h.ti.fin b q hx.1,fun j=> ?_, ?_, ?_,h.ti.fr, ?_,h.ti.lnt,zz_ext h.ti.zz ex,h.ti.zn,h.ti.ex.trans ex.weak⟩,⟨h.rel.len,fun i u hu=>fz_c hat ex hX _ u (h.rel.at_ i u hu),fun i hi=>by simp only [h.rel.out i hi,V.fz]⟩, ?_⟩,ex⟩
   ·by_cases hjk:j=k
    ·simp only [if_pos hjk];trivial
    ·simp only [if_neg hjk]
     have hj:=h.ti.obj j
     cases ho:S.st j with
     |no=>trivial
     |box v=>
      rw [ho] at hj
      obtain ⟨b,ty,vs,h1,h2,h3,h4⟩:=hj
      refine ⟨b,ty,vs,h1,h2,fz_cells hat ex hX v h3,fun q=>⟨h4 q,fun hb=> ?_⟩⟩
      exact h.ti.apart k j b (Ne.symm hjk) (by rw [hst];simp) (by rw [ho];simp) hb (by rw [h1];rfl)
     |arr e' y' l'=>
      rw [ho] at hj
      obtain ⟨u,xs,h1,h2,h3,h4,h5⟩:=hj
      refine ⟨u,xs,h1,h2,Cs.ext ex _ _ (fun _ _=>rfl) h3,h4,fun b hb q=>⟨h5 b hb q,fun hb'=> ?_⟩⟩
      exact h.ti.apart k j b (Ne.symm hjk) (by rw [hst];simp) (by rw [ho];simp) hb' (by rw [h1];exact hb)
   ·intro i j b hij hi hj hb
    simp only at hi hj
    split at hi
    ·exact absurd rfl hi
    ·split at hj
     ·exact absurd rfl hj
     ·have g: ∀ o:VO,o.fz k y l≠ .no->o≠ .no:=fun o ho hn=>ho (by rw [hn];rfl)
      exact h.ti.apart i j b hij (g _ hi) (g _ hj) hb
   ·intro j b hj hb
    simp only at hj
    split at hj
    ·exact absurd rfl hj
    ·have g: ∀ o:VO,o.fz k y l≠ .no->o≠ .no:=fun o ho hn=>ho (by rw [hn];rfl)
     exact h.ti.own j b (g _ hj) hb
   ·intro b q hb
    refine ⟨fun hx=>(h.ti.old b q hb).1 hx.1,fun hl hx=>⟨(h.ti.old b q hb).2 hl hx,fun hb'=> ?_⟩⟩
    rcases h.ti.own k b (by rw [hst];simp) hb' with h1|h1
    ·exact absurd h1 hl
    ·omega
   ·intro j hj
    simp only at hj
    split at hj
    ·exact absurd rfl hj
    ·have g: ∀ o:VO,o.fz k y l≠ .no->o≠ .no:=fun o ho hn=>ho (by rw [hn];rfl)
     exact h.dom j (g _ hj)
  ·exact ⟨X,h,Ext.refl X w⟩
 ·exact ⟨X,h,Ext.refl X w⟩
theorem At.fzs (h:At B X w σ n S us)(ks:List Nat): ∃ X',At B X' w σ n (S.fzs ks) us/\Ext X w X' w:=by
 induction ks generalizing X S with
 |nil=>exact ⟨X,h,Ext.refl X w⟩
 |cons k ks ih=>
  obtain ⟨X1,h1,e1⟩:=h.fz k
  obtain ⟨X2,h2,e2⟩:=ih h1
  exact ⟨X2,h2,e1.trans e2⟩
end
end Go.Proofs.YtmokmalepelinaaGreatDoor.K
/-
 The operations on own variables and slices do what the program's do.
-/
namespace Go.Proofs.YtmokmalepelinaaGreatDoor.K
open Go.RowKit
section
variable {B:Base}{X X':Nat->Nat->Prop}{w w':World}{σ σ':Pl}{st:Nat->VO}{n:Nat}{S:VS}{us:List Value}{P:Program}
theorem load_at {t:TypeId}{dd:TypeDesc}{inf:TypeInfo}(h1:P.underlying t=some dd)(hi:P.info? t=some inf){b off:Nat}{vs:List Value}{ds:List D}{d:D}(hc:Cs X w σ ds vs)(hr:w.rangeAt b off vs)
  (ha:isRow dd=true->d= .ag (ds.take inf.size)/\inf.size<=ds.length) (hs:isRow dd=false->ds[0]? = some d): ∃ u,(loadVar t ⟨b,off,none⟩).run P w= .ok u w/\C X w σ d u:=by
 have hl:=hc.len
 cases hrow:isRow dd with
 |true=>
  obtain ⟨rfl,h2⟩:=ha hrow
  refine ⟨.agg (vs.take inf.size).toArray,run_loadVar_mid (P:=P) w b off t (vs.take inf.size) dd (fun j v hv=>hr j v ?_) h1 (by cases dd<;>simp_all [isRow,TypeDesc.isRow]) (by simp [hi];omega), ?_⟩
  ·rw [List.getElem?_take] at hv
   split at hv
   ·exact hv
   ·cases hv
  ·simp only [C]
   exact ⟨_,rfl,hc.take_ _⟩
 |false=>
  obtain ⟨u,hu,hcu⟩:=hc.at_ (hs hrow)
  have h2:=hr 0 u hu
  exact ⟨u,by simp [loadVar,run_isAgg_of h1,hrow];simp at h2;simp [h2],hcu⟩
theorem At.row (h:At B X w σ n S us){ob:Obj}:At B X (w.alloc ob) σ n S us/\Ext X w X (w.alloc ob):=by
 have ex:Ext X w X (w.alloc ob):=⟨by simp,fun b q hb hx=>⟨hx,World.cell?_of_block (w:=w) (a:=⟨b,q,none⟩) (Below.heap_alloc w _ b hb)⟩,fun b hb _=>Below.heap_alloc w _ b hb⟩
 refine ⟨⟨⟨fun b q hb=>by have:=h.ti.fin b q hb;simp;omega,fun k=> ?_,h.ti.apart,h.ti.own,h.ti.fr.step (m:=[]) ⟨rfl,rfl,rfl,by simp,fun b hb _=>Below.heap_alloc w _ b hb⟩ (by simp),h.ti.old,h.ti.lnt,zz_ext h.ti.zz ex,h.ti.zn,h.ti.ex.trans ex.weak⟩,h.rel.step ex fun i=> .inl ⟨rfl,fun _ _=>rfl⟩,h.dom⟩,ex⟩
 by_cases hn:S.st k= .no
 ·rw [hn];trivial
 ·exact (h.ti.obj k).ext ex rfl (fun _ _=>rfl) fun b hb=>⟨Below.heap_alloc w _ b ((h.ti.obj k).lt hn hb),fun q hq=>hq⟩
theorem row_c {ds:List D}{vs:List Value}{e len sz:Nat}(hfin: ∀ b q,X b q->b<w.heap.size)(hc:Cs X w nowhere ds vs)(hl:ds.length=len*sz)(hn:len<=maxLen)(h1: ∀ v∈vs,v.oneCell'=true):
  C X (w.alloc (.cells vs.toArray e)) σ (.sl len ds) (.slice (some ⟨w.heap.size,0,none⟩) len len):=by
 have ex:Ext X w X (w.alloc (.cells vs.toArray e)):=⟨by simp,fun b q hb hx=>⟨hx,World.cell?_of_block (w:=w) (a:=⟨b,q,none⟩) (Below.heap_alloc w _ b hb)⟩,fun b hb _=>Below.heap_alloc w _ b hb⟩
 have hvl:=hc.len
 simp only [C]
 refine ⟨_,_,rfl,Nat.le_refl _,hn,fun h0=> ?_,fun h0=>⟨_,0,vs,rfl,Cs.ext ex _ _ (fun _ _=>rfl) hc,by simp,fun j hj hx=> ?_,fun j v hv=> ?_,h1⟩⟩
 ·rw [h0,Nat.zero_mul] at hl
  exact List.eq_nil_of_length_eq_zero hl
 ·have:=hfin _ _ hx;omega
 ·rw [cell_of_row _ _ _ vs.toArray e (0,0) (heap_alloc_new w _)]
  simpa using hv
theorem At.store (h:At B X w σ n S us){k b:Nat}{o':VO}{off:Nat}{ws:List Value}(hn:S.st k≠ .no)(hb:(σ k).blk=some b)(hX: ∀ q,X b q)
  (hat:Ext X w X (w.setCells b off ws)->OAt X (w.setCells b off ws) σ k o'):At B X (w.setCells b off ws) σ n (S.setO k o') us:=by
 have ex:Ext X w X (w.setCells b off ws):=⟨by rw [setCells_size];exact Nat.le_refl _,fun c q hc hx=>⟨hx,World.cell?_of_block (w:=w) (a:=⟨c,q,none⟩) (setCells_heap _ _ _ _ _ (fun he=>hx ((show c=b from he)▸hX q)))⟩,fun c hc hx=>setCells_heap _ _ _ _ _ (fun he=>hx 0 ((show c=b from he)▸hX 0))⟩
 have hs:upd σ k (σ k)=σ:=by
  funext j
  unfold upd
  split
  ·rename_i hj;rw [hj]
  ·rfl
 have ht:=h.ti.step (k:=k) (o:=o') (s:=σ k) ex (.inl rfl) (fun j c hj hnj hc=>⟨setCells_heap _ _ _ _ _ (fun he=>by subst he;exact h.ti.apart k j _ (Ne.symm hj) hn hnj hb hc),fun q hq=>hq⟩) (by rw [hs];exact hat ex)
  (fun c _ hc=>by rw [hb] at hc;injection hc with hc;subst hc;exact ⟨h.ti.own k _ hn hb,fun j hj hnj=>h.ti.apart k j _ (Ne.symm hj) hn hnj hb⟩)
  (fun c q hc=>by rw [setCells_size];exact h.ti.fin c q hc) (h.ti.fr.step (m:=[b]) (setCells_fr b _ off w) (fun c hc=>by
   simp only [List.mem_singleton] at hc
   subst hc
   exact h.ti.own k _ hn hb)) h.ti.old
 rw [hs] at ht
 refine ⟨ht,h.rel.step ex fun i=> .inl ⟨rfl,fun _ _=>rfl⟩,fun j hj=> ?_⟩
 simp only [VS.setO] at hj ⊢
 by_cases hjk:j=k
 ·subst hjk;exact h.dom j hn
 ·rw [upd_ne _ _ hjk] at hj
  exact h.dom j hj
theorem At.app (h:At B X w σ n S us){k e m:Nat}{y:Ty}{l l2:List y.T}{v v':Value}{row:Option Nat}{xs news:List Value}(hf:S.free k=true)(hown:OwnM w e y.sz v l.length xs)
  (hv: ∀ b,v.ownBlock=some b->(∀ q,X b q)/\S.st k≠ .no/\(σ k).blk=some b) (hm:m=l2.length)
  (hc:Cs X w nowhere (l.flatMap y.cells) xs) (hc2:Cs X w nowhere (l2.flatMap y.cells) news) (ho: ∀ x∈xs++news,x.oneCell'=true)
  (h1:OwnM w' e y.sz v' (l.length+m) (xs++news)) (h2:w.grownBy w' row) (h3:(row=none/\(v'=v∨v'.ownBlock=some w.heap.size))∨(row=v.ownBlock/\v'.ownBlock=v.ownBlock)):
  ∃ X',At B X' w' (upd σ k (.arr v')) n (S.alloc k (.arr e y (l++l2))) us/\v'.oneCell'=true:=by
 subst hm
 have hv': ∀ b,v'.ownBlock=some b->v.ownBlock=some b∨b=w.heap.size:=by
  intro b hb
  rcases h3 with ⟨_,rfl|h3⟩|⟨_,h3⟩
  ·exact .inl hb
  ·rw [h3] at hb;injection hb with hb;exact .inr hb.symm
  ·rw [h3] at hb;exact .inl hb
 have hrow: ∀ b,row=some b->v.ownBlock=some b:=by
  intro b hb
  rcases h3 with ⟨h3,_⟩|⟨h3,_⟩
  ·rw [h3] at hb;cases hb
  ·rw [←h3];exact hb
 let X':Nat->Nat->Prop:=fun b q=>X b q∨v'.ownBlock=some b
 have hkeep: ∀ b,b<w.heap.size->v.ownBlock≠some b->w'.heap[b]? = w.heap[b]? :=fun b hb hn=>h2.block b hb (fun he=>hn (hrow b he.symm))
 have ex:Ext X w X' w':=by
  refine ⟨h2.size,fun b q hb hx=>⟨?_, ?_⟩,fun b hb hx=>hkeep b hb (fun hn=>hx 0 ((hv b hn).1 0))⟩
  ·rintro (q1|q1)
   ·exact hx q1
   ·rcases hv' b q1 with q2|q2
    ·exact hx ((hv b q2).1 q)
    ·omega
  ·exact World.cell?_of_block (w:=w) (a:=⟨b,q,none⟩) (hkeep b hb (fun hn=>hx ((hv b hn).1 q)))
 have hone:v'.oneCell'=true:=by
  rcases h1.2 with ⟨rfl,_⟩|⟨_,_,_,rfl,_⟩<;>rfl
 have hat:OAt X' w' (upd σ k (.arr v')) k (.arr e y (l++l2)):=by
  refine ⟨v',xs++news,upd_self _ _ _, ?_, ?_,ho,fun b hb q=> .inr hb⟩
  ·rw [List.length_append];exact h1
  ·rw [List.flatMap_append]
   exact (Cs.ext ex _ _ (fun _ _=>rfl) hc).app (Cs.ext ex _ _ (fun _ _=>rfl) hc2)
 refine ⟨X',⟨h.ti.step ex (.inr ⟨free_lt hf,fun j _=>free_spec h.dom hf j⟩) (fun j b hj hn hb=>⟨hkeep b ((h.ti.obj j).lt hn hb) (fun hvb=> ?_),fun q hq=> .inl hq⟩) hat (fun b _ hb=> ?_) ?_ ?_ ?_,h.rel.mask ex k _,fun j hj=> ?_⟩,hone⟩
 ·obtain ⟨_,p1,p2⟩:=hv b hvb
  exact h.ti.apart k j b (Ne.symm hj) p1 hn p2 hb
 ·rcases hv' b hb with q|q
  ·obtain ⟨_,p1,p2⟩:=hv b q
   exact ⟨h.ti.own k b p1 p2,fun j hj hn=>h.ti.apart k j b (Ne.symm hj) p1 hn p2⟩
  ·subst q
   exact ⟨.inr h.ti.fr.size,fun j hj hn hb'=>by have:=(h.ti.obj j).lt hn hb';omega⟩
 ·rintro b q (q1|q1)
  ·exact Nat.lt_of_lt_of_le (h.ti.fin b q q1) h2.size
  ·exact (h1.lt b q1).2
 ·refine h.ti.fr.step (m:=row.toList) ⟨h2.os,h2.tape,h2.output,h2.size,fun b hb hn=>h2.block b hb (fun he=>hn (by rw [←he];simp))⟩ (fun b hb=> ?_)
  have hb:row=some b:=by simpa using hb
  obtain ⟨_,p1,p2⟩:=hv b (hrow b hb)
  exact h.ti.own k b p1 p2
 ·intro b q hb
  constructor
  ·rintro (q1|q1)
   ·exact (h.ti.old b q hb).1 q1
   ·rcases hv' b q1 with q2|q2
    ·exact (h.ti.old b q hb).1 ((hv b q2).1 q)
    ·have:=h.ti.fr.size;omega
  ·exact fun hl hx=> .inl ((h.ti.old b q hb).2 hl hx)
 ·simp only [VS.alloc] at hj ⊢
  by_cases hjk:j=k
  ·exact hjk▸List.mem_cons_self
  ·rw [upd_ne _ _ hjk] at hj
   exact List.mem_cons_of_mem _ (h.dom j hj)
theorem src_spec {y:Ty}{v:V}{l:List y.T}{u:Value}(h:S.src y v=some l)(hb:l.length<=140737488355328)(ht:At B X w σ n S us)(hc:C X w σ v.d u):
  ∃ news,(∀ w':World,(Builtin.lenOf u).run P w'= .ok l.length w')/\(∀ w':World,w'.heap=w.heap->(Builtin.firstCells y.sz l.length u).run P w'= .ok news.toArray w')/\(∀ x∈news,x.oneCell'=true)/\Cs X w nowhere (l.flatMap y.cells) news:=by
 have mk: ∀ A c news,u= .slice A l.length c->(0<l.length→ ∃ a,A=some a∧ ∀ j x,news[j]? = some x->w.cell? (a.add j)=some x)->(∀ x∈news,x.oneCell'=true)->Cs X w nowhere (l.flatMap y.cells) news→
   ∃ news,(∀ w':World,(Builtin.lenOf u).run P w'= .ok l.length w')/\(∀ w':World,w'.heap=w.heap->(Builtin.firstCells y.sz l.length u).run P w'= .ok news.toArray w')/\(∀ x∈news,x.oneCell'=true)/\Cs X w nowhere (l.flatMap y.cells) news:=by
  intro A c news hu hA h1 h2
  have hnl:=h2.len
  rw [flat_len] at hnl
  refine ⟨news,fun w'=>by rw [hu];rfl,fun w' hw=> ?_,h1,h2⟩
  rw [hu]
  rcases Nat.eq_zero_or_pos l.length with h0|h0
  ·have hn:news=[]:=List.eq_nil_of_length_eq_zero (by rw [hnl,h0,Nat.zero_mul])
   subst hn
   rw [h0]
   cases A with
   |none=>simp [Builtin.firstCells]
   |some a=>exact run_firstCells_some (P:=P) w' y.sz 0 a 0 c [] (by simp) (fun j v hj=>by simp at hj)
  ·obtain ⟨a,rfl,hc'⟩:=hA h0
   refine run_firstCells_some (P:=P) w' y.sz l.length a l.length c news hnl.symm.symm (fun j v hj=> ?_)
   rw [←hc' j v hj]
   unfold World.cell?
   rw [hw]
 unfold VS.src at h
 split at h
 ·rename_i y' l'
  split at h
  ·rename_i hy
   subst hy
   simp only [Option.some.injEq] at h
   subst h
   simp only [V.d,Ty.d,C] at hc
   obtain ⟨A,c,h1,h2,h3,h4,h5⟩:=hc
   rcases Nat.eq_zero_or_pos (List.length l') with h0|h0
   ·have:l'=[]:=List.eq_nil_of_length_eq_zero h0
    subst this
    exact mk A c [] h1 (fun q=>absurd q (by simp)) (fun x hx=>by cases hx) (by simp [Cs])
   ·obtain ⟨b,off,vs,g1,g4,g5⟩:=h5 h0
    exact mk A c vs h1 (fun _=>⟨_,g1,fun j x hx=>by rw [Addr.add_mid];exact g5.at_ j x hx⟩) g5.one g4
  ·cases h
 ·rename_i s
  split at h
  ·rename_i hy
   subst hy
   simp only [Option.some.injEq] at h
   subst h
   have hu:=(C.v hc).1
   subst hu
   have hl:(bytesL s).length=s.size:=by simp [bytesL]
   refine ⟨s.data.toList.map fun b=>Value.int .u8 (b.toNat:Int),fun w'=>by rw [hl];rfl,fun w' _=> ?_,fun x hx=> ?_, ?_⟩
   ·rw [hl]
    have:(Builtin.firstCells (Ty.int .u8).sz s.size (.string s)).run P w'= .ok (Go.Lib.strCells s).toArray w':=Go.Lib.run_firstCells_string (P:=P) w' _ s
    rw [this]
    rfl
   ·simp only [List.mem_map] at hx
    obtain ⟨b,_,rfl⟩:=hx
    rfl
   ·simp only [bytesL]
    generalize s.data.toList=l
    induction l with
    |nil=>simp [Cs]
    |cons b l ih=>
     simp only [List.map_cons,List.flatMap_cons,Ty.cells,List.singleton_append,Cs,C]
     exact ⟨_,_,rfl,⟨rfl,rfl⟩,ih⟩
  ·cases h
 ·simp only [Option.some.injEq] at h
  subst h
  exact mk none 0 [] (C.v hc).1 (fun q=>absurd q (by simp)) (fun x hx=>by cases hx) (by simp [Cs])
 ·rename_i k
  split at h
  ·rename_i e y' l' hst
   split at h
   ·rename_i hy
    subst hy
    simp only [Option.some.injEq] at h
    subst h
    have hat:=ht.ti.obj k
    rw [hst] at hat
    obtain ⟨u',xs,a1,a2,a3,a4,a5⟩:=hat
    simp only [V.d,C] at hc
    rw [a1] at hc
    obtain ⟨hc,_⟩:=hc
    injection hc with hc
    subst hc
    rcases a2.2 with ⟨a6,a7⟩|⟨g,cap,cur,a6,_⟩
    ·exact mk none 0 xs (by rw [a6,a7]) (fun q=>by omega) a4 a3
    ·exact mk _ cap xs a6 (fun _=>⟨_,rfl,fun j x hx=>a2.cells (by rw [a6];rfl) j x hx⟩) a4 a3
   ·cases h
  ·cases h
 ·rename_i sz k lo n
  split at h
  ·rename_i e y' l' hst
   split at h
   ·rename_i hy
    subst hy
    split at h
    ·rename_i hq
     have hz:y'.sz=sz:=by simpa using hq
     simp only [Option.some.injEq] at h
     subst h
     have hle:=wnL_ok hb
     have hlen:(wnL y' l' lo n).length=n:=by rw [wnL_eq hle,List.length_take,List.length_drop];omega
     have hat:=ht.ti.obj k
     rw [hst] at hat
     obtain ⟨u',xs,a1,a2,a3,a4,a5⟩:=hat
     simp only [V.d,C] at hc
     have hcs:Cs X w nowhere ((wnL y' l' lo n).flatMap y'.cells) ((xs.drop (lo*y'.sz)).take (n*y'.sz)):=by
      rw [wnL_eq hle, ← flat_take, ← flat_drop]
      exact (a3.drop_ _).take_ _
     have hone: ∀ x∈(xs.drop (lo*y'.sz)).take (n*y'.sz),x.oneCell'=true:=fun x hx=>a4 x (List.mem_of_mem_drop (List.mem_of_mem_take hx))
     rcases hc with ⟨b,m,c,hc,hle2,hu⟩|⟨hc,rfl,rfl,hu⟩
     ·rw [a1] at hc
      injection hc with hc
      subst hc
      refine mk _ _ _ (by rw [hlen];exact hu) (fun hpos=> ?_) hone hcs
      rw [hlen] at hpos
      rw [if_neg (by omega)]
      refine ⟨_,rfl,fun j x hx=> ?_⟩
      have hj:j<n*y'.sz:=by
       have h9:=(List.getElem?_eq_some_iff.1 hx).1
       rw [List.length_take] at h9
       omega
      rw [List.getElem?_take,if_pos hj,List.getElem?_drop] at hx
      have:=a2.cells (g:=b) rfl _ x hx
      rw [Addr.add_mid,Nat.zero_add] at this
      rw [Addr.add_mid, ← hz]
      exact this
     ·exact mk none 0 _ (by rw [hlen];exact hu) (fun q=>by rw [hlen] at q;omega) hone hcs
    ·cases h
   ·cases h
  ·cases h
 ·cases h
theorem take_setFrom {α:Type}: ∀ (s a:List α) (o m:Nat),o+s.length<=m->(setFrom a o s).take m=setFrom (a.take m) o s
 | [],a,o,m,_=>rfl
 |v::s,a,o,m,h=>by
  simp only [List.length_cons] at h
  rw [setFrom,setFrom,take_setFrom s _ (o+1) m (by omega)]
  congr 1
  rw [List.take_set]
theorem flat_set {y:Ty}{l:List y.T}{i o:Nat}{x:y.T}{xs ws:List Value}(hi:i<l.length)(hc:Cs X w nowhere (l.flatMap y.cells) xs)
  (hx: ∀ vs,Cs X w nowhere (y.cells (l.getD i y.zero)) vs->Cs X w nowhere (y.cells x) (setFrom vs o ws)) (hw:o+ws.length<=y.sz):Cs X w nowhere ((l.set i x).flatMap y.cells) (setFrom xs (i*y.sz+o) ws):=by
 have hl:l=l.take i++l.getD i y.zero::l.drop (i+1):=by
  rw [List.getD_eq_getElem?_getD,List.getElem?_eq_getElem hi]
  simp
 have hset:l.set i x=l.take i++x::l.drop (i+1):=by
  rw [List.set_eq_take_append_cons_drop,if_pos hi]
 rw [hl,List.flatMap_append,List.flatMap_cons] at hc
 rw [hset,List.flatMap_append,List.flatMap_cons]
 obtain ⟨xs1,xs2,rfl,h1,h2⟩:=hc.split
 obtain ⟨xs3,xs4,rfl,h3,h4⟩:=h2.split
 have l1:=h1.len
 have l3:=h3.len
 rw [flat_len,List.length_take,Nat.min_eq_left (by omega)] at l1
 rw [y.cells_len] at l3
 rw [setFrom_app_right _ _ _ _ (by omega),l1,Nat.add_sub_cancel_left,setFrom_app _ _ _ _ (by omega)]
 exact h1.app ((hx _ h3).app h4)
end
end Go.Proofs.YtmokmalepelinaaGreatDoor.K
/-
 The operations on own variables and slices do what the program's do:all of them.
-/
namespace Go.Proofs.YtmokmalepelinaaGreatDoor.K
open Go.RowKit
def Gives (B:Base)(P:Program)(n:Nat)(us:List Value)(w:World)(o:Oper)(v:V)(S':VS):Prop:=
 ∃ nx w' X' σ',(execOp (Act.eval ⟨us.toArray,[]⟩) o).run P w= .ok nx w'/\((∃ u,nx= .value u/\C X' w' σ' v.d u)∨(nx= .skip/\v= .un))/\At B X' w' σ' n S' us
theorem dim_src {S:VS}{j:Nat}{t:Ty}{v:V}{l:List t.T}(h:S.src t v=some l):(S.dim j).src t v=some l:=by
 unfold VS.src at h ⊢
 split at h
 ·exact h
 ·exact h
 ·exact h
 ·rename_i k
  cases hs:S.st k with
  |arr e y l'=>
   rw [hs] at h
   have:(S.dim j).st k= .arr e y l':=by simp only [VS.dim,hs,VO.dim]
   simp only [this]
   exact h
  |_=>rw [hs] at h;cases h
 ·rename_i sz k lo n
  cases hs:S.st k with
  |arr e y l'=>
   rw [hs] at h
   have:(S.dim j).st k= .arr e y l':=by simp only [VS.dim,hs,VO.dim]
   simp only [this]
   exact h
  |_=>rw [hs] at h;cases h
 ·cases h
theorem dimc_cs {X:Nat->Nat->Prop}{w:World}{σ:Pl}{j:Nat}: ∀ {ws:List V} {vs:List Value},Cs X w σ (V.ds ws) vs->Cs X w σ (V.ds (ws.map fun v=>if v.refs.contains j=true then .un else v)) vs
 | [],vs,h=>h
 |v::ws,vs,h=>by
  simp only [V.ds,Cs] at h
  obtain ⟨u,us,rfl,h1,h2⟩:=h
  simp only [List.map_cons,V.ds,Cs]
  refine ⟨u,us,rfl, ?_,dimc_cs h2⟩
  split
  ·simp [V.d,C]
  ·exact h1
theorem oat_dim {X:Nat->Nat->Prop}{w:World}{σ:Pl}{k j:Nat}{o:VO}(h:OAt X w σ k o):OAt X w σ k (o.dim j):=by
 cases o with
 |box v=>
  obtain ⟨b,ty,vs,h1,h2,h3,h4⟩:=h
  refine ⟨b,ty,vs,h1,h2, ?_,h4⟩
  cases v with
  |ag ws=>exact dimc_cs h3
  |_=>exact h3
 |_=>exact h
theorem dim_no {j:Nat}{o:VO}(h:o.dim j≠ .no):o≠ .no:=fun e=>h (by rw [e];rfl)
theorem At.dim {B:Base}{X:Nat->Nat->Prop}{w:World}{σ:Pl}{n:Nat}{S:VS}{us:List Value}(h:At B X w σ n S us)(j:Nat):At B X w σ n (S.dim j) us:=
 ⟨⟨h.ti.fin,fun k=>oat_dim (h.ti.obj k),fun i k b hik hi hk=>h.ti.apart i k b hik (dim_no hi) (dim_no hk),fun k b hk=>h.ti.own k b (dim_no hk),h.ti.fr,h.ti.old,h.ti.lnt,h.ti.zz,h.ti.zn,h.ti.ex⟩,h.rel,fun k hk=>h.dom k (dim_no hk)⟩
set_option maxRecDepth 100000 in
theorem mo_sound {β:Type}{TY:Nat->Option Ty}{own:Bool}{k:Nat}{S:VS}{K:VS->V->Option β}{mo:MO}{r:β}(h:mo.run TY own k S K=some r):
  ∃ v S',K S' v=some r∧ ∀ {P:Program} {B:Base} {X:Nat->Nat->Prop} {w:World} {σ:Pl} {n:Nat} {us:List Value} (o:Oper),trM P o.op=some mo->At B X w σ n S us->Gives B P n us w o v S':=by
 cases mo with
 |pu ao=>
  obtain ⟨v,h1,h2,h3⟩:=ao_sound (K:=K S) h
  refine ⟨v,S,h2,fun {P B X w σ n us} o ht ha=> ?_⟩
  have hto:tr P o.op=some ao:=by
   obtain ⟨dst,op,ty,pos,after,guard⟩:=o
   simp only at ht ⊢
   cases op with
   |call c=>
    obtain ⟨cal,args,tys⟩:=c
    obtain ⟨args⟩:=args
    obtain ⟨tys⟩:=tys
    simp only [trM] at ht
    split at ht
    ·repeat' split at ht
     all_goals cases ht
    ·simp only [Option.map_eq_some_iff] at ht
     obtain ⟨ao',h4,h5⟩:=ht
     injection h5 with h5
     rw [←h5]
     exact h4
   |alloc t=>
    simp only [trM] at ht
    split at ht
    ·simp only [Option.map_eq_some_iff] at ht
     obtain ⟨_,_,h5⟩:=ht
     cases h5
    ·cases ht
   |box t x=>
    simp only [trM,Option.map_eq_some_iff] at ht
    obtain ⟨_,_,h5⟩:=ht
    cases h5
   |load t x=>
    simp only [trM] at ht
    repeat' split at ht
    all_goals cases ht
   |store t x y=>
    simp only [trM] at ht
    repeat' split at ht
    all_goals cases ht
   |buildSlice t len ps=>
    simp only [trM] at ht
    repeat' split at ht
    all_goals cases ht
   |_=>
    simp only [trM,Option.map_eq_some_iff] at ht
    obtain ⟨ao',h4,h5⟩:=ht
    injection h5 with h5
    rw [←h5]
    exact h4
  obtain ⟨u,q1,q2⟩:=h3 o hto ha.rel ha.ti.obj
  exact ⟨_,w,X,σ,q1,.inl ⟨u,rfl,q2⟩,ha⟩
 |new zs=>
  simp only [MO.run] at h
  split at h
  ·rename_i hz
   split at h
   ·rename_i hf
    refine ⟨_,_,h,fun {P B X w σ n us} o ht ha=> ?_⟩
    obtain ⟨dst,op,ty,pos,after,guard⟩:=o
    have hz':(V.ag (zs.map ofD)).d.cells=zs:=by
     simp only [V.d,D.cells,V.ds_eq,List.map_map]
     conv=>rhs;rw [←List.map_id zs]
     refine List.map_congr_left fun d hd=> ?_
     have h1:=one_good (List.all_eq_true.1 hz d hd)
     cases d with
     |v x=>exact ofV_d x
     |_=>cases h1
    cases op with
    |alloc t=>
     simp only [trM] at ht
     split at ht
     ·rename_i z hzz
      simp only [Option.map_eq_some_iff] at ht
      obtain ⟨i,hi0,hi1⟩:=ht
      injection hi1 with hi1
      subst hi1
      have k0:=(initD_sound (X:=X) (w:=w) (σ:=σ) hi0).1
      have k1:Cs X w nowhere i z.cells.toList:=(initD_sound (X:=X) (w:=w) (σ:=nowhere) hi0).1
      obtain ⟨a1,a2⟩:=ha.alloc (k:=k) (o:= .box (.ag (i.map ofD))) (s:= .box w.heap.size) (ob:= .cells z.cells.toList.toArray t) hf rfl (by
       refine ⟨w.heap.size,t,z.cells.toList,upd_self _ _ _,heap_alloc_new w _, ?_,fun q=> .inr rfl⟩
       rw [hz']
       exact Cs.up _ _ (Cs.ext ⟨by simp,fun b q hb hx=>⟨fun hx'=>hx'.elim hx (by omega),World.cell?_of_block (w:=w) (a:=⟨b,q,none⟩) (Below.heap_alloc w _ b hb)⟩,fun b hb _=>Below.heap_alloc w _ b hb⟩ _ _ (fun _ _=>rfl) k1))
      refine ⟨.value (.pointer (some ⟨w.heap.size,0,none⟩)),_,_,_, ?_,.inl ⟨_,rfl, ?_⟩,a1⟩
      ·simp only [Option.bind_eq_some_iff] at hzz
       obtain ⟨inf,hi,hz⟩:=hzz
       simp only [execOp,Instr.alloc,zeroValue,typeInfo,newVar,newRow]
       simp [hi,hz,newObj]
       rfl
      ·simp only [V.d,C]
       exact ⟨w.heap.size,upd_self _ _ _,rfl⟩
     ·cases ht
    |call c=>
     obtain ⟨cal,args,tys⟩:=c
     obtain ⟨args⟩:=args
     obtain ⟨tys⟩:=tys
     simp only [trM] at ht
     split at ht
     ·repeat' split at ht
      all_goals cases ht
     ·simp only [Option.map_eq_some_iff] at ht
      obtain ⟨_,_,h5⟩:=ht
      cases h5
    |box t x=>
     simp only [trM,Option.map_eq_some_iff] at ht
     obtain ⟨_,_,h5⟩:=ht
     cases h5
    |load t x=>
     simp only [trM] at ht
     repeat' split at ht
     all_goals cases ht
    |store t x y=>
     simp only [trM] at ht
     repeat' split at ht
     all_goals cases ht
    |buildSlice t len ps=>
     simp only [trM] at ht
     repeat' split at ht
     all_goals cases ht
    |_=>
     simp only [trM,Option.map_eq_some_iff] at ht
     obtain ⟨_,_,h5⟩:=ht
     cases h5
   ·cases h
  ·cases h
 |box x=>
  simp only [MO.run] at h
  split at h
  ·rename_i hc
   simp only [Bool.and_eq_true,Bool.not_eq_true'] at hc
   obtain ⟨c1,c2,c3⟩:=hc
   split at h
   ·rename_i hf
    refine ⟨_,_,h,fun {P B X w σ n us} o ht ha=> ?_⟩
    obtain ⟨dst,op,ty,pos,after,guard⟩:=o
    cases op with
    |box t x'=>
     simp only [trM,Option.map_eq_some_iff] at ht
     obtain ⟨ax,hx,h5⟩:=ht
     injection h5 with h5
     subst h5
     have k0:=xv_sound hx c1 ha.rel
     obtain ⟨k1,k2⟩:=k0.cells (V.cellable_d _ c2)
     have hkr:k ∉ (ax.xv S.ts).refs:=by simpa using c3
     obtain ⟨a1,a2⟩:=ha.alloc (k:=k) (o:= .box (ax.xv S.ts)) (s:= .box w.heap.size) (ob:= .cells (Act.eval ⟨us.toArray,[]⟩ x').cells.toList.toArray t) hf rfl (by
      refine ⟨w.heap.size,t,(Act.eval ⟨us.toArray,[]⟩ x').cells.toList,upd_self _ _ _,heap_alloc_new w _, ?_,fun q=> .inr rfl⟩
      refine Cs.ext ⟨by simp,fun b q hb hx=>⟨fun hx'=>hx'.elim hx (by omega),World.cell?_of_block (w:=w) (a:=⟨b,q,none⟩) (Below.heap_alloc w _ b hb)⟩,fun b hb _=>Below.heap_alloc w _ b hb⟩ _ _ (fun j hj=>upd_ne _ _ fun hjk=> ?_) k1
      rw [V.refs_dcells] at hj
      exact hkr (hjk▸hj))
     refine ⟨.value (.pointer (some ⟨w.heap.size,0,none⟩)),_,_,_, ?_,.inl ⟨_,rfl, ?_⟩,a1⟩
     ·simp only [execOp,Instr.box,newVar,newRow]
      simp [newObj]
      rfl
     ·simp only [V.d,C]
      exact ⟨w.heap.size,upd_self _ _ _,rfl⟩
    |call c=>
     obtain ⟨cal,args,tys⟩:=c
     obtain ⟨args⟩:=args
     obtain ⟨tys⟩:=tys
     simp only [trM] at ht
     split at ht
     ·repeat' split at ht
      all_goals cases ht
     ·simp only [Option.map_eq_some_iff] at ht
      obtain ⟨_,_,h5⟩:=ht
      cases h5
    |alloc t=>
     simp only [trM] at ht
     split at ht
     ·simp only [Option.map_eq_some_iff] at ht
      obtain ⟨_,_,h5⟩:=ht
      cases h5
     ·cases ht
    |load t x=>
     simp only [trM] at ht
     repeat' split at ht
     all_goals cases ht
    |store t x y=>
     simp only [trM] at ht
     repeat' split at ht
     all_goals cases ht
    |buildSlice t len ps=>
     simp only [trM] at ht
     repeat' split at ht
     all_goals cases ht
    |_=>
     simp only [trM,Option.map_eq_some_iff] at ht
     obtain ⟨_,_,h5⟩:=ht
     cases h5
   ·cases h
  ·cases h
 |ld agg m x=>
  have inv: ∀ {P:Program} {op:Op},trM P op=some (.ld agg m x)→ ∃ t x' dd inf,op= .load t x'/\P.underlying t=some dd/\P.info? t=some inf/\trX x'=some x/\agg=isRow dd/\m=inf.size:=by
   intro P op ht
   cases op with
   |load t x'=>
    simp only [trM] at ht
    split at ht
    ·rename_i dd inf ax h1 hi hx
     simp only [Option.some.injEq,MO.ld.injEq] at ht
     obtain ⟨rfl,rfl,rfl⟩:=ht
     exact ⟨t,x',dd,inf,rfl,h1,hi,hx,rfl,rfl⟩
    ·cases ht
   |call c=>
    obtain ⟨cal,args,tys⟩:=c
    obtain ⟨args⟩:=args
    obtain ⟨tys⟩:=tys
    simp only [trM] at ht
    split at ht
    ·repeat' split at ht
     all_goals cases ht
    ·simp only [Option.map_eq_some_iff] at ht
     obtain ⟨_,_,h5⟩:=ht
     cases h5
   |alloc t=>
    simp only [trM] at ht
    split at ht
    ·simp only [Option.map_eq_some_iff] at ht
     obtain ⟨_,_,h5⟩:=ht
     cases h5
    ·cases ht
   |box t x=>
    simp only [trM,Option.map_eq_some_iff] at ht
    obtain ⟨_,_,h5⟩:=ht
    cases h5
   |store t x y=>
    simp only [trM] at ht
    repeat' split at ht
    all_goals cases ht
   |buildSlice t len ps=>
    simp only [trM] at ht
    repeat' split at ht
    all_goals cases ht
   |_=>
    simp only [trM,Option.map_eq_some_iff] at ht
    obtain ⟨_,_,h5⟩:=ht
    cases h5
  have fin: ∀ (v:V) {P:Program} {B:Base} {X:Nat->Nat->Prop} {w:World} {σ:Pl} {n:Nat} {us:List Value} (o:Oper),trM P o.op=some (.ld agg m x)->At B X w σ n S us->(∀ x',trX x'=some x→ ∃ b off vs ds,Act.eval ⟨us.toArray,[]⟩ x'= .pointer (some ⟨b,off,none⟩)/\w.rangeAt b off vs/\Cs X w σ ds vs/\(agg=true->v.d= .ag (ds.take m)/\m<=ds.length)/\(agg=false->ds[0]? = some v.d))->Gives B P n us w o v S:=by
   intro v P B X w σ n us o ht ha hh
   obtain ⟨dst,op,ty,pos,after,guard⟩:=o
   obtain ⟨t,x',dd,inf,h1,h2,h3,h4,h5,h6⟩:=inv ht
   simp only at h1
   subst h1 h5 h6
   obtain ⟨b,off,vs,ds,q1,q2,q3,q4,q5⟩:=hh x' h4
   obtain ⟨u,e1,e2⟩:=load_at h2 h3 q3 q2 q4 q5
   exact ⟨.value u,w,X,σ,by simp [execOp,q1,Instr.loadAt,Instr.sureAddr,e1],.inl ⟨u,rfl,e2⟩,ha⟩
  simp only [MO.run] at h
  split at h
  ·rename_i j o hx
   split at h
   ·rename_i c hst
    split at h
    ·rename_i v hs
     obtain ⟨h1,h2⟩:=nz_some h
     refine ⟨v,S,h2,fun {P B X w σ n us} oo ht ha=>fin v oo ht ha fun x' hx'=> ?_⟩
     have k1:=xv_sound hx' (by rw [hx];rfl) ha.rel
     rw [hx] at k1
     simp only [V.d,C] at k1
     obtain ⟨b,e1,e2⟩:=k1
     have hat:=ha.ti.obj j
     rw [hst] at hat
     obtain ⟨b',ty,vs,g1,g2,g3,g4⟩:=hat
     rw [g1] at e1
     injection e1 with e1
     subst e1
     obtain ⟨s1,s2⟩:=V.sub_spec hs
     have hl:=g3.len
     refine ⟨b',o,vs.drop o,c.d.cells.drop o,e2,fun i u hu=> ?_,g3.drop_ _,fun ha=> ?_,fun ha=> ?_⟩
     ·rw [List.getElem?_drop] at hu
      rw [cell_of_row w b' (o+i) vs.toArray ty (0,0) g2]
      simpa using hu
     ·obtain ⟨t1,t2⟩:=s1 ha
      exact ⟨t1,by rw [List.length_drop];omega⟩
     ·rw [List.getElem?_drop]
      exact s2 ha
    ·cases h
   ·cases h
  ·rename_i y z o hx
   split at h
   ·rename_i v hs
    obtain ⟨h1,h2⟩:=nz_some h
    refine ⟨v,S,h2,fun {P B X w σ n us} oo ht ha=>fin v oo ht ha fun x' hx'=> ?_⟩
    have k1:=xv_sound hx' (by rw [hx];rfl) ha.rel
    rw [hx] at k1
    simp only [V.d,C] at k1
    obtain ⟨b,off,vs,e1,e2,e3⟩:=k1
    obtain ⟨_,s1,s2⟩:=Ty.sub_spec true y z o m agg v hs
    refine ⟨b,off,vs,_,e1,e3.at_,Cs.up _ _ e2,fun ha=> ?_,fun ha=> ?_⟩
    ·obtain ⟨t1,t2⟩:=s1 ha
     exact ⟨t1,by rw [List.length_drop];omega⟩
    ·rw [List.getElem?_drop]
     exact s2 ha
   ·cases h
  ·rename_i sz j i o hx
   split at h
   ·rename_i e y l hst
    split at h
    ·rename_i hsz
     obtain ⟨h0,h⟩:=br_none h
     simp only [decide_eq_true_eq] at h0
     split at h
     ·rename_i v hs
      obtain ⟨h1,h2⟩:=nz_some h
      refine ⟨v,S,h2,fun {P B X w σ n us} oo ht ha=>fin v oo ht ha fun x' hx'=> ?_⟩
      have k1:=xv_sound hx' (by rw [hx];rfl) ha.rel
      rw [hx] at k1
      simp only [V.d,C] at k1
      obtain ⟨s',b,e1,e2,e3⟩:=k1
      have hat:=ha.ti.obj j
      rw [hst] at hat
      obtain ⟨u',xs,g1,g2,g3,g4,g5⟩:=hat
      rw [g1] at e1
      injection e1 with e1
      subst e1
      obtain ⟨_,s1,s2⟩:=Ty.sub_spec true y _ o m agg v hs
      have hd:(l.flatMap y.cells).drop (i*sz)=y.cells (l.getD i y.zero)++(l.drop (i+1)).flatMap y.cells:=by
       subst hsz
       rw [flat_drop,List.drop_eq_getElem_cons h0,List.flatMap_cons,List.getD_eq_getElem?_getD,List.getElem?_eq_getElem h0]
       rfl
      have hcl:=y.cells_len (l.getD i y.zero)
      refine ⟨b,i*sz+o,xs.drop (i*sz+o),(l.flatMap y.cells).drop (i*sz+o),e3,fun q u hu=> ?_,Cs.up _ _ (g3.drop_ _),fun ha=> ?_,fun ha=> ?_⟩
      ·rw [List.getElem?_drop] at hu
       have:=g2.cells e2 _ _ hu
       rw [Addr.add_mid,Nat.zero_add] at this
       exact this
      ·obtain ⟨t1,t2⟩:=s1 ha
       rw [←List.drop_drop,hd,List.drop_append_of_le_length (by omega)]
       refine ⟨?_,by rw [List.length_append,List.length_drop];omega⟩
       rw [t1,List.take_append_of_le_length (by rw [List.length_drop];omega)]
      ·have hq:=s2 ha
       have hlt:=(List.getElem?_eq_some_iff.1 hq).1
       rw [←List.drop_drop,hd,List.getElem?_drop]
       simp only [Nat.add_zero]
       rw [List.getElem?_append_left hlt]
       exact hq
     ·cases h
    ·cases h
   ·cases h
  ·cases h
 |st m x y=>
  have inv: ∀ {P:Program} {op:Op},trM P op=some (.st m x y)→ ∃ t x' y' inf,op= .store t x' y'/\P.info? t=some inf/\trX x'=some x/\trX y'=some y/\m=inf.size:=by
   intro P op ht
   cases op with
   |store t x' y'=>
    simp only [trM] at ht
    split at ht
    ·rename_i inf ax ay hi hx hy
     simp only [Option.some.injEq,MO.st.injEq] at ht
     obtain ⟨rfl,rfl,rfl⟩:=ht
     exact ⟨t,x',y',inf,rfl,hi,hx,hy,rfl⟩
    ·cases ht
   |call c=>
    obtain ⟨cal,args,tys⟩:=c
    obtain ⟨args⟩:=args
    obtain ⟨tys⟩:=tys
    simp only [trM] at ht
    split at ht
    ·repeat' split at ht
     all_goals cases ht
    ·simp only [Option.map_eq_some_iff] at ht
     obtain ⟨_,_,h5⟩:=ht
     cases h5
   |alloc t=>
    simp only [trM] at ht
    split at ht
    ·simp only [Option.map_eq_some_iff] at ht
     obtain ⟨_,_,h5⟩:=ht
     cases h5
    ·cases ht
   |box t x=>
    simp only [trM,Option.map_eq_some_iff] at ht
    obtain ⟨_,_,h5⟩:=ht
    cases h5
   |load t x=>
    simp only [trM] at ht
    repeat' split at ht
    all_goals cases ht
   |buildSlice t len ps=>
    simp only [trM] at ht
    repeat' split at ht
    all_goals cases ht
   |_=>
    simp only [trM,Option.map_eq_some_iff] at ht
    obtain ⟨_,_,h5⟩:=ht
    cases h5
  simp only [MO.run] at h
  split at h
  ·rename_i hg
   split at h
   ·rename_i j o hx
    split at h
    ·rename_i c hst
     split at h
     ·rename_i c' hp
      refine ⟨.un,_,h,fun {P B X w σ n us} oo ht ha=> ?_⟩
      obtain ⟨dst,op,ty,pos,after,guard⟩:=oo
      obtain ⟨t,x',y',inf,q1,q2,q3,q4,q5⟩:=inv ht
      simp only at q1
      subst q1 q5
      have k1:=xv_sound q3 (by rw [hx];rfl) ha.rel
      rw [hx] at k1
      simp only [V.d,C] at k1
      obtain ⟨b,e1,e2⟩:=k1
      have k2:=xv_sound q4 hg ha.rel
      have hat:=ha.ti.obj j
      rw [hst] at hat
      obtain ⟨b',ty',vs,g1,g2,g3,g4⟩:=hat
      rw [g1] at e1
      injection e1 with e1
      subst e1
      obtain ⟨s1,s2,s3,s4⟩:=V.put_spec hp k2 g3
      have hthere:w.there b' o (Act.eval ⟨us.toArray,[]⟩ y').cells.toList.length:=by
       intro i hi
       constructor
       ·rw [cell_of_row w b' (o+i) vs.toArray ty' (0,0) g2]
        have:o+i<vs.length:=by omega
        simp [this]
       ·simp [World.frozen?, g2]
      have hrun:=run_storeVar_any (P:=P) w b' o t _ hthere (by simp only [q2,Option.map_some];rw [s3]) s4
      refine ⟨.skip,_,X,σ,by simp [execOp,e2,Instr.storeAt,Instr.sureAddr,hrun],.inr ⟨rfl,rfl⟩,ha.store (off:=o) (ws:=(Act.eval ⟨us.toArray,[]⟩ y').cells.toList) (by rw [hst];simp) (by rw [g1];rfl) g4 fun ex=> ?_⟩
      exact ⟨b',ty',_,g1,setCells_at b' ty' (0,0) _ o w vs g2,Cs.ext ex _ _ (fun _ _=>rfl) s1,g4⟩
     ·cases h
    ·cases h
   ·rename_i sz j i o hx
    split at h
    ·rename_i e t l hst
     split at h
     ·rename_i hsz
      obtain ⟨h0,h⟩:=br_none h
      simp only [decide_eq_true_eq] at h0
      split at h
      ·rename_i z hp
       split at h
       ·rename_i x1 hz
        refine ⟨.un,_,h,fun {P B X w σ n us} oo ht ha=> ?_⟩
        obtain ⟨dst,op,ty,pos,after,guard⟩:=oo
        obtain ⟨t',x',y',inf,q1,q2,q3,q4,q5⟩:=inv ht
        simp only at q1
        subst q1 q5
        have k1:=xv_sound q3 (by rw [hx];rfl) ha.rel
        rw [hx] at k1
        simp only [V.d,C] at k1
        obtain ⟨s',b,e1,e2,e3⟩:=k1
        have k2:=xv_sound q4 hg ha.rel
        have hat:=ha.ti.obj j
        rw [hst] at hat
        obtain ⟨u',xs,g1,g2,g3,g4,g5⟩:=hat
        rw [g1] at e1
        injection e1 with e1
        subst e1
        have hcl:=t.cells_len (l.getD i t.zero)
        have hput: ∀ vs,Cs X w nowhere (t.cells (l.getD i t.zero)) vs->Cs X w nowhere (t.cells x1) (setFrom vs o (Act.eval ⟨us.toArray,[]⟩ y').cells.toList)/\o+(Act.eval ⟨us.toArray,[]⟩ y').cells.toList.length<=t.sz/\(Act.eval ⟨us.toArray,[]⟩ y').cells.toList.length=inf.size/\(∀ q∈(Act.eval ⟨us.toArray,[]⟩ y').cells.toList,q.oneCell'=true):=by
         intro vs hvs
         have hl:=hvs.len
         obtain ⟨s1,s2,s3,s4⟩:=V.put_spec (c:= .t t (l.getD i t.zero)) hp k2 (by simp only [V.d,Ty.d_cells];exact Cs.up _ _ hvs)
         refine ⟨?_,by omega,s3,s4⟩
         have hz2:Cs X w nowhere (t.cells x1) (setFrom vs o (Act.eval ⟨us.toArray,[]⟩ y').cells.toList):=by
          cases hr:z.row with
          |true=>
           have s5:C X w σ z.d (.agg (setFrom vs o (Act.eval ⟨us.toArray,[]⟩ y').cells.toList).toArray):=by
            rw [V.d_row _ hr]
            simp only [C]
            exact ⟨_,rfl,s1⟩
           have s6:=Ty.cs_cells (V.as_spec hz s5)
           simpa [Value.cells] using s6
          |false=>
           have hone:z.d.cells=[z.d]:=by
            cases z with
            |t y' z'=>
             simp only [V.d,Ty.d_cells]
             exact y'.d_one z' hr
            |ag vs=>cases hr
            |_=>rfl
           rw [hone] at s1
           obtain ⟨u1,hu1,hc1⟩:=s1.one
           have s6:=V.as_spec hz hc1
           rw [hu1]
           cases hr2:t.row with
           |false=>
            rw [t.d_one x1 hr2]
            exact Cs.mk1 s6
           |true=>
            exfalso
            cases z with
            |t y' z'=>
             simp only [V.as] at hz
             split at hz
             ·rename_i hy
              simp only [V.row] at hr
              rw [hy] at hr
              rw [hr] at hr2
              cases hr2
             ·simp only [V.row] at hr
              rw [hr] at hz
              cases t<;>first|(simp [Ty.fold] at hz;done)|cases hr2
            |ag vs=>cases hr
            |_=>
             simp only [V.as,hr2,if_true] at hz
             cases hz
         exact hz2
        obtain ⟨b1,cap,cur,a1,⟨ety,mk,a3,afz,amk⟩,_,a4,a5,a6,a7⟩: ∃ g cap cur,u'= .slice (some ⟨g,0,none⟩) l.length cap/\(∃ ty mk,w.heap[g]? = some (.cells cur ty mk)/\(∀ q,q<cur.size→ ¬ (mk.1<=q/\q<mk.2))∧ ∀ (w':World) (cur':Array Value),cur'.size=cur.size->w'.heap[g]? = some (.cells cur' ty mk)->Mk w' g cur' e)/\True/\l.length<=cap/\cap<=maxLen/\cur.size=cap*t.sz/\cur.toList.take (l.length*t.sz)=xs:=by
         rcases g2.2 with ⟨_,r⟩|⟨g,cap,cur,r1,r2,r3,r4,r5,r6,r7⟩
         ·omega
         ·exact ⟨g,cap,cur,r1,r3.two,trivial,r4,r5,r6,r7⟩
        have hbb:b1=b:=by
         rw [a1] at e2
         simpa [Value.ownBlock] using e2
        subst hbb
        obtain ⟨vs0,hvs0⟩: ∃ vs,Cs X w nowhere (t.cells (l.getD i t.zero)) vs:=by
         have hd:(l.flatMap t.cells).drop (i*t.sz)=t.cells (l.getD i t.zero)++(l.drop (i+1)).flatMap t.cells:=by
          rw [flat_drop,List.drop_eq_getElem_cons h0,List.flatMap_cons,List.getD_eq_getElem?_getD,List.getElem?_eq_getElem h0]
          rfl
         have:=g3.drop_ (i*t.sz)
         rw [hd] at this
         obtain ⟨v1,v2,_,q,_⟩:=this.split
         exact ⟨v1,q⟩
        obtain ⟨_,p2,p3,p4⟩:=hput vs0 hvs0
        have hxl:=g3.len
        rw [flat_len] at hxl
        have hbound:i*t.sz+t.sz<=l.length*t.sz:=by
         rw [←Nat.succ_mul]
         exact Nat.mul_le_mul_right _ h0
        have hcur:l.length*t.sz<=cur.toList.length:=by
         have hct:cur.toList.length=cur.size:=Array.length_toList
         rw [hct,a6]
         exact Nat.mul_le_mul_right _ a4
        have hthere:w.there b1 (i*t.sz+o) (Act.eval ⟨us.toArray,[]⟩ y').cells.toList.length:=by
         intro q hq
         have hlt:i*t.sz+o+q<cur.toList.length:=by omega
         constructor
         ·have:cur=cur.toList.toArray:=by simp
          rw [this] at a3
          rw [cell_of_row w b1 (i*t.sz+o+q) _ ety mk a3]
          have hct:cur.toList.length=cur.size:=Array.length_toList
          rw [hct] at hlt
          simp [hlt]
         ·have hct:cur.toList.length=cur.size:=Array.length_toList
          have:=afz (i*t.sz+o+q) (by omega)
          simp only [World.frozen?, a3]
          simp only [not_and,Nat.not_lt,Bool.and_eq_false_imp,decide_eq_true_eq,decide_eq_false_iff_not] at this ⊢
          exact this
        have hrun:=run_storeVar_any (P:=P) w b1 (i*t.sz+o) t' _ hthere (by simp only [q2,Option.map_some];rw [p3]) p4
        subst hsz
        refine ⟨.skip,_,X,σ,by simp [execOp,e3,Instr.storeAt,Instr.sureAddr,hrun],.inr ⟨rfl,rfl⟩,ha.store (off:=i*t.sz+o) (ws:=(Act.eval ⟨us.toArray,[]⟩ y').cells.toList) (by rw [hst];simp) (by rw [g1];exact e2) (g5 b1 e2) fun ex=> ?_⟩
        have hlen:(l.set i x1).length=l.length:=List.length_set
        refine ⟨u',setFrom xs (i*t.sz+o) (Act.eval ⟨us.toArray,[]⟩ y').cells.toList,g1,⟨?_,.inr ⟨b1,cap,(setFrom cur.toList (i*t.sz+o) (Act.eval ⟨us.toArray,[]⟩ y').cells.toList).toArray, ?_,Nat.zero_le _, ?_, ?_,a5, ?_, ?_⟩⟩, ?_, ?_,g5⟩
        ·rw [setFrom_len,hlen,hxl]
        ·rw [hlen];exact a1
        ·have:cur=cur.toList.toArray:=by simp
         rw [this] at a3
         refine amk _ _ ?_ (setCells_at b1 ety mk _ _ w _ a3)
         have hct:cur.toList.length=cur.size:=Array.length_toList
         rw [List.size_toArray,setFrom_len,hct]
        ·rw [hlen];exact a4
        ·have hct:cur.toList.length=cur.size:=Array.length_toList
         rw [List.size_toArray,setFrom_len,hct];exact a6
        ·rw [hlen,take_setFrom _ _ _ _ (by omega),a7]
        ·exact Cs.ext ex _ _ (fun _ _=>rfl) (flat_set h0 g3 (fun vs hvs=>(hput vs hvs).1) p2)
        ·exact setFrom_one _ _ _ g4 p4
       ·cases h
      ·cases h
     ·cases h
    ·cases h
   ·cases h
  ·cases h
 |bs e sz len init parts=>
  have inv: ∀ {P:Program} {op:Op},trM P op=some (.bs e sz len init parts)→ ∃ t len' ps ie z l i,op= .buildSlice t len' ps/\P.underlying t=some (.slice e)/\P.info? e=some ie/\ie.zero=some z/\trParts (fun i=>some (i*ie.size,ie.size)) ps.toList=some l∧
    initD (.agg ((Array.range (len'*ie.size)).map (z.cells[· % z.cells.size]!)))=some i/\sz=ie.size/\((len'*ie.size<=16777216/\0<len'*ie.size/\len=len'/\init=i/\parts=l)∨(len'=0/\ps.toList.length=0/\len=0/\init=[]/\parts=[])):=by
   intro P op ht
   cases op with
   |buildSlice t len' ps=>
    simp only [trM] at ht
    split at ht
    ·rename_i e' hu
     split at ht
     ·rename_i ie hie
      split at ht
      ·rename_i z hz
       split at ht
       ·rename_i l i hl hi
        split at ht
        ·rename_i hc
         simp only [Option.some.injEq,MO.bs.injEq] at ht
         obtain ⟨rfl,rfl,rfl,rfl,rfl⟩:=ht
         exact ⟨_,_,_,ie,z,_,_,rfl,hu,hie,hz,hl,hi,rfl,.inl ⟨hc.1,hc.2,rfl,rfl,rfl⟩⟩
        ·split at ht
         ·rename_i hc
          simp only [Option.some.injEq,MO.bs.injEq] at ht
          obtain ⟨rfl,rfl,rfl,rfl,rfl⟩:=ht
          exact ⟨_,_,_,ie,z,_,_,rfl,hu,hie,hz,hl,hi,rfl,.inr ⟨hc.1,hc.2,rfl,rfl,rfl⟩⟩
         ·cases ht
       ·cases ht
      ·cases ht
     ·cases ht
    ·cases ht
   |call c=>
    obtain ⟨cal,args,tys⟩:=c
    obtain ⟨args⟩:=args
    obtain ⟨tys⟩:=tys
    simp only [trM] at ht
    split at ht
    ·repeat' split at ht
     all_goals cases ht
    ·simp only [Option.map_eq_some_iff] at ht
     obtain ⟨_,_,h5⟩:=ht
     cases h5
   |alloc t=>
    simp only [trM] at ht
    split at ht
    ·simp only [Option.map_eq_some_iff] at ht
     obtain ⟨_,_,h5⟩:=ht
     cases h5
    ·cases ht
   |box t x=>
    simp only [trM,Option.map_eq_some_iff] at ht
    obtain ⟨_,_,h5⟩:=ht
    cases h5
   |load t x=>
    simp only [trM] at ht
    repeat' split at ht
    all_goals cases ht
   |store t x y=>
    simp only [trM] at ht
    repeat' split at ht
    all_goals cases ht
   |_=>
    simp only [trM,Option.map_eq_some_iff] at ht
    obtain ⟨_,_,h5⟩:=ht
    cases h5
  simp only [MO.run] at h
  split at h
  ·rename_i hinit
   split at h
   ·rename_i y hy
    split at h
    ·rename_i hsz
     split at h
     ·rename_i vs hf
      split at h
      ·rename_i l hl
       split at h
       ·rename_i hle
        have hcells:V.ds (init.map ofD)=init:=by
         rw [V.ds_eq,List.map_map]
         conv=>rhs;rw [←List.map_id init]
         refine List.map_congr_left fun d hd=> ?_
         have h1:=one_good (List.all_eq_true.1 hinit d hd)
         cases d with
         |v x=>exact ofV_d x
         |_=>cases h1
        -- what happens in the world
        have act: ∀ {P:Program} {B:Base} {X:Nat->Nat->Prop} {w:World} {σ:Pl} {n:Nat} {us:List Value} (o:Oper),trM P o.op=some (.bs e sz len init parts)->At B X w σ n S us→
          ∃ X1 xs,At B X1 w σ n (S.fzs (partMs S.ts parts)) us/\Cs X1 w nowhere (l.flatMap y.cells) xs/\l.length=len/\(∀ x∈xs,x.oneCell'=true)∧
           (execOp (Act.eval ⟨us.toArray,[]⟩) o).run P w= .ok (.value (.slice (some ⟨w.heap.size,0,none⟩) len len)) (w.alloc (.cells xs.toArray e)):=by
         intro P B X w σ n us o ht ha
         obtain ⟨X1,ha1,ex1⟩:=ha.fzs (partMs S.ts parts)
         obtain ⟨φ,f1,f2⟩:=fillV_val (n:=n) hf ha1.rel.out
         rw [hcells] at f1
         obtain ⟨dst,op,ty,pos,after,guard⟩:=o
         obtain ⟨t,len',ps,ie,z,l0,i,rfl,hu,hie,hz,hl0,hi,hsz',hc⟩:=inv ht
         rcases hc with ⟨c1,c2,c3,c4,c5⟩|⟨c1,c2,c3,c4,c5⟩
         ·subst c3 c4 c5
          have j:=initD_sound (X:=X1) (w:=w) (σ:=σ) hi
          obtain ⟨xs,q1,q2,q3,q4⟩:=fill_sound hl0 f1 f2 ha1.rel.cs j.1 j.2
          obtain ⟨r1,r2⟩:=Ty.rds_spec hl q2
          refine ⟨X1,xs,ha1,r1,r2,q3, ?_⟩
          have hrun:=run_buildSlice (P:=P) w t e len (ps.map fun (i,x)=>(i,Act.eval ⟨us.toArray,[]⟩ x)) xs.toArray ie z hu hie hz (by omega) (by omega) (by
           rw [Array.toList_map]
           rw [Array.toArray_toList] at q1
           exact q1)
          simp only [execOp,Sem.run_bind,hrun,Result.andThen_ok,Sem.run_pure]
         ·subst c1 c3 c4 c5
          simp only [fillD,Option.some.injEq,Prod.mk.injEq] at f1
          have r0:Cs X1 w σ (V.ds vs) []:=by rw [←f1.1];simp [Cs]
          obtain ⟨r1,r2⟩:=Ty.rds_spec hl r0
          refine ⟨X1,[],ha1,r1,r2,(fun x hx=>by cases hx), ?_⟩
          have hp0:ps= #[]:=by
           apply Array.ext'
           simpa using List.eq_nil_of_length_eq_zero c2
          subst hp0
          have ha0:((Array.range 0).map fun _:Nat=>(default:Value))= #[]:=by apply Array.ext';simp
          simp [execOp,Instr.buildSlice,run_underlying hu,sizeOf,typeInfo,hie,Instr.fill,newRow,newObj,ha0]
          rfl
        unfold bsA at h
        split at h
        ·rename_i hown
         split at h
         ·rename_i hfr
          refine ⟨_,_,h,fun {P B X w σ n us} o ht ha=> ?_⟩
          obtain ⟨X1,xs,ha1,r1,r2,r3,r4⟩:=act o ht ha
          have hxl:=r1.len
          rw [flat_len] at hxl
          have hown: ∀ X':Nat->Nat->Prop,(∀ q,X' w.heap.size q)->Ext X1 w X' (w.alloc (.cells xs.toArray e))->OAt X' (w.alloc (.cells xs.toArray e)) (upd σ k (.arr (.slice (some ⟨w.heap.size,0,none⟩) len len))) k (.arr e y l):=by
           intro X' hX' ex
           refine ⟨_,xs,upd_self _ _ _,⟨hxl,.inr ⟨_,len,xs.toArray,by rw [r2],Nat.zero_le _,.inl (heap_alloc_new w _),by omega,by simp only [maxLen];omega,by simp [hxl,r2],by rw [←hxl];simp⟩⟩,Cs.ext ex _ _ (fun _ _=>rfl) r1,r3,fun b hb q=> ?_⟩
           simp only [Value.ownBlock,Option.some.injEq] at hb
           subst hb
           exact hX' q
          have exx:Ext X1 w (fun b q=>X1 b q∨b=w.heap.size) (w.alloc (.cells xs.toArray e)):=⟨by simp,fun b q hb hx=>⟨fun hx'=>hx'.elim hx (by omega),World.cell?_of_block (w:=w) (a:=⟨b,q,none⟩) (Below.heap_alloc w _ b hb)⟩,fun b hb _=>Below.heap_alloc w _ b hb⟩
          obtain ⟨a1,a2⟩:=ha1.alloc (k:=k) (o:= .arr e y l) (s:= .arr (.slice (some ⟨w.heap.size,0,none⟩) len len)) (ob:= .cells xs.toArray e) hfr rfl (hown _ (fun q=> .inr rfl) exx)
          refine ⟨_,_,_,_,r4,.inl ⟨_,rfl, ?_⟩,a1⟩
          simp only [V.d,C]
          exact ⟨upd_self _ _ _,rfl⟩
         ·cases h
        ·refine ⟨_,_,h,fun {P B X w σ n us} o ht ha=> ?_⟩
         obtain ⟨X1,xs,ha1,r1,r2,r3,r4⟩:=act o ht ha
         obtain ⟨a1,a2⟩:=ha1.row (ob:= .cells xs.toArray e)
         refine ⟨_,_,X1,σ,r4,.inl ⟨_,rfl, ?_⟩,a1⟩
         have:=row_c (e:=e) (σ:=σ) ha1.ti.fin r1 (by rw [flat_len]) (by simp only [maxLen];omega) r3
         rw [r2] at this
         simp only [V.d,Ty.d,r2]
         exact this
       ·cases h
      ·cases h
     ·cases h
    ·cases h
   ·unfold bvA at h
    split at h
    ·rename_i hc
     simp only [Bool.and_eq_true,decide_eq_true_eq,List.isEmpty_iff] at hc
     obtain ⟨hown,hs1,hpm⟩:=hc
     split at h
     ·rename_i vs hf
      split at h
      ·rename_i hv
       simp only [Bool.and_eq_true,decide_eq_true_eq,beq_iff_eq,Bool.not_eq_true'] at hv
       obtain ⟨⟨hlen,hl0⟩,hrf,hl1⟩:=hv
       split at h
       ·rename_i hfr
        have hcells:V.ds (init.map ofD)=init:=by
         rw [V.ds_eq,List.map_map]
         conv=>rhs;rw [←List.map_id init]
         refine List.map_congr_left fun d hd=> ?_
         have h1:=one_good (List.all_eq_true.1 hinit d hd)
         cases d with
         |v x=>exact ofV_d x
         |_=>cases h1
        refine ⟨_,_,h,fun {P B X w σ n us} o ht ha=> ?_⟩
        obtain ⟨φ,f1,f2⟩:=fillV_val (n:=n) hf ha.rel.out
        rw [hcells] at f1
        obtain ⟨dst,op,ty,pos,after,guard⟩:=o
        obtain ⟨t,len',ps,ie,z,l0,i,rfl,hu,hie,hz,hl0',hi,hsz',hc⟩:=inv ht
        rcases hc with ⟨c1,c2,c3,c4,c5⟩|⟨c1,c2,c3,c4,c5⟩
        ·subst c3 c4 c5
         have j:=initD_sound (X:=X) (w:=w) (σ:=σ) hi
         obtain ⟨xs,q1,q2,q3,q4⟩:=fill_sound hl0' f1 f2 ha.rel.cs j.1 j.2
         have hrun:=run_buildSlice (P:=P) w t e len (ps.map fun (i,x)=>(i,Act.eval ⟨us.toArray,[]⟩ x)) xs.toArray ie z hu hie hz (by omega) (by omega) (by
          rw [Array.toList_map]
          rw [Array.toArray_toList] at q1
          exact q1)
         have hkr:k ∉ V.refss vs:=by simpa using hrf
         obtain ⟨a1,a2⟩:=ha.alloc (k:=k) (o:= .box (.ag vs)) (s:= .box w.heap.size) (ob:= .cells xs.toArray e) hfr rfl (by
          refine ⟨w.heap.size,e,xs,upd_self _ _ _,heap_alloc_new w _, ?_,fun q=> .inr rfl⟩
          refine Cs.ext ⟨by simp,fun b q hb hx=>⟨fun hx'=>hx'.elim hx (by omega),World.cell?_of_block (w:=w) (a:=⟨b,q,none⟩) (Below.heap_alloc w _ b hb)⟩,fun b hb _=>Below.heap_alloc w _ b hb⟩ _ _ (fun j hj=>upd_ne _ _ fun hjk=> ?_) q2
          rw [V.refs_dcells] at hj
          exact hkr (hjk▸hj))
         refine ⟨.value (.slice (some ⟨w.heap.size,0,none⟩) len len),_,_,_,by simp only [execOp,Sem.run_bind,hrun,Result.andThen_ok,Sem.run_pure],.inl ⟨_,rfl, ?_⟩,a1⟩
         simp only [V.d,C]
         exact ⟨w.heap.size,upd_self _ _ _,rfl⟩
        ·omega
       ·cases h
      ·cases h
     ·cases h
    ·cases h
  ·cases h
 |app e sz bytes x y=>
  have inv: ∀ {P:Program} {op:Op},trM P op=some (.app e sz bytes x y)→ ∃ t t2 x' y' i z,op= .call ⟨.builtin .append, #[x',y'], #[t,t2]⟩/\((∃ e2,P.underlying t2=some (.slice e2))∨P.underlying t2=some .string)/\P.underlying t=some (.slice e)/\trX x'=some x/\trX y'=some y/\P.info? e=some i/\i.zero=some z/\i.size=sz/\i.bytes=bytes/\z.cells.size=sz/\0<sz:=by
   intro P op ht
   cases op with
   |call c=>
    obtain ⟨cal,args,tys⟩:=c
    obtain ⟨args⟩:=args
    obtain ⟨tys⟩:=tys
    simp only [trM] at ht
    split at ht
    ·rename_i x' y' t t2
     split at ht
     ·rename_i e' ax ay h1 hx hy
      split at ht
      ·rename_i i hi
       split at ht
       ·rename_i z hz
        split at ht
        ·rename_i hcond
         obtain ⟨htt,hzs,hsz⟩:=hcond
         have htt:(∃ e2,P.underlying t2=some (.slice e2))∨P.underlying t2=some .string:=by
          rcases htt with rfl|h
          ·exact .inl ⟨_,h1⟩
          ·exact .inr (isStrT_is h)
         simp only [Option.some.injEq,MO.app.injEq] at ht
         obtain ⟨rfl,rfl,rfl,rfl,rfl⟩:=ht
         exact ⟨_,_,_,_,i,z,rfl,htt,h1,hx,hy,hi,hz,rfl,rfl,hzs,hsz⟩
        ·cases ht
       ·cases ht
      ·cases ht
     ·cases ht
    ·simp only [Option.map_eq_some_iff] at ht
     obtain ⟨_,_,h5⟩:=ht
     cases h5
   |alloc t=>
    simp only [trM] at ht
    split at ht
    ·simp only [Option.map_eq_some_iff] at ht
     obtain ⟨_,_,h5⟩:=ht
     cases h5
    ·cases ht
   |box t x=>
    simp only [trM,Option.map_eq_some_iff] at ht
    obtain ⟨_,_,h5⟩:=ht
    cases h5
   |load t x=>
    simp only [trM] at ht
    repeat' split at ht
    all_goals cases ht
   |store t x y=>
    simp only [trM] at ht
    repeat' split at ht
    all_goals cases ht
   |buildSlice t len ps=>
    simp only [trM] at ht
    repeat' split at ht
    all_goals cases ht
   |_=>
    simp only [trM,Option.map_eq_some_iff] at ht
    obtain ⟨_,_,h5⟩:=ht
    cases h5
  have fin: ∀ (S:VS) {P:Program} {B:Base} {X:Nat->Nat->Prop} {w:World} {σ:Pl} {n:Nat} {us:List Value} (o:Oper) (k':Nat) (t:Ty) (e':Nat) (l l2:List t.T),(e'=e∨e'=e+1000000)->trM P o.op=some (.app e sz bytes x y)->At B X w σ n S us->t.sz=sz->S.src t (y.xv S.ts)=some l2->(y.xv S.ts).good=true→
    (l.length+l2.length)*(bytes+1)<=140737488355328->S.free k'=true→
    (∀ x',trX x'=some x→ ∃ xs,OwnM w e' t.sz (Act.eval ⟨us.toArray,[]⟩ x') l.length xs/\Cs X w nowhere (l.flatMap t.cells) xs/\(∀ q∈xs,q.oneCell'=true)∧ ∀ b,(Act.eval ⟨us.toArray,[]⟩ x').ownBlock=some b->(∀ q,X b q)/\S.st k'≠ .no/\(σ k').blk=some b)→
    Gives B P n us w o (.ms k') (S.alloc k' (.arr e' t (l++l2))):=by
   intro S P B X w σ n us o k' t e' l l2 hee ht ha hsz hsrc hg hbr hf hxx
   obtain ⟨dst,op,ty,pos,after,guard⟩:=o
   obtain ⟨tt,t2,x',y',i,z,rfl,htt,h1,h2,h3,h4,h5,h6,h7,h8,h9⟩:=inv ht
   obtain ⟨xs,o1,o2,o3,o4⟩:=hxx x' h2
   have ky:=xv_sound h3 hg ha.rel
   obtain ⟨news,e1,e3,e4,e5⟩:=src_spec (P:=P) hsrc (by have:=Nat.le_trans (Nat.le_mul_of_pos_right (l.length+l2.length) (show 0<bytes+1 by omega)) hbr;omega) ha ky
   have hnl:=e5.len
   rw [flat_len] at hnl
   have hle:l.length+l2.length<=140737488355328:=Nat.le_trans (Nat.le_mul_of_pos_right _ (by omega)) hbr
   have hle2:(l.length+l2.length)*bytes<=140737488355328:=Nat.le_trans (Nat.mul_le_mul_left _ (by omega)) hbr
   rw [hsz] at o1 hnl e3
   obtain ⟨v',w',row,s1,s2,s3,s4⟩:=run_append_m (P:=P) w tt t2 ty e i z sz bytes h1 htt h4 h5 h6 h7 h8 h9 _ l.length e' xs hee o1 _ l2.length news hnl e1 e3 e4 (by simp only [maxLen];omega) hle2
   obtain ⟨X',q1,q2⟩:=ha.app (k:=k') (e:=e') (m:=l2.length) (l:=l) (l2:=l2) hf (by rw [hsz];exact o1) o4 rfl o2 e5 (fun q hq=>(List.mem_append.1 hq).elim (o3 q) (e4 q)) (by rw [hsz];exact s2) s3 s4
   refine ⟨.value v',w',X',_, ?_,.inl ⟨v',rfl, ?_⟩,q1⟩
   ·simp [execOp,resolve,invoke,builtin,s1]
   ·simp only [V.d,C]
    exact ⟨upd_self _ _ _,q2⟩
  have goodSrc: ∀ {t:Ty} {l2:List t.T},S.src t (y.xv S.ts)=some l2->(y.xv S.ts).good=true:=by
   intro t l2 hh
   generalize y.xv S.ts=v at hh
   cases v<;>first|rfl|(simp only [VS.src] at hh;cases hh)
  simp only [MO.run] at h
  split at h
  ·rename_i hx
   split at h
   ·rename_i t hty
    split at h
    ·rename_i hsz
     split at h
     ·rename_i l2 hsrc
      obtain ⟨hbr,h⟩:=br_none h
      simp only [decide_eq_true_eq] at hbr
      split at h
      ·rename_i hf
       refine ⟨_,_,h,fun {P B X w σ n us} o ht ha=>fin S o k t e [] l2 (.inl rfl) ht ha hsz hsrc (goodSrc hsrc) hbr hf fun x' hx'=> ?_⟩
       have kx:=xv_sound hx' (by rw [hx];rfl) ha.rel
       rw [hx] at kx
       have kx:=(C.v kx).1
       refine ⟨[],by rw [kx];exact .of (World.ownsRow_nil w 0 e t.sz),by simp [Cs],(fun q hq=>by cases hq),fun b hb=> ?_⟩
       rw [kx] at hb
       cases hb
      ·cases h
     ·cases h
    ·cases h
   ·cases h
  ·rename_i j hx
   split at h
   ·rename_i e' t l hst
    split at h
    ·rename_i hc
     simp only [Bool.and_eq_true,Bool.or_eq_true,beq_iff_eq] at hc
     obtain ⟨hee,hsz⟩:=hc
     split at h
     ·rename_i l2 hsrc
      obtain ⟨hbr,h⟩:=br_none h
      simp only [decide_eq_true_eq] at hbr
      split at h
      ·rename_i hf
       refine ⟨_,_,h,fun {P B X w σ n us} o ht ha=>fin (S.dim j) o j t e' l l2 hee ht (ha.dim j) hsz (dim_src hsrc) (goodSrc hsrc) hbr hf fun x' hx'=> ?_⟩
       have kx:=xv_sound hx' (by rw [hx];rfl) ha.rel
       rw [hx] at kx
       simp only [V.d,C] at kx
       have hat:=ha.ti.obj j
       rw [hst] at hat
       obtain ⟨u',xs,g1,g2,g3,g4,g5⟩:=hat
       rw [g1] at kx
       obtain ⟨kx,_⟩:=kx
       injection kx with kx
       subst kx
       exact ⟨xs,g2,g3,g4,fun b hb=>⟨g5 b hb,by simp [VS.dim,hst,VO.dim],by rw [g1];exact hb⟩⟩
      ·cases h
     ·cases h
    ·cases h
   ·cases h
  ·rename_i sz' j lo m hx
   split at h
   ·rename_i e' t l hst
    split at h
    ·rename_i hc
     simp only [Bool.and_eq_true,Bool.or_eq_true,beq_iff_eq] at hc
     obtain ⟨hee,hsz,rfl⟩:=hc
     split at h
     ·rename_i l2 hsrc
      obtain ⟨hbr,h⟩:=br_none h
      simp only [decide_eq_true_eq] at hbr
      split at h
      ·rename_i hf
       refine ⟨_,_,h,fun {P B X w σ n us} o ht ha=>fin (S.dim j) o j t e' (wnL t l 0 m) l2 hee ht (ha.dim j) hsz (dim_src hsrc) (goodSrc hsrc) hbr hf fun x' hx'=> ?_⟩
       have hm:m<=l.length:=by
        have:=wnL_ok (y:=t) (l:=l) (lo:=0) (n:=m) (by have:=Nat.le_trans (Nat.le_mul_of_pos_right ((wnL t l 0 m).length+l2.length) (show 0<bytes+1 by omega)) hbr;omega)
        omega
       rw [wnL_eq (by omega),List.drop_zero]
       have kx:=xv_sound hx' (by rw [hx];rfl) ha.rel
       rw [hx] at kx
       simp only [V.d,C] at kx
       have hat:=ha.ti.obj j
       rw [hst] at hat
       obtain ⟨u',xs,g1,g2,g3,g4,g5⟩:=hat
       have hml:(l.take m).length=m:=by rw [List.length_take];omega
       have hcs:Cs X w nowhere ((l.take m).flatMap t.cells) (xs.take (m*t.sz)):=by
        rw [←flat_take]
        exact g3.take_ _
       refine ⟨xs.take (m*t.sz), ?_,hcs,fun q hq=>g4 q (List.mem_of_mem_take hq),fun b hb=> ?_⟩
       ·rw [hml]
        rcases kx with ⟨b,m',c,kx,hle2,hu⟩|⟨kx,_,rfl,hu⟩
        ·rw [g1] at kx
         injection kx with kx
         subst kx
         rw [hu]
         have:=g2.take_ hm
         simpa using this
        ·rw [hu]
         simp only [Nat.zero_mul,List.take_zero]
         exact .of (World.ownsRow_nil w 0 e' t.sz)
       ·rcases kx with ⟨b',m',c,kx,hle2,hu⟩|⟨kx,_,rfl,hu⟩
        ·rw [g1] at kx
         injection kx with kx
         subst kx
         rw [hu] at hb
         have hb:b'=b:=by simpa [Value.ownBlock] using hb
         subst hb
         exact ⟨g5 b' rfl,by simp [VS.dim,hst,VO.dim],by rw [g1];rfl⟩
        ·rw [hu] at hb
         cases hb
      ·cases h
     ·cases h
    ·cases h
   ·cases h
  ·cases h
end Go.Proofs.YtmokmalepelinaaGreatDoor.K
