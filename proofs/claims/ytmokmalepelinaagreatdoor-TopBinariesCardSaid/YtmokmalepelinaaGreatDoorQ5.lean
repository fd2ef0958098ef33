import Derived.Test.YtmokmalepelinaaGreatDoorQ4
import Derived.Test.YtmokmalepelinaaGreatDoorQ3
import Derived.Shelf.Small.Strs
import Derived.Deep.DeepCutAuto
import Derived.Deep.DrawnRows
import Derived.StillTailTactics
import Derived.Deep.RegionHeld3
import Derived.Sort.Grow
import Derived.Lib.Hide
import Derived.Shelf.Abstract
import Derived.Shelf.Small.Wraps
import Derived.Shelf.SlSortCmp.NoneTotal
import Derived.Ground.SlsfProg
set_option linter.unusedSimpArgs false
set_option linter.unusedVariables false
set_option maxRecDepth 100000
namespace Go.Proofs.YtmokmalepelinaaGreatDoor.K
open Go.RowKit Go.Region
attribute [local go_sem ↓] Go.wp_at_zero Go.wp_at_succ
set_option linter.unusedSectionVars false
attribute [local irreducible] nwL mcL
abbrev qL (Q:List Nat):List Value:=Q.map fun a=>Value.int .i16 ((a:Nat):Int)
theorem elemQ:ElemOk Tryz.prog 327 251 1 2:=ElemOk.of (.int .i16 0) (by kernel_rfl) (by kernel_rfl) (by kernel_rfl) (by decide)
theorem own_sliceT {w:World}{B:Nat}{e:TypeId}{size n:Nat}{v:Value}{xs:List Value}(h:w.ownsRow B e size v n xs): ∃ A c,v= .slice A n c:=by
 rcases h.2 with ⟨rfl,rfl⟩|⟨g,cap,cur,rfl,_⟩
 ·exact ⟨_,_,rfl⟩
 ·exact ⟨_,_,rfl⟩
theorem step_appT {P:Program}{w:World}{ops:Array Oper}{o:Oper}{a:Act}{K:Act->World->Prop}{Q:Exit->Act->World->Prop}{E:Prop}{t e:TypeId}{size bytes:Nat}(d:Nat)(hd:o.dst=some d)(hE:ElemOk P t e size bytes)(hgd:o.guard=none)(s x:Operand)
  (ho:o.op= .call {callee:= .builtin .append,args:= #[s,x],argTypes:= #[t,t] })
  (base:Nat) (v:Value) (n:Nat) (xs:List Value) (hs:a.eval s=v) (hown:w.ownsRow base e size v n xs)
  (A:Option Addr) (m c:Nat) (news:List Value) (hx:a.eval x= .slice A m c) (hr:Sl w (.slice A m c) size m news) (h1: ∀ u∈news,u.oneCell'=true)
  (hbytes:n+m<=1000000000) (hby:bytes<=100000) (hbase:base<=w.heap.size)
  (h: ∀ v' w',w'.ownsRow base e size v' (n+m) (xs++news)->w.grownBy w' v.ownBlock->(v'.ownBlock=v.ownBlock∨v'.ownBlock=some w.heap.size)->K ⟨a.tmps.setIfInBounds d v',a.defers⟩ w'):
  if Region.wanted o (yielded ops a.tmps)=true then Oper.wp P o a w K Q else E:=by
 obtain ⟨i,z,k1,k2,k3,k4,k5,k6,k7⟩:=hE.has
 refine step_append_any w hgd s x t ho base e i z size bytes k1 k2 k3 k4 k5 k6 k7 v n xs hs hown w.heap.size A m c news hx hr.reads h1 (by unfold maxLen;omega) ?_ hbase (by rw [hd];exact h)
 have:=Nat.mul_le_mul hbytes hby
 omega
structure MW (m:Nat) (w0:World) (sv qv:Value) (S:Mch) (Q:List Nat) (wr:World) (ev:Nat->Value) (g:Nat):Prop where
 ss:SS wr m sv S ev
 qq:QV 251 wr m qv g (qL Q)
 ns:sv.ownBlock≠some g
 ne: ∀ i,i<S.n->(ev i).ownBlock≠some g
 bel:Below m w0 wr
theorem QV.tail {e:TypeId}{w:World}{m g off cap n:Nat}{cur:Array Value}{x:Value}{l:List Value}(hm:m<=g)(hg:w.heap[g]? = some (.cells cur e (0,0)))(hn:n=l.length)(hc:n+1<=cap)(hcm:cap<=maxLen)(hs:off+cap<=cur.size)(h: ∀ j v,(x::l)[j]? = some v->cur.toList[off+j]? = some v):
  QV e w m (.slice (some ⟨g,off+1,none⟩) n (cap-1)) g l:=by
 subst hn
 exact ⟨off+1,cap-1,cur,rfl,hm,hg,by omega,by omega,by omega,fun j v hv=>by
  rw [show off+1+j=off+(j+1) by omega]
  exact h (j+1) v hv⟩
theorem QV.tail0 {e:TypeId}{w:World}{m g off n:Nat}{cur:Array Value}{l:List Value}(hm:m<=g)(hg:w.heap[g]? = some (.cells cur e (0,0)))(hn:n=l.length)(hc:n+1<=1)(hs:off+1<=cur.size):
  QV e w m (.slice (some ⟨g,off,none⟩) n 0) g l:=by
 subst hn
 have:l=[]:=List.eq_nil_of_length_eq_zero (by omega)
 subst this
 exact ⟨off,0,cur,rfl,hm,hg,Nat.le_refl 0,Nat.zero_le _,by omega,fun j v hv=>by simp at hv⟩
theorem MW.qq' {m:Nat}{w0 wr:World}{sv qv qv':Value}{S:Mch}{Q Q':List Nat}{ev:Nat->Value}{g:Nat}(h:MW m w0 sv qv S Q wr ev g)(hq:QV 251 wr m qv' g (qL Q')):MW m w0 sv qv' S Q' wr ev g:=⟨h.ss,hq,h.ns,h.ne,h.bel⟩
theorem MW.fill {m:Nat}{w0 wr:World}{qv:Value}{S:Mch}{Q:List Nat}{ev:Nat->Value}{g g2 cap2 n a k:Nat}(hn:S.n=n)(h:MW m w0 (.slice (some ⟨g2,0,none⟩) n cap2) qv S Q wr ev g)(ha:a<n)(hk:k<256)(v:Int):
  MW m w0 (.slice (some ⟨g2,0,none⟩) n cap2) qv (S.setNx a k v) Q (wr.setCell ⟨g2,a*258+k,none⟩ (.int .i16 v)) ev g:=by
 subst hn
 obtain ⟨h1,h2⟩:=h.ss.putNx ha hk v
 exact ⟨h1,h.qq.keep h2 h.ns,h.ns,h.ne,h.bel.setCell (p:=⟨g2,a*258+k,none⟩) (h.ss.own.lt g2 rfl).1 _⟩
theorem MW.back {m:Nat}{w0 wr:World}{qv:Value}{S:Mch}{Q:List Nat}{ev:Nat->Value}{g g2 cap2 n t:Nat}(hn:S.n=n)(h:MW m w0 (.slice (some ⟨g2,0,none⟩) n cap2) qv S Q wr ev g)(ht:t<n)(v:Int):
  MW m w0 (.slice (some ⟨g2,0,none⟩) n cap2) qv (S.setBk t v) Q (wr.setCell ⟨g2,t*258+256,none⟩ (.int .i16 v)) ev g:=by
 subst hn
 obtain ⟨h1,h2⟩:=h.ss.putBk ht v
 exact ⟨h1,h.qq.keep h2 h.ns,h.ns,h.ne,h.bel.setCell (p:=⟨g2,t*258+256,none⟩) (h.ss.own.lt g2 rfl).1 _⟩
theorem MW.alloc {m:Nat}{w0 wr:World}{sv qv:Value}{S:Mch}{Q:List Nat}{ev:Nat->Value}{g:Nat}(h:MW m w0 sv qv S Q wr ev g)(hm:m<=wr.heap.size)(o:Obj):MW m w0 sv qv S Q (wr.alloc o) ev g:=
 ⟨h.ss.below ((Below.refl _ _).alloc (Nat.le_refl _) _),h.qq.below ((Below.refl _ _).alloc (Nat.le_refl _) _),h.ns,h.ne,h.bel.alloc hm _⟩
theorem MW.drew_ {m:Nat}{w0 wr:World}{sv qv:Value}{S:Mch}{Q:List Nat}{ev:Nat->Value}{g:Nat}(h:MW m w0 sv qv S Q wr ev g):MW m w0 sv qv S Q wr.drew ev g:=
 ⟨h.ss.below (Below.refl _ _).drew,h.qq.below (Below.refl _ _).drew,h.ns,h.ne,h.bel.drew⟩
theorem MW.ends {m:Nat}{w0 wr w7:World}{qv v':Value}{S:Mch}{Q:List Nat}{ev:Nat->Value}{g g2 cap2 n a:Nat}{l:List Int}(hn:S.n=n)(h:MW m w0 (.slice (some ⟨g2,0,none⟩) n cap2) qv S Q wr ev g)(ha:a<n)
  (hown:w7.ownsRow m 3 1 v' ((S.en a).length+l.length) ((S.en a).map (Value.int .i64)++l.map (Value.int .i64))) (hg:wr.grownBy w7 (ev a).ownBlock) (hat:v'.ownBlock=(ev a).ownBlock∨v'.ownBlock=some wr.heap.size):
  w7.cell? ⟨g2,a*258+257,none⟩=some (ev a)/\w7.frozen? ⟨g2,a*258+257,none⟩=false∧ ∃ ev',MW m w0 (.slice (some ⟨g2,0,none⟩) n cap2) qv (S.setEn a (S.en a++l)) Q (w7.setCell ⟨g2,a*258+257,none⟩ v') ev' g:=by
 subst hn
 obtain ⟨e1,e2,_⟩:=en_app h.ss ha hown hg hat
 obtain ⟨p1,p2⟩:=h.ss.putEn ha (l:=S.en a++l) (by rw [List.length_append,List.map_append];exact hown) hg hat
 have hgl:=h.qq.lt
 have hq7:QV 251 w7 m qv g (qL Q):=h.qq.keep hg (h.ne a ha)
 refine ⟨e1,e2,_,p1,hq7.keep p2 h.ns,h.ns,fun j hj e=> ?_, ?_⟩
 ·have e:(if j=a then v' else ev j).ownBlock=some g:=e
  by_cases hja:j=a
  ·rw [if_pos hja] at e
   rcases hat with e3|e3
   ·exact h.ne a ha (by rw [←e3,e])
   ·rw [e3] at e
    have:=Option.some.inj e
    omega
  ·rw [if_neg hja] at e
   exact h.ne j hj e
 ·refine Below.setCell ?_ (p:=⟨g2,a*258+257,none⟩) (h.ss.own.lt g2 rfl).1 _
  have hms:m<=wr.heap.size:=Nat.le_trans hgl.1 (Nat.le_of_lt hgl.2)
  cases he:(ev a).ownBlock with
  |none=>
   rw [he] at hg
   exact ⟨hg.os.trans h.bel.os,hg.tape.trans h.bel.tape,hg.output.trans h.bel.output,Nat.le_trans h.bel.size hg.size,fun b hb=>(hg.block b (by omega) (fun e=>by cases e)).trans (h.bel.block b hb)⟩
  |some q=>
   rw [he] at hg
   exact below_of_only h.bel hg (h.ss.ltI ha he).1 hms
theorem MW.grown {m:Nat}{w0 wr w':World}{sv qv v':Value}{S:Mch}{Q:List Nat}{ev:Nat->Value}{g g':Nat}{x:Nat}(h:MW m w0 sv qv S Q wr ev g)(hm:m<=wr.heap.size)(hq:QV 251 w' m v' g' (qL Q++[.int .i16 ((x:Nat):Int)]))(hg:wr.grownBy w' (some g))(hat:g'=g∨g'=wr.heap.size):
  MW m w0 sv v' S (Q++[x]) w' ev g':=by
 have hne: ∀ q,q<wr.heap.size->some q≠some g->some q≠some g':=fun q hq hn e=>by
  rcases hat with e2|e2
  ·exact hn (by rw [e,e2])
  ·have:=Option.some.inj e
   omega
 refine ⟨h.ss.keep hg (fun q e=>by cases e;exact h.ns) (fun q e i hi=>by cases e;exact h.ne i hi),by rw [qL,List.map_append,List.map_singleton];exact hq, ?_,fun i hi e=> ?_,below_of_only h.bel hg h.qq.lt.1 hm⟩
 ·intro e
  cases hs:sv.ownBlock with
  |none=>rw [hs] at e;cases e
  |some q=>
   have hlt:=(h.ss.own.lt q hs).2
   exact hne q hlt (fun ee=>h.ns (by rw [hs,ee])) (by rw [←hs,e])
 ·have hlt:=(h.ss.ltI hi e)
  have hl:g'<wr.heap.size:=hlt.2
  rcases hat with e2|e2
  ·exact h.ne i hi (by rw [e,e2])
  ·omega
set_option maxHeartbeats 4000000 in
theorem machine_calls {X:Nat->Nat->Prop}{w:World}{pv:Value}{p:List Pattern}(hC:C X w nowhere (.sl p.length (p.flatMap tyPattern.cells)) pv)(hok:PtOk p):
  Calls Tryz.prog 165 #[pv] w fun e w'=> ∃ sv,e= .returned sv/\(∃ ev,SS w' w.heap.size sv (machP p) ev)/\Below w.heap.size w w':=by
 obtain ⟨A,c,rfl⟩:=sl_val hC
 have HT:=Lib.hid (treeP_ok hok)
 have HC:=Lib.hid (tree_calls hC hok)
 clear hC
 go_enter Tryz.func165,Tryz.ntmps165
 go_wp2_with (go_at_call 244;refine HC.out.mono ?_;rintro e w1 ⟨sv,rfl,hs1,hb1⟩;have HS1:=Lib.hid hs1;have HB1:=Lib.hid hb1;clear hs1 hb1)
 obtain ⟨m,hm⟩: ∃ m,m=w.heap.size:=⟨_,rfl⟩
 obtain ⟨b0,hb0⟩: ∃ b0,b0=w1.heap.size:=⟨_,rfl⟩
 obtain ⟨T,hT⟩: ∃ T,T=treeP p:=⟨_,rfl⟩
 obtain ⟨ev,hss⟩:=HS1.out
 have htp:=HT.out
 rw [show mcTree (p.map (·.2.1)) 0 mc0=treeP p from rfl, ← hT] at hss
 rw [←hT] at htp
 obtain ⟨g2,cap2,rfl,hg2,hg2'⟩:=hss.form htp.2.wt.pos
 have hE:EN T p.length:=htp.2.en
 have hw1:=HB1.out
 have hlen:p.length<=100:=hok.len
 have hM:mcR T.n T [0]=machP p:=by rw [hT];rfl
 have h0:MW m w (.slice (some ⟨g2,0,none⟩) T.n cap2) (.slice (some ⟨b0,0,none⟩) 1 1) T [0] (w1.alloc (.cells #[Value.int IntKind.i16 0] 251)) ev b0:=by
  have hbw:Below w1.heap.size w1 (w1.alloc (.cells #[Value.int IntKind.i16 0] 251)):=(Below.refl _ _).alloc (Nat.le_refl _) _
  refine ⟨by rw [hm];exact hss.below hbw,⟨0,1, #[Value.int IntKind.i16 0],rfl,by rw [hm,hb0];exact hw1.size,by rw [hb0];exact Go.Proofs.YtmokmalepelinaaGreatDoor.Blk.new _ _ _,Nat.le_refl 1,by decide,Nat.le_refl 1,fun j v hv=>by rw [Nat.zero_add];exact hv⟩,fun e=> ?_,fun i hi e=> ?_,by rw [hm];exact hw1.trans (hbw.mono hw1.size)⟩
  ·have e:g2=b0:=Option.some.inj e
   omega
  ·have:=(hss.ltI hi e).2
   omega
 have HM:=Lib.hid hm
 have HTP:=Lib.hid htp
 have HEN:=Lib.hid hE
 have HMM:=Lib.hid hM
 have H0:=Lib.hid h0
 have HLN:=Lib.hid hlen
 have HOK:=Lib.hid hok
 obtain ⟨W2,hW2⟩: ∃ W2,W2=w1.alloc (.cells #[Value.int IntKind.i16 0] 251):=⟨_,rfl⟩
 rw [←hW2, ← hb0]
 rw [←hW2] at H0
 clear hm hb0 hss htp hg2 hg2' hE hw1 hM h0 hlen hW2 HS1 HB1 HT hT HC hok
 go_loopg [4] (T.n) (fun f qv wr=> ∃ S D Q ev g,Hid (mcR f S Q=machP p/\f+D.length=T.n/\MI T p.length S D Q/\MW m w (.slice (some ⟨g2,0,none⟩) T.n cap2) qv S Q wr ev g))
 case atStart=>exact ⟨T,[],[0],ev,b0,Lib.hid ⟨HMM.out,by rw [List.length_nil];rfl,MI.start HTP.out.2.wt.pos HEN.out,H0.out⟩⟩
 case round=>
  obtain ⟨S,D,Q,ev',g,HR⟩:=hrel
  obtain ⟨r1,r2,r3,r4⟩:=HR.out
  obtain ⟨off,cap,cur,rfl,q1,q2,q3,q4,q5,q6⟩:=r4.qq
  cases Q with
  |nil=>
   have HX:=Lib.hid (And.intro r1 r4)
   clear r1 r2 r3 r4 q1 q2 q3 q4 q5 q6 HR
   go_wp2_with fail
   go_ret
   obtain ⟨x1,x2⟩:=HX.out
   rw [mcR_nil] at x1
   refine ⟨_,rfl,⟨ev', ?_⟩,by rw [←HM.out];exact x2.bel⟩
   rw [←HM.out, ← x1]
   exact x2.ss
  |cons a Q=>
   have hl:(qL (a::Q)).length=Q.length+1:=by simp
   have z0:wr.cell? ⟨g,off,none⟩=some (.int .i16 ((a:Nat):Int)):=by
    rw [Go.Proofs.YtmokmalepelinaaGreatDoor.Blk.cell (show Go.Proofs.YtmokmalepelinaaGreatDoor.Blk wr g 251 cur from q2), ← Array.getElem?_toList]
    exact q6 0 _ rfl
   have hal:a<T.n:=r3.lt a (by simp)
   have hss:=r4.ss
   rw [←r3.n] at hss
   have z1:=hss.bk (show a<S.n by rw [r3.n];exact hal)
   rw [hl] at q3 ⊢
   have i1:((a:Nat):Int)<((T.n:Nat):Int):=by omega
   have i2:(1:Int)<=((Q.length+1:Nat):Int):=by omega
   have i3:((Q.length+1:Nat):Int) > 0:=by omega
   have i4:Q.length+1<=cap:=q3
   have HX:=Lib.hid (And.intro r1 (And.intro r2 (And.intro r3 r4)))
   have HQ:=Lib.hid (And.intro q1 (And.intro q2 (And.intro q4 (And.intro q5 q6))))
   by_cases ha:a=0
   ·have hj0:=MI.open (fun i=>Nat.le_trans (HEN.out i).1 HLN.out) r3
    rw [show mcS S a=S from if_pos ha] at hj0
    have HJ0:=Lib.hid hj0
    have hr1: ∃ f',gk=f'+1/\mcR f' (mcCs a (S.bk a).toNat 256 (S,Q)).1 (mcCs a (S.bk a).toNat 256 (S,Q)).2=machP p:=by
     cases hgk:gk with
     |zero=>
      rw [hgk] at r2
      have h1:=nd_len T.n (D++a::Q) r3.nd r3.lt
      rw [List.length_append,List.length_cons] at h1
      omega
     |succ f'=>
      refine ⟨f',rfl, ?_⟩
      have e:mcS S a=S:=if_pos ha
      rw [hgk] at r1
      have r1:mcR f' (mcCs a (S.bk a).toNat 256 (mcS S a,Q)).1 (mcCs a (S.bk a).toNat 256 (mcS S a,Q)).2=machP p:=r1
      rwa [e] at r1
    obtain ⟨f',rfl,hr1⟩:=hr1
    have HR1:=Lib.hid hr1
    have HR2:=Lib.hid r2
    have HW0:=Lib.hid r4
    have HSN:=Lib.hid r3.n
    clear r1 r2 r3 r4 q1 q2 q3 q4 q5 q6 HR hss hl hal hj0 hr1
    subst ha
    obtain ⟨b,hb⟩: ∃ b,b=(S.bk 0).toNat:=⟨_,rfl⟩
    rw [←hb] at HJ0 HR1
    have HBB:=Lib.hid hb
    clear hb
    go_wp2_with fail
    all_goals (
     go_loopw [4,43] (fun qv cv wy=> ∃ k:Nat,k<=256/\cv= .int .i64 k∧ ∃ ev g,Hid (MJ T p.length (mcCs 0 b k (S,Q)).1 D 0 b (mcCs 0 b k (S,Q)).2 k/\MW m w (.slice (some ⟨g2,0,none⟩) T.n cap2) qv (mcCs 0 b k (S,Q)).1 (mcCs 0 b k (S,Q)).2 wy ev g)) (fun _ cv _=>256-(intOf cv).toNat)
     case atStart=>exact ⟨0,Nat.zero_le _,rfl,ev',g,Lib.hid ⟨HJ0.out,HW0.out.qq' (by first|exact QV.tail HQ.out.1 HQ.out.2.1 (by simp [mcCs]) i4 HQ.out.2.2.1 HQ.out.2.2.2.1 HQ.out.2.2.2.2|exact QV.tail0 HQ.out.1 HQ.out.2.1 (by simp [mcCs]) (by omega) (by have:=HQ.out.2.2.2.1;omega))⟩⟩
     case round=>
      obtain ⟨k,hk,rfl,ev1,g1,HY⟩:=hrel
      have HST:Hid (k<256->mcCs 0 b (k+1) (S,Q)=mcC 0 b k (mcCs 0 b k (S,Q))):=Lib.hid fun _=>rfl
      generalize hR:mcCs 0 b k (S,Q)=R at*
      obtain ⟨S1,Q1⟩:=R
      simp only [] at HY
      obtain ⟨y1,y2⟩:=HY.out
      have HRR:=Lib.hid hR
      by_cases hkl:k<256
      ·have hst:mcCs 0 b (k+1) (S,Q)=mcC 0 b k (S1,Q1):=HST.out hkl
       have hss:=y2.ss
       have hn1:S1.n=T.n:=y1.n
       rw [←hn1] at hss
       have h0n:0<S1.n:=by rw [hn1];exact HTP.out.2.wt.pos
       have z1:=hss.nx h0n hkl
       rw [Nat.zero_mul,Nat.zero_add] at z1
       have zf:=hss.own.frozenAt k
       have hot:=y1.other hkl
       rw [if_pos rfl] at hot
       have HH:=Lib.hid (And.intro y1 (And.intro y2 (And.intro hst (And.intro hn1 hot))))
       have j1:((k:Nat):Int)<256:=by omega
       clear hss hn1 y1 y2 hst hR HST HY
       by_cases hneg:S1.nx 0 k<0
       ·have HNG:Hid (mcC 0 b k (S1,Q1)=(S1.setNx 0 k 0,Q1)):=Lib.hid (by
         unfold mcC
         rw [if_pos hneg]
         rfl)
        go_wp2_with fail
        refine ⟨⟨k+1,by omega,rfl,ev1,g1,Lib.hid ?_⟩,by simp [intOf];omega⟩
        rw [HH.out.2.2.1,HNG.out]
        refine ⟨HH.out.1.fill hkl 0 HH.out.2.2.2.2, ?_⟩
        have h1:=HH.out.2.1.fill HH.out.2.2.2.1 HTP.out.2.wt.pos hkl 0
        rw [Nat.zero_mul,Nat.zero_add] at h1
        exact h1
       ·obtain ⟨t,ht⟩: ∃ t:Nat,S1.nx 0 k=(t:Int):=Int.eq_ofNat_of_zero_le (by omega)
        have hch:=HH.out.1.child HTP.out.1 hkl hneg 0 hot
        rw [ht,Int.toNat_natCast] at hch
        rw [ht] at z1
        have HCH:=Lib.hid hch
        have HTT:=Lib.hid ht
        have j2:((t:Nat):Int)<((T.n:Nat):Int):=by have:=hch.2;omega
        have z2:wr.cell? ⟨g2,t*258+256,none⟩=some (.int .i16 (S1.bk t)):=by
         have h1:=HH.out.2.1.ss
         rw [←HH.out.2.2.2.1] at h1
         exact h1.bk (by rw [HH.out.2.2.2.1];exact hch.2)
        have zf2:wr.frozen? ⟨g2,t*258+256,none⟩=false:=by
         have h1:=HH.out.2.1.ss
         rw [←HH.out.2.2.2.1] at h1
         exact h1.own.frozenAt _
        have j3: ¬ ((t:Nat):Int)<0:=by omega
        have HNG:Hid (mcC 0 b k (S1,Q1)=(S1.setBk t 0,Q1++[t])):=Lib.hid (by
         unfold mcC
         rw [if_neg hneg]
         simp only [ht,Int.toNat_natCast]
         rfl)
        have hms:m<=wr.heap.size:=Nat.le_trans HH.out.2.1.qq.lt.1 (Nat.le_of_lt HH.out.2.1.qq.lt.2)
        have hwb:=HH.out.2.1.back HH.out.2.2.2.1 hch.2 0
        have hlq:(qL Q1).length<=100000:=by
         have h1:=nd_len T.n _ HH.out.1.nd HH.out.1.lt
         have h2:=HTP.out.2.n
         have h3:=HLN.out
         rw [List.length_append,List.length_cons] at h1
         rw [List.length_map]
         omega
        have HWB:=Lib.hid (And.intro hwb (And.intro hms hlq))
        clear hch ht hneg hot hms hwb hlq
        go_wp2_with (at_builtin;refine wpList_appQ elemQ rfl _ _ rfl rfl (HWB.out.1.alloc (by rw [World.size_setCell];exact HWB.out.2.1) _).qq ⟨wr.heap.size,0,none⟩ 1 (.int .i16 ((t:Nat):Int)) rfl (by have:=(Go.Proofs.YtmokmalepelinaaGreatDoor.Blk.new (wr.setCell ⟨g2,t*258+256,none⟩ (.int .i16 0)) 251 #[.int .i16 ((t:Nat):Int)]).cell 0;rw [World.size_setCell] at this;exact this) rfl (by rw [World.size_alloc,World.size_setCell];exact Nat.le_succ_of_le HWB.out.2.1) (by have:=HWB.out.2.2;omega) (by decide) ?_;intro v' w8 g8 hq8 hg8 hat8;have HE8:=Lib.hid ((HWB.out.1.alloc (by rw [World.size_setCell];exact HWB.out.2.1) _).grown (by rw [World.size_alloc,World.size_setCell];exact Nat.le_succ_of_le HWB.out.2.1) hq8 hg8 hat8);obtain ⟨off8,cap8,cur8,rfl,_⟩:=hq8;clear hg8 hat8)
        refine ⟨⟨k+1,by omega,rfl,ev1,g8,Lib.hid ?_⟩,by simp [intOf];omega⟩
        rw [HH.out.2.2.1,HNG.out]
        have h8:=HE8.out
        rw [show (qL Q1++[Value.int IntKind.i16 ((t:Nat):Int)]).length=Q1.length+1 from by simp] at h8
        exact ⟨HCH.out.1,h8⟩
      ·obtain rfl:k=256:=by omega
       go_wp2_with fail
       go_roundg f'
       case measure=>omega
       case rel=>
        have hr1:=HR1.out
        rw [HRR.out] at hr1
        exact ⟨S1,D++[0],Q1,ev1,g1,Lib.hid ⟨hr1,by have:=HR2.out;rw [List.length_append,List.length_singleton];omega,y1.close,y2⟩⟩)
   ·obtain ⟨hb0,hbD⟩:=r3.i3 D a Q rfl ha
    obtain ⟨b,hb⟩:=Int.eq_ofNat_of_zero_le hb0
    rw [hb,Int.toNat_natCast] at hbD
    rw [hb] at z1
    have hbl:b<T.n:=r3.lt b (List.mem_append.2 (.inl hbD))
    have hj0:=MI.open (fun i=>Nat.le_trans (HEN.out i).1 HLN.out) r3
    have hmS:mcS S a=S.setEn a (S.en a++S.en b):=by
     unfold mcS
     rw [if_neg ha,hb,Int.toNat_natCast]
    rw [hmS,hb,Int.toNat_natCast] at hj0
    have HJ0:=Lib.hid hj0
    have hr1: ∃ f',gk=f'+1/\mcR f' (mcCs a b 256 (S.setEn a (S.en a++S.en b),Q)).1 (mcCs a b 256 (S.setEn a (S.en a++S.en b),Q)).2=machP p:=by
     cases hgk:gk with
     |zero=>
      rw [hgk] at r2
      have h1:=nd_len T.n (D++a::Q) r3.nd r3.lt
      rw [List.length_append,List.length_cons] at h1
      omega
     |succ f'=>
      refine ⟨f',rfl, ?_⟩
      rw [hgk] at r1
      have r1:mcR f' (mcCs a (S.bk a).toNat 256 (mcS S a,Q)).1 (mcCs a (S.bk a).toNat 256 (mcS S a,Q)).2=machP p:=r1
      rw [hmS,hb,Int.toNat_natCast] at r1
      exact r1
    obtain ⟨f',rfl,hr1⟩:=hr1
    have y5:=hss.en (show a<S.n by rw [r3.n];exact hal)
    have y6:=hss.en (show b<S.n by rw [r3.n];exact hbl)
    have hla:(S.en a).length<=100/\(S.en b).length<=100*T.n:=by
     have h1:=nd_len T.n (D++a::Q) r3.nd r3.lt
     rw [List.length_append,List.length_cons] at h1
     have had:a ∉ D:=fun hm=>(List.nodup_append.1 r3.nd).2.2 a hm a (List.mem_cons_self ..) rfl
     have h2:=r3.e2 b hbD
     refine ⟨?_,Nat.le_trans h2 (Nat.mul_le_mul_left 100 (by omega))⟩
     rw [r3.e1 a had]
     exact Nat.le_trans (HEN.out a).1 HLN.out
    have i5:((b:Nat):Int)<((T.n:Nat):Int):=by omega
    have i6: ¬ ((a:Nat):Int)=0:=by omega
    have HR1:=Lib.hid hr1
    have HR2:=Lib.hid r2
    have HW0:=Lib.hid r4
    have HSN:=Lib.hid (And.intro r3.n (And.intro hal hbl))
    have HLA:=Lib.hid hla
    have HA:=Lib.hid ha
    clear r1 r2 r3 r4 q1 q2 q3 q4 q5 q6 HR hss hl hal hbl hj0 hr1 hb hb0 hbD hmS hla ha
    obtain ⟨Ab,cb,hvb⟩:=own_sliceT (HW0.out.ss.inn b (by rw [HSN.out.1];exact HSN.out.2.2))
    rw [hvb] at y6
    have HVB:=Lib.hid hvb
    clear hvb
    go_wp2_with fail
    all_goals (
     first
      |(have HWT:=Lib.hid (HW0.out.qq' (Q':=Q) (QV.tail0 (off:=off) (n:=Q.length) (l:=qL Q) HQ.out.1 HQ.out.2.1 (by simp) (by omega) (by have:=HQ.out.2.2.2.1;omega))))
      |(have HWT:=Lib.hid (HW0.out.qq' (Q':=Q) (QV.tail (off:=off) (n:=Q.length) (l:=qL Q) HQ.out.1 HQ.out.2.1 (by simp) i4 HQ.out.2.2.1 HQ.out.2.2.2.1 HQ.out.2.2.2.2)))
     refine wp_region_held_drew (S:=fun _=>True) (by kernel_rfl) trivial (fun hS=> ?_)
     refine anyH_val 0 28 (.slice (some ⟨g2,0,none⟩) T.n cap2) (by assumption) rfl (by kernel_rfl) (by kernel_rfl) (by kernel_rfl) (fun o ho=>by cases ho;exact ⟨rfl,fun w hw=>by (try dsimp only at hw);go_simp⟩) (fun _ _ _ _ _ h=>h) ?_
     simp only [List.setIfInBounds_toArray,List.set_cons_zero,List.set_cons_succ]
     refine anyH_val 1 29 (.int .i16 ((a:Nat):Int)) (by assumption) rfl (by kernel_rfl) (by kernel_rfl) (by kernel_rfl) (fun o ho=>by cases ho;exact ⟨rfl,fun w hw=>by (try dsimp only at hw);go_simp⟩) (fun _ _ _ _ _ h=>h) ?_
     simp only [List.setIfInBounds_toArray,List.set_cons_zero,List.set_cons_succ]
     refine anyH_val 2 30 (.slice (some ⟨g2,0,none⟩) T.n cap2) (by assumption) rfl (by kernel_rfl) (by kernel_rfl) (by kernel_rfl) (fun o ho=>by cases ho;exact ⟨rfl,fun w hw=>by (try dsimp only at hw);go_simp⟩) (fun _ _ _ _ _ h=>h) ?_
     simp only [List.setIfInBounds_toArray,List.set_cons_zero,List.set_cons_succ]
     refine anyH_val 3 31 (.int .i16 ((a:Nat):Int)) (by assumption) rfl (by kernel_rfl) (by kernel_rfl) (by kernel_rfl) (fun o ho=>by cases ho;exact ⟨rfl,fun w hw=>by (try dsimp only at hw);go_simp⟩) (fun _ _ _ _ _ h=>h) ?_
     simp only [List.setIfInBounds_toArray,List.set_cons_zero,List.set_cons_succ]
     refine anyH_val 4 32 (.pointer (some ⟨g2,a*258,none⟩)) (by assumption) rfl (by kernel_rfl) (by kernel_rfl) (by kernel_rfl) (fun o ho=>by cases ho;exact ⟨rfl,fun w hw=>by (try dsimp only at hw);go_simp⟩) (fun _ _ _ _ _ h=>h) ?_
     simp only [List.setIfInBounds_toArray,List.set_cons_zero,List.set_cons_succ]
     refine anyH_val 5 33 (.pointer (some ⟨g2,a*258+257,none⟩)) (by assumption) rfl (by kernel_rfl) (by kernel_rfl) (by kernel_rfl) (fun o ho=>by cases ho;exact ⟨rfl,fun w hw=>by (try dsimp only at hw);go_simp⟩) (fun _ _ _ _ _ h=>h) ?_
     simp only [List.setIfInBounds_toArray,List.set_cons_zero,List.set_cons_succ]
     refine anyH_val 7 35 (.slice (some ⟨g2,0,none⟩) T.n cap2) (by assumption) rfl (by kernel_rfl) (by kernel_rfl) (by kernel_rfl) (fun o ho=>by cases ho;exact ⟨rfl,fun w hw=>by (try dsimp only at hw);go_simp⟩) (fun _ _ _ _ _ h=>h) ?_
     simp only [List.setIfInBounds_toArray,List.set_cons_zero,List.set_cons_succ]
     refine anyH_val 8 36 (.int .i16 ((b:Nat):Int)) (by assumption) rfl (by kernel_rfl) (by kernel_rfl) (by kernel_rfl) (fun o ho=>by cases ho;exact ⟨rfl,fun w hw=>by (try dsimp only at hw);go_simp⟩) (fun _ _ _ _ _ h=>h) ?_
     simp only [List.setIfInBounds_toArray,List.set_cons_zero,List.set_cons_succ]
     refine anyH_val 9 37 (.pointer (some ⟨g2,b*258,none⟩)) (by assumption) rfl (by kernel_rfl) (by kernel_rfl) (by kernel_rfl) (fun o ho=>by cases ho;exact ⟨rfl,fun w hw=>by (try dsimp only at hw);go_simp⟩) (fun _ _ _ _ _ h=>h) ?_
     simp only [List.setIfInBounds_toArray,List.set_cons_zero,List.set_cons_succ]
     refine anyH_val 10 38 (.pointer (some ⟨g2,b*258+257,none⟩)) (by assumption) rfl (by kernel_rfl) (by kernel_rfl) (by kernel_rfl) (fun o ho=>by cases ho;exact ⟨rfl,fun w hw=>by (try dsimp only at hw);go_simp⟩) (fun _ _ _ _ _ h=>h) ?_
     simp only [List.setIfInBounds_toArray,List.set_cons_zero,List.set_cons_succ]
     refine wpAnyH_ready (rs:=[6,11]) (by kernel_rfl) (by simp) ?_
     refine AllReadyH.cons rfl (fun K hK=> ?_) (AllReadyH.cons rfl (fun K hK=> ?_) AllReadyH.nil)
     ·go_simp
      refine hK.out _ _ trivial (fun hS=> ?_)
      clear hK K
      (try simp only [Act.put,List.setIfInBounds_toArray,List.set_cons_zero,List.set_cons_succ])
      refine wpAnyH_ready (rs:=[11]) (by kernel_rfl) (by simp) ?_
      refine AllReadyH.cons rfl (fun K hK=> ?_) AllReadyH.nil
      go_simp
      refine hK.out _ _ trivial (fun hS=> ?_)
      clear hK K
      (try simp only [Act.put,List.setIfInBounds_toArray,List.set_cons_zero,List.set_cons_succ])
      refine wpAnyH_ready (rs:=[12]) (by kernel_rfl) (by simp) ?_
      refine AllReadyH.cons rfl (fun K hK=> ?_) AllReadyH.nil
      refine step_appT 40 rfl elemIn rfl _ _ rfl m (ev' a) (S.en a).length ((S.en a).map (Value.int .i64)) rfl (HW0.out.drew_.ss.inn a (by rw [HSN.out.1];exact HSN.out.2.1)) Ab (S.en b).length cb ((S.en b).map (Value.int .i64)) rfl (HVB.out▸Sl.of_own (HW0.out.drew_.ss.inn b (by rw [HSN.out.1];exact HSN.out.2.2))) (fun u hu=>by obtain ⟨_,_,rfl⟩:=List.mem_map.1 hu;rfl) (by have h1:=HLA.out;have h2:=HTP.out.2.n;have h3:=HLN.out;omega) (by decide) (Nat.le_trans HW0.out.qq.lt.1 (Nat.le_of_lt HW0.out.qq.lt.2)) ?_
      intro v' w5 hown5 hg5 hat5
      obtain ⟨A',cc',rfl⟩:=own_sliceT hown5
      obtain ⟨z8,zf8,ev8,hw8⟩:=MW.ends HSN.out.1 HWT.out.drew_ HSN.out.2.1 (l:=S.en b) hown5 hg5 hat5
      have HW8:=Lib.hid hw8
      clear hw8 hown5 hg5 hat5
      refine hK.out _ _ trivial (fun hS=> ?_)
      clear hK K
      (try simp only [Act.put,List.setIfInBounds_toArray,List.set_cons_zero,List.set_cons_succ])
      refine anyH_val 13 41 (.pointer (some ⟨g2,a*258,none⟩)) (by assumption) rfl (by kernel_rfl) (by kernel_rfl) (by kernel_rfl) (fun o ho=>by cases ho;exact ⟨rfl,fun w hw=>by (try dsimp only at hw);go_simp⟩) (fun _ _ _ _ _ h=>h) ?_
      simp only [List.setIfInBounds_toArray,List.set_cons_zero,List.set_cons_succ]
      refine anyH_val 14 42 (.pointer (some ⟨g2,a*258+257,none⟩)) (by assumption) rfl (by kernel_rfl) (by kernel_rfl) (by kernel_rfl) (fun o ho=>by cases ho;exact ⟨rfl,fun w hw=>by (try dsimp only at hw);go_simp⟩) (fun _ _ _ _ _ h=>h) ?_
      simp only [List.setIfInBounds_toArray,List.set_cons_zero,List.set_cons_succ]
      refine wpAnyH_ready (rs:=[15]) (by kernel_rfl) (by simp) ?_
      refine AllReadyH.cons rfl (fun K hK=> ?_) AllReadyH.nil
      go_simp
      refine hK.out _ _ trivial (fun hS=> ?_)
      clear hK K
      (try simp only [Act.put,List.setIfInBounds_toArray,List.set_cons_zero,List.set_cons_succ])
      refine wpAnyH_done (by kernel_rfl) ?_ _
      clear hS z8 zf8
      go_wp2_with fail
      go_loopw [4,43] (fun qv cv wy=> ∃ k:Nat,k<=256/\cv= .int .i64 k∧ ∃ ev g,Hid (MJ T p.length (mcCs a b k (S.setEn a (S.en a++S.en b),Q)).1 D a b (mcCs a b k (S.setEn a (S.en a++S.en b),Q)).2 k/\MW m w (.slice (some ⟨g2,0,none⟩) T.n cap2) qv (mcCs a b k (S.setEn a (S.en a++S.en b),Q)).1 (mcCs a b k (S.setEn a (S.en a++S.en b),Q)).2 wy ev g)) (fun _ cv _=>256-(intOf cv).toNat)
      case atStart=>exact ⟨0,Nat.zero_le _,rfl,ev8,g,Lib.hid ⟨HJ0.out,HW8.out⟩⟩
      case round=>
       obtain ⟨k,hk,rfl,ev1,g1,HY⟩:=hrel
       have HST:Hid (k<256->mcCs a b (k+1) (S.setEn a (S.en a++S.en b),Q)=mcC a b k (mcCs a b k (S.setEn a (S.en a++S.en b),Q))):=Lib.hid fun _=>rfl
       generalize hR:mcCs a b k (S.setEn a (S.en a++S.en b),Q)=R at*
       obtain ⟨S1,Q1⟩:=R
       simp only [] at HY
       obtain ⟨y1,y2⟩:=HY.out
       have HRR:=Lib.hid hR
       by_cases hkl:k<256
       ·have hst:mcCs a b (k+1) (S.setEn a (S.en a++S.en b),Q)=mcC a b k (S1,Q1):=HST.out hkl
        have hss:=y2.ss
        have hn1:S1.n=T.n:=y1.n
        rw [←hn1] at hss
        have z1:=hss.nx (show a<S1.n by rw [hn1];exact HSN.out.2.1) hkl
        have z3:=hss.nx (show b<S1.n by rw [hn1];exact HSN.out.2.2) hkl
        have zf:=hss.own.frozenAt (a*258+k)
        have hot:=y1.other hkl
        rw [if_neg HA.out] at hot
        have HH:=Lib.hid (And.intro y1 (And.intro y2 (And.intro hst (And.intro hn1 hot))))
        have j1:((k:Nat):Int)<256:=by omega
        clear hss hn1 y1 y2 hst hR HST HY
        by_cases hneg:S1.nx a k<0
        ·have HNG:Hid (mcC a b k (S1,Q1)=(S1.setNx a k (S1.nx b k),Q1)):=Lib.hid (by
          unfold mcC
          rw [if_pos hneg,if_neg HA.out])
         go_wp2_with fail
         refine ⟨⟨k+1,by omega,rfl,ev1,g1,Lib.hid ?_⟩,by simp [intOf];omega⟩
         rw [HH.out.2.2.1,HNG.out]
         exact ⟨HH.out.1.fill hkl _ HH.out.2.2.2.2,HH.out.2.1.fill HH.out.2.2.2.1 HSN.out.2.1 hkl _⟩
        ·obtain ⟨t,ht⟩: ∃ t:Nat,S1.nx a k=(t:Int):=Int.eq_ofNat_of_zero_le (by omega)
         have hch:=HH.out.1.child HTP.out.1 hkl hneg (S1.nx b k) hot
         rw [ht,Int.toNat_natCast] at hch
         rw [ht] at z1
         have HCH:=Lib.hid hch
         have HTT:=Lib.hid ht
         have j2:((t:Nat):Int)<((T.n:Nat):Int):=by have:=hch.2;omega
         have z2:wr.cell? ⟨g2,t*258+256,none⟩=some (.int .i16 (S1.bk t)):=by
          have h1:=HH.out.2.1.ss
          rw [←HH.out.2.2.2.1] at h1
          exact h1.bk (by rw [HH.out.2.2.2.1];exact hch.2)
         have zf2:wr.frozen? ⟨g2,t*258+256,none⟩=false:=by
          have h1:=HH.out.2.1.ss
          rw [←HH.out.2.2.2.1] at h1
          exact h1.own.frozenAt _
         have j3: ¬ ((t:Nat):Int)<0:=by omega
         have HNG:Hid (mcC a b k (S1,Q1)=(S1.setBk t (S1.nx b k),Q1++[t])):=Lib.hid (by
          unfold mcC
          rw [if_neg hneg,if_neg HA.out]
          simp only [ht,Int.toNat_natCast])
         have hms:m<=wr.heap.size:=Nat.le_trans HH.out.2.1.qq.lt.1 (Nat.le_of_lt HH.out.2.1.qq.lt.2)
         have hwb:=HH.out.2.1.back HH.out.2.2.2.1 hch.2 (S1.nx b k)
         have hlq:(qL Q1).length<=100000:=by
          have h1:=nd_len T.n _ HH.out.1.nd HH.out.1.lt
          have h2:=HTP.out.2.n
          have h3:=HLN.out
          rw [List.length_append,List.length_cons] at h1
          rw [List.length_map]
          omega
         have HWB:=Lib.hid (And.intro hwb (And.intro hms hlq))
         clear hch ht hneg hot hms hwb hlq
         go_wp2_with (at_builtin;refine wpList_appQ elemQ rfl _ _ rfl rfl (HWB.out.1.alloc (by rw [World.size_setCell];exact HWB.out.2.1) _).qq ⟨wr.heap.size,0,none⟩ 1 (.int .i16 ((t:Nat):Int)) rfl (by have:=(Go.Proofs.YtmokmalepelinaaGreatDoor.Blk.new (wr.setCell ⟨g2,t*258+256,none⟩ (.int .i16 (S1.nx b k))) 251 #[.int .i16 ((t:Nat):Int)]).cell 0;rw [World.size_setCell] at this;exact this) rfl (by rw [World.size_alloc,World.size_setCell];exact Nat.le_succ_of_le HWB.out.2.1) (by have:=HWB.out.2.2;omega) (by decide) ?_;intro v' w8 g8 hq8 hg8 hat8;have HE8:=Lib.hid ((HWB.out.1.alloc (by rw [World.size_setCell];exact HWB.out.2.1) _).grown (by rw [World.size_alloc,World.size_setCell];exact Nat.le_succ_of_le HWB.out.2.1) hq8 hg8 hat8);obtain ⟨off8,cap8,cur8,rfl,_⟩:=hq8;clear hg8 hat8)
         refine ⟨⟨k+1,by omega,rfl,ev1,g8,Lib.hid ?_⟩,by simp [intOf];omega⟩
         rw [HH.out.2.2.1,HNG.out]
         have h8:=HE8.out
         rw [show (qL Q1++[Value.int IntKind.i16 ((t:Nat):Int)]).length=Q1.length+1 from by simp] at h8
         exact ⟨HCH.out.1,h8⟩
       ·obtain rfl:k=256:=by omega
        go_wp2_with fail
        go_roundg f'
        case measure=>omega
        case rel=>
         have hr1:=HR1.out
         rw [HRR.out] at hr1
         exact ⟨S1,D++[a],Q1,ev1,g1,Lib.hid ⟨hr1,by have:=HR2.out;rw [List.length_append,List.length_singleton];omega,y1.close,y2⟩⟩
     ·go_simp
      refine hK.out _ _ trivial (fun hS=> ?_)
      clear hK K
      (try simp only [Act.put,List.setIfInBounds_toArray,List.set_cons_zero,List.set_cons_succ])
      refine wpAnyH_ready (rs:=[6]) (by kernel_rfl) (by simp) ?_
      refine AllReadyH.cons rfl (fun K hK=> ?_) AllReadyH.nil
      go_simp
      refine hK.out _ _ trivial (fun hS=> ?_)
      clear hK K
      (try simp only [Act.put,List.setIfInBounds_toArray,List.set_cons_zero,List.set_cons_succ])
      refine wpAnyH_ready (rs:=[12]) (by kernel_rfl) (by simp) ?_
      refine AllReadyH.cons rfl (fun K hK=> ?_) AllReadyH.nil
      refine step_appT 40 rfl elemIn rfl _ _ rfl m (ev' a) (S.en a).length ((S.en a).map (Value.int .i64)) rfl (HW0.out.drew_.ss.inn a (by rw [HSN.out.1];exact HSN.out.2.1)) Ab (S.en b).length cb ((S.en b).map (Value.int .i64)) rfl (HVB.out▸Sl.of_own (HW0.out.drew_.ss.inn b (by rw [HSN.out.1];exact HSN.out.2.2))) (fun u hu=>by obtain ⟨_,_,rfl⟩:=List.mem_map.1 hu;rfl) (by have h1:=HLA.out;have h2:=HTP.out.2.n;have h3:=HLN.out;omega) (by decide) (Nat.le_trans HW0.out.qq.lt.1 (Nat.le_of_lt HW0.out.qq.lt.2)) ?_
      intro v' w5 hown5 hg5 hat5
      obtain ⟨A',cc',rfl⟩:=own_sliceT hown5
      obtain ⟨z8,zf8,ev8,hw8⟩:=MW.ends HSN.out.1 HWT.out.drew_ HSN.out.2.1 (l:=S.en b) hown5 hg5 hat5
      have HW8:=Lib.hid hw8
      clear hw8 hown5 hg5 hat5
      refine hK.out _ _ trivial (fun hS=> ?_)
      clear hK K
      (try simp only [Act.put,List.setIfInBounds_toArray,List.set_cons_zero,List.set_cons_succ])
      refine anyH_val 13 41 (.pointer (some ⟨g2,a*258,none⟩)) (by assumption) rfl (by kernel_rfl) (by kernel_rfl) (by kernel_rfl) (fun o ho=>by cases ho;exact ⟨rfl,fun w hw=>by (try dsimp only at hw);go_simp⟩) (fun _ _ _ _ _ h=>h) ?_
      simp only [List.setIfInBounds_toArray,List.set_cons_zero,List.set_cons_succ]
      refine anyH_val 14 42 (.pointer (some ⟨g2,a*258+257,none⟩)) (by assumption) rfl (by kernel_rfl) (by kernel_rfl) (by kernel_rfl) (fun o ho=>by cases ho;exact ⟨rfl,fun w hw=>by (try dsimp only at hw);go_simp⟩) (fun _ _ _ _ _ h=>h) ?_
      simp only [List.setIfInBounds_toArray,List.set_cons_zero,List.set_cons_succ]
      refine wpAnyH_ready (rs:=[15]) (by kernel_rfl) (by simp) ?_
      refine AllReadyH.cons rfl (fun K hK=> ?_) AllReadyH.nil
      go_simp
      refine hK.out _ _ trivial (fun hS=> ?_)
      clear hK K
      (try simp only [Act.put,List.setIfInBounds_toArray,List.set_cons_zero,List.set_cons_succ])
      refine wpAnyH_done (by kernel_rfl) ?_ _
      clear hS z8 zf8
      go_wp2_with fail
      go_loopw [4,43] (fun qv cv wy=> ∃ k:Nat,k<=256/\cv= .int .i64 k∧ ∃ ev g,Hid (MJ T p.length (mcCs a b k (S.setEn a (S.en a++S.en b),Q)).1 D a b (mcCs a b k (S.setEn a (S.en a++S.en b),Q)).2 k/\MW m w (.slice (some ⟨g2,0,none⟩) T.n cap2) qv (mcCs a b k (S.setEn a (S.en a++S.en b),Q)).1 (mcCs a b k (S.setEn a (S.en a++S.en b),Q)).2 wy ev g)) (fun _ cv _=>256-(intOf cv).toNat)
      case atStart=>exact ⟨0,Nat.zero_le _,rfl,ev8,g,Lib.hid ⟨HJ0.out,HW8.out⟩⟩
      case round=>
       obtain ⟨k,hk,rfl,ev1,g1,HY⟩:=hrel
       have HST:Hid (k<256->mcCs a b (k+1) (S.setEn a (S.en a++S.en b),Q)=mcC a b k (mcCs a b k (S.setEn a (S.en a++S.en b),Q))):=Lib.hid fun _=>rfl
       generalize hR:mcCs a b k (S.setEn a (S.en a++S.en b),Q)=R at*
       obtain ⟨S1,Q1⟩:=R
       simp only [] at HY
       obtain ⟨y1,y2⟩:=HY.out
       have HRR:=Lib.hid hR
       by_cases hkl:k<256
       ·have hst:mcCs a b (k+1) (S.setEn a (S.en a++S.en b),Q)=mcC a b k (S1,Q1):=HST.out hkl
        have hss:=y2.ss
        have hn1:S1.n=T.n:=y1.n
        rw [←hn1] at hss
        have z1:=hss.nx (show a<S1.n by rw [hn1];exact HSN.out.2.1) hkl
        have z3:=hss.nx (show b<S1.n by rw [hn1];exact HSN.out.2.2) hkl
        have zf:=hss.own.frozenAt (a*258+k)
        have hot:=y1.other hkl
        rw [if_neg HA.out] at hot
        have HH:=Lib.hid (And.intro y1 (And.intro y2 (And.intro hst (And.intro hn1 hot))))
        have j1:((k:Nat):Int)<256:=by omega
        clear hss hn1 y1 y2 hst hR HST HY
        by_cases hneg:S1.nx a k<0
        ·have HNG:Hid (mcC a b k (S1,Q1)=(S1.setNx a k (S1.nx b k),Q1)):=Lib.hid (by
          unfold mcC
          rw [if_pos hneg,if_neg HA.out])
         go_wp2_with fail
         refine ⟨⟨k+1,by omega,rfl,ev1,g1,Lib.hid ?_⟩,by simp [intOf];omega⟩
         rw [HH.out.2.2.1,HNG.out]
         exact ⟨HH.out.1.fill hkl _ HH.out.2.2.2.2,HH.out.2.1.fill HH.out.2.2.2.1 HSN.out.2.1 hkl _⟩
        ·obtain ⟨t,ht⟩: ∃ t:Nat,S1.nx a k=(t:Int):=Int.eq_ofNat_of_zero_le (by omega)
         have hch:=HH.out.1.child HTP.out.1 hkl hneg (S1.nx b k) hot
         rw [ht,Int.toNat_natCast] at hch
         rw [ht] at z1
         have HCH:=Lib.hid hch
         have HTT:=Lib.hid ht
         have j2:((t:Nat):Int)<((T.n:Nat):Int):=by have:=hch.2;omega
         have z2:wr.cell? ⟨g2,t*258+256,none⟩=some (.int .i16 (S1.bk t)):=by
          have h1:=HH.out.2.1.ss
          rw [←HH.out.2.2.2.1] at h1
          exact h1.bk (by rw [HH.out.2.2.2.1];exact hch.2)
         have zf2:wr.frozen? ⟨g2,t*258+256,none⟩=false:=by
          have h1:=HH.out.2.1.ss
          rw [←HH.out.2.2.2.1] at h1
          exact h1.own.frozenAt _
         have j3: ¬ ((t:Nat):Int)<0:=by omega
         have HNG:Hid (mcC a b k (S1,Q1)=(S1.setBk t (S1.nx b k),Q1++[t])):=Lib.hid (by
          unfold mcC
          rw [if_neg hneg,if_neg HA.out]
          simp only [ht,Int.toNat_natCast])
         have hms:m<=wr.heap.size:=Nat.le_trans HH.out.2.1.qq.lt.1 (Nat.le_of_lt HH.out.2.1.qq.lt.2)
         have hwb:=HH.out.2.1.back HH.out.2.2.2.1 hch.2 (S1.nx b k)
         have hlq:(qL Q1).length<=100000:=by
          have h1:=nd_len T.n _ HH.out.1.nd HH.out.1.lt
          have h2:=HTP.out.2.n
          have h3:=HLN.out
          rw [List.length_append,List.length_cons] at h1
          rw [List.length_map]
          omega
         have HWB:=Lib.hid (And.intro hwb (And.intro hms hlq))
         clear hch ht hneg hot hms hwb hlq
         go_wp2_with (at_builtin;refine wpList_appQ elemQ rfl _ _ rfl rfl (HWB.out.1.alloc (by rw [World.size_setCell];exact HWB.out.2.1) _).qq ⟨wr.heap.size,0,none⟩ 1 (.int .i16 ((t:Nat):Int)) rfl (by have:=(Go.Proofs.YtmokmalepelinaaGreatDoor.Blk.new (wr.setCell ⟨g2,t*258+256,none⟩ (.int .i16 (S1.nx b k))) 251 #[.int .i16 ((t:Nat):Int)]).cell 0;rw [World.size_setCell] at this;exact this) rfl (by rw [World.size_alloc,World.size_setCell];exact Nat.le_succ_of_le HWB.out.2.1) (by have:=HWB.out.2.2;omega) (by decide) ?_;intro v' w8 g8 hq8 hg8 hat8;have HE8:=Lib.hid ((HWB.out.1.alloc (by rw [World.size_setCell];exact HWB.out.2.1) _).grown (by rw [World.size_alloc,World.size_setCell];exact Nat.le_succ_of_le HWB.out.2.1) hq8 hg8 hat8);obtain ⟨off8,cap8,cur8,rfl,_⟩:=hq8;clear hg8 hat8)
         refine ⟨⟨k+1,by omega,rfl,ev1,g8,Lib.hid ?_⟩,by simp [intOf];omega⟩
         rw [HH.out.2.2.1,HNG.out]
         have h8:=HE8.out
         rw [show (qL Q1++[Value.int IntKind.i16 ((t:Nat):Int)]).length=Q1.length+1 from by simp] at h8
         exact ⟨HCH.out.1,h8⟩
       ·obtain rfl:k=256:=by omega
        go_wp2_with fail
        go_roundg f'
        case measure=>omega
        case rel=>
         have hr1:=HR1.out
         rw [HRR.out] at hr1
         exact ⟨S1,D++[a],Q1,ev1,g1,Lib.hid ⟨hr1,by have:=HR2.out;rw [List.length_append,List.length_singleton];omega,y1.close,y2⟩⟩
    )
end Go.Proofs.YtmokmalepelinaaGreatDoor.K
namespace Go.Proofs.YtmokmalepelinaaGreatDoor.K
open Go.RowKit Go.Region
attribute [local go_sem ↓] Go.wp_at_zero Go.wp_at_succ
set_option linter.unusedSectionVars false
attribute [local irreducible] nwL mcL
def hit1 (o:List Int)(k v:Int):List Int:=if o.getD k.toNat 0<0 then o.set k.toNat v else o
theorem hit1_len (o:List Int)(k v:Int):(hit1 o k v).length=o.length:=by
 unfold hit1
 split<;>simp
structure OW (w:World) (bx m:Nat) (g:Nat) (o:List Int):Prop where
 bk: ∃ cap,Go.Proofs.YtmokmalepelinaaGreatDoor.Blk w bx 22 #[.slice (some ⟨g,0,none⟩) o.length cap]/\w.ownsRow m 3 1 (.slice (some ⟨g,0,none⟩) o.length cap) o.length (o.map (Value.int .i64))
 ne:g≠bx
set_option maxHeartbeats 4000000 in
theorem first1_calls {w:World}{bx m g:Nat}{o:List Int}{k v:Int}(h:OW w bx m g o)(hk:0<=k/\k<o.length):
  Calls Tryz.prog 92 #[.agg #[.int .i64 k,.int .i64 v],.pointer (some ⟨bx,0,none⟩)] w fun e w'=>e= .returned (.bool true)/\OW w' bx m g (hit1 o k v)/\w.grownBy w' (some g):=by
 obtain ⟨cap,h1,h2⟩:=h.bk
 obtain ⟨kn,rfl⟩:=Int.eq_ofNat_of_zero_le hk.1
 have hkn:kn<o.length:=by omega
 have z0:=h1.cell 0
 simp only [List.getElem?_toArray,List.getElem?_cons_zero] at z0
 have z1:w.cell? ⟨g,kn,none⟩=some (.int .i64 o[kn]):=by
  rw [h2.cellAt kn (by omega),List.getElem?_map,List.getElem?_eq_getElem hkn]
  rfl
 have i1:((kn:Nat):Int)<((o.length:Nat):Int):=by omega
 have hb:=h1.lt
 have hgl:=(h2.lt g rfl).2
 have hgd:o.getD ((kn:Nat):Int).toNat 0=o[kn]:=by
  rw [Int.toNat_natCast,List.getD_eq_getElem?_getD,List.getElem?_eq_getElem hkn]
  rfl
 have H1:=Lib.hid h1
 have H2:=Lib.hid h2
 have HK:=Lib.hid hkn
 have HB:=Lib.hid (And.intro hb (And.intro hgl h.ne))
 have HGD:=Lib.hid hgd
 have z0a:=fun ob=>Lib.cell?_alloc_some ob z0
 have z1a:=fun ob=>Lib.cell?_alloc_some ob z1
 have zfa: ∀ ob,(w.alloc ob).frozen? ⟨g,kn,none⟩=false:=fun ob=>(h2.alloc ob).frozenAt kn
 clear h1 h2 hk hb hgl hgd h
 by_cases hneg:o[kn]<0
 ·have HNG:=Lib.hid hneg
  go_enter Tryz.func92,Tryz.ntmps92
  go_wp2_with fail
  go_ret
  have e:hit1 o ((kn:Nat):Int) v=o.set kn v:=by
   unfold hit1
   rw [HGD.out]
   exact if_pos HNG.out
  rw [e]
  have hs:=(H2.out.alloc (Obj.cells #[Value.int IntKind.i64 ((kn:Nat):Int),Value.int IntKind.i64 v] 182)).stored kn (.int .i64 v)
  refine ⟨rfl,⟨⟨cap, ?_, ?_⟩,HB.out.2.2⟩,only_trans (only_of_below ((Below.refl _ _).alloc (Nat.le_refl _) _) _) hs.2⟩
  ·rw [List.length_set]
   exact (H1.out.alloc _).far (p:=⟨g,kn,none⟩) (fun e=>HB.out.2.2 e.symm) _
  ·rw [List.length_set,List.map_set]
   exact hs.1
 ·have HNG:=Lib.hid hneg
  go_enter Tryz.func92,Tryz.ntmps92
  go_wp2_with fail
  go_ret
  have e:hit1 o ((kn:Nat):Int) v=o:=by
   unfold hit1
   rw [HGD.out]
   exact if_neg (by have:=HNG.out;omega)
  rw [e]
  exact ⟨rfl,⟨⟨cap,H1.out.alloc _,H2.out.alloc _⟩,HB.out.2.2⟩,only_of_below ((Below.refl _ _).alloc (Nat.le_refl _) _) _⟩
def hitK (p:List Pattern)(i:Nat)(o:List Int)(k:Int):List Int:=hit1 o k ((i:Int)+1-(((p.getD k.toNat ((0,(0,())),([],()))).2.1.length:Nat):Int))
def hitL (p:List Pattern)(S:Mch):List Int->Nat->Nat->List Int->List Int
 | [],_,_,o=>o
 |c::l,i,s,o=>hitL p S l (i+1) (S.nx s c.toNat).toNat ((S.en (S.nx s c.toNat).toNat).foldl (hitK p i) o)
theorem hitK_len (p:List Pattern)(i:Nat)(o:List Int)(k:Int):(hitK p i o k).length=o.length:=hit1_len _ _ _
theorem hitF_len (p:List Pattern)(i:Nat): ∀ (l:List Int) (o:List Int),(l.foldl (hitK p i) o).length=o.length
 | [],_=>rfl
 |k::l,o=>by
  rw [List.foldl_cons,hitF_len p i l,hitK_len]
def hitS (S:Mch):List Int->Nat->Nat
 | [],s=>s
 |c::l,s=>hitS S l (S.nx s c.toNat).toNat
theorem hitL_snoc (p:List Pattern)(S:Mch)(c:Int): ∀ (l:List Int) (i s:Nat) (o:List Int),hitL p S (l++[c]) i s o=(S.en (S.nx (hitS S l s) c.toNat).toNat).foldl (hitK p (i+l.length)) (hitL p S l i s o)
 | [],i,s,o=>rfl
 |d::l,i,s,o=>by
  show hitL p S (l++[c]) (i+1) _ _=_
  rw [hitL_snoc p S c l,List.length_cons,show i+1+l.length=i+(l.length+1) by omega]
  rfl
theorem hitS_snoc (S:Mch)(c:Int): ∀ (l:List Int) (s:Nat),hitS S (l++[c]) s=(S.nx (hitS S l s) c.toNat).toNat
 | [],s=>rfl
 |d::l,s=>hitS_snoc S c l _
theorem hitL_len (p:List Pattern)(S:Mch): ∀ (l:List Int) (i s:Nat) (o:List Int),(hitL p S l i s o).length=o.length
 | [],_,_,_=>rfl
 |c::l,i,s,o=>by
  show (hitL p S l _ _ _).length=_
  rw [hitL_len p S l,hitF_len]
structure MF (S:Mch) (K:Nat) (D:List Nat):Prop where
 zero:0∈D
 lt: ∀ i,i∈D->i<S.n
 nx: ∀ i c,i∈D->c<256->0<=S.nx i c/\(S.nx i c).toNat∈D
 en: ∀ i v,v∈S.en i->0<=v/\v<(K:Int)
 el: ∀ i,i∈D->(S.en i).length<=1000100
theorem MF.run {S:Mch}{K:Nat}{D:List Nat}(h:MF S K D): ∀ (l:List Int) (s:Nat),(∀ c,c∈l->0<=c/\c<256)->s∈D->hitS S l s∈D
 | [],_,_,hs=>hs
 |c::l,s,hl,hs=>MF.run h l _ (fun d hd=>hl d (List.mem_cons_of_mem _ hd)) (h.nx s c.toNat hs (by have:=hl c (List.mem_cons_self ..);omega)).2
theorem MJ.all {T S:Mch}{K:Nat}{D Q:List Nat}{a b:Nat}(hT:TP T)(h:MJ T K S D a b Q 0): ∀ k,k<=256->MJ T K (mcCs a b k (S,Q)).1 D a b (mcCs a b k (S,Q)).2 k
 |0,_=>h
 |k+1,hk=>by
  have ih:=MJ.all hT h k (by omega)
  show MJ T K (mcC a b k (mcCs a b k (S,Q))).1 D a b (mcC a b k (mcCs a b k (S,Q))).2 (k+1)
  generalize mcCs a b k (S,Q)=R at ih ⊢
  obtain ⟨S1,Q1⟩:=R
  have ho:=ih.other (show k<256 by omega)
  unfold mcC
  by_cases hn:S1.nx a k<0
  ·rw [if_pos hn]
   exact ih.fill (by omega) _ ho
  ·rw [if_neg hn]
   exact (ih.child hT (by omega) hn _ ho).1
theorem mcR_ok {T:Mch}{K:Nat}(hT:TP T)(hen: ∀ i,(T.en i).length<=100): ∀ (f:Nat) (S:Mch) (D Q:List Nat),MI T K S D Q->f+D.length=T.n→ ∃ D',MI T K (mcR f S Q) D' []
 |f,S,D,[],h,_=>⟨D,by rw [mcR_nil];exact h⟩
 |0,S,D,a::Q,h,hf=>by
  have h1:=nd_len T.n _ h.nd h.lt
  rw [List.length_append,List.length_cons] at h1
  omega
 |f+1,S,D,a::Q,h,hf=>by
  have h1:=(MJ.all hT (h.open hen) 256 (Nat.le_refl _)).close
  exact mcR_ok hT hen f _ (D++[a]) _ h1 (by rw [List.length_append,List.length_singleton];omega)
theorem machP_ok {p:List Pattern}(h:PtOk p): ∃ D,MF (machP p) p.length D:=by
 obtain ⟨h1,h2⟩:=treeP_ok h
 obtain ⟨D,hD⟩:=mcR_ok (K:=p.length) h1 (fun i=>Nat.le_trans (h2.en i).1 h.len) (treeP p).n (treeP p) [] [0] (MI.start h2.wt.pos h2.en) (by rw [List.length_nil];rfl)
 have hD:MI (treeP p) p.length (machP p) D []:=hD
 have e:D++[]=D:=List.append_nil D
 have hl:D.length<=10001:=by
  have h3:=nd_len (treeP p).n D (by rw [←e];exact hD.nd) fun j hj=>hD.lt j (by rw [e];exact hj)
  have:=h2.n
  have:=h.len
  omega
 refine ⟨D,e▸hD.zero,fun i hi=>by rw [hD.n];exact hD.lt i (by rw [e];exact hi),fun i c hi hc=> ?_,hD.ev,fun i hi=>Nat.le_trans (hD.e2 i hi) (by omega)⟩
 have:=hD.i1 i hi c hc
 rw [e] at this
 exact this
end Go.Proofs.YtmokmalepelinaaGreatDoor.K
namespace Go.Proofs.YtmokmalepelinaaGreatDoor.K
open Go.RowKit Go.Region
attribute [local go_sem ↓] Go.wp_at_zero Go.wp_at_succ
set_option linter.unusedSectionVars false
attribute [local irreducible] nwL mcL
structure ByOk (b:List Int):Prop where
 by_: ∀ c,c∈b->0<=c/\c<256
 len:b.length<=1000000
theorem OW.grow {w w':World}{bx m g:Nat}{o:List Int}(h:OW w bx m g o)(hb:Below w.heap.size w w'):OW w' bx m g o:=by
 obtain ⟨cap,h1,h2⟩:=h.bk
 exact ⟨⟨cap,h1.ext hb,own_grown h2 (only_of_below hb none) (fun b _ e=>by cases e)⟩,h.ne⟩
theorem OW.lt {w:World}{bx m g:Nat}{o:List Int}(h:OW w bx m g o):g<w.heap.size/\bx<w.heap.size:=by
 obtain ⟨cap,h1,h2⟩:=h.bk
 exact ⟨(h2.lt g rfl).2,h1.lt⟩
theorem SS.far {w w':World}{ms go:Nat}{sv:Value}{S:Mch}{ev:Nat->Value}(h:SS w ms sv S ev)(hg:w.grownBy w' (some go))(hlt:go<ms):SS w' ms sv S ev:=
 h.keep hg (fun q e hs=>by cases e;have:=(h.own.lt _ hs).1;omega) (fun q e i hi hs=>by cases e;have:=(h.ltI hi hs).1;omega)
theorem below_far {w0 w w':World}{go:Nat}(h:Below w0.heap.size w0 w)(hg:w.grownBy w' (some go))(hlt:w0.heap.size<=go):Below w0.heap.size w0 w':=below_of_only h hg hlt h.size
set_option maxHeartbeats 4000000 in
theorem hits_calls {X:Nat->Nat->Prop}{w0 w:World}{pv bv:Value}{p:List Pattern}{b:List Int}{bx mo go:Nat}{o:List Int}
  (hC:C X w0 nowhere (.sl p.length (p.flatMap tyPattern.cells)) pv) (hB:C X w0 nowhere (.sl b.length (b.flatMap (Ty.int .u8).cells)) bv) (hok:PtOk p) (hby:ByOk b)
  (hw:Below w0.heap.size w0 w) (ho:OW w bx mo go o) (hgo:w0.heap.size<=go) (hlen:o.length=p.length):
  Calls Tryz.prog 91 #[pv,bv,.func (.func 92) #[] #[.pointer (some ⟨bx,0,none⟩)]] w fun e w'=>e= .returned (.tuple #[])/\OW w' bx mo go (hitL p (machP p) b 0 0 o)/\w.grownBy w' (some go):=by
 obtain ⟨A,c,rfl⟩:=sl_val hC
 obtain ⟨A2,c2,rfl⟩:=sl_val hB
 obtain ⟨D,hD⟩:=machP_ok hok
 have HD:=Lib.hid hD
 have HM:=Lib.hid (machine_calls (c_below hC hw rfl) hok)
 have HC:=Lib.hid hC
 have HB:=Lib.hid hB
 have HK:=Lib.hid (And.intro hok hby)
 have HO:=Lib.hid ho
 have HW:=Lib.hid (And.intro hw (And.intro hgo hlen))
 obtain ⟨M,hM⟩: ∃ M,M=machP p:=⟨_,rfl⟩
 rw [←hM] at HD
 have HMM:=Lib.hid hM
 clear hC hB hok hby hw ho hgo hlen hD hM
 go_enter Tryz.func91,Tryz.ntmps91
 go_wp2_with (go_at_call 165;refine HM.out.mono ?_;rintro e w1 ⟨sv,rfl,hs1,hb1⟩;have HS1:=Lib.hid hs1;have HB1:=Lib.hid hb1;clear hs1 hb1)
 obtain ⟨ms,hms⟩: ∃ ms,ms=w.heap.size:=⟨_,rfl⟩
 obtain ⟨ev,hss⟩:=HS1.out
 rw [←HMM.out, ← hms] at hss
 obtain ⟨g2,cap2,rfl,_,_⟩:=hss.form (Nat.lt_of_le_of_lt (Nat.zero_le _) (HD.out.lt 0 HD.out.zero))
 have hgl:go<ms:=by rw [hms];exact HO.out.lt.1
 have HS:=Lib.hid hss
 have HG:=Lib.hid hgl
 have HO1:=Lib.hid (HO.out.grow HB1.out)
 have HG1:Hid (w.grownBy w1 (some go)):=Lib.hid (only_of_below HB1.out _)
 clear hms hss hgl HS1 HB1 HM
 go_loopw [7,16] (fun av iv wr=> ∃ i:Nat,i<=b.length/\iv= .int .i64 i/\av= .int .i16 ((hitS M (b.take i) 0:Nat):Int)/\Hid (OW wr bx mo go (hitL p M (b.take i) 0 0 o)/\SS wr ms (.slice (some ⟨g2,0,none⟩) M.n cap2) M ev/\w.grownBy wr (some go))) (fun _ iv _=>b.length-(intOf iv).toNat)
 case atStart=>exact ⟨0,Nat.zero_le _,rfl,rfl,Lib.hid ⟨HO1.out,HS.out,HG1.out⟩⟩
 case round=>
  obtain ⟨i,hi,rfl,rfl,HR⟩:=hrel
  by_cases hil:i<b.length
  ·obtain ⟨x,hx⟩: ∃ x,b[i]? = some x:=⟨_,List.getElem?_eq_getElem hil⟩
   have hx2:=HK.out.2.by_ x (List.mem_of_getElem? hx)
   obtain ⟨cn,rfl⟩:=Int.eq_ofNat_of_zero_le hx2.1
   have hcn:cn<256:=by omega
   have hsD:=HD.out.run (b.take i) 0 (fun d hd=>HK.out.2.by_ d (List.mem_of_mem_take hd)) HD.out.zero
   obtain ⟨gb,ob,cb',e1,hgb,d0⟩:=byR_at HB.out hx
   injection e1 with e2 _ e3
   subst e2 e3
   have hbw:=below_far HW.out.1 HR.out.2.2 HW.out.2.1
   replace d0:=(hbw.cell (p:=⟨gb,ob+i,none⟩) hgb).trans d0
   obtain ⟨s,hs⟩: ∃ s,s=hitS M (b.take i) 0:=⟨_,rfl⟩
   rw [←hs] at hsD ⊢
   have hsl:=HD.out.lt s hsD
   have z1:=HR.out.2.1.nx hsl hcn
   obtain ⟨hn0,hnD⟩:=HD.out.nx s cn hsD hcn
   obtain ⟨t,ht⟩:=Int.eq_ofNat_of_zero_le hn0
   rw [ht,Int.toNat_natCast] at hnD
   rw [ht] at z1
   have htl:=HD.out.lt t hnD
   have z2:=HR.out.2.1.en htl
   obtain ⟨Ae,ce,hve⟩:=own_sliceT (HR.out.2.1.inn t htl)
   rw [hve] at z2
   have i1:((s:Nat):Int)<((M.n:Nat):Int):=by omega
   have i2:((cn:Nat):Int)<256:=by omega
   have i3:((t:Nat):Int)<((M.n:Nat):Int):=by omega
   have i4:((i:Nat):Int)<((b.length:Nat):Int):=by omega
   have i5:((i:Nat):Int)<1000000:=by have:=HK.out.2.len;omega
   have HT:=Lib.hid (And.intro hs (And.intro ht (And.intro htl (And.intro hx hve))))
   have HEV:=Lib.hid (And.intro (fun v hv=>HD.out.en t v hv) (HD.out.el t hnD))
   clear hs ht htl hx hve hsD hsl hn0 hnD hbw hgb hx2
   go_wp2_with fail
   go_loopw [34] (fun jv wy=> ∃ j:Nat,j<=(M.en t).length/\jv= .int .i64 j/\Hid (OW wy bx mo go (((M.en t).take j).foldl (hitK p i) (hitL p M (b.take i) 0 0 o))/\SS wy ms (.slice (some ⟨g2,0,none⟩) M.n cap2) M ev/\w.grownBy wy (some go))) (fun jv _=>(M.en t).length-(intOf jv).toNat)
   case atStart=>exact ⟨0,Nat.zero_le _,rfl,HR⟩
   case round=>
    obtain ⟨j,hj,rfl,HY⟩:=hrel
    by_cases hjl:j<(M.en t).length
    ·have hown:=HY.out.2.1.inn t HT.out.2.2.1
     obtain ⟨ge,cpe,hvv,_,_⟩:=hown.form (by omega)
     rw [HT.out.2.2.2.2] at hvv hown
     injection hvv with e2 _ e3
     subst e2 e3
     obtain ⟨k,hk⟩: ∃ k,(M.en t)[j]? = some k:=⟨_,List.getElem?_eq_getElem hjl⟩
     have z1:wr.cell? ⟨ge,j,none⟩=some (.int .i64 k):=by
      rw [hown.cellAt j (by omega),List.getElem?_map,hk]
      rfl
     obtain ⟨hk0,hk1⟩:=HEV.out.1 k (List.mem_of_getElem? hk)
     obtain ⟨kn,rfl⟩:=Int.eq_ofNat_of_zero_le hk0
     have hkp:kn<p.length:=by omega
     obtain ⟨x,hx⟩: ∃ x,p[kn]? = some x:=⟨_,List.getElem?_eq_getElem hkp⟩
     obtain ⟨gp,op,cp',Ap,cbp,e1,hgp,_,_,d2,_⟩:=patR_at HC.out hx
     injection e1 with e2 _ e3
     subst e2 e3
     have hbw:=below_far HW.out.1 HY.out.2.2 HW.out.2.1
     replace d2:=(hbw.cell (p:=⟨gp,op+kn*3+2,none⟩) hgp).trans d2
     have hxl:x.2.1.length<=100:=HK.out.1.tot x (List.mem_of_getElem? hx)
     have hol:(((M.en t).take j).foldl (hitK p i) (hitL p M (b.take i) 0 0 o)).length=p.length:=by rw [hitF_len,hitL_len,HW.out.2.2]
     have j1:((j:Nat):Int)<(((M.en t).length:Nat):Int):=by omega
     have j2:((kn:Nat):Int)<((p.length:Nat):Int):=by omega
     have j3:((x.2.1.length:Nat):Int)<=100:=by omega
     have j4:((j:Nat):Int)<1000000000:=by
      have:=HEV.out.2
      omega
     have HKK:=Lib.hid (And.intro hk (And.intro hx (And.intro hol hkp)))
     clear hown hk hk0 hk1 hx hbw hgp hxl hol
     go_wp2_with (refine (first1_calls HY.out.1 (by rw [HKK.out.2.2.1];omega)).mono ?_;rintro e w9 ⟨rfl,ho9,hg9⟩;have HO9:=Lib.hid ho9;have HG9:=Lib.hid hg9;clear ho9 hg9)
     refine ⟨⟨j+1,by omega,rfl,Lib.hid ⟨?_,HY.out.2.1.far HG9.out HG.out,only_trans HY.out.2.2 HG9.out⟩⟩, ?_⟩
     ·rw [List.take_add_one,HKK.out.1,List.foldl_append]
      have e:p.getD kn ((0,(0,())),([],()))=x:=by
       rw [List.getD_eq_getElem?_getD,HKK.out.2.1]
       rfl
      show OW _ bx mo go (hitK p i _ ((kn:Nat):Int))
      unfold hitK
      rw [Int.toNat_natCast,e]
      exact HO9.out
     ·simp [intOf]
      omega
    ·obtain rfl:j=(M.en t).length:=by omega
     have j1: ¬ (((M.en t).length:Nat):Int)<(((M.en t).length:Nat):Int):=by omega
     go_wp2_with fail
     obtain ⟨hs,ht,htl,hx,hve⟩:=HT.out
     have ht1:List.take (i+1) b=List.take i b++[((cn:Nat):Int)]:=by rw [List.take_add_one,hx];rfl
     have hit1:(List.take i b).length=i:=by rw [List.length_take];omega
     refine ⟨⟨i+1,by omega,rfl, ?_,Lib.hid ⟨?_,HY.out.2⟩⟩, ?_⟩
     ·rw [ht1,hitS_snoc, ← hs,Int.toNat_natCast,ht,Int.toNat_natCast]
     ·rw [ht1,hitL_snoc, ← hs,Int.toNat_natCast,ht,Int.toNat_natCast,hit1,Nat.zero_add]
      have:=HY.out.1
      rw [List.take_length] at this
      exact this
     ·simp [intOf]
      omega
  ·obtain rfl:i=b.length:=by omega
   have i4: ¬ ((b.length:Nat):Int)<((b.length:Nat):Int):=by omega
   go_wp2_with fail
   go_end0
   obtain ⟨r1,_,r3⟩:=HR.out
   rw [List.take_length,HMM.out] at r1
   exact ⟨rfl,r1,r3⟩
end Go.Proofs.YtmokmalepelinaaGreatDoor.K
namespace Go.Proofs.YtmokmalepelinaaGreatDoor.K
open Go.RowKit Go.Region
attribute [local go_sem ↓] Go.wp_at_zero Go.wp_at_succ
set_option linter.unusedSectionVars false
attribute [local irreducible] nwL mcL
def fsI (n k:Nat):List Int:=List.replicate k (-1)++List.replicate (n-k) 0
theorem fsI_len {n k:Nat}(h:k<=n):(fsI n k).length=n:=by
 unfold fsI
 rw [List.length_append,List.length_replicate,List.length_replicate]
 omega
theorem fsI_set {n k:Nat}(h:k<n):(fsI n k).set k (-1)=fsI n (k+1):=by
 unfold fsI
 rw [List.set_append_right _ _ (by rw [List.length_replicate];exact Nat.le_refl _),List.length_replicate,Nat.sub_self,show n-k=(n-(k+1))+1 by omega,List.replicate_succ,List.set_cons_zero,List.replicate_succ',List.append_assoc,List.singleton_append]
theorem fsI_all (n:Nat):fsI n n=List.replicate n (-1):=by
 unfold fsI
 rw [Nat.sub_self,List.replicate_zero,List.append_nil]
theorem make_ints (w:World)(n:Nat)(hn:n<=100):(Instr.makeSlice 22 (.int .i64 (n:Int)) (.int .i64 (n:Int))).run Tryz.prog w= .ok (.slice (some ⟨w.heap.size,0,none⟩) n n) (w.alloc (.cells ((fsI n 0).map (Value.int .i64)).toArray 3)):=by
 have hi:(Tryz.prog.info? 3).map (fun i=>(i.zero,i.size,i.bytes))=some (some (.int .i64 0),1,8):=by kernel_rfl
 have e:madeCells #[Value.int .i64 0] n=((fsI n 0).map (Value.int .i64)).toArray:=by
  apply Array.ext
  ·simp [madeCells,fsI]
  ·intro i h3 h4
   simp [madeCells,fsI,Nat.mod_one]
 exact (run_make_row' (P:=Tryz.prog) 22 3 (.int .i64 0) 8 (by kernel_rfl) hi rfl .i64 .i64 n (by omega) (by omega) w).trans (by rw [e])
theorem OW.new {w:World}{n:Nat}(hn:n<=100):OW (((w.alloc (.cells ((fsI n 0).map (Value.int .i64)).toArray 3)).alloc (.cells #[.slice (some ⟨w.heap.size,0,none⟩) n n] 22))) (w.heap.size+1) w.heap.size w.heap.size (fsI n 0):=by
 have hl:=fsI_len (Nat.zero_le n)
 refine ⟨⟨n, ?_, ?_⟩,by omega⟩
 ·rw [hl, ← World.size_alloc w (.cells ((fsI n 0).map (Value.int .i64)).toArray 3)]
  exact Go.Proofs.YtmokmalepelinaaGreatDoor.Blk.new _ _ _
 ·rw [hl]
  refine World.ownsRow.alloc ⟨by rw [List.length_map,hl,Nat.mul_one],.inr ⟨w.heap.size,n,_,rfl,Nat.le_refl _,heap_alloc_new w _,Nat.le_refl _,by unfold maxLen;omega,by rw [List.size_toArray,List.length_map,hl,Nat.mul_one], ?_⟩⟩ _
  exact List.take_of_length_le (by rw [List.length_map,hl,Nat.mul_one];exact Nat.le_refl _)
set_option maxHeartbeats 4000000 in
theorem first_calls {X:Nat->Nat->Prop}{w:World}{pv bv:Value}{p:List Pattern}{b:List Int}
  (hC:C X w nowhere (.sl p.length (p.flatMap tyPattern.cells)) pv) (hB:C X w nowhere (.sl b.length (b.flatMap (Ty.int .u8).cells)) bv) (hok:PtOk p) (hby:ByOk b):
  Calls Tryz.prog 37 #[pv,bv] w fun e w'=> ∃ sv,e= .returned sv/\w'.ownsRow w.heap.size 3 1 sv p.length ((hitL p (machP p) b 0 0 (List.replicate p.length (-1))).map (Value.int .i64))/\Below w.heap.size w w':=by
 obtain ⟨A,c,rfl⟩:=sl_val hC
 obtain ⟨A2,c2,rfl⟩:=sl_val hB
 have hmk:=make_ints w p.length hok.len
 have HOW:=Lib.hid (OW.new (w:=w) hok.len)
 have HC:=Lib.hid hC
 have HB:=Lib.hid hB
 have HK:=Lib.hid (And.intro hok hby)
 clear hC hB hok hby
 go_enter Tryz.func37,Tryz.ntmps37
 go_wp2_with fail
 obtain ⟨W0,hW0⟩: ∃ W0,W0=((w.alloc (.cells ((fsI p.length 0).map (Value.int .i64)).toArray 3)).alloc (.cells #[.slice (some ⟨w.heap.size,0,none⟩) p.length p.length] 22)):=⟨_,rfl⟩
 have hB0:Below w.heap.size w W0:=by
  rw [hW0]
  exact ((Below.refl _ _).alloc (Nat.le_refl _) _).alloc (by rw [World.size_alloc];omega) _
 rw [←hW0]
 rw [←hW0] at HOW
 obtain ⟨m,hm⟩: ∃ m,m=w.heap.size:=⟨_,rfl⟩
 rw [←hm] at HOW hB0 ⊢
 have HB0:=Lib.hid hB0
 have HM:=Lib.hid hm
 clear hmk hB0 hm hW0
 go_loopw [12] (fun iv wr=> ∃ k:Nat,k<=p.length/\iv= .int .i64 k/\Hid (OW wr (m+1) m m (fsI p.length k)/\Below m w wr)) (fun iv _=>p.length-(intOf iv).toNat)
 case atStart=>exact ⟨0,Nat.zero_le _,rfl,Lib.hid ⟨HOW.out,HB0.out⟩⟩
 case round=>
  obtain ⟨k,hk,rfl,HR⟩:=hrel
  obtain ⟨cap,h1,h2⟩:=HR.out.1.bk
  rw [fsI_len hk] at h1 h2
  have z0:=h1.cell 0
  simp only [List.getElem?_toArray,List.getElem?_cons_zero] at z0
  by_cases hlt:k<p.length
  ·have zf:=h2.frozenAt k
   have z1:wr.cell? ⟨m,k,none⟩=some (.int .i64 (fsI p.length k)[k]!):=by
    rw [h2.cellAt k (by omega),List.getElem?_map,List.getElem?_eq_getElem (by rw [fsI_len hk];exact hlt),getElem!_pos _ _ (by rw [fsI_len hk];exact hlt)]
    rfl
   have i1:((k:Nat):Int)<((p.length:Nat):Int):=by omega
   have i2:((k:Nat):Int)<1000:=by have:=HK.out.1.len;omega
   have H2:=Lib.hid h2
   have H1:=Lib.hid h1
   clear h2 h1
   go_wp2_with fail
   have hs:=H2.out.stored k (.int .i64 (-1))
   refine ⟨⟨k+1,by omega,by simp,Lib.hid ⟨⟨⟨cap, ?_, ?_⟩,by omega⟩, ?_⟩⟩, ?_⟩
   ·rw [fsI_len (by omega)]
    exact H1.out.far (p:=⟨m,k,none⟩) (by simp) _
   ·rw [fsI_len (by omega), ← fsI_set hlt,List.map_set]
    exact hs.1
   ·exact HR.out.2.setCell (p:=⟨m,k,none⟩) (Nat.le_refl _) _
   ·simp [intOf]
    omega
  ·obtain rfl:k=p.length:=by omega
   have i1: ¬ ((p.length:Nat):Int)<((p.length:Nat):Int):=by omega
   clear h2 h1
   clear z0
   go_wp2_with (refine (hits_calls HC.out HB.out HK.out.1 HK.out.2 (by rw [←HM.out];exact HR.out.2) HR.out.1 (by rw [←HM.out];exact Nat.le_refl _) (fsI_len hk)).mono ?_;rintro e w9 ⟨rfl,ho9,hg9⟩;obtain ⟨cap9,b1,b2⟩:=ho9.bk;have z9:=b1.cell 0;simp only [List.getElem?_toArray,List.getElem?_cons_zero] at z9;have HO9:=Lib.hid b2;have HG9:=Lib.hid hg9;clear ho9 hg9 b1 b2)
   go_ret
   have ho:=HO9.out
   have el:(hitL p (machP p) b 0 0 (fsI p.length p.length)).length=p.length:=by rw [hitL_len,fsI_len hk]
   rw [el] at ho ⊢
   rw [fsI_all] at ho
   refine ⟨_,rfl,by rw [←HM.out];exact ho, ?_⟩
   rw [←HM.out]
   exact below_of_only HR.out.2 HG9.out (Nat.le_refl _) (by have:=HR.out.2.size;have:=HM.out;omega)
theorem own_c {X:Nat->Nat->Prop}{w w':World}{σ:Pl}{B e n:Nat}{sv:Value}{zs:List Int}(hfin:Fin2 X w)(hB:w.heap.size<=B)(h:w'.ownsRow B e 1 sv n (zs.map (Value.int .i64))):C X w' σ (V.t (.sl (.int .i64)) zs).d sv:=by
 have hn:zs.length=n:=by have:=h.1;rwa [List.length_map,Nat.mul_one] at this
 subst hn
 rcases h.2 with ⟨rfl,h0⟩|⟨g,cap,cur,rfl,h1,hh,h2,h3,h4,h5⟩
 ·have:zs=[]:=List.eq_nil_of_length_eq_zero h0
  subst this
  simp only [V.d,Ty.d,C]
  exact ⟨none,0,rfl,Nat.le_refl _,by simp [maxLen],fun _=>rfl,fun h=>absurd h (by decide)⟩
 ·simp only [V.d,Ty.d,C]
  refine ⟨some ⟨g,0,none⟩,cap,rfl,h2,h3,fun h0=>by rw [List.eq_nil_of_length_eq_zero h0];rfl,fun h0=>⟨g,0,_,rfl,ints_cs _, ?_,fun j _ hx=> ?_,fun j u hu=> ?_,fun u hu=> ?_⟩⟩
  ·exact (h.lt g rfl).2
  ·have:=hfin _ _ hx
   omega
  ·have hj:j<zs.length:=by
    rcases Nat.lt_or_ge j zs.length with hlt|hge
    ·exact hlt
    ·rw [List.getElem?_eq_none (by rw [List.length_map];omega)] at hu;cases hu
   rw [Nat.zero_add,h.cellAt j (by omega),hu]
  ·simp only [List.mem_map] at hu
   obtain ⟨z,_,rfl⟩:=hu
   rfl
def ptOkB (p:List Pattern):Bool:=p.all (fun x=>x.2.1.all (fun c=>decide (0<=c/\c<256))&&decide (x.2.1.length<=100))&&decide (p.length<=100)
theorem ptOkB_ok {p:List Pattern}(h:ptOkB p=true):PtOk p:=by
 obtain ⟨h1,h2⟩:=Bool.and_eq_true_iff.1 h
 have h3:=fun x hx=>Bool.and_eq_true_iff.1 (List.all_eq_true.1 h1 x hx)
 exact ⟨fun x hx c hc=>of_decide_eq_true (List.all_eq_true.1 (h3 x hx).1 c hc),of_decide_eq_true h2,fun x hx=>of_decide_eq_true (h3 x hx).2⟩
def byOkB (b:List Int):Bool:=b.all (fun c=>decide (0<=c/\c<256))&&decide (b.length<=1000000)
theorem byOkB_ok {b:List Int}(h:byOkB b=true):ByOk b:=by
 obtain ⟨h1,h2⟩:=Bool.and_eq_true_iff.1 h
 exact ⟨fun c hc=>of_decide_eq_true (List.all_eq_true.1 h1 c hc),of_decide_eq_true h2⟩
def fstF (p:List Pattern)(b:List Int):List Int:=hitL p (machP p) b 0 0 (List.replicate p.length (-1))
theorem fstF_len (p:List Pattern)(b:List Int):(fstF p b).length=p.length:=by
 unfold fstF
 rw [hitL_len,List.length_replicate]
def fstOk (p:List Pattern)(b:List Int):Bool:=ptOkB p&&byOkB b
def sp_f37:Ent:=spec (.pr (.sl tyPattern) (.pr (.sl (.int .u8)) .nil)) (fun x=>(fstOk x.1 x.2.1)) (fun x=>(.t (.sl tI) (fstF x.1 x.2.1)))
theorem en_f37:Entered Tryz.prog 37:= .inr ⟨by decide,_,Tryz.func37,by kernel_rfl,by kernel_rfl⟩
theorem ms_f37:Meets Tryz.prog 37 (strip sp_f37):=by
 unfold sp_f37
 refine meets_calls (fun x hok X w σ vs hfin hc=> ?_)
 obtain ⟨p,b,u⟩:=x
 obtain ⟨h1,h2⟩:=Bool.and_eq_true_iff.1 (show (ptOkB p&&byOkB b)=true from hok)
 have hc:Cs X w σ [.sl p.length (p.flatMap tyPattern.cells),.sl b.length (b.flatMap (Ty.int .u8).cells)] vs:=hc
 obtain ⟨s1,_,rfl,hC,hc⟩:=hc
 obtain ⟨s2,rfl,hD⟩:=hc.one
 have hC:C X w nowhere (.sl p.length (p.flatMap tyPattern.cells)) s1:=by simp only [C] at hC ⊢; exact hC
 have hD:C X w nowhere (.sl b.length (b.flatMap (Ty.int .u8).cells)) s2:=by simp only [C] at hD ⊢; exact hD
 refine (first_calls hC hD (ptOkB_ok h1) (byOkB_ok h2)).mono ?_
 rintro e w' ⟨sv,rfl,ho,hb⟩
 exact ⟨sv,rfl,own_c hfin (Nat.le_refl _) ho,hb⟩
end Go.Proofs.YtmokmalepelinaaGreatDoor.K
namespace Go.Proofs.YtmokmalepelinaaGreatDoor.K
open Go.RowKit
noncomputable section
theorem cAppG {α:Type}{l l2:List α}(h:l.length+l2.length<=70368744177664):cApp l l2 1=true:=by
 simp only [cApp,decide_eq_true_eq]
 omega
def byG (n:Int)(k:Nat):Int:=icv .u8 (ishr .i64 n ((8*k:Nat):Int))
def numL (n:Int):Nat->List Int
 |0=>[]
 |k+1=>byG n k::numL n k
theorem numL_len (n:Int): ∀ k,(numL n k).length=k
 |0=>rfl
 |k+1=>by rw [numL,List.length_cons,numL_len n k]
def numF (b:List Int)(n count:Int):List Int:=b++numL n count.toNat
def numOk (b:List Int)(_n count:Int):Bool:=decide (b.length<=35184372088832/\0<=count/\count<=8)
def numZ (b:List Int)(_n i:Int):Bool:=decide ((b.length:Int)+i<=35184372088840∧ -1<=i/\i<=7)
def fg_f89_0:Fg:=⟨[(0,none),(1,some tI),(7,some tI)],[(0,none),(21,none),(49000,none),(50000,none)]⟩
noncomputable def tb_f89_0:TC:=(.sq (.sq (.reg (rT Tryz.f89 2)) (.cd (.t 11) .sk (.fg ⟨[(0,none)],[(0,none),(21,none),(49000,none),(50000,none)]⟩ (.ex 0)))) (.sq (.bk 1 (.reg (rT Tryz.f89 3))) (.reg (rT Tryz.f89 4))))
noncomputable def tc_f89:TC:=(.ad [(50000,49000)] (.sq (.reg (rT Tryz.f89 0)) (.sq (.sq (.reg (rT Tryz.f89 1)) (.bk 0 (.nw 0 5 (.lp 0 fg_f89_0 tb_f89_0)))) (.sq (.reg (rT Tryz.f89 5)) .rt))))
def rv_f89:List (RV×Option Ty):=[((.t 6),none)]
abbrev sh_f89_0:Sh:=⟨[(0,.ms 49000),(1,.ty tI),(7,.ty tI)],[(0,.no),(21,.no),(49000,.arr 1000005 (.int .u8)),(50000,.no)]⟩
def st_f89_0 (x1 x7:Int)(y49000:List Int):VS:=sh_f89_0.st ((),x1,x7,()) ((),(),y49000,(),())
abbrev sh_f89_0_e0:Sh:=⟨[(0,.ms 49000)],[(0,.no),(21,.no),(49000,.arr 1000005 (.int .u8)),(50000,.no)]⟩
def st_f89_0_e0 (y49000:List Int):VS:=sh_f89_0_e0.st ((),()) ((),(),y49000,(),())
def L_f89_0:VS->Option (Bool×List (Bool×Exit×VS)):=mkL sh_f89_0 (fun x y=>(numZ y.2.2.1 x.2.1 x.2.2.1)) (fun x y=>[(true,.exit 0,st_f89_0_e0 (y.2.2.1++numL x.2.1 (x.2.2.1+1).toNat))])
def g_f89:G:=⟨TYs,[],23,EL [],keeps,(Ls [L_f89_0]),IL [],RL []⟩
def b_f89_0 (x1 x7:Int)(y49000:List Int):Option (Exit×VS):=
 let a1:=icv .u8 (ishr .i64 x1 (imul .i64 8 x7))
 br (ige x7 0) (br (decide ((0:Int)<=(imul .i64 8 x7))) (br (cApp y49000 ([a1]) 1) (some (.normal,st_f89_0 x1 (isub .i64 x7 1) (y49000++([a1])))) none) none) (some (.exit 0,st_f89_0_e0 y49000))
noncomputable def lp_f89_0 (x1 x7:Int)(y49000:List Int):Option (Exit×VS):=loopF (roundF g_f89 fg_f89_0 tb_f89_0) (st_f89_0 x1 x7 y49000)
noncomputable def n_f89_0 (x1 x7:Int)(y49000:List Int):Option (Exit×VS):=
 let a1:=icv .u8 (ishr .i64 x1 (imul .i64 8 x7))
 br (ige x7 0) (br (decide ((0:Int)<=(imul .i64 8 x7))) (br (cApp y49000 ([a1]) 1) (lp_f89_0 x1 (isub .i64 x7 1) (y49000++([a1]))) none) none) (some (.exit 0,st_f89_0_e0 y49000))
def la_f89_0 (x1 x7:Int)(y49000:List Int):Option (Exit×VS):=some (.exit 0,st_f89_0_e0 (y49000++numL x1 (x7+1).toNat))
theorem be_f89_0 (x1 x7:Int)(y49000:List Int):roundF g_f89 fg_f89_0 tb_f89_0 (st_f89_0 x1 x7 y49000)=b_f89_0 x1 x7 y49000:=by kernel_rfl
theorem ln_f89_0 (x1 x7:Int)(y49000:List Int):lp_f89_0 x1 x7 y49000=n_f89_0 x1 x7 y49000:=(loopF_nxt _ _).trans (by
 rw [be_f89_0]
 simp only [b_f89_0,n_f89_0,nxt_br,nxt_n,nxt_r,nxt_e,nxt_0]
 rfl)
def r_f89 (p0:List Int)(p1 p2:Int):Option (V×List VO):=br (numZ p0 p1 (isub .i64 p2 1)) (some (.ms 50001,[.no,.arr 1000005 (.int .u8) (p0++numL p1 ((isub .i64 p2 1)+1).toNat)])) none
theorem e_f89 (p0:List Int)(p1 p2:Int):runF g_f89 tc_f89 rv_f89 true [.ms 50000,.t tI p1,.t tI p2] [.arr 1000005 (.int .u8) p0]=r_f89 p0 p1 p2:=by kernel_rfl
theorem en_f89:Entered Tryz.prog 89:= .inr ⟨by decide,_,Tryz.func89,by kernel_rfl,by kernel_rfl⟩
theorem gk_f89:GOk Tryz.prog g_f89:=gok_of _ (fun p hp=>by cases hp)
theorem l_f89_0 (x1 x7:Int)(y49000:List Int)(h:(numZ y49000 x1 x7)=true):lp_f89_0 x1 x7 y49000=la_f89_0 x1 x7 y49000:=by
 simp only [numZ,decide_eq_true_eq] at h
 obtain ⟨h1,h2,h3⟩:=h
 obtain ⟨k,rfl⟩: ∃ k:Nat,x7=(k:Int)-1:=⟨(x7+1).toNat,by omega⟩
 induction k generalizing y49000 with
 |zero=>
  rw [ln_f89_0]
  simp [n_f89_0,la_f89_0,ige,br_false,numL]
 |succ k ih=>
  rw [ln_f89_0]
  have e0:((k+1:Nat):Int)-1=(k:Int):=by omega
  rw [e0] at h1 h2 h3 ⊢
  have e1:ige (k:Int) 0=true:=by simp only [ige,decide_eq_true_eq];omega
  have e2:imul .i64 8 (k:Int)=((8*k:Nat):Int):=by rw [imul_in (by omega)];omega
  have e3:isub .i64 (k:Int) 1=(k:Int)-1:=isub_in (by omega)
  have e4:la_f89_0 x1 (k:Int) y49000=la_f89_0 x1 ((k:Int)-1) (y49000++[byG x1 k]):=by
   simp only [la_f89_0,show ((k:Int)+1).toNat=k+1 by omega,show ((k:Int)-1+1).toNat=k by omega,numL,List.append_assoc,List.singleton_append]
  rw [e4, ← ih (y49000++[byG x1 k]) (by rw [List.length_append];simp only [List.length_singleton];omega) (by omega) (by omega)]
  simp only [n_f89_0,e1,e2,e3,br_true,show decide ((0:Int)<=((8*k:Nat):Int))=true from decide_eq_true (by omega),cAppG (show y49000.length+[icv .u8 (ishr .i64 x1 ((8*k:Nat):Int))].length<=70368744177664 by simp only [List.length_singleton];omega)]
  rfl
theorem lo_f89_0: ∀ S l p,g_f89.L 0 (fgt fg_f89_0 S)=some (true,l)->pickA l=some p->loopF (roundF g_f89 fg_f89_0 tb_f89_0) S=some p:=
 lok_of (s:=sh_f89_0) ⟨by decide,by decide⟩ (by kernel_rfl) fun x y hok p hp=>by
 simp only [pickA_br,pickA_one] at hp
 exact (l_f89_0 x.2.1 x.2.2.1 y.2.2.1 (by simpa using hok)).trans hp
theorem lk_f89:tc_f89.lok g_f89:=by
 repeat (first|exact trivial|exact lo_f89_0|refine ⟨?_, ?_⟩)
theorem s_f89 (b:List Int)(n c:Int)(h:numOk b n c=true):r_f89 b n c=some (.ms 50001,[.no,.arr 1000005 (.int .u8) (numF b n c)]):=by
 simp only [numOk,decide_eq_true_eq] at h
 simp only [r_f89]
 have e1:isub .i64 c 1=c-1:=isub_in (by omega)
 rw [e1,show numZ b n (c-1)=true from by simp only [numZ,decide_eq_true_eq];omega,br_true,show (c-1+1)=c by omega]
 rfl
def sp_f89:Ent:=specS [.ms 50000,.ty tI,.ty tI] [.arr 1000005 (.int .u8)] (fun x y=>(numOk y.1 x.2.1 x.2.2.1)) (fun x y=>(.ms 50001)) (fun x y=>[.no,.arr 1000005 (.int .u8) (numF y.1 x.2.1 x.2.2.1)])
theorem ms_f89:Meets Tryz.prog 89 (strip sp_f89):=meets_specS (R:=runF g_f89 tc_f89 rv_f89 true) (mG Tryz.func89 (by kernel_rfl) Tryz.ntmps89 (by kernel_rfl) gk_f89 lk_f89) fun x y hok=>(e_f89 y.1 x.2.1 x.2.2.1).trans (s_f89 y.1 x.2.1 x.2.2.1 hok)
def nameF (b:List Int)(s:ByteArray):List Int:=b++numL (slen s) 1++bytesL s
def nameOk1 (b:List Int)(s:ByteArray):Bool:=decide (b.length<=35184372088832/\s.size<=17592186044416)
noncomputable def tc_f90:TC:=(.ad [(50000,49000)] (.sq (.reg (rT Tryz.f90 0)) (.sq (.reg (rT Tryz.f90 1)) .rt)))
def rv_f90:List (RV×Option Ty):=[((.t 4),none)]
def g_f90:G:=⟨TYs,[],11,EL [(89,sp_f89)],(89::keeps),(fun _ _=>none),IL [],RL []⟩
def r_f90 (p0:List Int)(p1:ByteArray):Option (V×List VO):=br (numOk p0 (slen p1) 1) (br (cApp (numF p0 (slen p1) 1) (bytesL p1) 1) (some (.ms 50001,[.no,.arr 1000005 (.int .u8) ((numF p0 (slen p1) 1)++(bytesL p1))])) none) none
theorem e_f90 (p0:List Int)(p1:ByteArray):runF g_f90 tc_f90 rv_f90 true [.ms 50000,.t .str p1] [.arr 1000005 (.int .u8) p0]=r_f90 p0 p1:=by kernel_rfl
theorem en_f90:Entered Tryz.prog 90:= .inr ⟨by decide,_,Tryz.func90,by kernel_rfl,by kernel_rfl⟩
theorem gk_f90:GOk Tryz.prog g_f90:=gok_of _ (gA (gC en_f89 ms_f89 gN))
theorem lk_f90:tc_f90.lok g_f90:=by repeat (first|exact trivial|refine ⟨?_, ?_⟩)
theorem s_f90 (b:List Int)(s:ByteArray)(h:nameOk1 b s=true):r_f90 b s=some (.ms 50001,[.no,.arr 1000005 (.int .u8) (nameF b s)]):=by
 simp only [nameOk1,decide_eq_true_eq] at h
 have hl:=bytesG_len s
 have e2:(numF b (slen s) 1).length=b.length+1:=by simp [numF,numL_len]
 simp only [r_f90,show numOk b (slen s) 1=true from by simp only [numOk,decide_eq_true_eq];omega,br_true,cAppG (show (numF b (slen s) 1).length+(bytesL s).length<=70368744177664 by omega)]
 rfl
def sp_f90:Ent:=specS [.ms 50000,.ty .str] [.arr 1000005 (.int .u8)] (fun x y=>(nameOk1 y.1 x.2.1)) (fun x y=>(.ms 50001)) (fun x y=>[.no,.arr 1000005 (.int .u8) (nameF y.1 x.2.1)])
theorem ms_f90:Meets Tryz.prog 90 (strip sp_f90):=meets_specS (R:=runF g_f90 tc_f90 rv_f90 true) (mG Tryz.func90 (by kernel_rfl) Tryz.ntmps90 (by kernel_rfl) gk_f90 lk_f90) fun x y hok=>(e_f90 y.1 x.2.1).trans (s_f90 y.1 x.2.1 hok)
def imgOk (x:Image):Bool:=decide (x.1.length<=100000/\x.2.1.length<=100000)
def namesF (x:Image):List ByteArray×List ByteArray:=(x.1.map (·.1),x.2.1.map (·.1))
def fg_f87_0:Fg:=⟨[(1,none),(2,none),(3,none),(9,some (.sl tySection)),(10,some tI),(11,some tI)],[(1,some tyImage),(2,none),(3,none),(19,none),(32,none)]⟩
noncomputable def tb_f87_0:TC:=(.sq (.reg (rT Tryz.f87 2)) (.sq (.cd (.t 12) .sk (.fg ⟨[(1,none),(2,none),(3,none)],[(1,some tyImage),(2,none),(3,none),(19,none),(32,none)]⟩ (.ex 0))) (.sq (.bk 1 (.sq (.reg (rT Tryz.f87 3)) (.reg (rT Tryz.f87 4)))) (.reg (rT Tryz.f87 5)))))
def fg_f87_1:Fg:=⟨[(2,none),(3,none),(22,some (.sl tySymbol)),(23,some tI),(24,some tI)],[(2,none),(3,none),(19,none),(32,none)]⟩
noncomputable def tb_f87_1:TC:=(.sq (.reg (rT Tryz.f87 7)) (.sq (.cd (.t 25) .sk (.fg ⟨[(2,none),(3,none)],[(2,none),(3,none),(19,none),(32,none)]⟩ (.ex 2))) (.sq (.bk 3 (.sq (.reg (rT Tryz.f87 8)) (.reg (rT Tryz.f87 9)))) (.reg (rT Tryz.f87 10)))))
noncomputable def tc_f87:TC:=(.sq (.reg (rT Tryz.f87 0)) (.sq (.sq (.reg (rT Tryz.f87 1)) (.bk 0 (.nw 2 9 (.lp 0 fg_f87_0 tb_f87_0)))) (.sq (.sq (.reg (rT Tryz.f87 6)) (.bk 2 (.nw 3 9 (.lp 1 fg_f87_1 tb_f87_1)))) (.sq (.reg (rT Tryz.f87 11)) .rt))))
def rv_f87:List (RV×Option Ty):=[((.t 2),some (.sl .str)),((.t 3),some (.sl .str))]
abbrev sh_f87_0:Sh:=⟨[(1,.ptr 1 0),(2,.ms 2),(3,.nl),(9,.ty (.sl tySection)),(10,.ty tI),(11,.ty tI)],[(1,.box tyImage),(2,.arr 9 .str),(3,.no),(19,.no),(32,.no)]⟩
def st_f87_0 (x9:List Section)(x10 x11:Int)(y1:Image)(y2:List ByteArray):VS:=sh_f87_0.st ((),(),(),x9,x10,x11,()) (y1,y2,(),(),(),())
abbrev sh_f87_0_e0:Sh:=⟨[(1,.ptr 1 0),(2,.ms 2),(3,.nl)],[(1,.box tyImage),(2,.arr 9 .str),(3,.no),(19,.no),(32,.no)]⟩
def st_f87_0_e0 (y1:Image)(y2:List ByteArray):VS:=sh_f87_0_e0.st ((),(),(),()) (y1,y2,(),(),(),())
abbrev sh_f87_1:Sh:=⟨[(2,.ms 2),(3,.ms 3),(22,.ty (.sl tySymbol)),(23,.ty tI),(24,.ty tI)],[(2,.arr 9 .str),(3,.arr 9 .str),(19,.no),(32,.no)]⟩
def st_f87_1 (x22:List Symbol)(x23 x24:Int)(y2 y3:List ByteArray):VS:=sh_f87_1.st ((),(),x22,x23,x24,()) (y2,y3,(),(),())
abbrev sh_f87_1_e2:Sh:=⟨[(2,.ms 2),(3,.ms 3)],[(2,.arr 9 .str),(3,.arr 9 .str),(19,.no),(32,.no)]⟩
def st_f87_1_e2 (y2 y3:List ByteArray):VS:=sh_f87_1_e2.st ((),(),()) (y2,y3,(),(),())
def L_f87_0:VS->Option (Bool×List (Bool×Exit×VS)):=mkL sh_f87_0 (fun x y=>(rngOk x.2.2.2.1 x.2.2.2.2.1 x.2.2.2.2.2.1&&decide (y.2.1.length+x.2.2.2.1.length<=100000+x.2.2.2.2.2.1.toNat))) (fun x y=>[(true,.exit 0,st_f87_0_e0 (y.1) (y.2.1++(x.2.2.2.1.drop x.2.2.2.2.2.1.toNat).map (·.1)))])
def L_f87_1:VS->Option (Bool×List (Bool×Exit×VS)):=mkL sh_f87_1 (fun x y=>(rngOk x.2.2.1 x.2.2.2.1 x.2.2.2.2.1&&decide (y.2.1.length+x.2.2.1.length<=100000+x.2.2.2.2.1.toNat))) (fun x y=>[(true,.exit 2,st_f87_1_e2 (y.1) (y.2.1++(x.2.2.1.drop x.2.2.2.2.1.toNat).map (·.1)))])
def g_f87:G:=⟨TYs,[],36,EL [],keeps,(Ls [L_f87_0,L_f87_1]),IL [],RL []⟩
def b_f87_0 (x9:List Section)(x10 x11:Int)(y1:Image)(y2:List ByteArray):Option (Exit×VS):=
 let a1:=lgt tySection x9 (Int.toNat x11)
 br (ilt x11 x10) (br (cIx x9 x11) (br (cApp y2 ([a1.1]) 16) (some (.normal,st_f87_0 x9 x10 (iadd .i64 x11 1) y1 (y2++([a1.1])))) none) none) (some (.exit 0,st_f87_0_e0 y1 y2))
noncomputable def lp_f87_0 (x9:List Section)(x10 x11:Int)(y1:Image)(y2:List ByteArray):Option (Exit×VS):=loopF (roundF g_f87 fg_f87_0 tb_f87_0) (st_f87_0 x9 x10 x11 y1 y2)
noncomputable def n_f87_0 (x9:List Section)(x10 x11:Int)(y1:Image)(y2:List ByteArray):Option (Exit×VS):=
 let a1:=lgt tySection x9 (Int.toNat x11)
 br (ilt x11 x10) (br (cIx x9 x11) (br (cApp y2 ([a1.1]) 16) (lp_f87_0 x9 x10 (iadd .i64 x11 1) y1 (y2++([a1.1]))) none) none) (some (.exit 0,st_f87_0_e0 y1 y2))
def la_f87_0 (x9:List Section)(x10 x11:Int)(y1:Image)(y2:List ByteArray):Option (Exit×VS):=some (.exit 0,st_f87_0_e0 (y1) (y2++(x9.drop x11.toNat).map (·.1)))
theorem be_f87_0 (x9:List Section)(x10 x11:Int)(y1:Image)(y2:List ByteArray):roundF g_f87 fg_f87_0 tb_f87_0 (st_f87_0 x9 x10 x11 y1 y2)=b_f87_0 x9 x10 x11 y1 y2:=by kernel_rfl
theorem ln_f87_0 (x9:List Section)(x10 x11:Int)(y1:Image)(y2:List ByteArray):lp_f87_0 x9 x10 x11 y1 y2=n_f87_0 x9 x10 x11 y1 y2:=(loopF_nxt _ _).trans (by
 rw [be_f87_0]
 simp only [b_f87_0,n_f87_0,nxt_br,nxt_n,nxt_r,nxt_e,nxt_0]
 rfl)
def b_f87_1 (x22:List Symbol)(x23 x24:Int)(y2 y3:List ByteArray):Option (Exit×VS):=
 let a1:=lgt tySymbol x22 (Int.toNat x24)
 br (ilt x24 x23) (br (cIx x22 x24) (br (cApp y3 ([a1.1]) 16) (some (.normal,st_f87_1 x22 x23 (iadd .i64 x24 1) y2 (y3++([a1.1])))) none) none) (some (.exit 2,st_f87_1_e2 y2 y3))
noncomputable def lp_f87_1 (x22:List Symbol)(x23 x24:Int)(y2 y3:List ByteArray):Option (Exit×VS):=loopF (roundF g_f87 fg_f87_1 tb_f87_1) (st_f87_1 x22 x23 x24 y2 y3)
noncomputable def n_f87_1 (x22:List Symbol)(x23 x24:Int)(y2 y3:List ByteArray):Option (Exit×VS):=
 let a1:=lgt tySymbol x22 (Int.toNat x24)
 br (ilt x24 x23) (br (cIx x22 x24) (br (cApp y3 ([a1.1]) 16) (lp_f87_1 x22 x23 (iadd .i64 x24 1) y2 (y3++([a1.1]))) none) none) (some (.exit 2,st_f87_1_e2 y2 y3))
def la_f87_1 (x22:List Symbol)(x23 x24:Int)(y2 y3:List ByteArray):Option (Exit×VS):=some (.exit 2,st_f87_1_e2 (y2) (y3++(x22.drop x24.toNat).map (·.1)))
theorem be_f87_1 (x22:List Symbol)(x23 x24:Int)(y2 y3:List ByteArray):roundF g_f87 fg_f87_1 tb_f87_1 (st_f87_1 x22 x23 x24 y2 y3)=b_f87_1 x22 x23 x24 y2 y3:=by kernel_rfl
theorem ln_f87_1 (x22:List Symbol)(x23 x24:Int)(y2 y3:List ByteArray):lp_f87_1 x22 x23 x24 y2 y3=n_f87_1 x22 x23 x24 y2 y3:=(loopF_nxt _ _).trans (by
 rw [be_f87_1]
 simp only [b_f87_1,n_f87_1,nxt_br,nxt_n,nxt_r,nxt_e,nxt_0]
 rfl)
def r_f87 (p0:Image):Option (V×List VO):=br (rngOk p0.1 (llen p0.1) (0:Int)&&decide (([]:List ByteArray).length+p0.1.length<=100000+(0:Int).toNat)) (br (rngOk (((p0).2).1) (llen (((p0).2).1)) (0:Int)&&decide (([]:List ByteArray).length+(((p0).2).1).length<=100000+(0:Int).toNat)) (some (.tu [(.t (.sl .str) (([]:List ByteArray)++(p0.1.drop (0:Int).toNat).map (·.1))),(.t (.sl .str) (([]:List ByteArray)++((((p0).2).1).drop (0:Int).toNat).map (·.1)))],[])) none) none
theorem e_f87 (p0:Image):runF g_f87 tc_f87 rv_f87 false [.t tyImage p0] []=r_f87 p0:=by kernel_rfl
theorem en_f87:Entered Tryz.prog 87:= .inr ⟨by decide,_,Tryz.func87,by kernel_rfl,by kernel_rfl⟩
theorem gk_f87:GOk Tryz.prog g_f87:=gok_of _ (fun p hp=>by cases hp)
theorem l_f87_0 (x9:List Section)(x10 x11:Int)(y1:Image)(y2:List ByteArray)(h:(rngOk x9 x10 x11&&decide (y2.length+x9.length<=100000+x11.toNat))=true):lp_f87_0 x9 x10 x11 y1 y2=la_f87_0 x9 x10 x11 y1 y2:=by
 simp only [Bool.and_eq_true,decide_eq_true_eq] at h
 obtain ⟨h,hl⟩:=h
 obtain ⟨rfl,h3,k,rfl,hk⟩:=rng_k h
 clear h
 rw [Int.toNat_natCast] at hl
 revert y2
 refine range_ind x9 (fun k=> ∀ y2:List ByteArray,y2.length+x9.length<=100000+k->lp_f87_0 x9 (x9.length:Int) (k:Int) y1 y2=la_f87_0 x9 (x9.length:Int) (k:Int) y1 y2) ?_ ?_ k hk
 ·intro y2 _
  rw [ln_f87_0]
  simp [n_f87_0,la_f87_0,ilt_nat,br_false]
 ·intro k hk ih y2 hy
  rw [ln_f87_0]
  simp only [n_f87_0,ilt_nat,cIx_nat,hk,decide_true,br_true,Int.toNat_natCast,add1 (k:=k),lgt_get (y:=tySection) hk,cApp_ok (show y2.length+[x9[k].1].length<=1000000 by simp only [List.length_singleton];omega) (show 16<=1000 by omega)]
  rw [ih _ (by rw [List.length_append];simp only [List.length_singleton];omega)]
  simp only [la_f87_0,Int.toNat_natCast,List.drop_eq_getElem_cons hk,List.map_cons,List.append_assoc,List.singleton_append]
theorem l_f87_1 (x22:List Symbol)(x23 x24:Int)(y2 y3:List ByteArray)(h:(rngOk x22 x23 x24&&decide (y3.length+x22.length<=100000+x24.toNat))=true):lp_f87_1 x22 x23 x24 y2 y3=la_f87_1 x22 x23 x24 y2 y3:=by
 simp only [Bool.and_eq_true,decide_eq_true_eq] at h
 obtain ⟨h,hl⟩:=h
 obtain ⟨rfl,h3,k,rfl,hk⟩:=rng_k h
 clear h
 rw [Int.toNat_natCast] at hl
 revert y3
 refine range_ind x22 (fun k=> ∀ y3:List ByteArray,y3.length+x22.length<=100000+k->lp_f87_1 x22 (x22.length:Int) (k:Int) y2 y3=la_f87_1 x22 (x22.length:Int) (k:Int) y2 y3) ?_ ?_ k hk
 ·intro y3 _
  rw [ln_f87_1]
  simp [n_f87_1,la_f87_1,ilt_nat,br_false]
 ·intro k hk ih y3 hy
  rw [ln_f87_1]
  simp only [n_f87_1,ilt_nat,cIx_nat,hk,decide_true,br_true,Int.toNat_natCast,add1 (k:=k),lgt_get (y:=tySymbol) hk,cApp_ok (show y3.length+[x22[k].1].length<=1000000 by simp only [List.length_singleton];omega) (show 16<=1000 by omega)]
  rw [ih _ (by rw [List.length_append];simp only [List.length_singleton];omega)]
  simp only [la_f87_1,Int.toNat_natCast,List.drop_eq_getElem_cons hk,List.map_cons,List.append_assoc,List.singleton_append]
theorem lo_f87_0: ∀ S l p,g_f87.L 0 (fgt fg_f87_0 S)=some (true,l)->pickA l=some p->loopF (roundF g_f87 fg_f87_0 tb_f87_0) S=some p:=
 lok_of (s:=sh_f87_0) ⟨by decide,by decide⟩ (by kernel_rfl) fun x y hok p hp=>by
 simp only [pickA_br,pickA_one] at hp
 exact (l_f87_0 x.2.2.2.1 x.2.2.2.2.1 x.2.2.2.2.2.1 y.1 y.2.1 (by simpa using hok)).trans hp
theorem lo_f87_1: ∀ S l p,g_f87.L 1 (fgt fg_f87_1 S)=some (true,l)->pickA l=some p->loopF (roundF g_f87 fg_f87_1 tb_f87_1) S=some p:=
 lok_of (s:=sh_f87_1) ⟨by decide,by decide⟩ (by kernel_rfl) fun x y hok p hp=>by
 simp only [pickA_br,pickA_one] at hp
 exact (l_f87_1 x.2.2.1 x.2.2.2.1 x.2.2.2.2.1 y.1 y.2.1 (by simpa using hok)).trans hp
theorem lk_f87:tc_f87.lok g_f87:=by
 repeat (first|exact trivial|exact lo_f87_0|exact lo_f87_1|refine ⟨?_, ?_⟩)
theorem s_f87 (x:Image)(h:imgOk x=true):r_f87 x=some (.tu [.t (.sl .str) (namesF x).1,.t (.sl .str) (namesF x).2],[]):=by
 simp only [imgOk,decide_eq_true_eq] at h
 simp only [r_f87,rng_0 h.1,rng_0 h.2,Bool.true_and,Int.toNat_zero,List.drop_zero,List.nil_append]
 rw [decide_eq_true (by simp only [List.length_nil];omega),decide_eq_true (by simp only [List.length_nil];omega),br_true,br_true]
 rfl
def sp_f87:Ent:=spec (.pr tyImage .nil) (fun x=>(imgOk x.1)) (fun x=>(.tu [(.t (.sl .str) ((namesF x.1).1)),(.t (.sl .str) ((namesF x.1).2))]))
theorem ms_f87:Meets Tryz.prog 87 (strip sp_f87):=meets_spec (R:=runF g_f87 tc_f87 rv_f87 false) (mG Tryz.func87 (by kernel_rfl) Tryz.ntmps87 (by kernel_rfl) gk_f87 lk_f87) fun x hok=>(e_f87 x.1).trans (s_f87 x.1 hok)
def wrongZ (a l:List ByteArray)(k:Nat):Bool:=(List.range' k (l.length-k)).any fun j=> !namedG (l.getD j ByteArray.empty)||hasS (a.take j) (l.getD j ByteArray.empty)
def wrongF (l:List ByteArray):Bool:=wrongZ l l 0
def lenS (l:List ByteArray):Bool:=decide (l.length<=100000)&&l.all nameG
def fg_f88_0:Fg:=⟨[(0,some (.sl .str)),(5,some (.sl .str)),(6,some tI),(7,some tI)],[]⟩
noncomputable def tb_f88_0:TC:=(.sq (.reg (rT Tryz.f88 2)) (.sq (.cd (.t 8) .sk (.fg ⟨[],[]⟩ (.ex 0))) (.sq (.bk 1 (.sq (.reg (rT Tryz.f88 3)) (.sq (.reg (rT Tryz.f88 4)) (.cd (.t 21) (.sq (.reg (rT Tryz.f88 5)) (.fg ⟨[(2,some .bool)],[]⟩ .rt)) .sk)))) (.reg (rT Tryz.f88 6)))))
noncomputable def tc_f88:TC:=(.sq (.reg (rT Tryz.f88 0)) (.sq (.sq (.reg (rT Tryz.f88 1)) (.bk 0 (.lp 0 fg_f88_0 tb_f88_0))) (.sq (.reg (rT Tryz.f88 7)) .rt)))
def rv_f88:List (RV×Option Ty):=[((.t 2),some .bool)]
abbrev sh_f88_0:Sh:=⟨[(0,.ty (.sl .str)),(5,.ty (.sl .str)),(6,.ty tI),(7,.ty tI)],[]⟩
def st_f88_0 (x0 x5:List ByteArray)(x6 x7:Int):VS:=sh_f88_0.st (x0,x5,x6,x7,()) ()
abbrev sh_f88_0_ret:Sh:=⟨[(2,.ty .bool)],[]⟩
def st_f88_0_ret (x2:Bool):VS:=sh_f88_0_ret.st (x2,()) ()
abbrev sh_f88_0_e0:Sh:=⟨[],[]⟩
def st_f88_0_e0  : VS:=sh_f88_0_e0.st () ()
def L_f88_0:VS->Option (Bool×List (Bool×Exit×VS)):=mkL sh_f88_0 (fun x y=>(rngOk x.2.1 x.2.2.1 x.2.2.2.1&&decide (x.1.length=x.2.1.length)&&x.2.1.all nameG)) (fun x y=>[((wrongZ x.1 x.2.1 x.2.2.2.1.toNat),.ret,st_f88_0_ret (true)),(true,.exit 0,st_f88_0_e0)])
def g_f88:G:=⟨TYs,[],23,EL [(163,sp_f163),(164,sp_f164)],keeps,(Ls [L_f88_0]),IL [],RL []⟩
def b_f88_0 (x0 x5:List ByteArray)(x6 x7:Int):Option (Exit×VS):=
 let a1:=lgt .str x5 (Int.toNat x7)
 br (ilt x7 x6) (br (cIx x5 x7) (br (nameG a1) (br (!(namedG a1)) (some (.ret,st_f88_0_ret true)) (br (cSl x0 0 x7 ((List.length x0:Nat):Int)) (br (idxSOk (lsl x0 0 x7) a1) (br (hasS (lsl x0 0 x7) a1) (some (.ret,st_f88_0_ret true)) (some (.normal,st_f88_0 x0 x5 x6 (iadd .i64 x7 1)))) none) none)) none) none) (some (.exit 0,st_f88_0_e0))
noncomputable def lp_f88_0 (x0 x5:List ByteArray)(x6 x7:Int):Option (Exit×VS):=loopF (roundF g_f88 fg_f88_0 tb_f88_0) (st_f88_0 x0 x5 x6 x7)
noncomputable def n_f88_0 (x0 x5:List ByteArray)(x6 x7:Int):Option (Exit×VS):=
 let a1:=lgt .str x5 (Int.toNat x7)
 br (ilt x7 x6) (br (cIx x5 x7) (br (nameG a1) (br (!(namedG a1)) (some (.ret,st_f88_0_ret true)) (br (cSl x0 0 x7 ((List.length x0:Nat):Int)) (br (idxSOk (lsl x0 0 x7) a1) (br (hasS (lsl x0 0 x7) a1) (some (.ret,st_f88_0_ret true)) (lp_f88_0 x0 x5 x6 (iadd .i64 x7 1))) none) none)) none) none) (some (.exit 0,st_f88_0_e0))
def la_f88_0 (x0 x5:List ByteArray)(x6 x7:Int):Option (Exit×VS):=br (wrongZ x0 x5 x7.toNat) (some (.ret,st_f88_0_ret (true)))<|some (.exit 0,st_f88_0_e0)
theorem be_f88_0 (x0 x5:List ByteArray)(x6 x7:Int):roundF g_f88 fg_f88_0 tb_f88_0 (st_f88_0 x0 x5 x6 x7)=b_f88_0 x0 x5 x6 x7:=by kernel_rfl
theorem ln_f88_0 (x0 x5:List ByteArray)(x6 x7:Int):lp_f88_0 x0 x5 x6 x7=n_f88_0 x0 x5 x6 x7:=(loopF_nxt _ _).trans (by
 rw [be_f88_0]
 simp only [b_f88_0,n_f88_0,nxt_br,nxt_n,nxt_r,nxt_e,nxt_0]
 rfl)
def r_f88 (p0:List ByteArray):Option (V×List VO):=br (rngOk p0 (llen p0) (0:Int)&&decide (p0.length=p0.length)&&p0.all nameG) (br (wrongZ p0 p0 (0:Int).toNat) (some (.t .bool (true),[])) (some (.t .bool false,[]))) none
theorem e_f88 (p0:List ByteArray):runF g_f88 tc_f88 rv_f88 false [.t (.sl .str) p0] []=r_f88 p0:=by kernel_rfl
theorem en_f88:Entered Tryz.prog 88:= .inr ⟨by decide,_,Tryz.func88,by kernel_rfl,by kernel_rfl⟩
theorem gk_f88:GOk Tryz.prog g_f88:=gok_of _ (gA (gC en_f163 ms_f163 (gC en_f164 ms_f164 gN)))
theorem l_f88_0 (x0 x5:List ByteArray)(x6 x7:Int)(h:(rngOk x5 x6 x7&&decide (x0.length=x5.length)&&x5.all nameG)=true):lp_f88_0 x0 x5 x6 x7=la_f88_0 x0 x5 x6 x7:=by
 simp only [Bool.and_eq_true,decide_eq_true_eq] at h
 obtain ⟨⟨h,hl⟩,ha⟩:=h
 obtain ⟨rfl,h3,k,rfl,hk⟩:=rng_k h
 clear h
 refine range_ind x5 (fun k=>lp_f88_0 x0 x5 (x5.length:Int) (k:Int)=la_f88_0 x0 x5 (x5.length:Int) (k:Int)) ?_ ?_ k hk
 ·rw [ln_f88_0]
  simp [n_f88_0,la_f88_0,ilt_nat,br_false,wrongZ]
 ·intro k hk ih
  rw [ln_f88_0]
  have hn:nameG x5[k]=true:=List.all_eq_true.1 ha _ (List.getElem_mem hk)
  have hs:cSl x0 0 (k:Int) ((List.length x0:Nat):Int)=true:=by simp only [cSl,decide_eq_true_eq];omega
  have hs2:lsl x0 0 (k:Int)=x0.take k:=by simp [lsl]
  have hi:idxSOk (x0.take k) x5[k]=true:=by simp only [idxSOk,lenG,decide_eq_true_eq,List.length_take];omega
  have hw:wrongZ x0 x5 k=(!namedG x5[k]||hasS (x0.take k) x5[k]||wrongZ x0 x5 (k+1)):=by
   have:x5.length-k=(x5.length-(k+1))+1:=by omega
   unfold wrongZ
   rw [this,List.range'_succ,List.any_cons]
   simp only [List.getD_eq_getElem?_getD,List.getElem?_eq_getElem hk,Option.getD_some]
  simp only [n_f88_0,ilt_nat,cIx_nat,hk,decide_true,br_true,Int.toNat_natCast,add1 (k:=k),lgt_get (y:= .str) hk,hn,hs,hs2,hi,ih]
  simp only [la_f88_0,Int.toNat_natCast,hw]
  cases namedG x5[k]<;>cases hasS (x0.take k) x5[k]<;>simp [br_true,br_false]
theorem lo_f88_0: ∀ S l p,g_f88.L 0 (fgt fg_f88_0 S)=some (true,l)->pickA l=some p->loopF (roundF g_f88 fg_f88_0 tb_f88_0) S=some p:=
 lok_of (s:=sh_f88_0) ⟨by decide,by decide⟩ (by kernel_rfl) fun x y hok p hp=>by
 simp only [pickA_br,pickA_one] at hp
 exact (l_f88_0 x.1 x.2.1 x.2.2.1 x.2.2.2.1 (by simpa using hok)).trans hp
theorem lk_f88:tc_f88.lok g_f88:=by
 repeat (first|exact trivial|exact lo_f88_0|refine ⟨?_, ?_⟩)
theorem s_f88 (l:List ByteArray)(h:lenS l=true):r_f88 l=some (.t .bool (wrongF l),[]):=by
 simp only [lenS,Bool.and_eq_true,decide_eq_true_eq] at h
 simp only [r_f88,rng_0 h.1,h.2,Bool.true_and,Bool.and_true,decide_true,br_true,Int.toNat_zero]
 unfold wrongF
 cases wrongZ l l 0<;>rfl
def sp_f88:Ent:=spec (.pr (.sl .str) .nil) (fun x=>(lenS x.1)) (fun x=>(.t .bool (wrongF x.1)))
theorem ms_f88:Meets Tryz.prog 88 (strip sp_f88):=meets_spec (R:=runF g_f88 tc_f88 rv_f88 false) (mG Tryz.func88 (by kernel_rfl) Tryz.ntmps88 (by kernel_rfl) gk_f88 lk_f88) fun x hok=>(e_f88 x.1).trans (s_f88 x.1 hok)
def secB (x:Section):List Int:=numL (slen x.1) 1++(bytesL x.1++(numL (llen x.2.1) 2++x.2.1))
def symB (x:Symbol):List Int:=numL (slen x.1) 1++(bytesL x.1++numL x.2.1 4)
theorem secB_len (x:Section):(secB x).length=3+x.1.size+x.2.1.length:=by simp only [secB,List.length_append,numL_len,bytesG_len];omega
theorem symB_len (x:Symbol):(symB x).length=5+x.1.size:=by simp only [symB,List.length_append,numL_len,bytesG_len];omega
def writtenF (x:Image):List Int:=[88,69,1]++numL (llen x.1) 1++x.1.flatMap secB++numL (llen x.2.1) 1++x.2.1.flatMap symB
def wrOk (x:Image):Bool:=imgOk x&&decide ((x.1.flatMap secB).length+(x.2.1.flatMap symB).length<=8000000000000)
noncomputable def dr_f31_0:List DO:=dT Tryz.f31 5
noncomputable def dr_f31_1:List DO:=dT Tryz.f31 11
def fg_f31_0:Fg:=⟨[(1,none),(3,none),(15,some (.sl tySection)),(16,some tI),(17,some tI)],[(1,some tyImage),(3,none),(13,none),(28,none),(31,none),(37,none),(51,none),(5013,none),(5028,none),(5037,none),(5051,none),(10013,none),(10028,none),(10037,none),(10051,none),(15013,none),(15028,none),(15037,none),(15051,none)]⟩
noncomputable def tb_f31_0:TC:=(.mv [(28,13)] (.sq (.reg (rT Tryz.f31 3)) (.sq (.cd (.t 18) .sk (.fg ⟨[(1,none),(3,none)],[(1,some tyImage),(3,none),(13,none),(28,none),(31,none),(37,none),(51,none),(5013,none),(5028,none),(5037,none),(5051,none),(10013,none),(10028,none),(10037,none),(10051,none),(15013,none),(15028,none),(15037,none),(15051,none)]⟩ (.ex 0))) (.sq (.bk 1 (.sq (.reg (rT Tryz.f31 4)) (.dr dr_f31_0 [(0,[3,13,28,31,37,51,5013,5028,5037,5051,10013,10028,10037,10051,15013,15028,15037,15051]),(1,[5]),(2,[5]),(3,[3,13,24,28,31,37,51,5013,5024,5028,5037,5051,10013,10024,10028,10037,10051,15013,15024,15028,15037,15051]),(4,[5]),(5,[5]),(6,[]),(7,[24,28,5024,5028,10024,10028,15024,15028]),(8,[5]),(9,[5]),(10,[28,31,5028,5031,10028,10031,15028,15031]),(11,[28,31,5028,10028,15028])] (.of [0,1,2,4,5,6,8,9,3,7,10,11])))) (.reg (rT Tryz.f31 6))))))
def fg_f31_1:Fg:=⟨[(3,none),(39,some (.sl tySymbol)),(40,some tI),(41,some tI)],[(3,none),(13,none),(28,none),(31,none),(37,none),(51,none),(5013,none),(5028,none),(5037,none),(5051,none),(10013,none),(10028,none),(10037,none),(10051,none),(15013,none),(15028,none),(15037,none),(15051,none)]⟩
noncomputable def tb_f31_1:TC:=(.mv [(51,37)] (.sq (.reg (rT Tryz.f31 9)) (.sq (.cd (.t 42) .sk (.fg ⟨[(3,none)],[(3,none),(13,none),(28,none),(31,none),(37,none),(51,none),(5013,none),(5028,none),(5037,none),(5051,none),(10013,none),(10028,none),(10037,none),(10051,none),(15013,none),(15028,none),(15037,none),(15051,none)]⟩ (.ex 2))) (.sq (.bk 3 (.sq (.reg (rT Tryz.f31 10)) (.dr dr_f31_1 [(0,[3,13,28,31,37,51,5013,5028,5037,5051,10013,10028,10037,10051,15013,15028,15037,15051]),(1,[7]),(2,[7]),(3,[3,13,28,31,37,48,51,5013,5028,5037,5048,5051,10013,10028,10037,10048,10051,15013,15028,15037,15048,15051]),(4,[7]),(5,[7]),(6,[48,51,5048,5051,10048,10051,15048,15051]),(7,[51,5051,10051,15051])] (.of [0,1,2,4,5,3,6,7])))) (.reg (rT Tryz.f31 12))))))
noncomputable def tc_f31:TC:=(.sq (.reg (rT Tryz.f31 0)) (.sq (.reg (rT Tryz.f31 1)) (.sq (.sq (.reg (rT Tryz.f31 2)) (.bk 0 (.nw 3 5 (.lp 0 fg_f31_0 tb_f31_0)))) (.sq (.reg (rT Tryz.f31 7)) (.sq (.sq (.reg (rT Tryz.f31 8)) (.bk 2 (.lp 1 fg_f31_1 tb_f31_1))) (.sq (.reg (rT Tryz.f31 13)) .rt))))))
def rv_f31:List (RV×Option Ty):=[((.t 2),none)]
abbrev sh_f31_0:Sh:=⟨[(1,.ptr 1 0),(3,.ms 13),(15,.ty (.sl tySection)),(16,.ty tI),(17,.ty tI)],[(1,.box tyImage),(3,.no),(13,.arr 1000005 (.int .u8)),(28,.no),(31,.no),(37,.no),(51,.no),(5013,.no),(5028,.no),(5037,.no),(5051,.no),(10013,.no),(10028,.no),(10037,.no),(10051,.no),(15013,.no),(15028,.no),(15037,.no),(15051,.no)]⟩
def st_f31_0 (x15:List Section)(x16 x17:Int)(y1:Image)(y13:List Int):VS:=sh_f31_0.st ((),(),x15,x16,x17,()) (y1,(),y13,(),(),(),(),(),(),(),(),(),(),(),(),(),(),(),(),())
abbrev sh_f31_0_e0:Sh:=⟨[(1,.ptr 1 0),(3,.ms 13)],[(1,.box tyImage),(3,.no),(13,.arr 1000005 (.int .u8)),(28,.no),(31,.no),(37,.no),(51,.no),(5013,.no),(5028,.no),(5037,.no),(5051,.no),(10013,.no),(10028,.no),(10037,.no),(10051,.no),(15013,.no),(15028,.no),(15037,.no),(15051,.no)]⟩
def st_f31_0_e0 (y1:Image)(y13:List Int):VS:=sh_f31_0_e0.st ((),(),()) (y1,(),y13,(),(),(),(),(),(),(),(),(),(),(),(),(),(),(),(),())
abbrev sh_f31_1:Sh:=⟨[(3,.ms 37),(39,.ty (.sl tySymbol)),(40,.ty tI),(41,.ty tI)],[(3,.no),(13,.no),(28,.no),(31,.no),(37,.arr 1000005 (.int .u8)),(51,.no),(5013,.no),(5028,.no),(5037,.no),(5051,.no),(10013,.no),(10028,.no),(10037,.no),(10051,.no),(15013,.no),(15028,.no),(15037,.no),(15051,.no)]⟩
def st_f31_1 (x39:List Symbol)(x40 x41:Int)(y37:List Int):VS:=sh_f31_1.st ((),x39,x40,x41,()) ((),(),(),(),y37,(),(),(),(),(),(),(),(),(),(),(),(),(),())
abbrev sh_f31_1_e2:Sh:=⟨[(3,.ms 37)],[(3,.no),(13,.no),(28,.no),(31,.no),(37,.arr 1000005 (.int .u8)),(51,.no),(5013,.no),(5028,.no),(5037,.no),(5051,.no),(10013,.no),(10028,.no),(10037,.no),(10051,.no),(15013,.no),(15028,.no),(15037,.no),(15051,.no)]⟩
def st_f31_1_e2 (y37:List Int):VS:=sh_f31_1_e2.st ((),()) ((),(),(),(),y37,(),(),(),(),(),(),(),(),(),(),(),(),(),())
def L_f31_0:VS->Option (Bool×List (Bool×Exit×VS)):=mkL sh_f31_0 (fun x y=>(rngOk x.2.2.1 x.2.2.2.1 x.2.2.2.2.1&&decide (y.2.2.1.length+((x.2.2.1.drop x.2.2.2.2.1.toNat).flatMap secB).length<=17592186044416))) (fun x y=>[(true,.exit 0,st_f31_0_e0 (y.1) (y.2.2.1++(x.2.2.1.drop x.2.2.2.2.1.toNat).flatMap secB))])
def L_f31_1:VS->Option (Bool×List (Bool×Exit×VS)):=mkL sh_f31_1 (fun x y=>(rngOk x.2.1 x.2.2.1 x.2.2.2.1&&decide (y.2.2.2.2.1.length+((x.2.1.drop x.2.2.2.1.toNat).flatMap symB).length<=17592186044416))) (fun x y=>[(true,.exit 2,st_f31_1_e2 (y.2.2.2.2.1++(x.2.1.drop x.2.2.2.1.toNat).flatMap symB))])
def g_f31:G:=⟨TYs,[8],54,EL [(89,sp_f89),(90,sp_f90),(7240624,sp_op_convert_39_39)],(90::89::7240624::keeps),(Ls [L_f31_0,L_f31_1]),IL [],RL []⟩
def b_f31_0 (x15:List Section)(x16 x17:Int)(y1:Image)(y13:List Int):Option (Exit×VS):=
 let a1:=lgt tySection x15 (Int.toNat x17)
 let a2:=numF (nameF y13 (a1.1)) (llen ((a1.2).1)) 2
 br (ilt x17 x16) (br (cIx x15 x17) (br (nameOk1 y13 (a1.1)) (br (numOk (nameF y13 (a1.1)) (llen ((a1.2).1)) 2) (br (cApp a2 ((a1.2).1) 1) (some (.normal,st_f31_0 x15 x16 (iadd .i64 x17 1) y1 (a2++((a1.2).1)))) none) none) none) none) (some (.exit 0,st_f31_0_e0 y1 y13))
noncomputable def lp_f31_0 (x15:List Section)(x16 x17:Int)(y1:Image)(y13:List Int):Option (Exit×VS):=loopF (roundF g_f31 fg_f31_0 tb_f31_0) (st_f31_0 x15 x16 x17 y1 y13)
noncomputable def n_f31_0 (x15:List Section)(x16 x17:Int)(y1:Image)(y13:List Int):Option (Exit×VS):=
 let a1:=lgt tySection x15 (Int.toNat x17)
 let a2:=numF (nameF y13 (a1.1)) (llen ((a1.2).1)) 2
 br (ilt x17 x16) (br (cIx x15 x17) (br (nameOk1 y13 (a1.1)) (br (numOk (nameF y13 (a1.1)) (llen ((a1.2).1)) 2) (br (cApp a2 ((a1.2).1) 1) (lp_f31_0 x15 x16 (iadd .i64 x17 1) y1 (a2++((a1.2).1))) none) none) none) none) (some (.exit 0,st_f31_0_e0 y1 y13))
def la_f31_0 (x15:List Section)(x16 x17:Int)(y1:Image)(y13:List Int):Option (Exit×VS):=some (.exit 0,st_f31_0_e0 (y1) (y13++(x15.drop x17.toNat).flatMap secB))
theorem be_f31_0 (x15:List Section)(x16 x17:Int)(y1:Image)(y13:List Int):roundF g_f31 fg_f31_0 tb_f31_0 (st_f31_0 x15 x16 x17 y1 y13)=b_f31_0 x15 x16 x17 y1 y13:=by kernel_rfl
theorem ln_f31_0 (x15:List Section)(x16 x17:Int)(y1:Image)(y13:List Int):lp_f31_0 x15 x16 x17 y1 y13=n_f31_0 x15 x16 x17 y1 y13:=(loopF_nxt _ _).trans (by
 rw [be_f31_0]
 simp only [b_f31_0,n_f31_0,nxt_br,nxt_n,nxt_r,nxt_e,nxt_0]
 rfl)
def b_f31_1 (x39:List Symbol)(x40 x41:Int)(y37:List Int):Option (Exit×VS):=
 let a1:=lgt tySymbol x39 (Int.toNat x41)
 br (ilt x41 x40) (br (cIx x39 x41) (br (nameOk1 y37 (a1.1)) (br (numOk (nameF y37 (a1.1)) ((a1.2).1) 4) (some (.normal,st_f31_1 x39 x40 (iadd .i64 x41 1) (numF (nameF y37 (a1.1)) ((a1.2).1) 4))) none) none) none) (some (.exit 2,st_f31_1_e2 y37))
noncomputable def lp_f31_1 (x39:List Symbol)(x40 x41:Int)(y37:List Int):Option (Exit×VS):=loopF (roundF g_f31 fg_f31_1 tb_f31_1) (st_f31_1 x39 x40 x41 y37)
noncomputable def n_f31_1 (x39:List Symbol)(x40 x41:Int)(y37:List Int):Option (Exit×VS):=
 let a1:=lgt tySymbol x39 (Int.toNat x41)
 br (ilt x41 x40) (br (cIx x39 x41) (br (nameOk1 y37 (a1.1)) (br (numOk (nameF y37 (a1.1)) ((a1.2).1) 4) (lp_f31_1 x39 x40 (iadd .i64 x41 1) (numF (nameF y37 (a1.1)) ((a1.2).1) 4)) none) none) none) (some (.exit 2,st_f31_1_e2 y37))
def la_f31_1 (x39:List Symbol)(x40 x41:Int)(y37:List Int):Option (Exit×VS):=some (.exit 2,st_f31_1_e2 (y37++(x39.drop x41.toNat).flatMap symB))
theorem be_f31_1 (x39:List Symbol)(x40 x41:Int)(y37:List Int):roundF g_f31 fg_f31_1 tb_f31_1 (st_f31_1 x39 x40 x41 y37)=b_f31_1 x39 x40 x41 y37:=by kernel_rfl
theorem ln_f31_1 (x39:List Symbol)(x40 x41:Int)(y37:List Int):lp_f31_1 x39 x40 x41 y37=n_f31_1 x39 x40 x41 y37:=(loopF_nxt _ _).trans (by
 rw [be_f31_1]
 simp only [b_f31_1,n_f31_1,nxt_br,nxt_n,nxt_r,nxt_e,nxt_0]
 rfl)
def r_f31 (p0:Image):Option (V×List VO):=
 let a1:=((numF ([88,69,1]) (llen p0.1) 1)++(p0.1.drop (0:Int).toNat).flatMap secB)
 let a2:=llen (((p0).2).1)
 br (!(List.isEmpty ([88,69,1]))) (br (numOk ([88,69,1]) (llen p0.1) 1) (br (rngOk p0.1 (llen p0.1) (0:Int)&&decide ((numF ([88,69,1]) (llen p0.1) 1).length+((p0.1.drop (0:Int).toNat).flatMap secB).length<=17592186044416)) (br (numOk a1 a2 1) (br (rngOk (((p0).2).1) a2 (0:Int)&&decide ((numF a1 a2 1).length+(((((p0).2).1).drop (0:Int).toNat).flatMap symB).length<=17592186044416)) (some (.ms 50000,[.arr 1000005 (.int .u8) ((numF a1 a2 1)++((((p0).2).1).drop (0:Int).toNat).flatMap symB)])) none) none) none) none) none
theorem e_f31 (p0:Image):runF g_f31 tc_f31 rv_f31 true [.t tyImage p0] []=r_f31 p0:=by kernel_rfl
theorem en_f31:Entered Tryz.prog 31:= .inr ⟨by decide,_,Tryz.func31,by kernel_rfl,by kernel_rfl⟩
theorem gk_f31:GOk Tryz.prog g_f31:=gok_of _ (gA (gC en_f89 ms_f89 (gC en_f90 ms_f90 (gC en_op_convert_39_39 ms_op_convert_39_39 gN))))
theorem l_f31_0 (x15:List Section)(x16 x17:Int)(y1:Image)(y13:List Int)(h:(rngOk x15 x16 x17&&decide (y13.length+((x15.drop x17.toNat).flatMap secB).length<=17592186044416))=true):lp_f31_0 x15 x16 x17 y1 y13=la_f31_0 x15 x16 x17 y1 y13:=by
 simp only [Bool.and_eq_true,decide_eq_true_eq] at h
 obtain ⟨h,hl⟩:=h
 obtain ⟨rfl,h3,k,rfl,hk⟩:=rng_k h
 clear h
 rw [Int.toNat_natCast] at hl
 revert y13
 refine range_ind x15 (fun k=> ∀ y13:List Int,y13.length+((x15.drop k).flatMap secB).length<=17592186044416->lp_f31_0 x15 (x15.length:Int) (k:Int) y1 y13=la_f31_0 x15 (x15.length:Int) (k:Int) y1 y13) ?_ ?_ k hk
 ·intro y13 _
  rw [ln_f31_0]
  simp [n_f31_0,la_f31_0,ilt_nat,br_false]
 ·intro k hk ih y13 hy
  rw [ln_f31_0]
  rw [List.drop_eq_getElem_cons hk,List.flatMap_cons,List.length_append,secB_len] at hy
  have l1:(nameF y13 x15[k].1).length=y13.length+1+x15[k].1.size:=by simp only [nameF,List.length_append,numL_len,bytesG_len]
  have l2:(numF (nameF y13 x15[k].1) (llen x15[k].2.1) 2).length=y13.length+3+x15[k].1.size:=by simp only [numF,List.length_append,numL_len,l1,show (2:Int).toNat=2 from rfl];omega
  have e5:numF (nameF y13 x15[k].1) (llen x15[k].2.1) 2++x15[k].2.1=y13++secB x15[k]:=by simp only [numF,nameF,secB,List.append_assoc];rfl
  simp only [n_f31_0,ilt_nat,cIx_nat,hk,decide_true,br_true,Int.toNat_natCast,add1 (k:=k),lgt_get (y:=tySection) hk,
   show nameOk1 y13 x15[k].1=true from by simp only [nameOk1,decide_eq_true_eq];omega,show numOk (nameF y13 x15[k].1) (llen x15[k].2.1) 2=true from by simp only [numOk,decide_eq_true_eq];omega,cAppG (show (numF (nameF y13 x15[k].1) (llen x15[k].2.1) 2).length+x15[k].2.1.length<=70368744177664 by omega),e5]
  rw [ih _ (by rw [List.length_append,secB_len];omega)]
  simp only [la_f31_0,Int.toNat_natCast,List.drop_eq_getElem_cons hk,List.flatMap_cons,List.append_assoc]
theorem l_f31_1 (x39:List Symbol)(x40 x41:Int)(y37:List Int)(h:(rngOk x39 x40 x41&&decide (y37.length+((x39.drop x41.toNat).flatMap symB).length<=17592186044416))=true):lp_f31_1 x39 x40 x41 y37=la_f31_1 x39 x40 x41 y37:=by
 simp only [Bool.and_eq_true,decide_eq_true_eq] at h
 obtain ⟨h,hl⟩:=h
 obtain ⟨rfl,h3,k,rfl,hk⟩:=rng_k h
 clear h
 rw [Int.toNat_natCast] at hl
 revert y37
 refine range_ind x39 (fun k=> ∀ y37:List Int,y37.length+((x39.drop k).flatMap symB).length<=17592186044416->lp_f31_1 x39 (x39.length:Int) (k:Int) y37=la_f31_1 x39 (x39.length:Int) (k:Int) y37) ?_ ?_ k hk
 ·intro y37 _
  rw [ln_f31_1]
  simp [n_f31_1,la_f31_1,ilt_nat,br_false]
 ·intro k hk ih y37 hy
  rw [ln_f31_1]
  rw [List.drop_eq_getElem_cons hk,List.flatMap_cons,List.length_append,symB_len] at hy
  have l1:(nameF y37 x39[k].1).length=y37.length+1+x39[k].1.size:=by simp only [nameF,List.length_append,numL_len,bytesG_len]
  have e5:numF (nameF y37 x39[k].1) x39[k].2.1 4=y37++symB x39[k]:=by simp only [numF,nameF,symB,List.append_assoc];rfl
  simp only [n_f31_1,ilt_nat,cIx_nat,hk,decide_true,br_true,Int.toNat_natCast,add1 (k:=k),lgt_get (y:=tySymbol) hk,
   show nameOk1 y37 x39[k].1=true from by simp only [nameOk1,decide_eq_true_eq];omega,show numOk (nameF y37 x39[k].1) x39[k].2.1 4=true from by simp only [numOk,decide_eq_true_eq];omega,e5]
  rw [ih _ (by rw [List.length_append,symB_len];omega)]
  simp only [la_f31_1,Int.toNat_natCast,List.drop_eq_getElem_cons hk,List.flatMap_cons,List.append_assoc]
theorem lo_f31_0: ∀ S l p,g_f31.L 0 (fgt fg_f31_0 S)=some (true,l)->pickA l=some p->loopF (roundF g_f31 fg_f31_0 tb_f31_0) S=some p:=
 lok_of (s:=sh_f31_0) ⟨by decide,by decide⟩ (by kernel_rfl) fun x y hok p hp=>by
 simp only [pickA_br,pickA_one] at hp
 exact (l_f31_0 x.2.2.1 x.2.2.2.1 x.2.2.2.2.1 y.1 y.2.2.1 (by simpa using hok)).trans hp
theorem lo_f31_1: ∀ S l p,g_f31.L 1 (fgt fg_f31_1 S)=some (true,l)->pickA l=some p->loopF (roundF g_f31 fg_f31_1 tb_f31_1) S=some p:=
 lok_of (s:=sh_f31_1) ⟨by decide,by decide⟩ (by kernel_rfl) fun x y hok p hp=>by
 simp only [pickA_br,pickA_one] at hp
 exact (l_f31_1 x.2.1 x.2.2.1 x.2.2.2.1 y.2.2.2.2.1 (by simpa using hok)).trans hp
theorem lk_f31:tc_f31.lok g_f31:=by
 repeat (first|exact trivial|exact lo_f31_0|exact lo_f31_1|refine ⟨?_, ?_⟩)
theorem s_f31 (x:Image)(h:wrOk x=true):r_f31 x=some (.ms 50000,[.arr 1000005 (.int .u8) (writtenF x)]):=by
 simp only [wrOk,imgOk,Bool.and_eq_true,decide_eq_true_eq] at h
 obtain ⟨⟨h1,h2⟩,h3⟩:=h
 have q0:numOk [88,69,1] (llen x.1) 1=true:=rfl
 have q1:(numF [88,69,1] (llen x.1) 1).length=4:=by simp [numF,numL_len]
 have q2:(numF [88,69,1] (llen x.1) 1++x.1.flatMap secB).length<=8796093022220:=by rw [List.length_append,q1];omega
 have q3:(numF (numF [88,69,1] (llen x.1) 1++x.1.flatMap secB) (llen x.2.1) 1).length<=8796093022221:=by
  have:(numF (numF [88,69,1] (llen x.1) 1++x.1.flatMap secB) (llen x.2.1) 1).length=(numF [88,69,1] (llen x.1) 1++x.1.flatMap secB).length+1:=by
   unfold numF
   rw [List.length_append,numL_len]
   rfl
  omega
 simp only [r_f31,List.isEmpty_cons,Bool.not_false,br_true,q0,rng_0 h1,rng_0 h2,Bool.true_and,Int.toNat_zero,List.drop_zero]
 rw [decide_eq_true (show (numF [88,69,1] (llen x.1) 1).length+(x.1.flatMap secB).length<=17592186044416 by omega),br_true]
 rw [show numOk (numF [88,69,1] (llen x.1) 1++x.1.flatMap secB) (llen x.2.1) 1=true from by simp only [numOk,decide_eq_true_eq];omega,br_true]
 rw [decide_eq_true (show (numF (numF [88,69,1] (llen x.1) 1++x.1.flatMap secB) (llen x.2.1) 1).length+(x.2.1.flatMap symB).length<=17592186044416 by omega),br_true]
 rfl
def sp_f31:Ent:=specO (.pr tyImage .nil) (fun x=>(wrOk x.1)) (fun x=>(.ms 50000)) (fun x=>[.arr 1000005 (.int .u8) (writtenF x.1)])
theorem ms_f31:Meets Tryz.prog 31 (strip sp_f31):=meets_specO (R:=runF g_f31 tc_f31 rv_f31 true) (mG Tryz.func31 (by kernel_rfl) Tryz.ntmps31 (by kernel_rfl) gk_f31 lk_f31) fun x hok=>(e_f31 x.1).trans (s_f31 x.1 hok)
end
end Go.Proofs.YtmokmalepelinaaGreatDoor.K
namespace Go.Proofs.YtmokmalepelinaaGreatDoor.K
open Go.RowKit
noncomputable section
def badV (z:Symbol):Bool:=ilt z.2.1 0||ige z.2.1 4294967296
def badX (x:Image):Bool:=decide (16<x.1.length)||decide (64<x.2.1.length)||wrongF (namesF x).1||wrongF (namesF x).2||x.2.1.any badV||decide (4096<(writtenF x).length)
def checkX (x:Image):Int:=bif badX x then 20 else 0
def chkOk (x:Image):Bool:=wrOk x
theorem written_len (x:Image):(writtenF x).length=5+(x.1.flatMap secB).length+(x.2.1.flatMap symB).length:=by
 simp only [writtenF,List.length_append,numL_len]
 simp only [List.length_cons,List.length_nil]
 omega
theorem flat_le {α β:Type}(f:α->List β): ∀ (l:List α) (x:α),x∈l->(f x).length<=(l.flatMap f).length
 | [],x,h=>by cases h
 |a::l,x,h=>by
  rw [List.flatMap_cons,List.length_append]
  rcases List.mem_cons.1 h with rfl|h
  ·omega
  ·have:=flat_le f l x h
   omega
theorem wr_names {x:Image}(h:wrOk x=true):lenS (namesF x).1=true/\lenS (namesF x).2=true:=by
 simp only [wrOk,imgOk,Bool.and_eq_true,decide_eq_true_eq] at h
 obtain ⟨⟨h1,h2⟩,h3⟩:=h
 constructor
 ·simp only [lenS,namesF,Bool.and_eq_true,decide_eq_true_eq,List.length_map,List.all_eq_true,List.mem_map,nameG]
  refine ⟨h1, ?_⟩
  rintro s ⟨z,hz,rfl⟩
  have:=flat_le secB x.1 z hz
  rw [secB_len] at this
  omega
 ·simp only [lenS,namesF,Bool.and_eq_true,decide_eq_true_eq,List.length_map,List.all_eq_true,List.mem_map,nameG]
  refine ⟨h2, ?_⟩
  rintro s ⟨z,hz,rfl⟩
  have:=flat_le symB x.2.1 z hz
  rw [symB_len] at this
  omega
def fg_f30_0:Fg:=⟨[(1,none),(29,some (.sl tySymbol)),(30,some tI),(31,some tI)],[(1,some tyImage)]⟩
noncomputable def tb_f30_0:TC:=(.sq (.reg (rT Tryz.f30 5)) (.sq (.cd (.t 32) .sk (.fg ⟨[(1,none)],[(1,some tyImage)]⟩ (.ex 0))) (.sq (.bk 1 (.sq (.reg (rT Tryz.f30 6)) (.sq (.reg (rT Tryz.f30 7)) (.cd (.t 42) (.sq (.reg (rT Tryz.f30 8)) (.fg ⟨[(2,some tI)],[]⟩ .rt)) .sk)))) (.reg (rT Tryz.f30 9)))))
noncomputable def tc_f30:TC:=(.sq (.reg (rT Tryz.f30 0)) (.sq (.reg (rT Tryz.f30 1)) (.sq (.sq (.reg (rT Tryz.f30 2)) (.cd (.t 27) (.sq (.reg (rT Tryz.f30 3)) .rt) .sk)) (.sq (.sq (.reg (rT Tryz.f30 4)) (.bk 0 (.lp 0 fg_f30_0 tb_f30_0))) (.sq (.sq (.reg (rT Tryz.f30 10)) (.cd (.t 47) (.sq (.reg (rT Tryz.f30 11)) .rt) .sk)) (.sq (.reg (rT Tryz.f30 12)) .rt))))))
def rv_f30:List (RV×Option Ty):=[((.t 2),some tI)]
abbrev sh_f30_0:Sh:=⟨[(1,.ptr 1 0),(29,.ty (.sl tySymbol)),(30,.ty tI),(31,.ty tI)],[(1,.box tyImage)]⟩
def st_f30_0 (x29:List Symbol)(x30 x31:Int)(y1:Image):VS:=sh_f30_0.st ((),x29,x30,x31,()) (y1,())
abbrev sh_f30_0_ret:Sh:=⟨[(2,.ty tI)],[]⟩
def st_f30_0_ret (x2:Int):VS:=sh_f30_0_ret.st (x2,()) ()
abbrev sh_f30_0_e0:Sh:=⟨[(1,.ptr 1 0)],[(1,.box tyImage)]⟩
def st_f30_0_e0 (y1:Image):VS:=sh_f30_0_e0.st ((),()) (y1,())
def L_f30_0:VS->Option (Bool×List (Bool×Exit×VS)):=mkL sh_f30_0 (fun x y=>(rngOk x.2.1 x.2.2.1 x.2.2.2.1)) (fun x y=>[(((x.2.1.drop x.2.2.2.1.toNat).any badV),.ret,st_f30_0_ret (20)),(true,.exit 0,st_f30_0_e0 (y.1))])
def g_f30:G:=⟨TYs,[],48,EL [(31,sp_f31),(87,sp_f87),(88,sp_f88)],keeps,(Ls [L_f30_0]),IL [],RL []⟩
def b_f30_0 (x29:List Symbol)(x30 x31:Int)(y1:Image):Option (Exit×VS):=
 let a1:=(((lgt tySymbol x29 (Int.toNat x31)).2).1)
 br (ilt x31 x30) (br (cIx x29 x31) (br (ilt a1 0) (some (.ret,st_f30_0_ret 20)) (br (ige a1 4294967296) (some (.ret,st_f30_0_ret 20)) (some (.normal,st_f30_0 x29 x30 (iadd .i64 x31 1) y1)))) none) (some (.exit 0,st_f30_0_e0 y1))
noncomputable def lp_f30_0 (x29:List Symbol)(x30 x31:Int)(y1:Image):Option (Exit×VS):=loopF (roundF g_f30 fg_f30_0 tb_f30_0) (st_f30_0 x29 x30 x31 y1)
noncomputable def n_f30_0 (x29:List Symbol)(x30 x31:Int)(y1:Image):Option (Exit×VS):=
 let a1:=(((lgt tySymbol x29 (Int.toNat x31)).2).1)
 br (ilt x31 x30) (br (cIx x29 x31) (br (ilt a1 0) (some (.ret,st_f30_0_ret 20)) (br (ige a1 4294967296) (some (.ret,st_f30_0_ret 20)) (lp_f30_0 x29 x30 (iadd .i64 x31 1) y1))) none) (some (.exit 0,st_f30_0_e0 y1))
def la_f30_0 (x29:List Symbol)(x30 x31:Int)(y1:Image):Option (Exit×VS):=br ((x29.drop x31.toNat).any badV) (some (.ret,st_f30_0_ret (20)))<|some (.exit 0,st_f30_0_e0 (y1))
theorem be_f30_0 (x29:List Symbol)(x30 x31:Int)(y1:Image):roundF g_f30 fg_f30_0 tb_f30_0 (st_f30_0 x29 x30 x31 y1)=b_f30_0 x29 x30 x31 y1:=by kernel_rfl
theorem ln_f30_0 (x29:List Symbol)(x30 x31:Int)(y1:Image):lp_f30_0 x29 x30 x31 y1=n_f30_0 x29 x30 x31 y1:=(loopF_nxt _ _).trans (by
 rw [be_f30_0]
 simp only [b_f30_0,n_f30_0,nxt_br,nxt_n,nxt_r,nxt_e,nxt_0]
 rfl)
def r_f30 (p0:Image):Option (V×List VO):=
 let a1:=((namesF p0).1)
 let a2:=((namesF p0).2)
 br (imgOk p0) (br (igt (llen a1) 16) (some (.t tI 20,[])) (br (igt (llen a2) 64) (some (.t tI 20,[])) (br (lenS a1) (br (wrongF a1) (some (.t tI 20,[])) (br (lenS a2) (br (wrongF a2) (some (.t tI 20,[])) (br (rngOk p0.2.1 (llen p0.2.1) (0:Int)) (br ((p0.2.1.drop (0:Int).toNat).any badV) (some (.t tI (20),[])) (br (wrOk (p0)) (br (igt (llen (writtenF (p0))) 4096) (some (.t tI 20,[])) (some (.t tI 0,[]))) none)) none)) none)) none))) none
theorem e_f30 (p0:Image):runF g_f30 tc_f30 rv_f30 false [.t tyImage p0] []=r_f30 p0:=by kernel_rfl
theorem en_f30:Entered Tryz.prog 30:= .inr ⟨by decide,_,Tryz.func30,by kernel_rfl,by kernel_rfl⟩
theorem gk_f30:GOk Tryz.prog g_f30:=gok_of _ (gA (gC en_f31 ms_f31 (gC en_f87 ms_f87 (gC en_f88 ms_f88 gN))))
theorem l_f30_0 (x29:List Symbol)(x30 x31:Int)(y1:Image)(h:(rngOk x29 x30 x31)=true):lp_f30_0 x29 x30 x31 y1=la_f30_0 x29 x30 x31 y1:=by
 obtain ⟨rfl,h3,k,rfl,hk⟩:=rng_k h
 clear h
 refine range_ind x29 (fun k=>lp_f30_0 x29 (x29.length:Int) (k:Int) y1=la_f30_0 x29 (x29.length:Int) (k:Int) y1) ?_ ?_ k hk
 ·rw [ln_f30_0]
  simp [n_f30_0,la_f30_0,ilt_nat,br_false]
 ·intro k hk ih
  rw [ln_f30_0]
  simp only [n_f30_0,ilt_nat,cIx_nat,hk,decide_true,br_true,Int.toNat_natCast,add1 (k:=k),lgt_get (y:=tySymbol) hk,ih]
  simp only [la_f30_0,Int.toNat_natCast,List.drop_eq_getElem_cons hk,List.any_cons,badV]
  cases ilt x29[k].2.1 0<;>cases ige x29[k].2.1 4294967296<;>simp [br_true,br_false]<;>rfl
theorem lo_f30_0: ∀ S l p,g_f30.L 0 (fgt fg_f30_0 S)=some (true,l)->pickA l=some p->loopF (roundF g_f30 fg_f30_0 tb_f30_0) S=some p:=
 lok_of (s:=sh_f30_0) ⟨by decide,by decide⟩ (by kernel_rfl) fun x y hok p hp=>by
 simp only [pickA_br,pickA_one] at hp
 exact (l_f30_0 x.2.1 x.2.2.1 x.2.2.2.1 y.1 (by simpa using hok)).trans hp
theorem lk_f30:tc_f30.lok g_f30:=by
 repeat (first|exact trivial|exact lo_f30_0|refine ⟨?_, ?_⟩)
theorem s_f30 (x:Image)(h:chkOk x=true):r_f30 x=some (.t tI (checkX x),[]):=by
 have hw:wrOk x=true:=h
 obtain ⟨n1,n2⟩:=wr_names hw
 have hi:imgOk x=true:=by simp only [wrOk,Bool.and_eq_true] at hw;exact hw.1
 have hl:x.2.1.length<=100000:=by simp only [imgOk,decide_eq_true_eq] at hi;exact hi.2
 have e1:igt (llen (namesF x).1) 16=decide (16<x.1.length):=by simp [igt,llen,namesF];omega
 have e2:igt (llen (namesF x).2) 64=decide (64<x.2.1.length):=by simp [igt,llen,namesF];omega
 have e3:igt (llen (writtenF x)) 4096=decide (4096<(writtenF x).length):=by simp [igt,llen];omega
 simp only [r_f30,hi,n1,n2,hw,br_true,e1,e2,e3,rng_0 hl,Int.toNat_zero,List.drop_zero]
 unfold checkX badX
 cases decide (16<x.1.length)<;>cases decide (64<x.2.1.length)<;>cases wrongF (namesF x).1<;>cases wrongF (namesF x).2<;>cases x.2.1.any badV<;>cases decide (4096<(writtenF x).length)<;>rfl
def sp_f30:Ent:=spec (.pr tyImage .nil) (fun x=>(chkOk x.1)) (fun x=>(.t tI (checkX x.1)))
theorem ms_f30:Meets Tryz.prog 30 (strip sp_f30):=meets_spec (R:=runF g_f30 tc_f30 rv_f30 false) (mG Tryz.func30 (by kernel_rfl) Tryz.ntmps30 (by kernel_rfl) gk_f30 lk_f30) fun x hok=>(e_f30 x.1).trans (s_f30 x.1 hok)
def encX (x:Image):List Int×Int:=bif badX x then ([],20) else (writtenF x,0)
noncomputable def tc_f10:TC:=(.sq (.reg (rT Tryz.f10 0)) (.sq (.sq (.reg (rT Tryz.f10 1)) (.cd (.t 6) (.sq (.reg (rT Tryz.f10 2)) .rt) .sk)) (.sq (.reg (rT Tryz.f10 3)) .rt)))
def rv_f10:List (RV×Option Ty):=[((.t 2),some (.sl (.int .u8))),((.t 3),some tI)]
def g_f10:G:=⟨TYs,[],9,EL [(30,sp_f30),(31,sp_f31)],keeps,(fun _ _=>none),IL [],RL []⟩
def r_f10 (p0:Image):Option (V×List VO):=br (chkOk p0) (br (ine (checkX p0) 0) (some (.tu [(.t (.sl (.int .u8)) ([]:List Int)),(.t tI 20)],[])) (br (wrOk p0) (some (.tu [(.t (.sl (.int .u8)) (writtenF p0)),(.t tI 0)],[])) none)) none
theorem e_f10 (p0:Image):runF g_f10 tc_f10 rv_f10 false [.t tyImage p0] []=r_f10 p0:=by kernel_rfl
theorem en_f10:Entered Tryz.prog 10:= .inr ⟨by decide,_,Tryz.func10,by kernel_rfl,by kernel_rfl⟩
theorem gk_f10:GOk Tryz.prog g_f10:=gok_of _ (gA (gC en_f30 ms_f30 (gC en_f31 ms_f31 gN)))
theorem lk_f10:tc_f10.lok g_f10:=by repeat (first|exact trivial|refine ⟨?_, ?_⟩)
theorem s_f10 (x:Image)(h:chkOk x=true):r_f10 x=some (.tu [.t (.sl (.int .u8)) (encX x).1,.t tI (encX x).2],[]):=by
 simp only [r_f10,h,show wrOk x=true from h,br_true,checkX,encX]
 cases badX x<;>rfl
def sp_f10:Ent:=spec (.pr tyImage .nil) (fun x=>(chkOk x.1)) (fun x=>(.tu [(.t (.sl (.int .u8)) ((encX x.1).1)),(.t tI ((encX x.1).2))]))
theorem ms_f10:Meets Tryz.prog 10 (strip sp_f10):=meets_spec (R:=runF g_f10 tc_f10 rv_f10 false) (mG Tryz.func10 (by kernel_rfl) Tryz.ntmps10 (by kernel_rfl) gk_f10 lk_f10) fun x hok=>(e_f10 x.1).trans (s_f10 x.1 hok)
theorem ilt_llen {α:Type}{l:List α}{k:Nat}:ilt (k:Int) (llen l)=decide (k<l.length):=ilt_nat
theorem seq_comm (a b:ByteArray):seq a b=seq b a:=by
 simp only [seq]
 exact Bool.beq_comm
end
end Go.Proofs.YtmokmalepelinaaGreatDoor.K
namespace Go.Proofs.YtmokmalepelinaaGreatDoor.K
open Go.RowKit
noncomputable section
def hitsU:List Pattern->List Int->List Keep
 |p::ps,l::ls=>(bif ige l 0 then [p.1] else [])++hitsU ps ls
 |_,_=>[]
theorem hitsU_len: ∀ (p:List Pattern) (l:List Int),(hitsU p l).length<=p.length
 | [],l=>by simp [hitsU]
 |p::ps,[]=>by simp [hitsU]
 |p::ps,l::ls=>by
  have:=hitsU_len ps ls
  simp only [hitsU,List.length_append,List.length_cons]
  cases ige l 0
  ·simp only [cond_false,List.length_nil];omega
  ·simp only [cond_true,List.length_cons,List.length_nil];omega
theorem hitsU_nil (p:List Pattern):hitsU p []=[]:=by cases p<;>rfl
def secU (p:List Pattern)(s:Section):List Keep:=hitsU p (fstF p s.2.1)
def uspF (p:List Pattern)(x:Image):List Keep×Int:=bif ine (ptChk p) 0 then ([],ptChk p) else bif ine (checkX x) 0 then ([],checkX x) else (nrmC lesU (x.1.flatMap (secU p)),0)
def uspOk (p:List Pattern)(x:Image):Bool:=ptLen p&&(chkOk x&&(p.all (fun q=>okU q.1)&&(x.1.all (fun s=>fstOk p s.2.1)&&decide (x.1.length<=1000))))
theorem fstOk_len {p:List Pattern}{b:List Int}(h:fstOk p b=true):p.length<=100:=(ptOkB_ok (Bool.and_eq_true_iff.1 h).1).len
def fg_f12_0:Fg:=⟨[(0,some (.sl tyPattern)),(8,none),(24,some (.sl tySection)),(25,some tI),(26,some tI),(33,some (.sl tI)),(34,some tI),(35,some tI)],[(8,none),(49,none)]⟩
noncomputable def tb_f12_0:TC:=(.sq (.reg (rT Tryz.f12 12)) (.sq (.cd (.t 36) .sk (.fg ⟨[(0,some (.sl tyPattern)),(8,none),(24,some (.sl tySection)),(25,some tI),(26,some tI)],[(8,none),(49,none)]⟩ (.ex 2))) (.sq (.bk 3 (.sq (.reg (rT Tryz.f12 13)) (.sq (.reg (rT Tryz.f12 14)) (.cd (.t 41) (.reg (rT Tryz.f12 15)) .sk)))) (.reg (rT Tryz.f12 16)))))
def fg_f12_1:Fg:=⟨[(0,some (.sl tyPattern)),(8,none),(24,some (.sl tySection)),(25,some tI),(26,some tI)],[(8,none),(49,none)]⟩
noncomputable def tb_f12_1:TC:=(.sq (.reg (rT Tryz.f12 9)) (.sq (.cd (.t 27) .sk (.fg ⟨[(8,none)],[(8,none),(49,none)]⟩ (.ex 0))) (.sq (.bk 1 (.sq (.reg (rT Tryz.f12 10)) (.sq (.reg (rT Tryz.f12 11)) (.bk 2 (.nw 8 35 (.lp 0 fg_f12_0 tb_f12_0)))))) (.reg (rT Tryz.f12 17)))))
noncomputable def tc_f12:TC:=(.sq (.reg (rT Tryz.f12 0)) (.sq (.sq (.reg (rT Tryz.f12 1)) (.sq (.reg (rT Tryz.f12 2)) (.cd (.t 16) (.sq (.reg (rT Tryz.f12 3)) .rt) .sk))) (.sq (.sq (.reg (rT Tryz.f12 4)) (.sq (.reg (rT Tryz.f12 5)) (.cd (.t 21) (.sq (.reg (rT Tryz.f12 6)) .rt) .sk))) (.sq (.reg (rT Tryz.f12 7)) (.sq (.sq (.reg (rT Tryz.f12 8)) (.bk 0 (.nw 8 35 (.lp 1 fg_f12_1 tb_f12_1)))) (.sq (.reg (rT Tryz.f12 18)) (.sq (.reg (rT Tryz.f12 19)) .rt)))))))
def rv_f12:List (RV×Option Ty):=[((.t 4),some (.sl tyKeep)),((.t 5),some tI)]
abbrev sh_f12_0:Sh:=⟨[(0,.ty (.sl tyPattern)),(8,.ms 8),(24,.ty (.sl tySection)),(25,.ty tI),(26,.ty tI),(33,.ty (.sl tI)),(34,.ty tI),(35,.ty tI)],[(8,.arr 35 tyKeep),(49,.no)]⟩
def st_f12_0 (x0:List Pattern)(x24:List Section)(x25 x26:Int)(x33:List Int)(x34 x35:Int)(y8:List Keep):VS:=sh_f12_0.st (x0,(),x24,x25,x26,x33,x34,x35,()) (y8,(),())
abbrev sh_f12_0_e2:Sh:=⟨[(0,.ty (.sl tyPattern)),(8,.ms 8),(24,.ty (.sl tySection)),(25,.ty tI),(26,.ty tI)],[(8,.arr 35 tyKeep),(49,.no)]⟩
def st_f12_0_e2 (x0:List Pattern)(x24:List Section)(x25 x26:Int)(y8:List Keep):VS:=sh_f12_0_e2.st (x0,(),x24,x25,x26,()) (y8,(),())
abbrev sh_f12_1:Sh:=⟨[(0,.ty (.sl tyPattern)),(8,.ms 8),(24,.ty (.sl tySection)),(25,.ty tI),(26,.ty tI)],[(8,.arr 35 tyKeep),(49,.no)]⟩
def st_f12_1 (x0:List Pattern)(x24:List Section)(x25 x26:Int)(y8:List Keep):VS:=sh_f12_1.st (x0,(),x24,x25,x26,()) (y8,(),())
abbrev sh_f12_1_e0:Sh:=⟨[(8,.ms 8)],[(8,.arr 35 tyKeep),(49,.no)]⟩
def st_f12_1_e0 (y8:List Keep):VS:=sh_f12_1_e0.st ((),()) (y8,(),())
def L_f12_0:VS->Option (Bool×List (Bool×Exit×VS)):=mkL sh_f12_0 (fun x y=>(rngOk x.2.2.2.2.2.1 x.2.2.2.2.2.2.1 x.2.2.2.2.2.2.2.1&&decide (x.2.2.2.2.2.1.length=x.1.length/\y.1.length<=100000+x.2.2.2.2.2.2.2.1))) (fun x y=>[(true,.exit 2,st_f12_0_e2 (x.1) (x.2.2.1) (x.2.2.2.1) (x.2.2.2.2.1) (y.1++hitsU (x.1.drop x.2.2.2.2.2.2.2.1.toNat) (x.2.2.2.2.2.1.drop x.2.2.2.2.2.2.2.1.toNat)))])
def L_f12_1:VS->Option (Bool×List (Bool×Exit×VS)):=mkL sh_f12_1 (fun x y=>(rngOk x.2.2.1 x.2.2.2.1 x.2.2.2.2.1&&(x.2.2.1.all (fun s=>fstOk x.1 s.2.1)&&decide (x.2.2.1.length<=1000/\y.1.length<=100*x.2.2.2.2.1)))) (fun x y=>[(true,.exit 0,st_f12_1_e0 (y.1++(x.2.2.1.drop x.2.2.2.2.1.toNat).flatMap (secU x.1)))])
def g_f12:G:=⟨TYs,[],56,EL [(30,sp_f30),(36,sp_f36),(37,sp_f37),(38,sp_f38c39),(40,sp_f40)],keeps,(Ls [L_f12_0,L_f12_1]),IL [],RL []⟩
def b_f12_0 (x0:List Pattern)(x24:List Section)(x25 x26:Int)(x33:List Int)(x34 x35:Int)(y8:List Keep):Option (Exit×VS):=
 let a1:=((lgt tyPattern x0 (Int.toNat x35)).1)
 br (ilt x35 x34) (br (cIx x33 x35) (br (ige (lgt tI x33 (Int.toNat x35)) 0) (br (cIx x0 x35) (br (cApp y8 ([(a1.1,((a1.2).1,()))]) 16) (some (.normal,st_f12_0 x0 x24 x25 x26 x33 x34 (iadd .i64 x35 1) (y8++([(a1.1,((a1.2).1,()))])))) none) none) (some (.normal,st_f12_0 x0 x24 x25 x26 x33 x34 (iadd .i64 x35 1) y8))) none) (some (.exit 2,st_f12_0_e2 x0 x24 x25 x26 y8))
noncomputable def lp_f12_0 (x0:List Pattern)(x24:List Section)(x25 x26:Int)(x33:List Int)(x34 x35:Int)(y8:List Keep):Option (Exit×VS):=loopF (roundF g_f12 fg_f12_0 tb_f12_0) (st_f12_0 x0 x24 x25 x26 x33 x34 x35 y8)
noncomputable def n_f12_0 (x0:List Pattern)(x24:List Section)(x25 x26:Int)(x33:List Int)(x34 x35:Int)(y8:List Keep):Option (Exit×VS):=
 let a1:=((lgt tyPattern x0 (Int.toNat x35)).1)
 br (ilt x35 x34) (br (cIx x33 x35) (br (ige (lgt tI x33 (Int.toNat x35)) 0) (br (cIx x0 x35) (br (cApp y8 ([(a1.1,((a1.2).1,()))]) 16) (lp_f12_0 x0 x24 x25 x26 x33 x34 (iadd .i64 x35 1) (y8++([(a1.1,((a1.2).1,()))]))) none) none) (lp_f12_0 x0 x24 x25 x26 x33 x34 (iadd .i64 x35 1) y8)) none) (some (.exit 2,st_f12_0_e2 x0 x24 x25 x26 y8))
def la_f12_0 (x0:List Pattern)(x24:List Section)(x25 x26:Int)(x33:List Int)(x34 x35:Int)(y8:List Keep):Option (Exit×VS):=some (.exit 2,st_f12_0_e2 (x0) (x24) (x25) (x26) (y8++hitsU (x0.drop x35.toNat) (x33.drop x35.toNat)))
theorem be_f12_0 (x0:List Pattern)(x24:List Section)(x25 x26:Int)(x33:List Int)(x34 x35:Int)(y8:List Keep):roundF g_f12 fg_f12_0 tb_f12_0 (st_f12_0 x0 x24 x25 x26 x33 x34 x35 y8)=b_f12_0 x0 x24 x25 x26 x33 x34 x35 y8:=by kernel_rfl
theorem ln_f12_0 (x0:List Pattern)(x24:List Section)(x25 x26:Int)(x33:List Int)(x34 x35:Int)(y8:List Keep):lp_f12_0 x0 x24 x25 x26 x33 x34 x35 y8=n_f12_0 x0 x24 x25 x26 x33 x34 x35 y8:=(loopF_nxt _ _).trans (by
 rw [be_f12_0]
 simp only [b_f12_0,n_f12_0,nxt_br,nxt_n,nxt_r,nxt_e,nxt_0]
 rfl)
def b_f12_1 (x0:List Pattern)(x24:List Section)(x25 x26:Int)(y8:List Keep):Option (Exit×VS):=
 let a1:=(((lgt tySection x24 (Int.toNat x26)).2).1)
 br (ilt x26 x25) (br (cIx x24 x26) (br (fstOk x0 a1) (br (rngOk (fstF x0 a1) (llen (fstF x0 a1)) (0:Int)&&decide ((fstF x0 a1).length=x0.length/\y8.length<=100000+(0:Int))) (some (.normal,st_f12_1 (x0) (x24) (x25) (iadd .i64 (x26) 1) (y8++hitsU (x0.drop (0:Int).toNat) ((fstF x0 a1).drop (0:Int).toNat)))) none) none) none) (some (.exit 0,st_f12_1_e0 y8))
noncomputable def lp_f12_1 (x0:List Pattern)(x24:List Section)(x25 x26:Int)(y8:List Keep):Option (Exit×VS):=loopF (roundF g_f12 fg_f12_1 tb_f12_1) (st_f12_1 x0 x24 x25 x26 y8)
noncomputable def n_f12_1 (x0:List Pattern)(x24:List Section)(x25 x26:Int)(y8:List Keep):Option (Exit×VS):=
 let a1:=(((lgt tySection x24 (Int.toNat x26)).2).1)
 br (ilt x26 x25) (br (cIx x24 x26) (br (fstOk x0 a1) (br (rngOk (fstF x0 a1) (llen (fstF x0 a1)) (0:Int)&&decide ((fstF x0 a1).length=x0.length/\y8.length<=100000+(0:Int))) (lp_f12_1 (x0) (x24) (x25) (iadd .i64 (x26) 1) (y8++hitsU (x0.drop (0:Int).toNat) ((fstF x0 a1).drop (0:Int).toNat))) none) none) none) (some (.exit 0,st_f12_1_e0 y8))
def la_f12_1 (x0:List Pattern)(x24:List Section)(x25 x26:Int)(y8:List Keep):Option (Exit×VS):=some (.exit 0,st_f12_1_e0 (y8++(x24.drop x26.toNat).flatMap (secU x0)))
theorem be_f12_1 (x0:List Pattern)(x24:List Section)(x25 x26:Int)(y8:List Keep):roundF g_f12 fg_f12_1 tb_f12_1 (st_f12_1 x0 x24 x25 x26 y8)=b_f12_1 x0 x24 x25 x26 y8:=by kernel_rfl
theorem ln_f12_1 (x0:List Pattern)(x24:List Section)(x25 x26:Int)(y8:List Keep):lp_f12_1 x0 x24 x25 x26 y8=n_f12_1 x0 x24 x25 x26 y8:=(loopF_nxt _ _).trans (by
 rw [be_f12_1]
 simp only [b_f12_1,n_f12_1,nxt_br,nxt_n,nxt_r,nxt_e,nxt_0]
 rfl)
def r_f12 (p0:List Pattern)(p1:Image):Option (V×List VO):=
 let a1:=(srtU (([]:List Keep)++(p1.1.drop (0:Int).toNat).flatMap (secU p0)))
 br (ptLen p0) (br (ine (ptChk p0) 0) (some (.tu [(.t (.sl tyKeep) ([]:List Keep)),(.t tI (ptChk p0))],[])) (br (chkOk p1) (br (ine (checkX p1) 0) (some (.tu [(.t (.sl tyKeep) ([]:List Keep)),(.t tI (checkX p1))],[])) (br (rngOk p1.1 (llen p1.1) (0:Int)&&(p1.1.all (fun s=>fstOk p0 s.2.1)&&decide (p1.1.length<=1000/\([]:List Keep).length<=100*(0:Int)))) (br (srtUOk (([]:List Keep)++(p1.1.drop (0:Int).toNat).flatMap (secU p0))) (br (lenOk a1) (some (.tu [(.t (.sl tyKeep) (Lib.compact a1)),(.t tI 0)],[])) none) none) none)) none)) none
theorem e_f12 (p0:List Pattern)(p1:Image):runF g_f12 tc_f12 rv_f12 false [.t (.sl tyPattern) p0,.t tyImage p1] []=r_f12 p0 p1:=by kernel_rfl
theorem en_f12:Entered Tryz.prog 12:= .inr ⟨by decide,_,Tryz.func12,by kernel_rfl,by kernel_rfl⟩
theorem gk_f12:GOk Tryz.prog g_f12:=gok_of _ (gA (gC en_f30 ms_f30 (gC en_f36 ms_f36 (gC en_f37 ms_f37 (gC en_f38c39 ms_f38c39 (gC en_f40 ms_f40 gN))))))
theorem l_f12_0 (x0:List Pattern)(x24:List Section)(x25 x26:Int)(x33:List Int)(x34 x35:Int)(y8:List Keep)(h:(rngOk x33 x34 x35&&decide (x33.length=x0.length/\y8.length<=100000+x35))=true):lp_f12_0 x0 x24 x25 x26 x33 x34 x35 y8=la_f12_0 x0 x24 x25 x26 x33 x34 x35 y8:=by
 simp only [Bool.and_eq_true,decide_eq_true_eq] at h
 obtain ⟨h0,h4,h5⟩:=h
 obtain ⟨rfl,h3,k,rfl,hk⟩:=rng_k h0
 clear h0
 revert y8
 refine range_ind x33 (fun k=> ∀ y8:List Keep,(y8.length:Int)<=100000+(k:Int)->lp_f12_0 x0 x24 x25 x26 x33 (x33.length:Int) (k:Int) y8=la_f12_0 x0 x24 x25 x26 x33 (x33.length:Int) (k:Int) y8) ?_ ?_ k hk
 ·intro y8 _
  rw [ln_f12_0]
  simp [n_f12_0,la_f12_0,ilt_nat,br_false,hitsU_nil]
 ·intro k hk ih y8 hy
  rw [ln_f12_0]
  have hk0:k<x0.length:=by omega
  simp only [n_f12_0,ilt_nat,cIx_nat,hk,hk0,decide_true,br_true,Int.toNat_natCast,add1 (k:=k),lgt_get (y:=tI) hk,lgt_get (y:=tyPattern) hk0]
  rw [cApp_ok (by simp;omega) (by omega),br_true]
  simp only [la_f12_0,Int.toNat_natCast] at ih ⊢
  rw [ih _ (by simp;omega),ih _ (by omega)]
  rw [List.drop_eq_getElem_cons hk,List.drop_eq_getElem_cons hk0]
  simp only [hitsU]
  cases ige x33[k] 0
  ·rw [br_false];rfl
  ·rw [br_true,List.append_assoc];rfl
theorem l_f12_1 (x0:List Pattern)(x24:List Section)(x25 x26:Int)(y8:List Keep)(h:(rngOk x24 x25 x26&&(x24.all (fun s=>fstOk x0 s.2.1)&&decide (x24.length<=1000/\y8.length<=100*x26)))=true):lp_f12_1 x0 x24 x25 x26 y8=la_f12_1 x0 x24 x25 x26 y8:=by
 simp only [Bool.and_eq_true,decide_eq_true_eq,List.all_eq_true] at h
 obtain ⟨h0,h4,h6,h5⟩:=h
 obtain ⟨rfl,h3,k,rfl,hk⟩:=rng_k h0
 clear h0
 revert y8
 refine range_ind x24 (fun k=> ∀ y8:List Keep,(y8.length:Int)<=100*(k:Int)->lp_f12_1 x0 x24 (x24.length:Int) (k:Int) y8=la_f12_1 x0 x24 (x24.length:Int) (k:Int) y8) ?_ ?_ k hk
 ·intro y8 _
  rw [ln_f12_1]
  simp [n_f12_1,la_f12_1,ilt_nat,br_false]
 ·intro k hk ih y8 hy
  rw [ln_f12_1]
  have hf:=h4 _ (List.getElem_mem hk)
  have hp:=fstOk_len hf
  have hl:=fstF_len x0 x24[k].2.1
  have hh:=hitsU_len x0 (fstF x0 x24[k].2.1)
  simp only [n_f12_1,ilt_nat,cIx_nat,hk,decide_true,br_true,Int.toNat_natCast,add1 (k:=k),lgt_get (y:=tySection) hk,hf,hl,rng_0 (show (fstF x0 x24[k].2.1).length<=100000 by omega),Bool.true_and]
  rw [show decide (True/\((y8.length:Nat):Int)<=100000+0)=true from decide_eq_true ⟨trivial,by omega⟩,br_true,Int.toNat_zero,List.drop_zero,List.drop_zero,ih _ (by rw [List.length_append];omega)]
  simp only [la_f12_1,Int.toNat_natCast,List.drop_eq_getElem_cons hk,List.flatMap_cons,secU,List.append_assoc]
theorem lo_f12_0: ∀ S l p,g_f12.L 0 (fgt fg_f12_0 S)=some (true,l)->pickA l=some p->loopF (roundF g_f12 fg_f12_0 tb_f12_0) S=some p:=
 lok_of (s:=sh_f12_0) ⟨by decide,by decide⟩ (by kernel_rfl) fun x y hok p hp=>by
 simp only [pickA_br,pickA_one] at hp
 exact (l_f12_0 x.1 x.2.2.1 x.2.2.2.1 x.2.2.2.2.1 x.2.2.2.2.2.1 x.2.2.2.2.2.2.1 x.2.2.2.2.2.2.2.1 y.1 (by simpa using hok)).trans hp
theorem lo_f12_1: ∀ S l p,g_f12.L 1 (fgt fg_f12_1 S)=some (true,l)->pickA l=some p->loopF (roundF g_f12 fg_f12_1 tb_f12_1) S=some p:=
 lok_of (s:=sh_f12_1) ⟨by decide,by decide⟩ (by kernel_rfl) fun x y hok p hp=>by
 simp only [pickA_br,pickA_one] at hp
 exact (l_f12_1 x.1 x.2.2.1 x.2.2.2.1 x.2.2.2.2.1 y.1 (by simpa using hok)).trans hp
theorem lk_f12:tc_f12.lok g_f12:=by
 repeat (first|exact trivial|exact lo_f12_0|exact lo_f12_1|refine ⟨?_, ?_⟩)
theorem secs_lenU (p:List Pattern)(hp:p.length<=100): ∀ l:List Section,(l.flatMap (secU p)).length<=100*l.length
 | []=>by simp
 |s::l=>by
  have h1:=hitsU_len p (fstF p s.2.1)
  have h2:=secs_lenU p hp l
  simp only [List.flatMap_cons,List.length_append,List.length_cons,secU] at h2 ⊢
  omega
theorem hitsU_mem: ∀ (p:List Pattern) (l:List Int), ∀ u∈hitsU p l, ∃ x∈p,u=x.1
 | [],l,u,h=>by simp [hitsU] at h
 |p::ps,[],u,h=>by simp [hitsU] at h
 |p::ps,l::ls,u,h=>by
  simp only [hitsU,List.mem_append] at h
  rcases h with h|h
  ·cases hg:ige l 0
   ·rw [hg] at h;simp at h
   ·rw [hg] at h
    simp only [cond_true,List.mem_singleton] at h
    exact ⟨p,List.mem_cons_self,h⟩
  ·obtain ⟨x,h1,h2⟩:=hitsU_mem ps ls u h
   exact ⟨x,List.mem_cons_of_mem _ h1,h2⟩
theorem s_f12 (p:List Pattern)(x:Image)(h:uspOk p x=true):r_f12 p x=some (.tu [.t (.sl tyKeep) (uspF p x).1,.t tI (uspF p x).2],[]):=by
 obtain ⟨h1,h2⟩:=Bool.and_eq_true_iff.1 h
 obtain ⟨h2,h3⟩:=Bool.and_eq_true_iff.1 h2
 obtain ⟨h3,h4⟩:=Bool.and_eq_true_iff.1 h3
 obtain ⟨h4,h5⟩:=Bool.and_eq_true_iff.1 h4
 have hsec:x.1.length<=1000:=of_decide_eq_true h5
 have hl:(x.1.flatMap (secU p)).length<=10000000:=by
  cases hx:x.1 with
  |nil=>simp
  |cons s l=>
   have hp:=fstOk_len (List.all_eq_true.1 h4 s (by rw [hx];exact List.mem_cons_self))
   have:=secs_lenU p hp x.1
   rw [hx] at this hsec
   simp only [List.length_cons] at hsec this
   omega
 have hs:srtUOk (x.1.flatMap (secU p))=true:=by
  refine Bool.and_eq_true_iff.2 ⟨decide_eq_true (by omega),List.all_eq_true.2 fun u hu=> ?_⟩
  obtain ⟨s,hs1,hs2⟩:=List.mem_flatMap.1 hu
  obtain ⟨q,hq,rfl⟩:=hitsU_mem _ _ _ hs2
  exact List.all_eq_true.1 h3 q hq
 have hso:lenOk (srtU (x.1.flatMap (secU p)))=true:=decide_eq_true (by
  have:(srtU (x.1.flatMap (secU p))).length=(x.1.flatMap (secU p)).length:=List.length_mergeSort _
  omega)
 have hd:decide (x.1.length<=1000/\(([]:List Keep).length:Int)<=100*0)=true:=decide_eq_true ⟨hsec,by simp⟩
 simp only [r_f12,h1,h2,h4,hd,br_true,rng_0 (show x.1.length<=100000 by omega),Bool.true_and,Int.toNat_zero,List.drop_zero,List.nil_append,hs,hso,uspF]
 cases ine (ptChk p) 0<;>cases ine (checkX x) 0<;>rfl
def sp_f12:Ent:=spec (.pr (.sl tyPattern) (.pr tyImage .nil)) (fun x=>(uspOk x.1 x.2.1)) (fun x=>(.tu [(.t (.sl tyKeep) ((uspF x.1 x.2.1).1)),(.t tI ((uspF x.1 x.2.1).2))]))
theorem ms_f12:Meets Tryz.prog 12 (strip sp_f12):=meets_spec (R:=runF g_f12 tc_f12 rv_f12 false) (mG Tryz.func12 (by kernel_rfl) Tryz.ntmps12 (by kernel_rfl) gk_f12 lk_f12) fun x hok=>(e_f12 x.1 x.2.1).trans (s_f12 x.1 x.2.1 hok)
end
end Go.Proofs.YtmokmalepelinaaGreatDoor.K
namespace Go.Proofs.YtmokmalepelinaaGreatDoor.K
open Go.RowKit
inductive Wr where
 |nf (j i e k:Nat)
 |ad (l:List (Nat×Nat))
 |fz (l:List Nat)
def Wr.ap:Wr->TC->TC
 |.nf j i e k,t=> .nf j i e k t
 |.ad l,t=> .ad l t
 |.fz l,t=> .fz l t
def wrN (w:List (Nat×Wr))(n:Nat)(t:TC):TC:=w.foldr (fun p t=>if p.1=n then p.2.ap t else t) t
abbrev Plan:=List (Nat×List (Nat×List Nat)×PT)
def auC (P:Program)(w:List (Nat×Wr))(pl:Plan):Nat->Code->TC
 |_,.skip=> .sk
 |n,.region _ ops false=>wrN w n (.reg (ops.toList.map (trR P ops)))
 |n,.region _ ops true=>wrN w n (.dr (ops.toList.map (trD P ops)) ((pl.lookup n).getD ([],.nil)).1 ((pl.lookup n).getD ([],.nil)).2)
 |n,.seq a b=>wrN w n (.sq (auC P w pl (2*n) a) (auC P w pl (2*n+1) b))
 |n,.cond c a b=>match trX c with
  |some x=> .cd x (auC P w pl (2*n) a) (auC P w pl (2*n+1) b)
  |none=> .sk
 |n,.block id c=> .bk id (auC P w pl (2*n) c)
 |n,.loop c=>wrN w n (.la (auC P w pl (2*n) c))
 |_,.exit id=> .ex id
 |_,.ret=> .rt
 |_,_=> .sk
def auOk:Code->Bool
 |.skip|.region _ _ _|.exit _|.ret=>true
 |.seq a b=>auOk a&&auOk b
 |.cond c a b=>(trX c).isSome&&(auOk a&&auOk b)
 |.block _ c=>auOk c
 |.loop c=>auOk c
 |_=>false
theorem wr_er {w:List (Nat×Wr)}{n:Nat}{t:TC}:(wrN w n t).er=t.er:=by
 induction w with
 |nil=>rfl
 |cons p w ih=>
  simp only [wrN,List.foldr_cons] at ih ⊢
  split
  ·cases p.2<;>exact ih
  ·exact ih
theorem wr_lok {g:G}{w:List (Nat×Wr)}{n:Nat}{t:TC}(h:t.lok g):(wrN w n t).lok g:=by
 induction w with
 |nil=>exact h
 |cons p w ih=>
  simp only [wrN,List.foldr_cons] at ih ⊢
  split
  ·cases p.2<;>exact ih
  ·exact ih
theorem au_er {P:Program}{w:List (Nat×Wr)}{pl:Plan}: ∀ (c:Code) (n:Nat),auOk c=true->(auC P w pl n c).er=trC P c:=by
 intro c
 induction c with
 |seq a b iha ihb=>
  intro n h
  simp only [auOk,Bool.and_eq_true] at h
  simp only [auC,trC,wr_er,TC.er,iha _ h.1,ihb _ h.2]
 |cond c a b iha ihb=>
  intro n h
  simp only [auOk,Bool.and_eq_true] at h
  obtain ⟨x,hx⟩:=Option.isSome_iff_exists.1 h.1
  simp only [auC,trC,hx,TC.er,iha _ h.2.1,ihb _ h.2.2]
 |block id c ih=>
  intro n h
  simp only [auOk] at h
  simp only [auC,trC,TC.er,ih _ h]
 |loop c ih=>
  intro n h
  simp only [auOk] at h
  simp only [auC,trC,wr_er,TC.er,ih _ h]
 |region id ops d=>
  intro n _
  cases d<;>simp only [auC,trC,wr_er,TC.er]
 |skip=>intro n _;rfl
 |exit id=>intro n _;rfl
 |ret=>intro n _;rfl
 |_=>intro n h;simp [auOk] at h
theorem au_lok {P:Program}{g:G}{w:List (Nat×Wr)}{pl:Plan}: ∀ (c:Code) (n:Nat),(auC P w pl n c).lok g:=by
 intro c
 induction c with
 |seq a b iha ihb=>exact fun n=>wr_lok ⟨iha _,ihb _⟩
 |cond c a b iha ihb=>
  intro n
  simp only [auC]
  split
  ·exact ⟨iha _,ihb _⟩
  ·trivial
 |block id c ih=>exact fun n=>ih _
 |loop c ih=>exact fun n=>wr_lok (ih _)
 |region id ops d=>
  intro n
  cases d with
  |false=>exact wr_lok trivial
  |true=>exact wr_lok trivial
 |_=>intro n;trivial
structure AR where
 f:Nat
 own:List Nat:=[]
 keep:List Nat:=[]
 ro:Bool:=false
 w:List (Nat×Wr):=[]
 pl:Plan:=[]
section
variable (P:Program)(TY:Nat->Option Ty)
def auT (r:AR):TC:=match (P.funcs[r.f]?).bind Func.body with
 |some c=>auC P r.w r.pl 1 c
 |none=> .sk
def auV (r:AR):List (RV×Option Ty):=match P.funcs[r.f]? with
 |some fn=>match trVs P fn.results.toList with
  |some l=>l.zip (fn.resultTypes.toList.map TY)
  |none=>[]
 |none=>[]
def auN (r:AR):Nat:=match P.funcs[r.f]? with
 |some fn=>fn.ntmps
 |none=>0
noncomputable def auE (es:List (Nat×Ent))(r:AR):Ent:=autoE (runF ⟨TY,r.own,auN P r,EL es,r.keep,fun _ _=>none,IL [],RL []⟩ (auT P r) (auV P TY r) r.ro)
noncomputable def auL:List AR->List (Nat×Ent)->List (Nat×Ent)
 | [],es=>es
 |r::rs,es=>auL rs ((r.f,auE P TY es r)::es)
def auChk (r:AR):Bool:=match P.funcs[r.f]? with
 |some fn=>match fn.body,trVs P fn.results.toList with
  |some c,some l=>decide (r.f<1000000)&&(auOk c&&(!(fn.name== "runtime.NumGoroutine")&&decide (l.length<=fn.resultTypes.size)))
  |_,_=>false
 |none=>false
end
variable {P:Program}{TY:Nat->Option Ty}
theorem meets_unauto {P:Program}{f:FuncId}{F:Fun}(h:Meets P f (strip (autoE F))):Meets P f F:=h.mono fun args objs r hr=>by
 unfold strip autoE
 rw [hr]
theorem auM (hm:P.follows .mixedOrders=true){es:List (Nat×Ent)}{r:AR}(h:auChk P r=true)(he: ∀ p∈es,Entered P p.1/\Meets P p.1 (strip p.2)):Entered P r.f/\Meets P r.f (strip (auE P TY es r)):=by
 unfold auChk at h
 split at h
 ·rename_i fn hf
  split at h
  ·rename_i c l hb hl
   simp only [Bool.and_eq_true,decide_eq_true_eq,Bool.not_eq_true'] at h
   obtain ⟨h1,h2,h3,h4⟩:=h
   refine ⟨.inr ⟨h1,fn,hf,by rw [hb];rfl,h3⟩,meets_auto ?_⟩
   have et:auT P r=auC P r.w r.pl 1 c:=by simp only [auT,hf,Option.bind_some,hb]
   have en:auN P r=fn.ntmps:=by simp only [auN,hf]
   have ev:auV P TY r=l.zip (fn.resultTypes.toList.map TY):=by simp only [auV,hf,hl]
   refine meets_of h1 hf hb ?_ en.symm ?_ (gok_of es he) ?_ hm
   ·rw [et]
    exact (au_er c 1 h2).symm
   ·rw [ev,hl,List.map_fst_zip]
    simpa using h4
   ·rw [et]
    exact au_lok c 1
  ·cases h
 ·cases h
theorem auA (hm:P.follows .mixedOrders=true): ∀ {rs:List AR} {es:List (Nat×Ent)},rs.all (auChk P)=true->(∀ p∈es,Entered P p.1/\Meets P p.1 (strip p.2))→ ∀ p∈auL P TY rs es,Entered P p.1/\Meets P p.1 (strip p.2)
 | [],_,_,he=>he
 |r::rs,es,h,he=>fun p hp=>by
  simp only [List.all_cons,Bool.and_eq_true] at h
  refine auA (rs:=rs) (es:=(r.f,auE P TY es r)::es) hm h.2 (fun p hp=> ?_) p hp
  rcases List.mem_cons.1 hp with rfl|hp
  ·exact auM hm h.1 he
  ·exact he p hp
end Go.Proofs.YtmokmalepelinaaGreatDoor.K
namespace Go.Proofs
open Go.Shelf
def Tryz.lays106_ren:Go.Shelf.Ren:=⟨fun|106=>196|213=>261|265=>295|n=>n,fun|9=>9|3=>3|n=>n,fun|n=>n⟩
theorem Tryz.lays106:Go.Proofs.Lays.n106 Tryz.prog Tryz.lays106_ren:={
 mixed:=by kernel_rfl
 f106:=Tryz.func196.trans (congrArg some (by kernel_rfl))
 f213:=Tryz.func261.trans (congrArg some (by kernel_rfl))
 f265:=Tryz.func295.trans (congrArg some (by kernel_rfl))
 t3:=Tryz.underlying3
 a3:=Tryz.isAgg3
 z3:=Tryz.sizeOf3
 v3:=Tryz.zeroValue3
 t9:=Tryz.underlying9
 a9:=Tryz.isAgg9
 z9:=Tryz.sizeOf9
 v9:=Tryz.zeroValue9}
end Go.Proofs
namespace Go.Proofs.YtmokmalepelinaaGreatDoor.K
open Go.RowKit Go.Shelf
noncomputable section
def idxO (s p:ByteArray):Int:=Lib.indexByte s.data.toList (p.data.toList.headD 0)
def idxOOk (_s p:ByteArray):Bool:=decide (p.size=1)
def sp_f208:Ent:=spec (.pr .str (.pr .str .nil)) (fun x=>(idxOOk x.1 x.2.1)) (fun x=>(.t tI (idxO x.1 x.2.1)))
theorem en_f208:Entered Tryz.prog 208:= .inr ⟨by decide,_,Tryz.func208,by kernel_rfl,by kernel_rfl⟩
theorem ms_f208:Meets Tryz.prog 208 (strip sp_f208):=meets_calls fun x hok X w σ vs hfin hc=>by
 obtain ⟨s,⟨d⟩,u⟩:=x
 have hok:d.size=1:=of_decide_eq_true hok
 obtain ⟨c,rfl⟩: ∃ c,d= #[c]:=by
  match d,hok with
  |⟨[c]⟩,_=>exact ⟨c,rfl⟩
 simp only [Ty.canon,V.ds,V.d,Ty.d,Cs,C] at hc
 obtain ⟨v1,r1,rfl,⟨rfl,_⟩,v2,r2,rfl,⟨rfl,_⟩,rfl⟩:=hc
 refine (Any.stringslite_Index_one {Tryz.lays146 with} s c w).mono ?_
 rintro e w' ⟨rfl,rfl⟩
 refine ⟨_,rfl, ?_,Below.refl _ _⟩
 simp only [V.d,Ty.d,C]
 exact ⟨rfl,rfl⟩
def cmpS (a b:ByteArray):Int:=Lib.compareBytes a.data.toList b.data.toList
def sp_f196:Ent:=spec (.pr .str (.pr .str .nil)) (fun x=>true) (fun x=>(.t tI (cmpS x.1 x.2.1)))
theorem en_f196:Entered Tryz.prog 196:= .inr ⟨by decide,_,Tryz.func196,by kernel_rfl,by kernel_rfl⟩
theorem ms_f196:Meets Tryz.prog 196 (strip sp_f196):=meets_calls fun x hok X w σ vs hfin hc=>by
 obtain ⟨s,p,u⟩:=x
 simp only [Ty.canon,V.ds,V.d,Ty.d,Cs,C] at hc
 obtain ⟨v1,r1,rfl,⟨rfl,_⟩,v2,r2,rfl,⟨rfl,_⟩,rfl⟩:=hc
 refine (Any.strings_Compare Tryz.lays106 s p w).mono ?_
 rintro e w' ⟨rfl,rfl⟩
 refine ⟨_,rfl, ?_,Below.refl _ _⟩
 simp only [V.d,Ty.d,C]
 exact ⟨rfl,rfl⟩
end
end Go.Proofs.YtmokmalepelinaaGreatDoor.K
namespace Go.Proofs.YtmokmalepelinaaGreatDoor.K
open Go.RowKit
theorem eql_sl_nil {P:Program}(w:World)(t e:TypeId)(a:Option Addr)(l c:Nat)(h:P.underlying t=some (.slice e)):(binOp .eql t (.slice a l c) (.slice none 0 0)).run P w= .ok (.bool a.isNone) w:=by
 simp [binOp,run_equal_slice_nil w t e a l c h]
def cloneFin (l:List Finding):List Finding:=l
def lenClFin (l:List Finding):Bool:=decide (l.length<=100000)
def sp_f106:Ent:=specO (.pr (.sl tyFinding) .nil) (fun x=>(lenClFin x.1)) (fun x=>(.ms 50000)) (fun x=>[.arr 37 tyFinding (cloneFin x.1)])
theorem en_f106:Entered Tryz.prog 106:= .inr ⟨by decide,_,Tryz.func106,by kernel_rfl,by kernel_rfl⟩
theorem elemFin:ElemOk Tryz.prog 60 37 11 112:=ElemOk.of (.agg #[.int .i64 0,.string ⟨#[]⟩,.int .i64 0,.int .i64 0,.int .i64 0,.int .i64 0,.string ⟨#[]⟩,.int .i64 0,.int .i64 0,.int .i64 0,.string ⟨#[]⟩]) (by kernel_rfl) (by kernel_rfl) (by kernel_rfl) (by decide)
set_option maxHeartbeats 400000 in
theorem clone_Fin (A:Option Addr)(c n:Nat)(cells:List Value)(w:World)(h:Sl w (.slice A n c) 11 n cells)(h1: ∀ u∈cells,u.oneCell'=true)(hn:n<=100000):
  Calls Tryz.prog 106 #[.slice A n c] w fun r w'=> ∃ sv,r= .returned sv/\w'.ownsRow w.heap.size 37 11 sv n cells/\Below w.heap.size w w':=by
 have he:=eql_sl_nil (P:=Tryz.prog) w 60 37 A n c (by kernel_rfl)
 rcases A with _|ad
 ·have hnil:n=0:=Classical.byContradiction fun h0=>by
   obtain ⟨_,A',c',hv,_,_,h3⟩:=h
   obtain ⟨b,off,e,_⟩:=h3 (by omega)
   rw [e] at hv
   simp at hv
  subst hnil
  have hc:cells=[]:=List.eq_nil_of_length_eq_zero (by rw [h.1,Nat.zero_mul])
  subst hc
  clear h
  simp only [Option.isNone_none] at he
  go_enter Tryz.func106,Tryz.ntmps106
  go_wp2_with fail
  go_ret
  exact ⟨_,rfl,World.ownsRow_nil _ _ _ _,Below.refl _ _⟩
 ·simp only [Option.isNone_some] at he
  have hown:=World.ownsRow_made w #[] (size:=11) (e:=37) 0 (Nat.le_refl _) (Nat.zero_le _) rfl
  have hsrc:=h.alloc (.cells #[] 37)
  have HSRC:=Lib.hid hsrc
  clear h hsrc
  go_enter Tryz.func106,Tryz.ntmps106
  go_wp2_with (at_builtin;refine wpList_app elemFin rfl _ _ rfl w.heap.size (.slice (some ⟨w.heap.size,0,none⟩) 0 0) 0 [] rfl hown (some ad) n c cells rfl HSRC.out h1 (by omega) (by omega) (by simp) ?_;intro v' w4 hown4 hg4 hat4)
  go_ret
  refine ⟨v',rfl,by simpa using hown4, ?_⟩
  have hal:=(Below.refl w.heap.size w).alloc (Nat.le_refl _) (.cells #[] 37)
  exact below_of_only hal hg4 (Nat.le_refl _) hal.size
theorem ms_f106:Meets Tryz.prog 106 (strip sp_f106):=
 meets_clone (e:=37) (y:=tyFinding) (by decide) (fun x hx=>of_decide_eq_true hx) fun A c n cells w h h1 hn=>clone_Fin A c n cells w h h1 hn
end Go.Proofs.YtmokmalepelinaaGreatDoor.K
namespace Go.Proofs.YtmokmalepelinaaGreatDoor.K
open Go.RowKit
def feR:List AR:=[
 {f:=231 },
 {f:=232 },
 {f:=60 },
 {f:=233 },
 {f:=145,pl:=[(126,[(0,[4]),(3,[50000]),(4,[50000]),(5,[50000]),(6,[50000]),(10,[2])],(.of [0,1,2,3,4,5,6,7,8,9,10,11]))] },
 {f:=79,w:=[(1,.ad [(50001,49001),(50002,49002)])],pl:=[(236,[(0,[50000]),(1,[50000]),(2,[50000]),(3,[50000]),(4,[49001,50000]),(5,[6]),(7,[27,5027,10027,15027,49001,49002,50000]),(8,[50000]),(9,[50000]),(10,[49001,49002,50000])],(.of [0,1,2,3,4,5,6,7,8,9,10]))] },
 {f:=149 },
 {f:=148 },
 {f:=236 },
 {f:=147 },
 {f:=237 },
 {f:=150 },
 {f:=80 },
 {f:=22,w:=[(250,.nf 5 0 227 20501),(250,.nf 5 1 234 20502)],pl:=[(64102,[(0,[5]),(1,[5,20501]),(2,[20501]),(3,[5]),(4,[5,20502]),(5,[20502])],(.of [0,1,2,3,4,5,6,7])),(256414,[(3,[5]),(4,[5,42]),(6,[42]),(7,[5]),(8,[5,5042]),(10,[5042]),(11,[42,5042]),(12,[5,42,59,5042,5059,10059,15059])],(.of [0,1,2,3,4,5,6,7,8,9,10,11,12,13,14]))] },
 {f:=163 },
 {f:=190 },
 {f:=105 },
 {f:=51,pl:=[(14,[(0,[1]),(2,[11,5011,10011,15011]),(3,[1]),(5,[11])],(.of [0,1,3,4,2,5,6]))] },
 {f:=219 },
 {f:=117 },
 {f:=239 },
 {f:=187 },
 {f:=103,keep:=[187] },
 {f:=155,keep:=[103] },
 {f:=156 },
 {f:=158 },
 {f:=242 },
 {f:=160 },
 {f:=84,pl:=[(252,[(0,[1]),(1,[1]),(3,[74,5074,10074,15074]),(4,[74,75,5075,10075,15075]),(6,[1]),(7,[1]),(9,[80,5080,10080,15080]),(10,[80,81,5081,10081,15081])],(.of [0,1,2,3,4,5,6,7,8,9,10,11]))] },
 {f:=52,w:=[(1,.ad [(50001,49001)])],pl:=[(14,[(1,[6]),(3,[8]),(4,[8]),(5,[8]),(6,[8]),(7,[8]),(8,[8])],(.of [0,1,2,3,4,5,6,7,8])),(15,[(0,[50000]),(1,[50000]),(2,[50000]),(3,[50000]),(4,[49001,50000]),(5,[8]),(7,[26,5026,10026,15026,49001,50000]),(8,[50000]),(9,[50000]),(10,[49001,50000])],(.of [0,1,2,3,4,5,6,7,8,9,10]))] },
 {f:=175 },
 {f:=94 },
 {f:=194 },
 {f:=192 },
 {f:=197 },
 {f:=200 },
 {f:=195,pl:=[(6,[(0,[50000]),(1,[50001]),(2,[6,5006,10006,15006]),(3,[50000]),(4,[50002]),(5,[9,5009,10009,15009])],(.of [0,1,3,4,2,5,6,7]))] },
 {f:=198 },
 {f:=252 },
 {f:=188 },
 {f:=199 },
 {f:=201 },
 {f:=202 },
 {f:=203 },
 {f:=204 },
 {f:=193,pl:=[(6,[(0,[50000]),(1,[50001]),(2,[6,5006,10006,15006]),(3,[50000]),(4,[50002]),(5,[9,5009,10009,15009])],(.of [0,1,3,4,2,5,6,7]))] },
 {f:=108,own:=[34] },
 {f:=253,pl:=[(3216,[(5,[50000]),(7,[50000]),(8,[50000]),(9,[50000]),(12,[50000]),(13,[50000]),(14,[32,5032,10032,15032])],(.of [0,1,2,3,4,5,6,7,8,9,10,11,12,13,14,15,16])),(6436,[(0,[50000]),(2,[50000]),(5,[50000]),(8,[50000]),(9,[50000]),(10,[50000]),(12,[50000]),(13,[50000]),(14,[50000]),(15,[50000]),(16,[50000]),(17,[50000])],(.of [0,1,2,3,4,5,6,7,8,9,10,11,12,13,14,15,16,17]))] },
 {f:=191,keep:=[191,253] },
 {f:=107,keep:=[191] },
 {f:=109,ro:=true,pl:=[(1864,[(0,[50000]),(2,[50000]),(3,[50000]),(4,[50000]),(7,[50000]),(8,[50000])],(.of [0,1,2,3,4,5,6,7,8,9]))] },
 {f:=53,keep:=[107,109] },
 {f:=24,w:=[(62,.nf 18 11 37 20502),(126,.nf 18 11 37 20502),(65177,.nf 18 11 37 20502),(65177,.ad [(48,40192)]),(130713,.nf 18 11 37 20502),(261785,.nf 18 11 37 20502),(523929,.nf 18 11 37 20502)] }]
def feB:List (Nat×Ent):=[(77,sp_f77),(78,sp_f78),(106,sp_f106),(225,sp_f225),(196,sp_f196),(114,sp_f114),((bCode 2 201 0),sp_op_index_201),((bCode 0 9 39),sp_op_convert_9_39)]
theorem feB_ok:AllE feB:=gC en_f77 ms_f77<|gC en_f78 ms_f78<|gC en_f106 ms_f106<|gC en_f225 ms_f225<|gC en_f196 ms_f196<|gC en_f114 ms_f114<|gC en_op_index_201 ms_op_index_201<|gC en_op_convert_9_39 ms_op_convert_9_39 gN
theorem feR_ok:feR.all (auChk Tryz.prog)=true:=by kernel_rfl
noncomputable def feE:List (Nat×Ent):=auL Tryz.prog TYs feR feB
theorem feE_ok: ∀ p∈feE,Entered Tryz.prog p.1/\Meets Tryz.prog p.1 (strip p.2):=auA mixed feR_ok (gA feB_ok)
def feEp:Endpoint:=((ByteArray.mk #[119,101,98]),(1,(4,([1,2],(false,([],([],([],(false,())))))))))
end Go.Proofs.YtmokmalepelinaaGreatDoor.K
namespace Go.Proofs
open Go.Shelf
def Tryz.lays122_ren:Go.Shelf.Ren:=⟨fun|122=>188|215=>252|n=>n,fun|3=>3|4=>4|n=>n,fun|n=>n⟩
theorem Tryz.lays122:Go.Proofs.Lays.n122 Tryz.prog Tryz.lays122_ren:={
 mixed:=by kernel_rfl
 f122:=Tryz.func188.trans (congrArg some (by kernel_rfl))
 f215:=Tryz.func252.trans (congrArg some (by kernel_rfl))
 t3:=Tryz.underlying3
 a3:=Tryz.isAgg3
 z3:=Tryz.sizeOf3
 v3:=Tryz.zeroValue3
 t4:=Tryz.underlying4
 a4:=Tryz.isAgg4
 z4:=Tryz.sizeOf4
 v4:=Tryz.zeroValue4}
end Go.Proofs
namespace Go.Proofs.YtmokmalepelinaaGreatDoor.K
open Go.RowKit Go.Region Go.Sort Go.Lib
attribute [local go_sem ↓] Go.wp_at_zero Go.wp_at_succ
def encF (x:Finding):List Value:=[.int .i64 x.1,.string x.2.1,.int .i64 x.2.2.1,.int .i64 x.2.2.2.1,.int .i64 x.2.2.2.2.1,.int .i64 x.2.2.2.2.2.1,.string x.2.2.2.2.2.2.1,.int .i64 x.2.2.2.2.2.2.2.1.1,.int .i64 x.2.2.2.2.2.2.2.1.2.1,.int .i64 x.2.2.2.2.2.2.2.2.1,.string x.2.2.2.2.2.2.2.2.2.1]
def GW (w w':World):Prop:= ∃ q os,w'=grow (w.drewN q) os
theorem GW.rfl' (w:World):GW w w:=⟨0, #[],by rw [grow_empty];rfl⟩
theorem GW.drew {w w':World}(h:GW w w'):GW w w'.drew:=by
 obtain ⟨q,os,rfl⟩:=h
 exact ⟨q+1,os,rfl⟩
theorem GW.trans {a b c:World}(h:GW a b)(k:GW b c):GW a c:=by
 obtain ⟨q,os,rfl⟩:=h
 obtain ⟨q2,os2,rfl⟩:=k
 refine ⟨q+q2,os++os2, ?_⟩
 show grow (grow ((a.drewN q).drewN q2) os) os2=_
 rw [grow_grow]
 simp [World.drewN,Nat.add_assoc]
theorem GW.alloc (w:World)(o:Obj):GW w (w.alloc o):=⟨0, #[o],by rw [alloc_eq_grow];rfl⟩
theorem GW.cell {w w':World}(h:GW w w'){a:Addr}{v:Value}(hc:w.cell? a=some v):w'.cell? a=some v:=by
 obtain ⟨q,os,rfl⟩:=h
 have hb:a.block<w.heap.size:=by
  unfold World.cell? at hc
  split at hc
  next heq=>exact (Array.getElem?_eq_some_iff.1 heq).1
  next=>cases hc
 simp only [World.cell?, grow,World.drewN] at hc ⊢
 rw [Array.getElem?_append_left hb]
 exact hc
theorem get197 (x:Finding)(w:World):Calls Tryz.prog 197 #[.agg (encF x).toArray] w fun e w'=>e= .returned (.string x.2.1)/\GW w w':=by
 unfold encF
 go_enter Tryz.func197,Tryz.ntmps197
 go_wp2_with fail
 go_ret
 exact ⟨rfl,GW.alloc _ _⟩
theorem get198 (x:Finding)(w:World):Calls Tryz.prog 198 #[.agg (encF x).toArray] w fun e w'=>e= .returned (.int .i64 x.2.2.1)/\GW w w':=by
 unfold encF
 go_enter Tryz.func198,Tryz.ntmps198
 go_wp2_with fail
 go_ret
 exact ⟨rfl,GW.alloc _ _⟩
theorem get199 (x:Finding)(w:World):Calls Tryz.prog 199 #[.agg (encF x).toArray] w fun e w'=>e= .returned (.int .i64 x.2.2.2.1)/\GW w w':=by
 unfold encF
 go_enter Tryz.func199,Tryz.ntmps199
 go_wp2_with fail
 go_ret
 exact ⟨rfl,GW.alloc _ _⟩
theorem get200 (x:Finding)(w:World):Calls Tryz.prog 200 #[.agg (encF x).toArray] w fun e w'=>e= .returned (.string x.2.2.2.2.2.2.1)/\GW w w':=by
 unfold encF
 go_enter Tryz.func200,Tryz.ntmps200
 go_wp2_with fail
 go_ret
 exact ⟨rfl,GW.alloc _ _⟩
theorem get201 (x:Finding)(w:World):Calls Tryz.prog 201 #[.agg (encF x).toArray] w fun e w'=>e= .returned (.int .i64 x.2.2.2.2.2.1)/\GW w w':=by
 unfold encF
 go_enter Tryz.func201,Tryz.ntmps201
 go_wp2_with fail
 go_ret
 exact ⟨rfl,GW.alloc _ _⟩
theorem get202 (x:Finding)(w:World):Calls Tryz.prog 202 #[.agg (encF x).toArray] w fun e w'=>e= .returned (.int .i64 x.2.2.2.2.2.2.2.1.1)/\GW w w':=by
 unfold encF
 go_enter Tryz.func202,Tryz.ntmps202
 go_wp2_with fail
 go_ret
 exact ⟨rfl,GW.alloc _ _⟩
theorem get203 (x:Finding)(w:World):Calls Tryz.prog 203 #[.agg (encF x).toArray] w fun e w'=>e= .returned (.int .i64 x.2.2.2.2.2.2.2.1.2.1)/\GW w w':=by
 unfold encF
 go_enter Tryz.func203,Tryz.ntmps203
 go_wp2_with fail
 go_ret
 exact ⟨rfl,GW.alloc _ _⟩
theorem get204 (x:Finding)(w:World):Calls Tryz.prog 204 #[.agg (encF x).toArray] w fun e w'=>e= .returned (.int .i64 x.2.2.2.2.2.2.2.2.1)/\GW w w':=by
 unfold encF
 go_enter Tryz.func204,Tryz.ntmps204
 go_wp2_with fail
 go_ret
 exact ⟨rfl,GW.alloc _ _⟩
theorem get205 (x:Finding)(w:World):Calls Tryz.prog 205 #[.agg (encF x).toArray] w fun e w'=>e= .returned (.string x.2.2.2.2.2.2.2.2.2.1)/\GW w w':=by
 unfold encF
 go_enter Tryz.func205,Tryz.ntmps205
 go_wp2_with fail
 go_ret
 exact ⟨rfl,GW.alloc _ _⟩
theorem get206 (x:Finding)(w:World):Calls Tryz.prog 206 #[.agg (encF x).toArray] w fun e w'=>e= .returned (.int .i64 x.1)/\GW w w':=by
 unfold encF
 go_enter Tryz.func206,Tryz.ntmps206
 go_wp2_with fail
 go_ret
 exact ⟨rfl,GW.alloc _ _⟩
theorem get207 (x:Finding)(w:World):Calls Tryz.prog 207 #[.agg (encF x).toArray] w fun e w'=>e= .returned (.int .i64 x.2.2.2.2.1)/\GW w w':=by
 unfold encF
 go_enter Tryz.func207,Tryz.ntmps207
 go_wp2_with fail
 go_ret
 exact ⟨rfl,GW.alloc _ _⟩
def CE (x:Finding)(b:Nat)(w:World):Prop:=w.cell? ⟨b,0,none⟩=some (.int .i64 x.1)/\w.cell? ⟨b,1,none⟩=some (.string x.2.1)/\w.cell? ⟨b,2,none⟩=some (.int .i64 x.2.2.1)/\w.cell? ⟨b,3,none⟩=some (.int .i64 x.2.2.2.1)/\w.cell? ⟨b,4,none⟩=some (.int .i64 x.2.2.2.2.1)/\w.cell? ⟨b,5,none⟩=some (.int .i64 x.2.2.2.2.2.1)/\w.cell? ⟨b,6,none⟩=some (.string x.2.2.2.2.2.2.1)/\w.cell? ⟨b,7,none⟩=some (.int .i64 x.2.2.2.2.2.2.2.1.1)/\w.cell? ⟨b,8,none⟩=some (.int .i64 x.2.2.2.2.2.2.2.1.2.1)/\w.cell? ⟨b,9,none⟩=some (.int .i64 x.2.2.2.2.2.2.2.2.1)/\w.cell? ⟨b,10,none⟩=some (.string x.2.2.2.2.2.2.2.2.2.1)
theorem CE.gw {x:Finding}{b:Nat}{w w':World}(h:CE x b w)(k:GW w w'):CE x b w':=by
 obtain ⟨c0,c1,c2,c3,c4,c5,c6,c7,c8,c9,c10⟩:=h
 exact ⟨k.cell c0,k.cell c1,k.cell c2,k.cell c3,k.cell c4,k.cell c5,k.cell c6,k.cell c7,k.cell c8,k.cell c9,k.cell c10⟩
def CS (g bo ba bb:Nat)(a b:Finding)(w w':World):Prop:=w'.cell? ⟨bo,0,none⟩=some (.func (.func g) #[] #[])/\w'.cell? ⟨ba,0,none⟩=some (.int .i64 a.1)/\w'.cell? ⟨ba,1,none⟩=some (.string a.2.1)/\w'.cell? ⟨ba,2,none⟩=some (.int .i64 a.2.2.1)/\w'.cell? ⟨ba,3,none⟩=some (.int .i64 a.2.2.2.1)/\w'.cell? ⟨ba,4,none⟩=some (.int .i64 a.2.2.2.2.1)/\w'.cell? ⟨ba,5,none⟩=some (.int .i64 a.2.2.2.2.2.1)/\w'.cell? ⟨ba,6,none⟩=some (.string a.2.2.2.2.2.2.1)/\w'.cell? ⟨ba,7,none⟩=some (.int .i64 a.2.2.2.2.2.2.2.1.1)/\w'.cell? ⟨ba,8,none⟩=some (.int .i64 a.2.2.2.2.2.2.2.1.2.1)/\w'.cell? ⟨ba,9,none⟩=some (.int .i64 a.2.2.2.2.2.2.2.2.1)/\w'.cell? ⟨ba,10,none⟩=some (.string a.2.2.2.2.2.2.2.2.2.1)/\w'.cell? ⟨bb,0,none⟩=some (.int .i64 b.1)/\w'.cell? ⟨bb,1,none⟩=some (.string b.2.1)/\w'.cell? ⟨bb,2,none⟩=some (.int .i64 b.2.2.1)/\w'.cell? ⟨bb,3,none⟩=some (.int .i64 b.2.2.2.1)/\w'.cell? ⟨bb,4,none⟩=some (.int .i64 b.2.2.2.2.1)/\w'.cell? ⟨bb,5,none⟩=some (.int .i64 b.2.2.2.2.2.1)/\w'.cell? ⟨bb,6,none⟩=some (.string b.2.2.2.2.2.2.1)/\w'.cell? ⟨bb,7,none⟩=some (.int .i64 b.2.2.2.2.2.2.2.1.1)/\w'.cell? ⟨bb,8,none⟩=some (.int .i64 b.2.2.2.2.2.2.2.1.2.1)/\w'.cell? ⟨bb,9,none⟩=some (.int .i64 b.2.2.2.2.2.2.2.2.1)/\w'.cell? ⟨bb,10,none⟩=some (.string b.2.2.2.2.2.2.2.2.2.1)/\GW w w'
theorem CS.of {g bo ba bb:Nat}{a b:Finding}{w w':World}(ho:w.cell? ⟨bo,0,none⟩=some (.func (.func g) #[] #[]))(ha:CE a ba w)(hb:CE b bb w)(k:GW w w'):CS g bo ba bb a b w w':=by
 obtain ⟨c0,c1,c2,c3,c4,c5,c6,c7,c8,c9,c10⟩:=ha.gw k
 obtain ⟨d0,d1,d2,d3,d4,d5,d6,d7,d8,d9,d10⟩:=hb.gw k
 exact ⟨k.cell ho,c0,c1,c2,c3,c4,c5,c6,c7,c8,c9,c10,d0,d1,d2,d3,d4,d5,d6,d7,d8,d9,d10,k⟩
set_option maxHeartbeats 4000000 in
theorem clo193 (hcmp: ∀ x y w,Calls Tryz.prog 188 #[.int .i64 x,.int .i64 y] w fun e w'=>e= .returned (.int .i64 (Go.Lib.compareInt x y))/\w'=w)(g:Nat)(k:Finding->Int)(hg: ∀ x w,Calls Tryz.prog g #[.agg (encF x).toArray] w fun e w'=>e= .returned (.int .i64 (k x))/\GW w w')(eg: ∀ args w,(callFunc g args).run Tryz.prog w= .ok (.enter g args) w){bo ba bb:Nat}{a b:Finding}{w:World}(ho:w.cell? ⟨bo,0,none⟩=some (.func (.func g) #[] #[]))(ha:CE a ba w)(hb:CE b bb w):
  Calls Tryz.prog 193 #[.pointer (some ⟨bo,0,none⟩),.pointer (some ⟨ba,0,none⟩),.pointer (some ⟨bb,0,none⟩)] w fun e w'=>e= .returned (.int .i64 (Go.Lib.compareInt (k a) (k b)))/\GW w w':=by
 have hC:=fun w' (h:GW w w')=>CS.of ho ha hb h
 go_enter Tryz.func193,Tryz.ntmps193
 go_wp2_with fail
 go_region_held3 (fun w'=>w'.cell? ⟨bo,0,none⟩=some (.func (.func g) #[] #[])/\w'.cell? ⟨ba,0,none⟩=some (.int .i64 a.1)/\w'.cell? ⟨ba,1,none⟩=some (.string a.2.1)/\w'.cell? ⟨ba,2,none⟩=some (.int .i64 a.2.2.1)/\w'.cell? ⟨ba,3,none⟩=some (.int .i64 a.2.2.2.1)/\w'.cell? ⟨ba,4,none⟩=some (.int .i64 a.2.2.2.2.1)/\w'.cell? ⟨ba,5,none⟩=some (.int .i64 a.2.2.2.2.2.1)/\w'.cell? ⟨ba,6,none⟩=some (.string a.2.2.2.2.2.2.1)/\w'.cell? ⟨ba,7,none⟩=some (.int .i64 a.2.2.2.2.2.2.2.1.1)/\w'.cell? ⟨ba,8,none⟩=some (.int .i64 a.2.2.2.2.2.2.2.1.2.1)/\w'.cell? ⟨ba,9,none⟩=some (.int .i64 a.2.2.2.2.2.2.2.2.1)/\w'.cell? ⟨ba,10,none⟩=some (.string a.2.2.2.2.2.2.2.2.2.1)/\w'.cell? ⟨bb,0,none⟩=some (.int .i64 b.1)/\w'.cell? ⟨bb,1,none⟩=some (.string b.2.1)/\w'.cell? ⟨bb,2,none⟩=some (.int .i64 b.2.2.1)/\w'.cell? ⟨bb,3,none⟩=some (.int .i64 b.2.2.2.1)/\w'.cell? ⟨bb,4,none⟩=some (.int .i64 b.2.2.2.2.1)/\w'.cell? ⟨bb,5,none⟩=some (.int .i64 b.2.2.2.2.2.1)/\w'.cell? ⟨bb,6,none⟩=some (.string b.2.2.2.2.2.2.1)/\w'.cell? ⟨bb,7,none⟩=some (.int .i64 b.2.2.2.2.2.2.2.1.1)/\w'.cell? ⟨bb,8,none⟩=some (.int .i64 b.2.2.2.2.2.2.2.1.2.1)/\w'.cell? ⟨bb,9,none⟩=some (.int .i64 b.2.2.2.2.2.2.2.2.1)/\w'.cell? ⟨bb,10,none⟩=some (.string b.2.2.2.2.2.2.2.2.2.1)/\GW w w') (first|exact hC _ (by assumption)|exact hC _ (GW.rfl' _).drew|go_keep) (first|(go_at_fn g;refine (hg _ _).mono ?_;rintro e w1 ⟨rfl,hw1⟩;have hz:GW w w1:=(by first|exact ((GW.rfl' w).drew).trans hw1|exact GW.trans (by assumption) hw1))|(go_at_call 188;refine (hcmp _ _ _).mono ?_;rintro e w1 ⟨rfl,rfl⟩))
 all_goals
  go_wp2_with fail
  go_ret
  exact ⟨rfl,by assumption⟩
set_option maxHeartbeats 4000000 in
theorem clo195 (hcmp: ∀ x y w,Calls Tryz.prog 196 #[.string x,.string y] w fun e w'=>e= .returned (.int .i64 ((fun s t:ByteArray=>Go.Lib.compareBytes s.data.toList t.data.toList) x y))/\w'=w)(g:Nat)(k:Finding->ByteArray)(hg: ∀ x w,Calls Tryz.prog g #[.agg (encF x).toArray] w fun e w'=>e= .returned (.string (k x))/\GW w w')(eg: ∀ args w,(callFunc g args).run Tryz.prog w= .ok (.enter g args) w){bo ba bb:Nat}{a b:Finding}{w:World}(ho:w.cell? ⟨bo,0,none⟩=some (.func (.func g) #[] #[]))(ha:CE a ba w)(hb:CE b bb w):
  Calls Tryz.prog 195 #[.pointer (some ⟨bo,0,none⟩),.pointer (some ⟨ba,0,none⟩),.pointer (some ⟨bb,0,none⟩)] w fun e w'=>e= .returned (.int .i64 ((fun s t:ByteArray=>Go.Lib.compareBytes s.data.toList t.data.toList) (k a) (k b)))/\GW w w':=by
 have hC:=fun w' (h:GW w w')=>CS.of ho ha hb h
 go_enter Tryz.func195,Tryz.ntmps195
 go_wp2_with fail
 go_region_held3 (fun w'=>w'.cell? ⟨bo,0,none⟩=some (.func (.func g) #[] #[])/\w'.cell? ⟨ba,0,none⟩=some (.int .i64 a.1)/\w'.cell? ⟨ba,1,none⟩=some (.string a.2.1)/\w'.cell? ⟨ba,2,none⟩=some (.int .i64 a.2.2.1)/\w'.cell? ⟨ba,3,none⟩=some (.int .i64 a.2.2.2.1)/\w'.cell? ⟨ba,4,none⟩=some (.int .i64 a.2.2.2.2.1)/\w'.cell? ⟨ba,5,none⟩=some (.int .i64 a.2.2.2.2.2.1)/\w'.cell? ⟨ba,6,none⟩=some (.string a.2.2.2.2.2.2.1)/\w'.cell? ⟨ba,7,none⟩=some (.int .i64 a.2.2.2.2.2.2.2.1.1)/\w'.cell? ⟨ba,8,none⟩=some (.int .i64 a.2.2.2.2.2.2.2.1.2.1)/\w'.cell? ⟨ba,9,none⟩=some (.int .i64 a.2.2.2.2.2.2.2.2.1)/\w'.cell? ⟨ba,10,none⟩=some (.string a.2.2.2.2.2.2.2.2.2.1)/\w'.cell? ⟨bb,0,none⟩=some (.int .i64 b.1)/\w'.cell? ⟨bb,1,none⟩=some (.string b.2.1)/\w'.cell? ⟨bb,2,none⟩=some (.int .i64 b.2.2.1)/\w'.cell? ⟨bb,3,none⟩=some (.int .i64 b.2.2.2.1)/\w'.cell? ⟨bb,4,none⟩=some (.int .i64 b.2.2.2.2.1)/\w'.cell? ⟨bb,5,none⟩=some (.int .i64 b.2.2.2.2.2.1)/\w'.cell? ⟨bb,6,none⟩=some (.string b.2.2.2.2.2.2.1)/\w'.cell? ⟨bb,7,none⟩=some (.int .i64 b.2.2.2.2.2.2.2.1.1)/\w'.cell? ⟨bb,8,none⟩=some (.int .i64 b.2.2.2.2.2.2.2.1.2.1)/\w'.cell? ⟨bb,9,none⟩=some (.int .i64 b.2.2.2.2.2.2.2.2.1)/\w'.cell? ⟨bb,10,none⟩=some (.string b.2.2.2.2.2.2.2.2.2.1)/\GW w w') (first|exact hC _ (by assumption)|exact hC _ (GW.rfl' _).drew|go_keep) (first|(go_at_fn g;refine (hg _ _).mono ?_;rintro e w1 ⟨rfl,hw1⟩;have hz:GW w w1:=(by first|exact ((GW.rfl' w).drew).trans hw1|exact GW.trans (by assumption) hw1))|(go_at_call 196;refine (hcmp _ _ _).mono ?_;rintro e w1 ⟨rfl,rfl⟩))
 all_goals
  go_wp2_with fail
  go_ret
  exact ⟨rfl,by assumption⟩
def firstC {α:Type}:List (α->α->Int)->α->α->Int
 | [],_,_=>0
 |c::l,x,y=>if c x y=0 then firstC l x y else c x y
def kI (k:Finding->Int)(x y:Finding):Int:=Go.Lib.compareInt (k x) (k y)
def kB (k:Finding->ByteArray)(x y:Finding):Int:=Go.Lib.compareBytes (k x).data.toList (k y).data.toList
def ordL:List (Finding->Finding->Int):=[kB fun x=>x.2.1,kI fun x=>x.2.2.1,kI fun x=>x.2.2.2.1,kB fun x=>x.2.2.2.2.2.2.1,kI fun x=>x.2.2.2.2.2.1,kI fun x=>x.2.2.2.2.2.2.2.1.1,kI fun x=>x.2.2.2.2.2.2.2.1.2.1,kI fun x=>x.2.2.2.2.2.2.2.2.1,kB fun x=>x.2.2.2.2.2.2.2.2.2.1,kI fun x=>x.1,kI fun x=>x.2.2.2.2.1]
def ordF (x y:Finding):Int:=firstC ordL x y
theorem mkc192 (v:Value)(hv:v.oneCell'=true)(p q:Value)(w:World):Calls Tryz.prog 192 #[v,p,q] w fun e w'=>e= .returned (.func (.func 193) #[] #[.pointer (some ⟨w.heap.size,0,none⟩),p,q])/\w'=w.alloc (.cells #[v] 277):=by
 go_enter Tryz.func192,Tryz.ntmps192
 go_wp2_with fail
 go_ret
 exact ⟨rfl,rfl⟩
theorem mkc194 (v:Value)(hv:v.oneCell'=true)(p q:Value)(w:World):Calls Tryz.prog 194 #[v,p,q] w fun e w'=>e= .returned (.func (.func 195) #[] #[.pointer (some ⟨w.heap.size,0,none⟩),p,q])/\w'=w.alloc (.cells #[v] 280):=by
 go_enter Tryz.func194,Tryz.ntmps194
 go_wp2_with fail
 go_ret
 exact ⟨rfl,rfl⟩
def oW (a b:Finding)(w:World):World:=grow w #[.cells (encF a).toArray 37,.cells (encF b).toArray 37,.cells #[.func (.func 197) #[] #[]] 280,.cells #[.func (.func 198) #[] #[]] 277,.cells #[.func (.func 199) #[] #[]] 277,.cells #[.func (.func 200) #[] #[]] 280,.cells #[.func (.func 201) #[] #[]] 277,.cells #[.func (.func 202) #[] #[]] 277,.cells #[.func (.func 203) #[] #[]] 277,.cells #[.func (.func 204) #[] #[]] 277,.cells #[.func (.func 205) #[] #[]] 280,.cells #[.func (.func 206) #[] #[]] 277,.cells #[.func (.func 207) #[] #[]] 277,.cells #[.func (.func 195) #[] #[.pointer (some ⟨w.heap.size+2,0,none⟩),.pointer (some ⟨w.heap.size,0,none⟩),.pointer (some ⟨w.heap.size+1,0,none⟩)],.func (.func 193) #[] #[.pointer (some ⟨w.heap.size+3,0,none⟩),.pointer (some ⟨w.heap.size,0,none⟩),.pointer (some ⟨w.heap.size+1,0,none⟩)],.func (.func 193) #[] #[.pointer (some ⟨w.heap.size+4,0,none⟩),.pointer (some ⟨w.heap.size,0,none⟩),.pointer (some ⟨w.heap.size+1,0,none⟩)],.func (.func 195) #[] #[.pointer (some ⟨w.heap.size+5,0,none⟩),.pointer (some ⟨w.heap.size,0,none⟩),.pointer (some ⟨w.heap.size+1,0,none⟩)],.func (.func 193) #[] #[.pointer (some ⟨w.heap.size+6,0,none⟩),.pointer (some ⟨w.heap.size,0,none⟩),.pointer (some ⟨w.heap.size+1,0,none⟩)],.func (.func 193) #[] #[.pointer (some ⟨w.heap.size+7,0,none⟩),.pointer (some ⟨w.heap.size,0,none⟩),.pointer (some ⟨w.heap.size+1,0,none⟩)],.func (.func 193) #[] #[.pointer (some ⟨w.heap.size+8,0,none⟩),.pointer (some ⟨w.heap.size,0,none⟩),.pointer (some ⟨w.heap.size+1,0,none⟩)],.func (.func 193) #[] #[.pointer (some ⟨w.heap.size+9,0,none⟩),.pointer (some ⟨w.heap.size,0,none⟩),.pointer (some ⟨w.heap.size+1,0,none⟩)],.func (.func 195) #[] #[.pointer (some ⟨w.heap.size+10,0,none⟩),.pointer (some ⟨w.heap.size,0,none⟩),.pointer (some ⟨w.heap.size+1,0,none⟩)],.func (.func 193) #[] #[.pointer (some ⟨w.heap.size+11,0,none⟩),.pointer (some ⟨w.heap.size,0,none⟩),.pointer (some ⟨w.heap.size+1,0,none⟩)],.func (.func 193) #[] #[.pointer (some ⟨w.heap.size+12,0,none⟩),.pointer (some ⟨w.heap.size,0,none⟩),.pointer (some ⟨w.heap.size+1,0,none⟩)]] 278]
theorem cell_grow (w:World)(os:Array Obj)(i j:Nat){c:Array Value}{e:TypeId}{fr:Nat×Nat}{v:Value}(h:os[i]? = some (.cells c e fr))(hc:c[j]? = some v):(grow w os).cell? ⟨w.heap.size+i,j,none⟩=some v:=by
 simp only [World.cell?, grow]
 rw [Array.getElem?_append_right (Nat.le_add_right _ _),Nat.add_sub_cancel_left,h]
 simpa using hc
structure OC (a b:Finding) (w w':World):Prop where
 c0:CE a w.heap.size w'
 c1:CE b (w.heap.size+1) w'
 c2:w'.cell? ⟨w.heap.size+2,0,none⟩=some (.func (.func 197) #[] #[])
 c3:w'.cell? ⟨w.heap.size+3,0,none⟩=some (.func (.func 198) #[] #[])
 c4:w'.cell? ⟨w.heap.size+4,0,none⟩=some (.func (.func 199) #[] #[])
 c5:w'.cell? ⟨w.heap.size+5,0,none⟩=some (.func (.func 200) #[] #[])
 c6:w'.cell? ⟨w.heap.size+6,0,none⟩=some (.func (.func 201) #[] #[])
 c7:w'.cell? ⟨w.heap.size+7,0,none⟩=some (.func (.func 202) #[] #[])
 c8:w'.cell? ⟨w.heap.size+8,0,none⟩=some (.func (.func 203) #[] #[])
 c9:w'.cell? ⟨w.heap.size+9,0,none⟩=some (.func (.func 204) #[] #[])
 c10:w'.cell? ⟨w.heap.size+10,0,none⟩=some (.func (.func 205) #[] #[])
 c11:w'.cell? ⟨w.heap.size+11,0,none⟩=some (.func (.func 206) #[] #[])
 c12:w'.cell? ⟨w.heap.size+12,0,none⟩=some (.func (.func 207) #[] #[])
 c13:w'.cell? ⟨w.heap.size+13,0,none⟩=some (.func (.func 195) #[] #[.pointer (some ⟨w.heap.size+2,0,none⟩),.pointer (some ⟨w.heap.size,0,none⟩),.pointer (some ⟨w.heap.size+1,0,none⟩)])
 c14:w'.cell? ⟨w.heap.size+13,1,none⟩=some (.func (.func 193) #[] #[.pointer (some ⟨w.heap.size+3,0,none⟩),.pointer (some ⟨w.heap.size,0,none⟩),.pointer (some ⟨w.heap.size+1,0,none⟩)])
 c15:w'.cell? ⟨w.heap.size+13,2,none⟩=some (.func (.func 193) #[] #[.pointer (some ⟨w.heap.size+4,0,none⟩),.pointer (some ⟨w.heap.size,0,none⟩),.pointer (some ⟨w.heap.size+1,0,none⟩)])
 c16:w'.cell? ⟨w.heap.size+13,3,none⟩=some (.func (.func 195) #[] #[.pointer (some ⟨w.heap.size+5,0,none⟩),.pointer (some ⟨w.heap.size,0,none⟩),.pointer (some ⟨w.heap.size+1,0,none⟩)])
 c17:w'.cell? ⟨w.heap.size+13,4,none⟩=some (.func (.func 193) #[] #[.pointer (some ⟨w.heap.size+6,0,none⟩),.pointer (some ⟨w.heap.size,0,none⟩),.pointer (some ⟨w.heap.size+1,0,none⟩)])
 c18:w'.cell? ⟨w.heap.size+13,5,none⟩=some (.func (.func 193) #[] #[.pointer (some ⟨w.heap.size+7,0,none⟩),.pointer (some ⟨w.heap.size,0,none⟩),.pointer (some ⟨w.heap.size+1,0,none⟩)])
 c19:w'.cell? ⟨w.heap.size+13,6,none⟩=some (.func (.func 193) #[] #[.pointer (some ⟨w.heap.size+8,0,none⟩),.pointer (some ⟨w.heap.size,0,none⟩),.pointer (some ⟨w.heap.size+1,0,none⟩)])
 c20:w'.cell? ⟨w.heap.size+13,7,none⟩=some (.func (.func 193) #[] #[.pointer (some ⟨w.heap.size+9,0,none⟩),.pointer (some ⟨w.heap.size,0,none⟩),.pointer (some ⟨w.heap.size+1,0,none⟩)])
 c21:w'.cell? ⟨w.heap.size+13,8,none⟩=some (.func (.func 195) #[] #[.pointer (some ⟨w.heap.size+10,0,none⟩),.pointer (some ⟨w.heap.size,0,none⟩),.pointer (some ⟨w.heap.size+1,0,none⟩)])
 c22:w'.cell? ⟨w.heap.size+13,9,none⟩=some (.func (.func 193) #[] #[.pointer (some ⟨w.heap.size+11,0,none⟩),.pointer (some ⟨w.heap.size,0,none⟩),.pointer (some ⟨w.heap.size+1,0,none⟩)])
 c23:w'.cell? ⟨w.heap.size+13,10,none⟩=some (.func (.func 193) #[] #[.pointer (some ⟨w.heap.size+12,0,none⟩),.pointer (some ⟨w.heap.size,0,none⟩),.pointer (some ⟨w.heap.size+1,0,none⟩)])
theorem oW_cell (a b:Finding)(w:World):OC a b w (oW a b w):=by
 refine ⟨⟨cell_grow w _ 0 0 rfl rfl,cell_grow w _ 0 1 rfl rfl,cell_grow w _ 0 2 rfl rfl,cell_grow w _ 0 3 rfl rfl,cell_grow w _ 0 4 rfl rfl,cell_grow w _ 0 5 rfl rfl,cell_grow w _ 0 6 rfl rfl,cell_grow w _ 0 7 rfl rfl,cell_grow w _ 0 8 rfl rfl,cell_grow w _ 0 9 rfl rfl,cell_grow w _ 0 10 rfl rfl⟩,⟨cell_grow w _ 1 0 rfl rfl,cell_grow w _ 1 1 rfl rfl,cell_grow w _ 1 2 rfl rfl,cell_grow w _ 1 3 rfl rfl,cell_grow w _ 1 4 rfl rfl,cell_grow w _ 1 5 rfl rfl,cell_grow w _ 1 6 rfl rfl,cell_grow w _ 1 7 rfl rfl,cell_grow w _ 1 8 rfl rfl,cell_grow w _ 1 9 rfl rfl,cell_grow w _ 1 10 rfl rfl⟩,cell_grow w _ 2 0 rfl rfl,cell_grow w _ 3 0 rfl rfl,cell_grow w _ 4 0 rfl rfl,cell_grow w _ 5 0 rfl rfl,cell_grow w _ 6 0 rfl rfl,cell_grow w _ 7 0 rfl rfl,cell_grow w _ 8 0 rfl rfl,cell_grow w _ 9 0 rfl rfl,cell_grow w _ 10 0 rfl rfl,cell_grow w _ 11 0 rfl rfl,cell_grow w _ 12 0 rfl rfl,cell_grow w _ 13 0 rfl rfl,cell_grow w _ 13 1 rfl rfl,cell_grow w _ 13 2 rfl rfl,cell_grow w _ 13 3 rfl rfl,cell_grow w _ 13 4 rfl rfl,cell_grow w _ 13 5 rfl rfl,cell_grow w _ 13 6 rfl rfl,cell_grow w _ 13 7 rfl rfl,cell_grow w _ 13 8 rfl rfl,cell_grow w _ 13 9 rfl rfl,cell_grow w _ 13 10 rfl rfl⟩
theorem OC.gw {a b:Finding}{w w1 w2:World}(h:OC a b w w1)(k:GW w1 w2):OC a b w w2:=⟨h.c0.gw k,h.c1.gw k,k.cell h.c2,k.cell h.c3,k.cell h.c4,k.cell h.c5,k.cell h.c6,k.cell h.c7,k.cell h.c8,k.cell h.c9,k.cell h.c10,k.cell h.c11,k.cell h.c12,k.cell h.c13,k.cell h.c14,k.cell h.c15,k.cell h.c16,k.cell h.c17,k.cell h.c18,k.cell h.c19,k.cell h.c20,k.cell h.c21,k.cell h.c22,k.cell h.c23⟩
theorem GW.oW_alloc (a b:Finding)(w:World):GW w (oW a b w):=⟨0,_,rfl⟩
set_option maxHeartbeats 8000000 in
theorem order_calls' (hI: ∀ x y w,Calls Tryz.prog 188 #[.int .i64 x,.int .i64 y] w fun e w'=>e= .returned (.int .i64 (Go.Lib.compareInt x y))/\w'=w)
  (hS: ∀ x y w,Calls Tryz.prog 196 #[.string x,.string y] w fun e w'=>e= .returned (.int .i64 ((fun s t:ByteArray=>Go.Lib.compareBytes s.data.toList t.data.toList) x y))/\w'=w) (a b:Finding) (w:World):
  Calls Tryz.prog 108 #[.agg (encF a).toArray,.agg (encF b).toArray] w fun e w'=>e= .returned (.int .i64 (ordF a b))/\GW w w':=by
 have HI:=Lib.hid hI
 have HS:=Lib.hid hS
 clear hI hS
 unfold encF
 go_enter Tryz.func108,Tryz.ntmps108
 go_wp2_with (first|(go_at_call 192;refine (mkc192 _ rfl _ _ _).mono ?_;rintro e w' ⟨rfl,rfl⟩)|(go_at_call 194;refine (mkc194 _ rfl _ _ _).mono ?_;rintro e w' ⟨rfl,rfl⟩))
 go_loopw [36] (fun s36 wr=> ∃ i:Nat,i<=11/\s36= .int .i64 i/\Hid (GW (oW a b w) wr/\firstC (ordL.drop i) a b=ordF a b)) (fun iv _=>11-(intOf iv).toNat)
 case atStart=>
  refine ⟨0,by omega,rfl,Lib.hid ⟨?_,rfl⟩⟩
  simp only [alloc_eq_grow,grow_grow]
  exact GW.rfl' _
 case round=>
  obtain ⟨i,hi,rfl,HR⟩:=hrel
  have HOC:=Lib.hid ((oW_cell a b w).gw HR.out.1)
  rcases Nat.lt_or_ge i 11 with h|h
  ·have hcase:i=0∨i=1∨i=2∨i=3∨i=4∨i=5∨i=6∨i=7∨i=8∨i=9∨i=10:=by omega
   clear h hi
   rcases hcase with rfl|rfl|rfl|rfl|rfl|rfl|rfl|rfl|rfl|rfl|rfl
   ·have k1:=HOC.out.c13
    obtain ⟨n,hn⟩: ∃ n,Go.Lib.compareBytes (a.2.1).data.toList (b.2.1).data.toList=n:=⟨_,rfl⟩
    have hr:=HR.out.2
    have HF:=Lib.hid (show (if Go.Lib.compareBytes (a.2.1).data.toList (b.2.1).data.toList=0 then firstC (ordL.drop 1) a b else Go.Lib.compareBytes (a.2.1).data.toList (b.2.1).data.toList)=ordF a b from hr)
    rw [hn] at HF
    clear hr
    have hcl:=clo195 HS.out 197 (fun x=>x.2.1) get197 (enters_of Tryz.func197 (by kernel_rfl) rfl) HOC.out.c2 HOC.out.c0 HOC.out.c1
    have HCL:=Lib.hid hcl
    clear hcl
    by_cases hz:n=0
    ·subst hz
     go_wp2_with (go_at_call 195;refine HCL.out.mono ?_;rintro e w' ⟨rfl,hw'⟩;(try dsimp only);rw [hn])
     refine ⟨⟨1,by omega,rfl,Lib.hid ⟨HR.out.1.trans hw',by have:=HF.out;rwa [if_pos rfl] at this⟩⟩,by simp [intOf]⟩
    ·go_wp2_with (go_at_call 195;refine HCL.out.mono ?_;rintro e w' ⟨rfl,hw'⟩;(try dsimp only);rw [hn])
     go_ret
     exact ⟨by have:=HF.out;rw [if_neg hz] at this;rw [this];rfl,((GW.oW_alloc a b w).trans HR.out.1).trans hw'⟩
   ·have k1:=HOC.out.c14
    obtain ⟨n,hn⟩: ∃ n,Go.Lib.compareInt (a.2.2.1) (b.2.2.1)=n:=⟨_,rfl⟩
    have hr:=HR.out.2
    have HF:=Lib.hid (show (if Go.Lib.compareInt (a.2.2.1) (b.2.2.1)=0 then firstC (ordL.drop 2) a b else Go.Lib.compareInt (a.2.2.1) (b.2.2.1))=ordF a b from hr)
    rw [hn] at HF
    clear hr
    have hcl:=clo193 HI.out 198 (fun x=>x.2.2.1) get198 (enters_of Tryz.func198 (by kernel_rfl) rfl) HOC.out.c3 HOC.out.c0 HOC.out.c1
    have HCL:=Lib.hid hcl
    clear hcl
    by_cases hz:n=0
    ·subst hz
     go_wp2_with (go_at_call 193;refine HCL.out.mono ?_;rintro e w' ⟨rfl,hw'⟩;(try dsimp only);rw [hn])
     refine ⟨⟨2,by omega,rfl,Lib.hid ⟨HR.out.1.trans hw',by have:=HF.out;rwa [if_pos rfl] at this⟩⟩,by simp [intOf]⟩
    ·go_wp2_with (go_at_call 193;refine HCL.out.mono ?_;rintro e w' ⟨rfl,hw'⟩;(try dsimp only);rw [hn])
     go_ret
     exact ⟨by have:=HF.out;rw [if_neg hz] at this;rw [this];rfl,((GW.oW_alloc a b w).trans HR.out.1).trans hw'⟩
   ·have k1:=HOC.out.c15
    obtain ⟨n,hn⟩: ∃ n,Go.Lib.compareInt (a.2.2.2.1) (b.2.2.2.1)=n:=⟨_,rfl⟩
    have hr:=HR.out.2
    have HF:=Lib.hid (show (if Go.Lib.compareInt (a.2.2.2.1) (b.2.2.2.1)=0 then firstC (ordL.drop 3) a b else Go.Lib.compareInt (a.2.2.2.1) (b.2.2.2.1))=ordF a b from hr)
    rw [hn] at HF
    clear hr
    have hcl:=clo193 HI.out 199 (fun x=>x.2.2.2.1) get199 (enters_of Tryz.func199 (by kernel_rfl) rfl) HOC.out.c4 HOC.out.c0 HOC.out.c1
    have HCL:=Lib.hid hcl
    clear hcl
    by_cases hz:n=0
    ·subst hz
     go_wp2_with (go_at_call 193;refine HCL.out.mono ?_;rintro e w' ⟨rfl,hw'⟩;(try dsimp only);rw [hn])
     refine ⟨⟨3,by omega,rfl,Lib.hid ⟨HR.out.1.trans hw',by have:=HF.out;rwa [if_pos rfl] at this⟩⟩,by simp [intOf]⟩
    ·go_wp2_with (go_at_call 193;refine HCL.out.mono ?_;rintro e w' ⟨rfl,hw'⟩;(try dsimp only);rw [hn])
     go_ret
     exact ⟨by have:=HF.out;rw [if_neg hz] at this;rw [this];rfl,((GW.oW_alloc a b w).trans HR.out.1).trans hw'⟩
   ·have k1:=HOC.out.c16
    obtain ⟨n,hn⟩: ∃ n,Go.Lib.compareBytes (a.2.2.2.2.2.2.1).data.toList (b.2.2.2.2.2.2.1).data.toList=n:=⟨_,rfl⟩
    have hr:=HR.out.2
    have HF:=Lib.hid (show (if Go.Lib.compareBytes (a.2.2.2.2.2.2.1).data.toList (b.2.2.2.2.2.2.1).data.toList=0 then firstC (ordL.drop 4) a b else Go.Lib.compareBytes (a.2.2.2.2.2.2.1).data.toList (b.2.2.2.2.2.2.1).data.toList)=ordF a b from hr)
    rw [hn] at HF
    clear hr
    have hcl:=clo195 HS.out 200 (fun x=>x.2.2.2.2.2.2.1) get200 (enters_of Tryz.func200 (by kernel_rfl) rfl) HOC.out.c5 HOC.out.c0 HOC.out.c1
    have HCL:=Lib.hid hcl
    clear hcl
    by_cases hz:n=0
    ·subst hz
     go_wp2_with (go_at_call 195;refine HCL.out.mono ?_;rintro e w' ⟨rfl,hw'⟩;(try dsimp only);rw [hn])
     refine ⟨⟨4,by omega,rfl,Lib.hid ⟨HR.out.1.trans hw',by have:=HF.out;rwa [if_pos rfl] at this⟩⟩,by simp [intOf]⟩
    ·go_wp2_with (go_at_call 195;refine HCL.out.mono ?_;rintro e w' ⟨rfl,hw'⟩;(try dsimp only);rw [hn])
     go_ret
     exact ⟨by have:=HF.out;rw [if_neg hz] at this;rw [this];rfl,((GW.oW_alloc a b w).trans HR.out.1).trans hw'⟩
   ·have k1:=HOC.out.c17
    obtain ⟨n,hn⟩: ∃ n,Go.Lib.compareInt (a.2.2.2.2.2.1) (b.2.2.2.2.2.1)=n:=⟨_,rfl⟩
    have hr:=HR.out.2
    have HF:=Lib.hid (show (if Go.Lib.compareInt (a.2.2.2.2.2.1) (b.2.2.2.2.2.1)=0 then firstC (ordL.drop 5) a b else Go.Lib.compareInt (a.2.2.2.2.2.1) (b.2.2.2.2.2.1))=ordF a b from hr)
    rw [hn] at HF
    clear hr
    have hcl:=clo193 HI.out 201 (fun x=>x.2.2.2.2.2.1) get201 (enters_of Tryz.func201 (by kernel_rfl) rfl) HOC.out.c6 HOC.out.c0 HOC.out.c1
    have HCL:=Lib.hid hcl
    clear hcl
    by_cases hz:n=0
    ·subst hz
     go_wp2_with (go_at_call 193;refine HCL.out.mono ?_;rintro e w' ⟨rfl,hw'⟩;(try dsimp only);rw [hn])
     refine ⟨⟨5,by omega,rfl,Lib.hid ⟨HR.out.1.trans hw',by have:=HF.out;rwa [if_pos rfl] at this⟩⟩,by simp [intOf]⟩
    ·go_wp2_with (go_at_call 193;refine HCL.out.mono ?_;rintro e w' ⟨rfl,hw'⟩;(try dsimp only);rw [hn])
     go_ret
     exact ⟨by have:=HF.out;rw [if_neg hz] at this;rw [this];rfl,((GW.oW_alloc a b w).trans HR.out.1).trans hw'⟩
   ·have k1:=HOC.out.c18
    obtain ⟨n,hn⟩: ∃ n,Go.Lib.compareInt (a.2.2.2.2.2.2.2.1.1) (b.2.2.2.2.2.2.2.1.1)=n:=⟨_,rfl⟩
    have hr:=HR.out.2
    have HF:=Lib.hid (show (if Go.Lib.compareInt (a.2.2.2.2.2.2.2.1.1) (b.2.2.2.2.2.2.2.1.1)=0 then firstC (ordL.drop 6) a b else Go.Lib.compareInt (a.2.2.2.2.2.2.2.1.1) (b.2.2.2.2.2.2.2.1.1))=ordF a b from hr)
    rw [hn] at HF
    clear hr
    have hcl:=clo193 HI.out 202 (fun x=>x.2.2.2.2.2.2.2.1.1) get202 (enters_of Tryz.func202 (by kernel_rfl) rfl) HOC.out.c7 HOC.out.c0 HOC.out.c1
    have HCL:=Lib.hid hcl
    clear hcl
    by_cases hz:n=0
    ·subst hz
     go_wp2_with (go_at_call 193;refine HCL.out.mono ?_;rintro e w' ⟨rfl,hw'⟩;(try dsimp only);rw [hn])
     refine ⟨⟨6,by omega,rfl,Lib.hid ⟨HR.out.1.trans hw',by have:=HF.out;rwa [if_pos rfl] at this⟩⟩,by simp [intOf]⟩
    ·go_wp2_with (go_at_call 193;refine HCL.out.mono ?_;rintro e w' ⟨rfl,hw'⟩;(try dsimp only);rw [hn])
     go_ret
     exact ⟨by have:=HF.out;rw [if_neg hz] at this;rw [this];rfl,((GW.oW_alloc a b w).trans HR.out.1).trans hw'⟩
   ·have k1:=HOC.out.c19
    obtain ⟨n,hn⟩: ∃ n,Go.Lib.compareInt (a.2.2.2.2.2.2.2.1.2.1) (b.2.2.2.2.2.2.2.1.2.1)=n:=⟨_,rfl⟩
    have hr:=HR.out.2
    have HF:=Lib.hid (show (if Go.Lib.compareInt (a.2.2.2.2.2.2.2.1.2.1) (b.2.2.2.2.2.2.2.1.2.1)=0 then firstC (ordL.drop 7) a b else Go.Lib.compareInt (a.2.2.2.2.2.2.2.1.2.1) (b.2.2.2.2.2.2.2.1.2.1))=ordF a b from hr)
    rw [hn] at HF
    clear hr
    have hcl:=clo193 HI.out 203 (fun x=>x.2.2.2.2.2.2.2.1.2.1) get203 (enters_of Tryz.func203 (by kernel_rfl) rfl) HOC.out.c8 HOC.out.c0 HOC.out.c1
    have HCL:=Lib.hid hcl
    clear hcl
    by_cases hz:n=0
    ·subst hz
     go_wp2_with (go_at_call 193;refine HCL.out.mono ?_;rintro e w' ⟨rfl,hw'⟩;(try dsimp only);rw [hn])
     refine ⟨⟨7,by omega,rfl,Lib.hid ⟨HR.out.1.trans hw',by have:=HF.out;rwa [if_pos rfl] at this⟩⟩,by simp [intOf]⟩
    ·go_wp2_with (go_at_call 193;refine HCL.out.mono ?_;rintro e w' ⟨rfl,hw'⟩;(try dsimp only);rw [hn])
     go_ret
     exact ⟨by have:=HF.out;rw [if_neg hz] at this;rw [this];rfl,((GW.oW_alloc a b w).trans HR.out.1).trans hw'⟩
   ·have k1:=HOC.out.c20
    obtain ⟨n,hn⟩: ∃ n,Go.Lib.compareInt (a.2.2.2.2.2.2.2.2.1) (b.2.2.2.2.2.2.2.2.1)=n:=⟨_,rfl⟩
    have hr:=HR.out.2
    have HF:=Lib.hid (show (if Go.Lib.compareInt (a.2.2.2.2.2.2.2.2.1) (b.2.2.2.2.2.2.2.2.1)=0 then firstC (ordL.drop 8) a b else Go.Lib.compareInt (a.2.2.2.2.2.2.2.2.1) (b.2.2.2.2.2.2.2.2.1))=ordF a b from hr)
    rw [hn] at HF
    clear hr
    have hcl:=clo193 HI.out 204 (fun x=>x.2.2.2.2.2.2.2.2.1) get204 (enters_of Tryz.func204 (by kernel_rfl) rfl) HOC.out.c9 HOC.out.c0 HOC.out.c1
    have HCL:=Lib.hid hcl
    clear hcl
    by_cases hz:n=0
    ·subst hz
     go_wp2_with (go_at_call 193;refine HCL.out.mono ?_;rintro e w' ⟨rfl,hw'⟩;(try dsimp only);rw [hn])
     refine ⟨⟨8,by omega,rfl,Lib.hid ⟨HR.out.1.trans hw',by have:=HF.out;rwa [if_pos rfl] at this⟩⟩,by simp [intOf]⟩
    ·go_wp2_with (go_at_call 193;refine HCL.out.mono ?_;rintro e w' ⟨rfl,hw'⟩;(try dsimp only);rw [hn])
     go_ret
     exact ⟨by have:=HF.out;rw [if_neg hz] at this;rw [this];rfl,((GW.oW_alloc a b w).trans HR.out.1).trans hw'⟩
   ·have k1:=HOC.out.c21
    obtain ⟨n,hn⟩: ∃ n,Go.Lib.compareBytes (a.2.2.2.2.2.2.2.2.2.1).data.toList (b.2.2.2.2.2.2.2.2.2.1).data.toList=n:=⟨_,rfl⟩
    have hr:=HR.out.2
    have HF:=Lib.hid (show (if Go.Lib.compareBytes (a.2.2.2.2.2.2.2.2.2.1).data.toList (b.2.2.2.2.2.2.2.2.2.1).data.toList=0 then firstC (ordL.drop 9) a b else Go.Lib.compareBytes (a.2.2.2.2.2.2.2.2.2.1).data.toList (b.2.2.2.2.2.2.2.2.2.1).data.toList)=ordF a b from hr)
    rw [hn] at HF
    clear hr
    have hcl:=clo195 HS.out 205 (fun x=>x.2.2.2.2.2.2.2.2.2.1) get205 (enters_of Tryz.func205 (by kernel_rfl) rfl) HOC.out.c10 HOC.out.c0 HOC.out.c1
    have HCL:=Lib.hid hcl
    clear hcl
    by_cases hz:n=0
    ·subst hz
     go_wp2_with (go_at_call 195;refine HCL.out.mono ?_;rintro e w' ⟨rfl,hw'⟩;(try dsimp only);rw [hn])
     refine ⟨⟨9,by omega,rfl,Lib.hid ⟨HR.out.1.trans hw',by have:=HF.out;rwa [if_pos rfl] at this⟩⟩,by simp [intOf]⟩
    ·go_wp2_with (go_at_call 195;refine HCL.out.mono ?_;rintro e w' ⟨rfl,hw'⟩;(try dsimp only);rw [hn])
     go_ret
     exact ⟨by have:=HF.out;rw [if_neg hz] at this;rw [this];rfl,((GW.oW_alloc a b w).trans HR.out.1).trans hw'⟩
   ·have k1:=HOC.out.c22
    obtain ⟨n,hn⟩: ∃ n,Go.Lib.compareInt (a.1) (b.1)=n:=⟨_,rfl⟩
    have hr:=HR.out.2
    have HF:=Lib.hid (show (if Go.Lib.compareInt (a.1) (b.1)=0 then firstC (ordL.drop 10) a b else Go.Lib.compareInt (a.1) (b.1))=ordF a b from hr)
    rw [hn] at HF
    clear hr
    have hcl:=clo193 HI.out 206 (fun x=>x.1) get206 (enters_of Tryz.func206 (by kernel_rfl) rfl) HOC.out.c11 HOC.out.c0 HOC.out.c1
    have HCL:=Lib.hid hcl
    clear hcl
    by_cases hz:n=0
    ·subst hz
     go_wp2_with (go_at_call 193;refine HCL.out.mono ?_;rintro e w' ⟨rfl,hw'⟩;(try dsimp only);rw [hn])
     refine ⟨⟨10,by omega,rfl,Lib.hid ⟨HR.out.1.trans hw',by have:=HF.out;rwa [if_pos rfl] at this⟩⟩,by simp [intOf]⟩
    ·go_wp2_with (go_at_call 193;refine HCL.out.mono ?_;rintro e w' ⟨rfl,hw'⟩;(try dsimp only);rw [hn])
     go_ret
     exact ⟨by have:=HF.out;rw [if_neg hz] at this;rw [this];rfl,((GW.oW_alloc a b w).trans HR.out.1).trans hw'⟩
   ·have k1:=HOC.out.c23
    obtain ⟨n,hn⟩: ∃ n,Go.Lib.compareInt (a.2.2.2.2.1) (b.2.2.2.2.1)=n:=⟨_,rfl⟩
    have hr:=HR.out.2
    have HF:=Lib.hid (show (if Go.Lib.compareInt (a.2.2.2.2.1) (b.2.2.2.2.1)=0 then firstC (ordL.drop 11) a b else Go.Lib.compareInt (a.2.2.2.2.1) (b.2.2.2.2.1))=ordF a b from hr)
    rw [hn] at HF
    clear hr
    have hcl:=clo193 HI.out 207 (fun x=>x.2.2.2.2.1) get207 (enters_of Tryz.func207 (by kernel_rfl) rfl) HOC.out.c12 HOC.out.c0 HOC.out.c1
    have HCL:=Lib.hid hcl
    clear hcl
    by_cases hz:n=0
    ·subst hz
     go_wp2_with (go_at_call 193;refine HCL.out.mono ?_;rintro e w' ⟨rfl,hw'⟩;(try dsimp only);rw [hn])
     refine ⟨⟨11,by omega,rfl,Lib.hid ⟨HR.out.1.trans hw',by have:=HF.out;rwa [if_pos rfl] at this⟩⟩,by simp [intOf]⟩
    ·go_wp2_with (go_at_call 193;refine HCL.out.mono ?_;rintro e w' ⟨rfl,hw'⟩;(try dsimp only);rw [hn])
     go_ret
     exact ⟨by have:=HF.out;rw [if_neg hz] at this;rw [this];rfl,((GW.oW_alloc a b w).trans HR.out.1).trans hw'⟩
  ·obtain rfl:i=11:=by omega
   clear h hi
   go_wp2_with fail
   go_ret
   exact ⟨by rw [←HR.out.2];rfl,(GW.oW_alloc a b w).trans HR.out.1⟩
theorem order_calls (a b:Finding)(w:World):Calls Tryz.prog 108 #[.agg (encF a).toArray,.agg (encF b).toArray] w fun e w'=>e= .returned (.int .i64 (ordF a b))/\GW w w':=
 order_calls' (fun x y w=>Any.cmp_Compare_int Tryz.lays122 x y w) (fun x y w=>Any.strings_Compare Tryz.lays106 x y w) a b w
end Go.Proofs.YtmokmalepelinaaGreatDoor.K
namespace Go.Proofs.YtmokmalepelinaaGreatDoor.K
open Go.RowKit Go.Region Go.Sort Go.Lib
attribute [local go_sem ↓] Go.wp_at_zero Go.wp_at_succ
set_option linter.unusedSectionVars false
instance decBA:DecidableEq ByteArray:=fun a b=>if h:a.data=b.data then isTrue (by cases a;cases b;exact congrArg ByteArray.mk h) else isFalse fun e=>h (e▸rfl)
instance decFd:DecidableEq Finding:= @instDecidableEqProd _ _ (inferInstance:DecidableEq Int) (@instDecidableEqProd _ _ decBA (@instDecidableEqProd _ _ (inferInstance:DecidableEq Int) (@instDecidableEqProd _ _ (inferInstance:DecidableEq Int) (@instDecidableEqProd _ _ (inferInstance:DecidableEq Int) (@instDecidableEqProd _ _ (inferInstance:DecidableEq Int) (@instDecidableEqProd _ _ decBA (@instDecidableEqProd _ _ (inferInstance:DecidableEq (Int×Int×Unit)) (@instDecidableEqProd _ _ (inferInstance:DecidableEq Int) (@instDecidableEqProd _ _ decBA (inferInstance:DecidableEq Unit))))))))))
theorem ba_ne {a b:ByteArray}(h:a≠b): ¬ a.toList=b.toList:=fun e=>h (by rw [Lib.toList_data,Lib.toList_data] at e;cases a;cases b;exact congrArg ByteArray.mk (Array.toList_inj.1 e))
instance inhFd:Inhabited Finding:=⟨Ty.zero tyFinding⟩
theorem encF_len (x:Finding):(encF x).length=11:=rfl
theorem encF_one (x:Finding): ∀ v∈encF x,v.oneCell'=true:=fun v hv=>by
 simp only [encF,List.mem_cons,List.not_mem_nil,or_false] at hv
 rcases hv with rfl|rfl|rfl|rfl|rfl|rfl|rfl|rfl|rfl|rfl|rfl<;>rfl
theorem zeroFd (w:World):(zeroValue 37).run Tryz.prog w= .ok (.agg #[.int .i64 0,.string ⟨#[]⟩,.int .i64 0,.int .i64 0,.int .i64 0,.int .i64 0,.string ⟨#[]⟩,.int .i64 0,.int .i64 0,.int .i64 0,.string ⟨#[]⟩]) w:=by
 have hi:(Tryz.prog.info? 37).map (fun i=>i.zero)=some (some (.agg #[.int .i64 0,.string ⟨#[]⟩,.int .i64 0,.int .i64 0,.int .i64 0,.int .i64 0,.string ⟨#[]⟩,.int .i64 0,.int .i64 0,.int .i64 0,.string ⟨#[]⟩])):=by kernel_rfl
 obtain ⟨i,hi,hz⟩:=Option.map_eq_some_iff.1 hi
 simp [zeroValue,typeInfo,hi,hz]
theorem cellF {w:World}{g:Nat}{d:Array Finding}(h:HoldsK encF 11 w g 0 d){i:Nat}(hi:i<d.size){x:Finding}(hx:d[i]! = x):w.cell? ⟨g,i*11,none⟩=some (.int .i64 x.1)/\w.cell? ⟨g,i*11+1,none⟩=some (.string x.2.1)/\w.cell? ⟨g,i*11+2,none⟩=some (.int .i64 x.2.2.1)/\w.cell? ⟨g,i*11+3,none⟩=some (.int .i64 x.2.2.2.1)/\w.cell? ⟨g,i*11+4,none⟩=some (.int .i64 x.2.2.2.2.1)/\w.cell? ⟨g,i*11+5,none⟩=some (.int .i64 x.2.2.2.2.2.1)/\w.cell? ⟨g,i*11+6,none⟩=some (.string x.2.2.2.2.2.2.1)/\w.cell? ⟨g,i*11+7,none⟩=some (.int .i64 x.2.2.2.2.2.2.2.1.1)/\w.cell? ⟨g,i*11+8,none⟩=some (.int .i64 x.2.2.2.2.2.2.2.1.2.1)/\w.cell? ⟨g,i*11+9,none⟩=some (.int .i64 x.2.2.2.2.2.2.2.2.1)/\w.cell? ⟨g,i*11+10,none⟩=some (.string x.2.2.2.2.2.2.2.2.2.1):=by
 subst hx
 have h0:=(h.cell (i:=i) (c:=0) hi (by omega)).1
 rw [Nat.zero_add] at h0
 have h1:=(h.cell (i:=i) (c:=1) hi (by omega)).1
 rw [Nat.zero_add] at h1
 have h2:=(h.cell (i:=i) (c:=2) hi (by omega)).1
 rw [Nat.zero_add] at h2
 have h3:=(h.cell (i:=i) (c:=3) hi (by omega)).1
 rw [Nat.zero_add] at h3
 have h4:=(h.cell (i:=i) (c:=4) hi (by omega)).1
 rw [Nat.zero_add] at h4
 have h5:=(h.cell (i:=i) (c:=5) hi (by omega)).1
 rw [Nat.zero_add] at h5
 have h6:=(h.cell (i:=i) (c:=6) hi (by omega)).1
 rw [Nat.zero_add] at h6
 have h7:=(h.cell (i:=i) (c:=7) hi (by omega)).1
 rw [Nat.zero_add] at h7
 have h8:=(h.cell (i:=i) (c:=8) hi (by omega)).1
 rw [Nat.zero_add] at h8
 have h9:=(h.cell (i:=i) (c:=9) hi (by omega)).1
 rw [Nat.zero_add] at h9
 have h10:=(h.cell (i:=i) (c:=10) hi (by omega)).1
 rw [Nat.zero_add] at h10
 exact ⟨h0,h1,h2,h3,h4,h5,h6,h7,h8,h9,h10⟩
set_option maxHeartbeats 4000000 in
theorem compactF_calls (g cap:Nat)(d:Array Finding)(w:World)(hH:HoldsK encF 11 w g 0 d)(hg:g<w.heap.size)(hsz:d.size<4611686018427387904)(hcap:d.size<=cap):
  Calls Tryz.prog 109 #[.slice (some ⟨g,0,none⟩) d.size cap] w fun e w'=>e= .returned (.slice (some ⟨g,0,none⟩) (compactUpTo d d.size).length cap)/\CpRow encF 11 w w' g (compactUpTo d d.size):=by
 have same:=cp_same encF_len hH
 have mixed:Tryz.prog.follows Departure.mixedOrders=true:=mixed
 have HS:=Lib.hid same
 clear same
 by_cases h2:d.size<2
 ·have HH:=Lib.hid hH
  clear hH
  have i1:((d.size:Nat):Int)<2:=by omega
  go_enter Tryz.func109,Tryz.ntmps109
  go_wp2_with fail
  go_ret
  obtain ⟨e1,e2⟩:=HS.out 0 (fun j hj=>keeps_lt_one d j (by omega))
  exact ⟨by rw [e1];rfl,e2⟩
 ·have i1: ¬ ((d.size:Nat):Int)<2:=by omega
  have HH:=Lib.hid hH
  clear hH
  go_enter Tryz.func109,Tryz.ntmps109
  go_wp2_with fail
  go_loopw [3] (fun s3 wr=> ∃ k q:Nat,1<=k/\k<=d.size/\s3= .int .i64 k/\wr=w.drewN q/\Hid (∀ j,j<k->Lib.keeps d j=true)) (fun iv _=>d.size-(intOf iv).toNat)
  case atStart=>exact ⟨1,0,Nat.le_refl _,by omega,rfl,rfl,Lib.hid (keeps_lt_one d)⟩
  case round=>
   obtain ⟨k,q,hk1,hk,rfl,rfl,hall⟩:=hrel
   by_cases hlt:k<d.size
   ·obtain ⟨kp,rfl⟩: ∃ kp,k=kp+1:=⟨k-1,by omega⟩
    obtain ⟨⟨x0,x1,x2,x3,x4,x5,x6,⟨x7,x8,xv⟩,x9,x10,xu⟩,hx⟩: ∃ x,d[kp+1]! = x:=⟨_,rfl⟩
    obtain ⟨⟨y0,y1,y2,y3,y4,y5,y6,⟨y7,y8,yv⟩,y9,y10,yu⟩,hy⟩: ∃ x,d[kp]! = x:=⟨_,rfl⟩
    obtain ⟨cc0,cc1,cc2,cc3,cc4,cc5,cc6,cc7,cc8,cc9,cc10⟩:=cellF HH.out hlt hx
    obtain ⟨dc0,dc1,dc2,dc3,dc4,dc5,dc6,dc7,dc8,dc9,dc10⟩:=cellF HH.out (Nat.lt_of_succ_lt hlt) hy
    have HXY:=Lib.hid (And.intro hx hy)
    clear hx hy
    have i2:((kp:Nat):Int)+1<((d.size:Nat):Int):=by omega
    have i3:((kp:Nat):Int)<((d.size:Nat):Int):=by omega
    have p0:(0:Int)<=(kp:Int)+1:=by omega
    have e0:((kp:Int)+1).toNat=kp+1:=by omega
    have hwp:IntKind.i64.wrap (kp:Int)=(kp:Int):=by rw [IntKind.wrap_i64];omega
    by_cases hdup:x0=y0/\x1=y1/\x2=y2/\x3=y3/\x4=y4/\x5=y5/\x6=y6/\x7=y7/\x8=y8/\x9=y9/\x10=y10
    ·obtain ⟨rfl,rfl,rfl,rfl,rfl,rfl,rfl,rfl,rfl,rfl,rfl⟩:=hdup
     go_wp2_with fail
     go_region_o
     go_wp2
     clear cc0 cc1 cc2 cc3 cc4 cc5 cc6 cc7 cc8 cc9 cc10 dc0 dc1 dc2 dc3 dc4 dc5 dc6 dc7 dc8 dc9 dc10
     go_loopw [3,5] (fun s3 s5 wr=> ∃ (kk k2 q2:Nat) (dk:Array Finding),s3= .int .i64 kk/\s5= .int .i64 ((k2+1:Nat):Int)/\kp+1+(k2+1)<=d.size/\Hid (wr=putRowK encF 11 (Sort.ahead w q2) g 0 dk/\CompInv d (kp+1+(k2+1)) kk dk)) (fun _ iv _=>d.size-(intOf iv).toNat)
     case atStart=>
      exact ⟨kp+1,0,q+1,d,by simp,rfl,by omega,Lib.hid ⟨(putRowK_self encF 11 (Sort.ahead w (q+1)) g 0 d (holdsK_ahead encF 11 w (q+1) g 0 d HH.out)).symm,CompInv.start hall.out (keeps_neg (by omega) (by rw [HXY.out.1];exact HXY.out.2.symm))⟩⟩
     case round=>
      obtain ⟨kk,k2,q2,dk,rfl,rfl,hle,HW⟩:=hrel
      have hkk:=HW.out.2.lt
      have hds:=HW.out.2.size
      have hHk:HoldsK encF 11 wr g 0 dk:=by
       rw [HW.out.1]
       exact holdsK_putRowK encF 11 _ g 0 d dk (holdsK_ahead encF 11 w q2 g 0 d HH.out) hds
      have HK:=Lib.hid hHk
      clear hHk
      by_cases hlt2:kp+1+(k2+1)<d.size
      ·obtain ⟨⟨u0,u1,u2,u3,u4,u5,u6,⟨u7,u8,uv⟩,u9,u10,uu⟩,hu⟩: ∃ x,d[kp+1+(k2+1)]! = x:=⟨_,rfl⟩
       obtain ⟨⟨v0,v1,v2,v3,v4,v5,v6,⟨v7,v8,vv⟩,v9,v10,vu⟩,hv⟩: ∃ x,d[kp+1+k2]! = x:=⟨_,rfl⟩
       obtain ⟨⟨o0,o1,o2,o3,o4,o5,o6,⟨o7,o8,ov⟩,o9,o10,ou⟩,ho⟩: ∃ x,dk[kk]! = x:=⟨_,rfl⟩
       obtain ⟨uc0,uc1,uc2,uc3,uc4,uc5,uc6,uc7,uc8,uc9,uc10⟩:=cellF HK.out (by omega) ((HW.out.2.high _ (by omega)).trans hu)
       obtain ⟨vc0,vc1,vc2,vc3,vc4,vc5,vc6,vc7,vc8,vc9,vc10⟩:=cellF HK.out (i:=kp+1+k2) (by omega) ((HW.out.2.high _ (by omega)).trans hv)
       obtain ⟨oc0,oc1,oc2,oc3,oc4,oc5,oc6,oc7,oc8,oc9,oc10⟩:=cellF HK.out (i:=kk) (by omega) ho
       have f0:=(HK.out.cell (i:=kk) (c:=0) (by omega) (by omega)).2
       have f1:=(HK.out.cell (i:=kk) (c:=1) (by omega) (by omega)).2
       have f2:=(HK.out.cell (i:=kk) (c:=2) (by omega) (by omega)).2
       have f3:=(HK.out.cell (i:=kk) (c:=3) (by omega) (by omega)).2
       have f4:=(HK.out.cell (i:=kk) (c:=4) (by omega) (by omega)).2
       have f5:=(HK.out.cell (i:=kk) (c:=5) (by omega) (by omega)).2
       have f6:=(HK.out.cell (i:=kk) (c:=6) (by omega) (by omega)).2
       have f7:=(HK.out.cell (i:=kk) (c:=7) (by omega) (by omega)).2
       have f8:=(HK.out.cell (i:=kk) (c:=8) (by omega) (by omega)).2
       have f9:=(HK.out.cell (i:=kk) (c:=9) (by omega) (by omega)).2
       have f10:=(HK.out.cell (i:=kk) (c:=10) (by omega) (by omega)).2
       rw [Nat.zero_add] at f0 f1 f2 f3 f4 f5 f6 f7 f8 f9 f10
       have f0:wr.frozen? ⟨g,kk*11,none⟩=false:=f0
       rw [Nat.add_mul (kp+1) (k2+1)] at uc0 uc1 uc2 uc3 uc4 uc5 uc6 uc7 uc8 uc9 uc10
       rw [Nat.add_mul (kp+1) k2] at vc0 vc1 vc2 vc3 vc4 vc5 vc6 vc7 vc8 vc9 vc10
       have HUV:=Lib.hid (And.intro hu hv)
       clear hu hv ho
       have j1:((k2:Nat):Int)+1<((d.size-(kp+1):Nat):Int):=by omega
       have j2:((k2:Nat):Int)<((d.size-(kp+1):Nat):Int):=by omega
       have j3:(0:Int)<=(k2:Int)+1:=by omega
       have j4:((k2:Int)+1).toNat=k2+1:=by omega
       have j5:IntKind.i64.wrap (k2:Int)=(k2:Int):=by rw [IntKind.wrap_i64];omega
       have j6:((kk:Nat):Int)<((d.size:Nat):Int):=by omega
       by_cases huv:u0=v0/\u1=v1/\u2=v2/\u3=v3/\u4=v4/\u5=v5/\u6=v6/\u7=v7/\u8=v8/\u9=v9/\u10=v10
       ·obtain ⟨rfl,rfl,rfl,rfl,rfl,rfl,rfl,rfl,rfl,rfl,rfl⟩:=huv
        go_wp2_with fail
        go_region_o
        go_wp2
        refine ⟨⟨kk,k2+1,q2+1,dk,rfl,by simp,by omega,Lib.hid ⟨by rw [HW.out.1];rfl,HW.out.2.skip (keeps_neg (by omega) ?_)⟩⟩, ?_⟩
        ·rw [HUV.out.1]
         exact HUV.out.2.symm
        ·simp [intOf]
         omega
       ·have hkeep:Lib.keeps d (kp+1+(k2+1))=true:=keeps_pos (by
         rw [HUV.out.1,show d[kp+1+(k2+1)-1]! = _ from HUV.out.2]
         intro e
         exact huv ⟨congrArg (fun x:Finding=>x.1) e,congrArg (fun x:Finding=>x.2.1) e,congrArg (fun x:Finding=>x.2.2.1) e,congrArg (fun x:Finding=>x.2.2.2.1) e,congrArg (fun x:Finding=>x.2.2.2.2.1) e,congrArg (fun x:Finding=>x.2.2.2.2.2.1) e,congrArg (fun x:Finding=>x.2.2.2.2.2.2.1) e,congrArg (fun x:Finding=>x.2.2.2.2.2.2.2.1.1) e,congrArg (fun x:Finding=>x.2.2.2.2.2.2.2.1.2.1) e,congrArg (fun x:Finding=>x.2.2.2.2.2.2.2.2.1) e,congrArg (fun x:Finding=>x.2.2.2.2.2.2.2.2.2.1) e⟩)
        have HKP:=Lib.hid hkeep
        clear hkeep
        have hor:u0≠v0∨(u0=v0/\(u1≠v1∨(u1=v1/\(u2≠v2∨(u2=v2/\(u3≠v3∨(u3=v3/\(u4≠v4∨(u4=v4/\(u5≠v5∨(u5=v5/\(u6≠v6∨(u6=v6/\(u7≠v7∨(u7=v7/\(u8≠v8∨(u8=v8/\(u9≠v9∨(u9=v9/\(u10≠v10)))))))))))))))))))):=by
         by_cases q0:u0=v0
         rotate_left
         ·exact .inl q0
         refine .inr ⟨q0, ?_⟩
         by_cases q1:u1=v1
         rotate_left
         ·exact .inl q1
         refine .inr ⟨q1, ?_⟩
         by_cases q2:u2=v2
         rotate_left
         ·exact .inl q2
         refine .inr ⟨q2, ?_⟩
         by_cases q3:u3=v3
         rotate_left
         ·exact .inl q3
         refine .inr ⟨q3, ?_⟩
         by_cases q4:u4=v4
         rotate_left
         ·exact .inl q4
         refine .inr ⟨q4, ?_⟩
         by_cases q5:u5=v5
         rotate_left
         ·exact .inl q5
         refine .inr ⟨q5, ?_⟩
         by_cases q6:u6=v6
         rotate_left
         ·exact .inl q6
         refine .inr ⟨q6, ?_⟩
         by_cases q7:u7=v7
         rotate_left
         ·exact .inl q7
         refine .inr ⟨q7, ?_⟩
         by_cases q8:u8=v8
         rotate_left
         ·exact .inl q8
         refine .inr ⟨q8, ?_⟩
         by_cases q9:u9=v9
         rotate_left
         ·exact .inl q9
         refine .inr ⟨q9, ?_⟩
         exact fun q10=>huv ⟨q0,q1,q2,q3,q4,q5,q6,q7,q8,q9,q10⟩
        clear huv
        rcases hor with hn|⟨rfl,hn|⟨rfl,hn|⟨rfl,hn|⟨rfl,hn|⟨rfl,hn|⟨rfl,hn|⟨rfl,hn|⟨rfl,hn|⟨rfl,hn|⟨rfl,hn⟩⟩⟩⟩⟩⟩⟩⟩⟩⟩
        all_goals
         (try replace hn:=ba_ne hn)
         go_wp2_with fail
         go_region_o
         go_wp2
         refine ⟨⟨kk+1,k2+1,q2+1,dk.setIfInBounds kk (u0,u1,u2,u3,u4,u5,u6,(u7,u8,uv),u9,u10,uu),by simp,by simp,by omega,Lib.hid ⟨put_one encF_len (by omega) HW.out.1 (u0,u1,u2,u3,u4,u5,u6,(u7,u8,uv),u9,u10,uu),by have:=HW.out.2.keep hlt2 HKP.out;rwa [HUV.out.1] at this⟩⟩, ?_⟩
         simp [intOf]
         omega
      ·have hend:kp+1+(k2+1)=d.size:=by omega
       have j1: ¬ ((k2:Nat):Int)+1<((d.size-(kp+1):Nat):Int):=by omega
       have hcl: ∀ ty,(Builtin.clear_ #[60] ty #[.slice (some ⟨g,kk*11,none⟩) (d.size-kk) (cap-kk)]).run Tryz.prog wr= .ok (.tuple #[]) (wr.setCells g (kk*11) (Builtin.zeroCells #[.int .i64 0,.string ⟨#[]⟩,.int .i64 0,.int .i64 0,.int .i64 0,.int .i64 0,.string ⟨#[]⟩,.int .i64 0,.int .i64 0,.int .i64 0,.string ⟨#[]⟩] (d.size-kk)).toList):=fun ty=>by
        refine run_clearK wr _ 37 ty (.agg #[.int .i64 0,.string ⟨#[]⟩,.int .i64 0,.int .i64 0,.int .i64 0,.int .i64 0,.string ⟨#[]⟩,.int .i64 0,.int .i64 0,.int .i64 0,.string ⟨#[]⟩]) (by kernel_rfl) zeroFd g (kk*11) (d.size-kk) (cap-kk) ((d.size-kk)*11) ?_ ?_ (by omega) (fun j hj=> ?_) (fun j hj=> ?_)
        ·simp [Builtin.zeroCells,Value.cells]
        ·intro v hv
         simp only [Builtin.zeroCells,Value.cells,Array.toList_map,List.mem_map] at hv
         obtain ⟨i,_,rfl⟩:=hv
         have hm:i % (#[Value.int .i64 0,Value.string ⟨#[]⟩,Value.int .i64 0,Value.int .i64 0,Value.int .i64 0,Value.int .i64 0,Value.string ⟨#[]⟩,Value.int .i64 0,Value.int .i64 0,Value.int .i64 0,Value.string ⟨#[]⟩]:Array Value).size=0∨i % (#[Value.int .i64 0,Value.string ⟨#[]⟩,Value.int .i64 0,Value.int .i64 0,Value.int .i64 0,Value.int .i64 0,Value.string ⟨#[]⟩,Value.int .i64 0,Value.int .i64 0,Value.int .i64 0,Value.string ⟨#[]⟩]:Array Value).size=1∨i % (#[Value.int .i64 0,Value.string ⟨#[]⟩,Value.int .i64 0,Value.int .i64 0,Value.int .i64 0,Value.int .i64 0,Value.string ⟨#[]⟩,Value.int .i64 0,Value.int .i64 0,Value.int .i64 0,Value.string ⟨#[]⟩]:Array Value).size=2∨i % (#[Value.int .i64 0,Value.string ⟨#[]⟩,Value.int .i64 0,Value.int .i64 0,Value.int .i64 0,Value.int .i64 0,Value.string ⟨#[]⟩,Value.int .i64 0,Value.int .i64 0,Value.int .i64 0,Value.string ⟨#[]⟩]:Array Value).size=3∨i % (#[Value.int .i64 0,Value.string ⟨#[]⟩,Value.int .i64 0,Value.int .i64 0,Value.int .i64 0,Value.int .i64 0,Value.string ⟨#[]⟩,Value.int .i64 0,Value.int .i64 0,Value.int .i64 0,Value.string ⟨#[]⟩]:Array Value).size=4∨i % (#[Value.int .i64 0,Value.string ⟨#[]⟩,Value.int .i64 0,Value.int .i64 0,Value.int .i64 0,Value.int .i64 0,Value.string ⟨#[]⟩,Value.int .i64 0,Value.int .i64 0,Value.int .i64 0,Value.string ⟨#[]⟩]:Array Value).size=5∨i % (#[Value.int .i64 0,Value.string ⟨#[]⟩,Value.int .i64 0,Value.int .i64 0,Value.int .i64 0,Value.int .i64 0,Value.string ⟨#[]⟩,Value.int .i64 0,Value.int .i64 0,Value.int .i64 0,Value.string ⟨#[]⟩]:Array Value).size=6∨i % (#[Value.int .i64 0,Value.string ⟨#[]⟩,Value.int .i64 0,Value.int .i64 0,Value.int .i64 0,Value.int .i64 0,Value.string ⟨#[]⟩,Value.int .i64 0,Value.int .i64 0,Value.int .i64 0,Value.string ⟨#[]⟩]:Array Value).size=7∨i % (#[Value.int .i64 0,Value.string ⟨#[]⟩,Value.int .i64 0,Value.int .i64 0,Value.int .i64 0,Value.int .i64 0,Value.string ⟨#[]⟩,Value.int .i64 0,Value.int .i64 0,Value.int .i64 0,Value.string ⟨#[]⟩]:Array Value).size=8∨i % (#[Value.int .i64 0,Value.string ⟨#[]⟩,Value.int .i64 0,Value.int .i64 0,Value.int .i64 0,Value.int .i64 0,Value.string ⟨#[]⟩,Value.int .i64 0,Value.int .i64 0,Value.int .i64 0,Value.string ⟨#[]⟩]:Array Value).size=9∨i % (#[Value.int .i64 0,Value.string ⟨#[]⟩,Value.int .i64 0,Value.int .i64 0,Value.int .i64 0,Value.int .i64 0,Value.string ⟨#[]⟩,Value.int .i64 0,Value.int .i64 0,Value.int .i64 0,Value.string ⟨#[]⟩]:Array Value).size=10:=by
          have:i % 11<11:=Nat.mod_lt _ (by omega)
          show i % 11=0∨i % 11=1∨i % 11=2∨i % 11=3∨i % 11=4∨i % 11=5∨i % 11=6∨i % 11=7∨i % 11=8∨i % 11=9∨i % 11=10
          omega
         rcases hm with h|h|h|h|h|h|h|h|h|h|h
         all_goals
          rw [h]
          rfl
        ·have hj2:kk+j / 11<dk.size:=by omega
         have:=(HK.out.cell (i:=kk+j / 11) (c:=j % 11) hj2 (Nat.mod_lt _ (by omega))).1
         rw [show 0+(kk+j / 11)*11+j % 11=kk*11+j by omega] at this
         rw [this]
         rfl
        ·have hj2:kk+j / 11<dk.size:=by omega
         have:=(HK.out.cell (i:=kk+j / 11) (c:=j % 11) hj2 (Nat.mod_lt _ (by omega))).2
         rw [show 0+(kk+j / 11)*11+j % 11=kk*11+j by omega] at this
         exact this
       have j6:((kk:Nat):Int)<=((d.size:Nat):Int):=by omega
       go_wp2_with fail
       go_ret
       have hI:=HW.out.2
       rw [hend] at hI
       exact ⟨by rw [hI.len];rfl,cp_end encF_len HH.out HW.out.1 hI _⟩
    ·have hkeep:Lib.keeps d (kp+1)=true:=keeps_pos (by
      rw [HXY.out.1,show d[kp+1-1]! = _ from HXY.out.2]
      intro e
      exact hdup ⟨congrArg (fun x:Finding=>x.1) e,congrArg (fun x:Finding=>x.2.1) e,congrArg (fun x:Finding=>x.2.2.1) e,congrArg (fun x:Finding=>x.2.2.2.1) e,congrArg (fun x:Finding=>x.2.2.2.2.1) e,congrArg (fun x:Finding=>x.2.2.2.2.2.1) e,congrArg (fun x:Finding=>x.2.2.2.2.2.2.1) e,congrArg (fun x:Finding=>x.2.2.2.2.2.2.2.1.1) e,congrArg (fun x:Finding=>x.2.2.2.2.2.2.2.1.2.1) e,congrArg (fun x:Finding=>x.2.2.2.2.2.2.2.2.1) e,congrArg (fun x:Finding=>x.2.2.2.2.2.2.2.2.2.1) e⟩)
     have HKP:=Lib.hid hkeep
     clear hkeep
     have hor:x0≠y0∨(x0=y0/\(x1≠y1∨(x1=y1/\(x2≠y2∨(x2=y2/\(x3≠y3∨(x3=y3/\(x4≠y4∨(x4=y4/\(x5≠y5∨(x5=y5/\(x6≠y6∨(x6=y6/\(x7≠y7∨(x7=y7/\(x8≠y8∨(x8=y8/\(x9≠y9∨(x9=y9/\(x10≠y10)))))))))))))))))))):=by
      by_cases q0:x0=y0
      rotate_left
      ·exact .inl q0
      refine .inr ⟨q0, ?_⟩
      by_cases q1:x1=y1
      rotate_left
      ·exact .inl q1
      refine .inr ⟨q1, ?_⟩
      by_cases q2:x2=y2
      rotate_left
      ·exact .inl q2
      refine .inr ⟨q2, ?_⟩
      by_cases q3:x3=y3
      rotate_left
      ·exact .inl q3
      refine .inr ⟨q3, ?_⟩
      by_cases q4:x4=y4
      rotate_left
      ·exact .inl q4
      refine .inr ⟨q4, ?_⟩
      by_cases q5:x5=y5
      rotate_left
      ·exact .inl q5
      refine .inr ⟨q5, ?_⟩
      by_cases q6:x6=y6
      rotate_left
      ·exact .inl q6
      refine .inr ⟨q6, ?_⟩
      by_cases q7:x7=y7
      rotate_left
      ·exact .inl q7
      refine .inr ⟨q7, ?_⟩
      by_cases q8:x8=y8
      rotate_left
      ·exact .inl q8
      refine .inr ⟨q8, ?_⟩
      by_cases q9:x9=y9
      rotate_left
      ·exact .inl q9
      refine .inr ⟨q9, ?_⟩
      exact fun q10=>hdup ⟨q0,q1,q2,q3,q4,q5,q6,q7,q8,q9,q10⟩
     clear hdup
     rcases hor with hn|⟨rfl,hn|⟨rfl,hn|⟨rfl,hn|⟨rfl,hn|⟨rfl,hn|⟨rfl,hn|⟨rfl,hn|⟨rfl,hn|⟨rfl,hn|⟨rfl,hn⟩⟩⟩⟩⟩⟩⟩⟩⟩⟩
     all_goals
      (try replace hn:=ba_ne hn)
      go_wp2_with fail
      go_region_o
      go_wp2
      refine ⟨⟨kp+2,q+1,by omega,by omega,by simp;omega,rfl,Lib.hid fun j hj=> ?_⟩, ?_⟩
      ·by_cases e:j=kp+1
       ·subst e
        exact HKP.out
       ·exact hall.out j (by omega)
      ·simp [intOf]
       omega
   ·obtain rfl:k=d.size:=by omega
    have i2: ¬ ((d.size:Nat):Int)<((d.size:Nat):Int):=by omega
    go_wp2_with fail
    go_ret
    obtain ⟨e1,e2⟩:=HS.out q hall.out
    exact ⟨by rw [e1];rfl,e2⟩
end Go.Proofs.YtmokmalepelinaaGreatDoor.K
namespace Go.Proofs
open Go.Shelf
def Tryz.sortFd_ren:Go.Shelf.Ren:=⟨fun|6=>107|15=>94|14=>191|28=>174|29=>175|20=>253|21=>254|22=>255|23=>256|24=>257|25=>258|26=>259|27=>260|46=>292|47=>246|48=>247|49=>293|50=>294|57=>314|n=>n,fun|22=>60|24=>37|25=>197|3=>3|39=>179|0=>0|53=>264|55=>266|4=>4|46=>257|45=>256|50=>261|5=>5|9=>9|66=>328|70=>215|76=>361|77=>362|n=>n,fun|n=>n⟩
theorem Tryz.sortFd:Go.Proofs.SlLaysF0.n6 Tryz.prog Tryz.sortFd_ren:={
 mixed:=by kernel_rfl
 f6:=⟨Tryz.f107.name,by decide,Tryz.func107.trans (congrArg some (by kernel_rfl))⟩
 f14:=⟨Tryz.f191.name,by decide,Tryz.func191.trans (congrArg some (by kernel_rfl))⟩
 f15:=Tryz.func94.trans (congrArg some (by kernel_rfl))
 f20:=⟨Tryz.f253.name,by decide,Tryz.func253.trans (congrArg some (by kernel_rfl))⟩
 f21:=⟨Tryz.f254.name,by decide,Tryz.func254.trans (congrArg some (by kernel_rfl))⟩
 f22:=⟨Tryz.f255.name,by decide,Tryz.func255.trans (congrArg some (by kernel_rfl))⟩
 f23:=⟨Tryz.f256.name,by decide,Tryz.func256.trans (congrArg some (by kernel_rfl))⟩
 f24:=⟨Tryz.f257.name,by decide,Tryz.func257.trans (congrArg some (by kernel_rfl))⟩
 f25:=⟨Tryz.f258.name,by decide,Tryz.func258.trans (congrArg some (by kernel_rfl))⟩
 f26:=⟨Tryz.f259.name,by decide,Tryz.func259.trans (congrArg some (by kernel_rfl))⟩
 f27:=⟨Tryz.f260.name,by decide,Tryz.func260.trans (congrArg some (by kernel_rfl))⟩
 f28:=Tryz.func174.trans (congrArg some (by kernel_rfl))
 f29:=Tryz.func175.trans (congrArg some (by kernel_rfl))
 f46:=⟨Tryz.f292.name,by decide,Tryz.func292.trans (congrArg some (by kernel_rfl))⟩
 f47:=Tryz.func246.trans (congrArg some (by kernel_rfl))
 f48:=Tryz.func247.trans (congrArg some (by kernel_rfl))
 f49:=⟨Tryz.f293.name,by decide,Tryz.func293.trans (congrArg some (by kernel_rfl))⟩
 f50:=⟨Tryz.f294.name,by decide,Tryz.func294.trans (congrArg some (by kernel_rfl))⟩
 f57:=⟨Tryz.f314.name,by decide,Tryz.func314.trans (congrArg some (by kernel_rfl))⟩
 t0:=Tryz.underlying0
 a0:=Tryz.isAgg0
 z0:=Tryz.sizeOf0
 v0:=Tryz.zeroValue0
 t3:=Tryz.underlying3
 a3:=Tryz.isAgg3
 z3:=Tryz.sizeOf3
 v3:=Tryz.zeroValue3
 t4:=Tryz.underlying4
 a4:=Tryz.isAgg4
 z4:=Tryz.sizeOf4
 v4:=Tryz.zeroValue4
 t5:=Tryz.underlying5
 a5:=Tryz.isAgg5
 z5:=Tryz.sizeOf5
 v5:=Tryz.zeroValue5
 t9:=Tryz.underlying9
 a9:=Tryz.isAgg9
 z9:=Tryz.sizeOf9
 v9:=Tryz.zeroValue9
 t22:=Tryz.underlying60
 a22:=Tryz.isAgg60
 z22:=Tryz.sizeOf60
 v22:=Tryz.zeroValue60
 t25:=Tryz.underlying197
 a25:=Tryz.isAgg197
 z25:=Tryz.sizeOf197
 v25:=Tryz.zeroValue197
 t39:=Tryz.underlying179
 a39:=Tryz.isAgg179
 z39:=Tryz.sizeOf179
 v39:=Tryz.zeroValue179
 t45:=Tryz.underlying256
 a45:=Tryz.isAgg256
 z45:=Tryz.sizeOf256
 v45:=Tryz.zeroValue256
 t46:=Tryz.underlying257
 a46:=Tryz.isAgg257
 z46:=Tryz.sizeOf257
 v46:=Tryz.zeroValue257
 t50:=Tryz.underlying261
 a50:=Tryz.isAgg261
 z50:=Tryz.sizeOf261
 v50:=Tryz.zeroValue261
 t53:=Tryz.underlying264
 a53:=Tryz.isAgg264
 z53:=Tryz.sizeOf264
 v53:=Tryz.zeroValue264
 t55:=Tryz.underlying266
 a55:=Tryz.isAgg266
 z55:=Tryz.sizeOf266
 v55:=Tryz.zeroValue266
 t66:=Tryz.underlying328
 a66:=Tryz.isAgg328
 z66:=Tryz.sizeOf328
 v66:=Tryz.zeroValue328
 t70:=Tryz.underlying215
 a70:=Tryz.isAgg215
 z70:=Tryz.sizeOf215
 v70:=Tryz.zeroValue215
 t76:=Tryz.underlying361
 a76:=Tryz.isAgg361
 z76:=Tryz.sizeOf361
 v76:=Tryz.zeroValue361
 t77:=Tryz.underlying362
 a77:=Tryz.isAgg362
 z77:=Tryz.sizeOf362
 v77:=Tryz.zeroValue362}
end Go.Proofs
namespace Go.Proofs.YtmokmalepelinaaGreatDoor.K
open Go.RowKit Go.Region Go.Sort Go.Lib Go.Shelf
set_option linter.unusedSectionVars false
theorem encYF:EncY tyFinding encF:=⟨fun _=>rfl,encF_one,fun _=>rfl⟩
theorem LC.first {α:Type}: ∀ {l:List (α->α->Int)},(∀ c∈l,LC c)->LC (firstC l)
 | [],_=>⟨fun _ _=>Iff.rfl,fun _ _ _ h _=>h⟩
 |c::l,h=>(h c List.mem_cons_self).lex (LC.first fun d hd=>h d (List.mem_cons_of_mem _ hd))
theorem first_zero {α:Type}: ∀ {l:List (α->α->Int)} {x y:α},firstC l x y=0→ ∀ c∈l,c x y=0
 | [],_,_,_,c,hc=>by cases hc
 |d::l,x,y,h,c,hc=>by
  have h:(if d x y=0 then firstC l x y else d x y)=0:=h
  by_cases e:d x y=0
  ·rw [if_pos e] at h
   rcases List.mem_cons.1 hc with rfl|hc
   ·exact e
   ·exact first_zero h c hc
  ·rw [if_neg e] at h
   exact absurd h e
theorem ord_lc:LC ordF:=LC.first fun c hc=>by
 simp only [ordL,List.mem_cons,List.not_mem_nil,or_false] at hc
 rcases hc with rfl|rfl|rfl|rfl|rfl|rfl|rfl|rfl|rfl|rfl|rfl
 all_goals first
  |exact LC.int.key _
  |exact LC.bytes.key _
theorem int_zero {x y:Int}(h:Go.Lib.compareInt x y=0):x=y:=by
 unfold compareInt at h
 split at h
 ·omega
 ·split at h<;>omega
theorem str_zero {x y:ByteArray}(h:Go.Lib.compareBytes x.data.toList y.data.toList=0):x=y:=by
 have:=bytes_zero _ _ h
 cases x
 cases y
 congr 1
 exact Array.toList_inj.1 this
theorem ord_zero (x y:Finding)(h:ordF x y=0):x=y:=by
 have hz:=first_zero h
 have k0:=str_zero (hz _ (List.mem_cons_self (l:=_)))
 simp only [ordL,List.forall_mem_cons] at hz
 obtain ⟨h0,h1,h2,h3,h4,h5,h6,h7,h8,h9,h10,_⟩:=hz
 have e0:=str_zero h0
 have e1:=int_zero h1
 have e2:=int_zero h2
 have e3:=str_zero h3
 have e4:=int_zero h4
 have e5:=int_zero h5
 have e6:=int_zero h6
 have e7:=int_zero h7
 have e8:=str_zero h8
 have e9:=int_zero h9
 have e10:=int_zero h10
 clear h0 h1 h2 h3 h4 h5 h6 h7 h8 h9 h10 k0 h
 obtain ⟨x0,x1,x2,x3,x4,x5,x6,⟨x7,x8,xv⟩,x9,x10,xu⟩:=x
 obtain ⟨y0,y1,y2,y3,y4,y5,y6,⟨y7,y8,yv⟩,y9,y10,yu⟩:=y
 simp only at e0 e1 e2 e3 e4 e5 e6 e7 e8 e9 e10
 subst e0 e1 e2 e3 e4 e5 e6 e7 e8 e9 e10
 rfl
def okFd (_f:Finding):Bool:=true
abbrev FindS:Type:={x:Finding // okFd x=true}
instance:Inhabited FindS:=⟨⟨Ty.zero tyFinding,rfl⟩⟩
def ordS (a b:FindS):Int:=ordF a.1 b.1
theorem swoF:SWO (ltOf ordS):=(ord_lc.key (Subtype.val:FindS->Finding)).swo
theorem totF (x y:FindS)(h1:ltOf ordS x y=false)(h2:ltOf ordS y x=false):x=y:=
 Subtype.ext (ord_zero _ _ (ord_lc.none h1 h2))
attribute [local go_sem ↓] Go.wp_at_zero Go.wp_at_succ
set_option maxHeartbeats 1000000 in
theorem compactF_none (p:Option Addr)(cap:Nat)(w:World):Calls Tryz.prog 109 #[.slice p 0 cap] w fun e w'=>e= .returned (.slice p 0 cap)/\w'=w:=by
 go_enter Tryz.func109,Tryz.ntmps109
 go_wp2_with fail
 go_ret
 exact ⟨rfl,rfl⟩
def srtFd (l:List Finding):List Finding:=srtF ordF l
def srtFdOk (l:List Finding):Bool:=srtOk okFd l
def sp_f107c108:Ent:=specB [.ms 50000,.cf 108] [.arr 37 tyFinding] (fun x y=>(srtFdOk y.1)) (fun x y=>(.tu [])) (fun x y=>[.arr 37 tyFinding (srtFd y.1)])
theorem en_f107c108:Entered Tryz.prog 107:= .inr ⟨by decide,_,Tryz.func107,by kernel_rfl,by kernel_rfl⟩
def sp_f109:Ent:=specS [.ms 50000] [.arr 37 tyFinding] (fun _ y=>(lenOk y.1)) (fun _ y=> .t (.sl tyFinding) (Lib.compact y.1)) (fun _ _=>[.no])
theorem en_f109:Entered Tryz.prog 109:= .inr ⟨by decide,_,Tryz.func109,by kernel_rfl,by kernel_rfl⟩
theorem isAggF (w:World):(isAgg 37).run Tryz.prog w= .ok true w:=by kernel_rfl
theorem sizeF (w:World):(Go.sizeOf 37).run Tryz.prog w= .ok 11 w:=by kernel_rfl
theorem ms_f107c108:Meets Tryz.prog 107 (strip sp_f107c108):=
 meets_B<|meets_sortK (f:=107) (e:=37) (y:=tyFinding) (enc:=encF) (ok:=okFd) (cf:=ordF) (k:=11) (by decide) encYF rfl
  (fun blk cap d w hH hb hsz=>AnyQ.slices_SortFunc_total Tryz.sortFd 11 isAggF sizeF (fun x:FindS=>encF x.1) (fun _=>rfl) (fun x=>encF_one x.1) ordS swoF 108 #[] blk 0 cap d w (enters_of Tryz.func108 (by kernel_rfl) rfl) (fun m os dk _ x y=>order_calls x.1 y.1 _) hH hb hsz totF)
  (fun p cap w=>AnyF.slices_SortFunc_none Tryz.sortFd p cap _ w)
theorem ms_f109:Meets Tryz.prog 109 (strip sp_f109):=
 meets_compactK (e:=37) (y:=tyFinding) (enc:=encF) (k:=11) (by decide) encYF rfl compactF_calls compactF_none
def nrmFd (l:List Finding):List Finding×Int:=bif !(l.all fdGood) then ([],24) else bif igt (llen (nrmC ordF l)) 400 then ([],3) else (nrmC ordF l,0)
def nrmOk (l:List Finding):Bool:=decide (l.length<=100000)&&l.all fdOk
def fg_f53_0:Fg:=⟨[(0,some (.sl tyFinding)),(8,some (.sl tyFinding)),(9,some tI),(10,some tI)],[]⟩
noncomputable def tb_f53_0:TC:=(.sq (.reg (rT Tryz.f53 2)) (.sq (.cd (.t 11) .sk (.fg ⟨[(0,some (.sl tyFinding))],[]⟩ (.ex 0))) (.sq (.bk 1 (.sq (.reg (rT Tryz.f53 3)) (.sq (.reg (rT Tryz.f53 4)) (.sq (.reg (rT Tryz.f53 5)) (.cd (.t 17) (.sq (.reg (rT Tryz.f53 6)) (.fg ⟨[(2,none),(3,some tI)],[(21,none),(5021,none),(10021,none),(15021,none)]⟩ .rt)) .sk))))) (.reg (rT Tryz.f53 7)))))
noncomputable def tc_f53:TC:=(.sq (.reg (rT Tryz.f53 0)) (.sq (.sq (.reg (rT Tryz.f53 1)) (.bk 0 (.lp 0 fg_f53_0 tb_f53_0))) (.sq (.reg (rT Tryz.f53 8)) (.sq (.reg (rT Tryz.f53 9)) (.sq (.reg (rT Tryz.f53 10)) (.sq (.sq (.reg (rT Tryz.f53 11)) (.cd (.t 28) (.sq (.reg (rT Tryz.f53 12)) .rt) .sk)) (.sq (.reg (rT Tryz.f53 13)) .rt)))))))
def rv_f53:List (RV×Option Ty):=[((.t 2),some (.sl tyFinding)),((.t 3),some tI)]
abbrev sh_f53_0:Sh:=⟨[(0,.ty (.sl tyFinding)),(8,.ty (.sl tyFinding)),(9,.ty tI),(10,.ty tI)],[]⟩
def st_f53_0 (x0 x8:List Finding)(x9 x10:Int):VS:=sh_f53_0.st (x0,x8,x9,x10,()) ()
abbrev sh_f53_0_ret:Sh:=⟨[(2,.nl),(3,.ty tI)],[(21,.no),(5021,.no),(10021,.no),(15021,.no)]⟩
def st_f53_0_ret (x3:Int):VS:=sh_f53_0_ret.st ((),x3,()) ((),(),(),(),())
abbrev sh_f53_0_e0:Sh:=⟨[(0,.ty (.sl tyFinding))],[]⟩
def st_f53_0_e0 (x0:List Finding):VS:=sh_f53_0_e0.st (x0,()) ()
def L_f53_0:VS->Option (Bool×List (Bool×Exit×VS)):=mkL sh_f53_0 (fun x y=>(rngOk x.2.1 x.2.2.1 x.2.2.2.1&&x.2.1.all fdOk)) (fun x y=>[((!((x.2.1.drop x.2.2.2.1.toNat).all fdGood)),.ret,st_f53_0_ret (24)),(true,.exit 0,st_f53_0_e0 (x.1))])
def g_f53:G:=⟨TYs,[],30,EL [(105,sp_f105),(106,sp_f106),(107,sp_f107c108),(109,sp_f109)],keeps,(Ls [L_f53_0]),IL [],RL []⟩
def b_f53_0 (x0 x8:List Finding)(x9 x10:Int):Option (Exit×VS):=
 let a1:=lgt tyFinding x8 (Int.toNat x10)
 br (ilt x10 x9) (br (cIx x8 x10) (br (fdOk a1) (br (ine (fdChk a1) 0) (some (.ret,st_f53_0_ret (fdChk a1))) (some (.normal,st_f53_0 x0 x8 x9 (iadd .i64 x10 1)))) none) none) (some (.exit 0,st_f53_0_e0 x0))
noncomputable def lp_f53_0 (x0 x8:List Finding)(x9 x10:Int):Option (Exit×VS):=loopF (roundF g_f53 fg_f53_0 tb_f53_0) (st_f53_0 x0 x8 x9 x10)
noncomputable def n_f53_0 (x0 x8:List Finding)(x9 x10:Int):Option (Exit×VS):=
 let a1:=lgt tyFinding x8 (Int.toNat x10)
 br (ilt x10 x9) (br (cIx x8 x10) (br (fdOk a1) (br (ine (fdChk a1) 0) (some (.ret,st_f53_0_ret (fdChk a1))) (lp_f53_0 x0 x8 x9 (iadd .i64 x10 1))) none) none) (some (.exit 0,st_f53_0_e0 x0))
def la_f53_0 (x0 x8:List Finding)(x9 x10:Int):Option (Exit×VS):=br (!((x8.drop x10.toNat).all fdGood)) (some (.ret,st_f53_0_ret (24)))<|some (.exit 0,st_f53_0_e0 (x0))
theorem be_f53_0 (x0 x8:List Finding)(x9 x10:Int):roundF g_f53 fg_f53_0 tb_f53_0 (st_f53_0 x0 x8 x9 x10)=b_f53_0 x0 x8 x9 x10:=by kernel_rfl
theorem ln_f53_0 (x0 x8:List Finding)(x9 x10:Int):lp_f53_0 x0 x8 x9 x10=n_f53_0 x0 x8 x9 x10:=(loopF_nxt _ _).trans (by
 rw [be_f53_0]
 simp only [b_f53_0,n_f53_0,nxt_br,nxt_n,nxt_r,nxt_e,nxt_0]
 rfl)
def r_f53 (p0:List Finding):Option (V×List VO):=
 let a1:=srtFd (cloneFin (p0))
 br (rngOk p0 (llen p0) (0:Int)&&p0.all fdOk) (br (!((p0.drop (0:Int).toNat).all fdGood)) (some (.tu [(.t (.sl tyFinding) ([]:List Finding)),(.t tI (24))],[])) (br (lenClFin (p0)) (br (srtFdOk (cloneFin (p0))) (br (lenOk a1) (br (igt (llen (Lib.compact a1)) 400) (some (.tu [(.t (.sl tyFinding) ([]:List Finding)),(.t tI 3)],[])) (some (.tu [(.t (.sl tyFinding) (Lib.compact a1)),(.t tI 0)],[]))) none) none) none)) none
theorem e_f53 (p0:List Finding):runF g_f53 tc_f53 rv_f53 false [.t (.sl tyFinding) p0] []=r_f53 p0:=by kernel_rfl
theorem gk_f53:GOk Tryz.prog g_f53:=gok_of _ (gA (gC en_f105 ms_f105 (gC en_f106 ms_f106 (gC en_f107c108 ms_f107c108 (gC en_f109 ms_f109 gN)))))
theorem l_f53_0 (x0 x8:List Finding)(x9 x10:Int)(h:(rngOk x8 x9 x10&&x8.all fdOk)=true):lp_f53_0 x0 x8 x9 x10=la_f53_0 x0 x8 x9 x10:=by
 simp only [Bool.and_eq_true,List.all_eq_true] at h
 obtain ⟨h0,h4⟩:=h
 obtain ⟨rfl,h3,k,rfl,hk⟩:=rng_k h0
 clear h0
 refine range_ind x8 (fun k=>lp_f53_0 x0 x8 (x8.length:Int) (k:Int)=la_f53_0 x0 x8 (x8.length:Int) (k:Int)) ?_ ?_ k hk
 ·rw [ln_f53_0]
  simp [n_f53_0,la_f53_0,ilt_nat,br_false]
 ·intro k hk ih
  rw [ln_f53_0]
  simp only [n_f53_0,ilt_nat,cIx_nat,hk,decide_true,br_true,Int.toNat_natCast,add1 (k:=k),lgt_get (y:=tyFinding) hk,h4 _ (List.getElem_mem hk),ih]
  simp only [la_f53_0,Int.toNat_natCast,List.drop_eq_getElem_cons hk,List.all_cons,fdChk]
  cases fdGood x8[k]<;>rfl
theorem lo_f53_0: ∀ S l p,g_f53.L 0 (fgt fg_f53_0 S)=some (true,l)->pickA l=some p->loopF (roundF g_f53 fg_f53_0 tb_f53_0) S=some p:=
 lok_of (s:=sh_f53_0) ⟨by decide,by decide⟩ (by kernel_rfl) fun x y hok p hp=>by
 simp only [pickA_br,pickA_one] at hp
 exact (l_f53_0 x.1 x.2.1 x.2.2.1 x.2.2.2.1 (by simpa using hok)).trans hp
theorem lk_f53:tc_f53.lok g_f53:=by
 repeat (first|exact trivial|exact lo_f53_0|refine ⟨?_, ?_⟩)
theorem s_f53 (l:List Finding)(h:nrmOk l=true):r_f53 l=some (.tu [.t (.sl tyFinding) (nrmFd l).1,.t tI (nrmFd l).2],[]):=by
 obtain ⟨h1,h2⟩:=Bool.and_eq_true_iff.1 h
 have h1:l.length<=100000:=of_decide_eq_true h1
 have hs:srtFdOk l=true:=Bool.and_eq_true_iff.2 ⟨decide_eq_true (by omega),List.all_eq_true.2 fun _ _=>rfl⟩
 have hso:lenOk (srtFd l)=true:=decide_eq_true (by
  have:(srtFd l).length=l.length:=List.length_mergeSort _
  omega)
 have hc:lenClFin l=true:=decide_eq_true h1
 simp only [r_f53,rng_0 h1,h2,Bool.true_and,br_true,Int.toNat_zero,List.drop_zero,hc,cloneFin,hs,hso,nrmFd]
 cases l.all fdGood<;>cases h:igt (llen (nrmC ordF l)) 400
 all_goals
  rw [show igt (llen (Lib.compact (srtFd l))) 400=_ from h]
  rfl
def sp_f53:Ent:=spec (.pr (.sl tyFinding) .nil) (fun x=>(nrmOk x.1)) (fun x=>(.tu [(.t (.sl tyFinding) ((nrmFd x.1).1)),(.t tI ((nrmFd x.1).2))]))
theorem ms_f53:Meets Tryz.prog 53 (strip sp_f53):=meets_spec (R:=runF g_f53 tc_f53 rv_f53 false) (mG Tryz.func53 (by kernel_rfl) Tryz.ntmps53 (by kernel_rfl) gk_f53 lk_f53) fun x hok=>(e_f53 x.1).trans (s_f53 x.1 hok)
end Go.Proofs.YtmokmalepelinaaGreatDoor.K
namespace Go.Proofs.YtmokmalepelinaaGreatDoor.K
open Go.RowKit
noncomputable section
theorem own_base {w:World}{B0 B:Nat}{e:TypeId}{size n:Nat}{v:Value}{xs:List Value}(h:w.ownsRow B0 e size v n xs)(hb: ∀ b,v.ownBlock=some b->B<=b):w.ownsRow B e size v n xs:=by
 refine ⟨h.1, ?_⟩
 rcases h.2 with q|⟨g,cap,cur,rfl,q1,q2⟩
 ·exact .inl q
 ·exact .inr ⟨g,cap,cur,rfl,hb g rfl,q2⟩
theorem encYFt:EncY tyFinding encF:=⟨fun _=>rfl,fun x v hv=>by
 simp only [encF,List.mem_cons,List.not_mem_nil,or_false] at hv
 rcases hv with rfl|rfl|rfl|rfl|rfl|rfl|rfl|rfl|rfl|rfl|rfl<;>rfl,fun _=>rfl⟩
def ntOk (_k:Int)(_u:Keep)(_n:Int)(_d0:Int)(_d1:ByteArray)(_d2 _d3 _d4 _d5:Int)(_d6:ByteArray)(_d7 _d8 _d9:Int)(_d10:ByteArray)(l:List Finding):Bool:=decide (l.length<=100000)
def ntL (k:Int)(u:Keep)(n:Int)(d0:Int)(d1:ByteArray)(d2 d3 d4 _d5:Int)(d6:ByteArray)(_d7 _d8 _d9:Int)(d10:ByteArray)(l:List Finding):List Finding:=l++[(d0,(d1,(d2,(d3,(d4,(k,(d6,(u,(n,(d10,()))))))))))]
noncomputable def dr_f52_0:List DO:=dT Tryz.f52 2
noncomputable def dr_f52_1:List DO:=dT Tryz.f52 3
noncomputable def tc_f52:TC:=(.ad [(50001,49001)] (.sq (.reg (rT Tryz.f52 0)) (.sq (.reg (rT Tryz.f52 1)) (.sq (.dr dr_f52_0 [(0,[]),(1,[6]),(2,[]),(3,[8]),(4,[8,26,49001,50000]),(5,[8]),(6,[8,26,49001,50000]),(7,[8]),(8,[8,26,49001,50000])] (.of [0,1,2,3,4,5,6,7,8])) (.dr dr_f52_1 [(0,[50000]),(1,[50000]),(2,[50000]),(3,[50000]),(4,[26,49001,50000]),(5,[8,26,49001]),(6,[8,25,26,5025,10025,15025,49001,50000]),(7,[8,25,26,5026,10026,15026,49001,50000]),(8,[50000]),(9,[50000]),(10,[8,26,49001,50000])] (.one 0 (.one 1 (.one 2 (.one 3 (.one 5 (.alt 4 (.of [6,7,8,9,10]) (.of [6,4,7,8,9,10]))))))))))))
def rv_f52:List (RV×Option Ty):=[]
def g_f52:G:=⟨TYs,[25],29,EL [],keeps,(fun _ _=>none),IL [],RL []⟩
def r_f52_1 (p1:Int)(p2:Keep)(p3 d0_0:Int)(d0_1:ByteArray)(d0_2 d0_3 d0_4 d0_5:Int)(d0_6:ByteArray)(d0_7 d0_8 d0_9:Int)(d0_10:ByteArray)(d1:List Finding):Option (V×List VO):=
 let a1:=((p2.1,(p2.2.1,())),(p3,(d0_10,())))
 br (cApp d1 ([(d0_0,(d0_1,(d0_2,(d0_3,(d0_4,(p1,(d0_6,a1)))))))]) 112) (some (.tu [],[.box (.ag [(.t tI d0_0),(.t .str d0_1),(.t tI d0_2),(.t tI d0_3),(.t tI d0_4),(.t tI d0_5),(.t .str d0_6),(.t tI d0_7),(.t tI d0_8),(.t tI d0_9),(.t .str d0_10),(.ms 50002)]),.no,.arr 37 tyFinding (d1++([(d0_0,(d0_1,(d0_2,(d0_3,(d0_4,(p1,(d0_6,a1)))))))]))])) none
def r_f52 (p1:Int)(p2:Keep)(p3 d0_0:Int)(d0_1:ByteArray)(d0_2 d0_3 d0_4 d0_5:Int)(d0_6:ByteArray)(d0_7 d0_8 d0_9:Int)(d0_10:ByteArray)(d1:List Finding):Option (V×List VO):=frk (r_f52_1 p1 p2 p3 d0_0 d0_1 d0_2 d0_3 d0_4 d0_5 d0_6 d0_7 d0_8 d0_9 d0_10 d1) (r_f52_1 p1 p2 p3 d0_0 d0_1 d0_2 d0_3 d0_4 d0_5 d0_6 d0_7 d0_8 d0_9 d0_10 d1)
theorem e_f52 (p1:Int)(p2:Keep)(p3 d0_0:Int)(d0_1:ByteArray)(d0_2 d0_3 d0_4 d0_5:Int)(d0_6:ByteArray)(d0_7 d0_8 d0_9:Int)(d0_10:ByteArray)(d1:List Finding):runF g_f52 tc_f52 rv_f52 false [.ptr 50000 0,.t tI p1,.t tyKeep p2,.t tI p3] [.box (.ag [(.t tI d0_0),(.t .str d0_1),(.t tI d0_2),(.t tI d0_3),(.t tI d0_4),(.t tI d0_5),(.t .str d0_6),(.t tI d0_7),(.t tI d0_8),(.t tI d0_9),(.t .str d0_10),(.ms 50001)]),.arr 37 tyFinding d1]=r_f52 p1 p2 p3 d0_0 d0_1 d0_2 d0_3 d0_4 d0_5 d0_6 d0_7 d0_8 d0_9 d0_10 d1:=by kernel_rfl
theorem gk_f52:GOk Tryz.prog g_f52:=gok_of _ (fun p hp=>by cases hp)
theorem lk_f52:tc_f52.lok g_f52:=by repeat (first|exact trivial|refine ⟨?_, ?_⟩)
theorem s_f52 (k:Int)(u:Keep)(n d0:Int)(d1:ByteArray)(d2 d3 d4 d5:Int)(d6:ByteArray)(d7 d8 d9:Int)(d10:ByteArray)(l:List Finding)(h:ntOk k u n d0 d1 d2 d3 d4 d5 d6 d7 d8 d9 d10 l=true):r_f52 k u n d0 d1 d2 d3 d4 d5 d6 d7 d8 d9 d10 l=
  some (.tu [],[.box (.ag [(.t tI d0),(.t .str d1),(.t tI d2),(.t tI d3),(.t tI d4),(.t tI d5),(.t .str d6),(.t tI d7),(.t tI d8),(.t tI d9),(.t .str d10),(.ms 50002)]),.no,.arr 37 tyFinding (ntL k u n d0 d1 d2 d3 d4 d5 d6 d7 d8 d9 d10 l)]):=by
 have h:l.length<=100000:=of_decide_eq_true h
 simp only [r_f52,r_f52_1,frk_self,frk_self]
 rw [cApp_ok (by simp;omega) (by omega),br_true]
 rfl
def sp_f52:Ent:=specB [.ptr 50000 0,.ty tI,.ty tyKeep,.ty tI] [.bag [.ty tI,.ty .str,.ty tI,.ty tI,.ty tI,.ty tI,.ty .str,.ty tI,.ty tI,.ty tI,.ty .str,.ms 50001],.arr 37 tyFinding] (fun x y=>(ntOk x.2.1 x.2.2.1 x.2.2.2.1 y.1.1 y.1.2.1 y.1.2.2.1 y.1.2.2.2.1 y.1.2.2.2.2.1 y.1.2.2.2.2.2.1 y.1.2.2.2.2.2.2.1 y.1.2.2.2.2.2.2.2.1 y.1.2.2.2.2.2.2.2.2.1 y.1.2.2.2.2.2.2.2.2.2.1 y.1.2.2.2.2.2.2.2.2.2.2.1 y.2.1)) (fun x y=>(.tu [])) (fun x y=>[.box (.ag [(.t tI y.1.1),(.t .str y.1.2.1),(.t tI y.1.2.2.1),(.t tI y.1.2.2.2.1),(.t tI y.1.2.2.2.2.1),(.t tI y.1.2.2.2.2.2.1),(.t .str y.1.2.2.2.2.2.2.1),(.t tI y.1.2.2.2.2.2.2.2.1),(.t tI y.1.2.2.2.2.2.2.2.2.1),(.t tI y.1.2.2.2.2.2.2.2.2.2.1),(.t .str y.1.2.2.2.2.2.2.2.2.2.2.1),(.ms 50002)]),.no,.arr 37 tyFinding (ntL x.2.1 x.2.2.1 x.2.2.2.1 y.1.1 y.1.2.1 y.1.2.2.1 y.1.2.2.2.1 y.1.2.2.2.2.1 y.1.2.2.2.2.2.1 y.1.2.2.2.2.2.2.1 y.1.2.2.2.2.2.2.2.1 y.1.2.2.2.2.2.2.2.2.1 y.1.2.2.2.2.2.2.2.2.2.1 y.1.2.2.2.2.2.2.2.2.2.2.1 y.2.1)])
theorem ms_f52:Meets Tryz.prog 52 (strip sp_f52):=meets_B (meets_specS (R:=runF g_f52 tc_f52 rv_f52 false) (mG Tryz.func52 (by kernel_rfl) Tryz.ntmps52 (by kernel_rfl) gk_f52 lk_f52) fun x y hok=>(e_f52 x.2.1 x.2.2.1 x.2.2.2.1 y.1.1 y.1.2.1 y.1.2.2.1 y.1.2.2.2.1 y.1.2.2.2.2.1 y.1.2.2.2.2.2.1 y.1.2.2.2.2.2.2.1 y.1.2.2.2.2.2.2.2.1 y.1.2.2.2.2.2.2.2.2.1 y.1.2.2.2.2.2.2.2.2.2.1 y.1.2.2.2.2.2.2.2.2.2.2.1 y.2.1).trans (s_f52 x.2.1 x.2.2.1 x.2.2.2.1 y.1.1 y.1.2.1 y.1.2.2.1 y.1.2.2.2.1 y.1.2.2.2.2.1 y.1.2.2.2.2.2.1 y.1.2.2.2.2.2.2.1 y.1.2.2.2.2.2.2.2.1 y.1.2.2.2.2.2.2.2.2.1 y.1.2.2.2.2.2.2.2.2.2.1 y.1.2.2.2.2.2.2.2.2.2.2.1 y.2.1 hok))
structure PadB (B:Nat) (w:World) (bp:Nat) (x:Finding) (l:List Finding) (sv:Value):Prop where
 bk: ∃ T,w.heap[bp]? = some (.cells (encF x++[sv]).toArray T (0,0))
 own:w.ownsRow B 37 11 sv l.length (l.flatMap encF)
 ne:sv.ownBlock≠some bp
 le:B<=bp
theorem PadB.lt {B:Nat}{w:World}{bp:Nat}{x:Finding}{l:List Finding}{sv:Value}(h:PadB B w bp x l sv):bp<w.heap.size:=by
 obtain ⟨T,h⟩:=h.bk
 exact (Array.getElem?_eq_some_iff.1 h).1
theorem PadB.grown {B:Nat}{w w':World}{bp:Nat}{x:Finding}{l:List Finding}{sv:Value}(h:PadB B w bp x l sv)(hb:Below w.heap.size w w'):PadB B w' bp x l sv:=by
 obtain ⟨T,hk⟩:=h.bk
 exact ⟨⟨T,(hb.block bp h.lt).trans hk⟩,own_grown (row:=none) h.own ⟨hb.os,hb.tape,hb.output,hb.size,fun j hj _=>hb.block j hj⟩ (fun b _ e=>by cases e),h.ne,h.le⟩
def setFd (x:Finding)(k:Int)(u:Keep)(n:Int):Finding:=(x.1,(x.2.1,(x.2.2.1,(x.2.2.2.1,(x.2.2.2.2.1,(k,(x.2.2.2.2.2.2.1,(u,(n,(x.2.2.2.2.2.2.2.2.2.1,()))))))))))
theorem note_calls {B:Nat}{w:World}{bp:Nat}{x:Finding}{l:List Finding}{sv:Value}(h:PadB B w bp x l sv)(k n:Int)(u:Keep)(hl:l.length<=100000)(hT:TabB B w):
  Calls Tryz.prog 52 #[.pointer (some ⟨bp,0,none⟩),.int .i64 k,.agg (encU u).toArray,.int .i64 n] w fun e w'=>e= .returned (.tuple #[])∧ ∃ sv',PadB B w' bp x (l++[setFd x k u n]) sv'/\Below B w w':=by
 obtain ⟨T,hbk⟩:=h.bk
 have hF:strip sp_f52 [.ptr 50000 0,.t tI k,.t tyKeep u,.t tI n] [.box (.ag [(.t tI x.1),(.t .str x.2.1),(.t tI x.2.2.1),(.t tI x.2.2.2.1),(.t tI x.2.2.2.2.1),(.t tI x.2.2.2.2.2.1),(.t .str x.2.2.2.2.2.2.1),(.t tI x.2.2.2.2.2.2.2.1.1),(.t tI x.2.2.2.2.2.2.2.1.2.1),(.t tI x.2.2.2.2.2.2.2.2.1),(.t .str x.2.2.2.2.2.2.2.2.2.1),(.ms 50001)]),.arr 37 tyFinding l]=
   some (.tu [],[.box (.ag [(.t tI x.1),(.t .str x.2.1),(.t tI x.2.2.1),(.t tI x.2.2.2.1),(.t tI x.2.2.2.2.1),(.t tI x.2.2.2.2.2.1),(.t .str x.2.2.2.2.2.2.1),(.t tI x.2.2.2.2.2.2.2.1.1),(.t tI x.2.2.2.2.2.2.2.1.2.1),(.t tI x.2.2.2.2.2.2.2.2.1),(.t .str x.2.2.2.2.2.2.2.2.2.1),(.ms 50002)]),.no,.arr 37 tyFinding (l++[setFd x k u n])]):=by
  have e:ntOk k u n x.1 x.2.1 x.2.2.1 x.2.2.2.1 x.2.2.2.2.1 x.2.2.2.2.2.1 x.2.2.2.2.2.2.1 x.2.2.2.2.2.2.2.1.1 x.2.2.2.2.2.2.2.1.2.1 x.2.2.2.2.2.2.2.2.1 x.2.2.2.2.2.2.2.2.2.1 l=true:=decide_eq_true hl
  have e1:sp_f52 [.ptr 50000 0,.t tI k,.t tyKeep u,.t tI n] [.box (.ag [(.t tI x.1),(.t .str x.2.1),(.t tI x.2.2.1),(.t tI x.2.2.2.1),(.t tI x.2.2.2.2.1),(.t tI x.2.2.2.2.2.1),(.t .str x.2.2.2.2.2.2.1),(.t tI x.2.2.2.2.2.2.2.1.1),(.t tI x.2.2.2.2.2.2.2.1.2.1),(.t tI x.2.2.2.2.2.2.2.2.1),(.t .str x.2.2.2.2.2.2.2.2.2.1),(.ms 50001)]),.arr 37 tyFinding l]=some (ntOk k u n x.1 x.2.1 x.2.2.1 x.2.2.2.1 x.2.2.2.2.1 x.2.2.2.2.2.1 x.2.2.2.2.2.2.1 x.2.2.2.2.2.2.2.1.1 x.2.2.2.2.2.2.2.1.2.1 x.2.2.2.2.2.2.2.2.1 x.2.2.2.2.2.2.2.2.2.1 l,.tu [],[.box (.ag [(.t tI x.1),(.t .str x.2.1),(.t tI x.2.2.1),(.t tI x.2.2.2.1),(.t tI x.2.2.2.2.1),(.t tI x.2.2.2.2.2.1),(.t .str x.2.2.2.2.2.2.1),(.t tI x.2.2.2.2.2.2.2.1.1),(.t tI x.2.2.2.2.2.2.2.1.2.1),(.t tI x.2.2.2.2.2.2.2.2.1),(.t .str x.2.2.2.2.2.2.2.2.2.1),(.ms 50002)]),.no,.arr 37 tyFinding (l++[setFd x k u n])]):=by kernel_rfl
  unfold strip
  rw [e1,e]
 have hbl:=h.lt
 have hol:=h.own.lt
 have hne:=h.ne
 refine (of_does (by decide) (ms_f52 _ _ _ _ hF (fun g _=>g=bp∨sv.ownBlock=some g) w (fun k=>if k=50000 then .box bp else if k=50001 then .arr sv else .no) [.pointer (some ⟨bp,0,none⟩),.int .i64 k,.agg (encU u).toArray,.int .i64 n] ⟨?_, ?_⟩ ⟨?_, ?_⟩ ?_)).mono ?_
 ·intro g q e
  rcases e with rfl|e
  ·exact hbl
  ·exact (hol g e).2
 ·intro g hg
  obtain ⟨q1,q2⟩:=hT.2 g hg
  refine ⟨Nat.lt_of_lt_of_le q1 hT.1,fun o e=> ?_,q2⟩
  rcases e with rfl|e
  ·exact absurd h.le (Nat.not_le_of_lt q1)
  ·exact absurd (hol g e).1 (Nat.not_le_of_lt q1)
 ·intro j o hj
  match j,hj with
  |0,hj=>
   simp only [List.getElem?_cons_zero,Option.some.injEq] at hj
   subst hj
   refine ⟨⟨bp,T,encF x++[sv],by simp,hbk, ?_,fun o=> .inl rfl⟩,by simp⟩
   simp only [encF,V.d,V.ds,Ty.d,D.cells,List.cons_append,List.nil_append,Cs,C]
   exact ⟨_,_,rfl,⟨rfl,rfl⟩,_,_,rfl,⟨rfl,rfl⟩,_,_,rfl,⟨rfl,rfl⟩,_,_,rfl,⟨rfl,rfl⟩,_,_,rfl,⟨rfl,rfl⟩,_,_,rfl,⟨rfl,rfl⟩,_,_,rfl,⟨rfl,rfl⟩,_,_,rfl,⟨rfl,rfl⟩,_,_,rfl,⟨rfl,rfl⟩,_,_,rfl,⟨rfl,rfl⟩,_,_,rfl,⟨rfl,rfl⟩,_,_,rfl,⟨by simp,by obtain ⟨A,c,rfl⟩:=own_sliceT h.own;rfl⟩,rfl⟩
  |1,hj=>
   simp only [List.getElem?_cons_succ,List.getElem?_cons_zero,Option.some.injEq] at hj
   subst hj
   exact ⟨⟨sv,l.flatMap encF,by simp,OwnM.of h.own,encYFt.cs _,encYFt.fone _,fun b hb o=> .inr hb⟩,by simp⟩
  |j+2,hj=>simp at hj
 ·intro i j g hij hi hj
  have hi:i<2:=hi
  have hj:j<2:=hj
  have hcase:(i=0/\j=1)∨(i=1/\j=0):=by omega
  rcases hcase with ⟨rfl,rfl⟩|⟨rfl,rfl⟩
  ·intro e1 e2
   have e1:some bp=some g:=e1
   have e2:sv.ownBlock=some g:=e2
   exact hne (e2.trans e1.symm)
  ·intro e1 e2
   have e1:sv.ownBlock=some g:=e1
   have e2:some bp=some g:=e2
   exact hne (e1.trans e2.symm)
 ·simp only [V.ds,V.d,Ty.d,Cs,C]
  exact ⟨_,_,rfl,⟨bp,by simp,rfl⟩,_,_,rfl,⟨rfl,rfl⟩,_,_,rfl,⟨encU u,rfl,by simp only [encU,Cs,C];exact ⟨_,_,rfl,⟨rfl,rfl⟩,_,_,rfl,⟨rfl,rfl⟩,rfl⟩⟩,_,_,rfl,⟨rfl,rfl⟩,rfl⟩
 ·rintro e w' ⟨r,X',σ',rfl,h1,h2⟩
  have hu:r= .tuple #[]:=by
   have h1:C X' w' σ' (.tu []) r:=h1
   simp only [C,Cs] at h1
   obtain ⟨vs,rfl,rfl⟩:=h1
   rfl
  subst hu
  obtain ⟨g1,_⟩:=h2.at_ 0 _ rfl
  obtain ⟨g2,_⟩:=h2.at_ 2 _ rfl
  obtain ⟨b',T',vs,k1,k2,k3,k4⟩:=g1
  obtain ⟨sv',xs,m1,m2,m3,m4,m5⟩:=g2
  have hs:=h2.same 0 (Nat.zero_lt_succ _)
  have hbp:b'=bp:=by
   have:σ' (50000+0)=SC.box bp:=hs.trans rfl
   rw [this] at k1
   injection k1 with k1
   exact k1.symm
  subst hbp
  have hvs:vs=encF x++[sv']:=by
   simp only [V.d,V.ds,Ty.d,D.cells,Cs,C] at k3
   obtain ⟨_,_,rfl,⟨rfl,_⟩,_,_,rfl,⟨rfl,_⟩,_,_,rfl,⟨rfl,_⟩,_,_,rfl,⟨rfl,_⟩,_,_,rfl,⟨rfl,_⟩,_,_,rfl,⟨rfl,_⟩,_,_,rfl,⟨rfl,_⟩,_,_,rfl,⟨rfl,_⟩,_,_,rfl,⟨rfl,_⟩,_,_,rfl,⟨rfl,_⟩,_,_,rfl,⟨rfl,_⟩,y,_,rfl,⟨hy,_⟩,rfl⟩:=k3
   have:SC.arr sv'=SC.arr y:=m1.symm.trans hy
   injection this with this
   rw [this]
   rfl
  subst hvs
  have hxs:xs=(l++[setFd x k u n]).flatMap encF:=by
   rw [encYFt.flat] at m3
   exact plain_run _ _ m3
  subst hxs
  have hnew: ∀ b,sv'.ownBlock=some b->w.heap.size<=b∨sv.ownBlock=some b:=fun b hb=>by
   have e1:(σ' (50000+2)).blk=some b:=by rw [m1];exact hb
   rcases h2.new 2 b (Nat.le_refl 2) (Nat.lt_succ_self 2) e1 with h|⟨i,hi,h3,h4⟩
   ·exact .inl h
   ·have hi:i<2:=hi
    have hcase:i=0∨i=1:=by omega
    rcases hcase with rfl|rfl
    ·cases h3
    ·exact .inr h4
  have hkeep:Below B w w':=⟨h2.fr.os,h2.fr.tape,h2.fr.output,h2.fr.size,fun b hb=>h2.fr.keep b (Nat.lt_of_lt_of_le hb hT.1) fun hm=>by
   simp only [lentB,List.mem_filterMap,List.mem_range] at hm
   obtain ⟨j,hj,hm⟩:=hm
   have hj:j<2:=hj
   have hcase:j=0∨j=1:=by omega
   rcases hcase with rfl|rfl
   ·have:some b'=some b:=hm
    injection this with this
    subst this
    exact absurd h.le (Nat.not_le_of_lt hb)
   ·have:sv.ownBlock=some b:=hm
    exact absurd (hol b this).1 (Nat.not_le_of_lt hb)⟩
  refine ⟨rfl,sv',⟨⟨T',k2⟩, ?_, ?_,h.le⟩,hkeep⟩
  ·have hown:=m2.own (by decide)
   refine own_base hown fun b hb=> ?_
   rcases hnew b hb with h|h
   ·exact Nat.le_trans hT.1 h
   ·exact (hol b h).1
  ·intro e
   have:=h2.apart 0 2 b' (by decide) (Nat.zero_lt_succ _) (Nat.lt_succ_self 2) (by simp) (by simp) (by rw [hs];rfl)
   exact this (by rw [m1];exact e)
end
end Go.Proofs.YtmokmalepelinaaGreatDoor.K
namespace Go.Proofs.YtmokmalepelinaaGreatDoor.K
open Go.RowKit Go.Region Go.Sort Go.Lib
attribute [local go_sem ↓] Go.wp_at_zero Go.wp_at_succ
set_option linter.unusedSectionVars false
def at0 (x:Finding):Finding:=(x.1,(x.2.1,(x.2.2.1,(x.2.2.2.1,(x.2.2.2.2.1,(4,(x.2.2.2.2.2.2.1,((0,(0,())),(1,(ByteArray.mk #[],()))))))))))
theorem at0_ok {x:Finding}(h:fdOk x=true):fdOk (at0 x)=true:=by
 obtain ⟨h1,h2⟩:=Bool.and_eq_true_iff.1 h
 obtain ⟨h2,_⟩:=Bool.and_eq_true_iff.1 h2
 exact Bool.and_eq_true_iff.2 ⟨h1,Bool.and_eq_true_iff.2 ⟨h2,show nameG (ByteArray.mk #[])=true from rfl⟩⟩
theorem fdCheck_calls (x:Finding)(h:fdOk x=true)(w:World)(hT:TabI F0 w):Calls Tryz.prog 105 #[.agg (encF x).toArray] w fun e w'=>e= .returned (.int .i64 (fdChk x))/\Below w.heap.size w w':=by
 have hF:strip sp_f105 [.t tyFinding x] []=some (.t tI (fdChk x),[]):=by
  unfold sp_f105
  exact strip_spec (a:= .pr tyFinding .nil) (x:=(x,())) (by simp [Ty.args,as_t]) h
 refine (scT_calls ms_f105 hF w hT ?_).mono ?_
 ·show Cs F0 w nowhere [D.ag (tyFinding.cells x)] [.agg (encF x).toArray]
  simp only [Cs,C]
  refine ⟨_,_,rfl,⟨encF x,rfl, ?_⟩,rfl⟩
  have:=encYFt.cs (X:=F0) (w:=w) (σ:=nowhere) [x]
  simpa using this
 ·rintro e w' ⟨u,X',σ',rfl,h1,h2⟩
  have h1:C X' w' σ' (.v (.int .i64 (fdChk x))) u:=h1
  simp only [C] at h1
  obtain ⟨rfl,_⟩:=h1
  exact ⟨rfl,h2⟩
theorem valid_calls (u:Keep)(w:World)(hT:TabI F0 w):Calls Tryz.prog 46 #[.agg (encU u).toArray] w fun e w'=>e= .returned (.bool (validF u))/\Below w.heap.size w w':=by
 have hF:strip sp_f46 [.t tyKeep u] []=some (.t .bool (validF u),[]):=by
  unfold sp_f46
  exact strip_spec (a:= .pr tyKeep .nil) (x:=(u,())) (by simp [Ty.args,as_t]) rfl
 refine (scT_calls ms_f46 hF w hT ?_).mono ?_
 ·show Cs F0 w nowhere [D.ag (tyKeep.cells u)] [.agg (encU u).toArray]
  simp only [Cs,C]
  refine ⟨_,_,rfl,⟨encU u,rfl, ?_⟩,rfl⟩
  have:=encYU.cs (X:=F0) (w:=w) (σ:=nowhere) [u]
  simpa using this
 ·rintro e w' ⟨r,X',σ',rfl,h1,h2⟩
  have h1:C X' w' σ' (.v (.bool (validF u))) r:=h1
  simp only [C] at h1
  obtain ⟨rfl,_⟩:=h1
  exact ⟨rfl,h2⟩
set_option maxHeartbeats 4000000 in
theorem open_calls (x:Finding)(w:World)(hT:TabI F0 w)(hok:fdOk x=true):Calls Tryz.prog 51 #[.agg (encF x).toArray] w fun e w'=> ∃ bp,e= .returned (.tuple #[.pointer (some ⟨bp,0,none⟩),.int .i64 (fdChk (at0 x))])/\PadB w.heap.size w' bp (at0 x) [] (.slice none 0 0)/\Below w.heap.size w w':=by
 have hTB:TabB w.heap.size w:=TabB.of hT
 have HK:Hid (∀ w',Below w.heap.size w w'->Calls Tryz.prog 105 #[.agg (encF (at0 x)).toArray] w' fun e w''=>e= .returned (.int .i64 (fdChk (at0 x)))/\Below w'.heap.size w' w''):=Lib.hid fun w' h=>fdCheck_calls (at0 x) (at0_ok hok) w' (hTB.below h).tab
 clear hTB hT hok
 obtain ⟨r,hr⟩: ∃ r,r=fdChk (at0 x):=⟨_,rfl⟩
 rw [←hr] at HK ⊢
 clear hr
 unfold encF
 go_enter Tryz.func51,Tryz.ntmps51
 go_wp2_with fail
 generalize hW:World.alloc w _=W1
 have hsz:W1.heap.size=w.heap.size+1:=by rw [←hW];simp
 have h0:Below w.heap.size w W1:=by rw [←hW];exact (Below.refl _ _).alloc (Nat.le_refl _) _
 have hc:W1.heap[w.heap.size]? = some (.cells (encF (at0 x)).toArray 37 (0,0)):=by rw [←hW];exact heap_alloc_new w _
 have hC: ∀ {w'},Below (w.heap.size+1) W1 w'->(w'.cell? ⟨w.heap.size,0,none⟩=some (.int .i64 x.1)/\w'.cell? ⟨w.heap.size,1,none⟩=some (.string x.2.1)/\w'.cell? ⟨w.heap.size,2,none⟩=some (.int .i64 x.2.2.1)/\w'.cell? ⟨w.heap.size,3,none⟩=some (.int .i64 x.2.2.2.1)/\w'.cell? ⟨w.heap.size,4,none⟩=some (.int .i64 x.2.2.2.2.1)/\w'.cell? ⟨w.heap.size,5,none⟩=some (.int .i64 4)/\w'.cell? ⟨w.heap.size,6,none⟩=some (.string x.2.2.2.2.2.2.1)/\w'.cell? ⟨w.heap.size,7,none⟩=some (.int .i64 0)/\w'.cell? ⟨w.heap.size,8,none⟩=some (.int .i64 0)/\w'.cell? ⟨w.heap.size,9,none⟩=some (.int .i64 1)/\w'.cell? ⟨w.heap.size,10,none⟩=some (.string (ByteArray.mk #[]))/\Below (w.heap.size+1) W1 w'):=fun {w'} h=>by
  have hb:w'.heap[w.heap.size]? = some (.cells (encF (at0 x)).toArray 37 (0,0)):=(h.block _ (Nat.lt_succ_self _)).trans hc
  refine ⟨?_, ?_, ?_, ?_, ?_, ?_, ?_, ?_, ?_, ?_, ?_,h⟩
  all_goals
   simp only [World.cell?, hb]
   rfl
 have hA: ∀ {w':World} (o:Obj),Below (w.heap.size+1) W1 w'->Below (w.heap.size+1) W1 (w'.alloc o):=fun {w'} o h=>h.alloc (by have:=h.size;omega) o
 have HK2:Hid (∀ w',Below (w.heap.size+1) W1 w'->Calls Tryz.prog 105 #[.agg (encF (at0 x)).toArray] w' fun e w''=>e= .returned (.int .i64 r)/\Below w'.heap.size w' w''/\Below (w.heap.size+1) W1 w''):=Lib.hid fun w' h=>(HK.out w' (h0.trans (h.mono (Nat.le_succ _)))).mono fun e w'' ⟨e1,e2⟩=>⟨e1,e2,h.trans (e2.mono (by have:=h.size;omega))⟩
 clear hW
 go_region_held3 (fun w'=>w'.cell? ⟨w.heap.size,0,none⟩=some (.int .i64 x.1)/\w'.cell? ⟨w.heap.size,1,none⟩=some (.string x.2.1)/\w'.cell? ⟨w.heap.size,2,none⟩=some (.int .i64 x.2.2.1)/\w'.cell? ⟨w.heap.size,3,none⟩=some (.int .i64 x.2.2.2.1)/\w'.cell? ⟨w.heap.size,4,none⟩=some (.int .i64 x.2.2.2.2.1)/\w'.cell? ⟨w.heap.size,5,none⟩=some (.int .i64 4)/\w'.cell? ⟨w.heap.size,6,none⟩=some (.string x.2.2.2.2.2.2.1)/\w'.cell? ⟨w.heap.size,7,none⟩=some (.int .i64 0)/\w'.cell? ⟨w.heap.size,8,none⟩=some (.int .i64 0)/\w'.cell? ⟨w.heap.size,9,none⟩=some (.int .i64 1)/\w'.cell? ⟨w.heap.size,10,none⟩=some (.string (ByteArray.mk #[]))/\Below (w.heap.size+1) W1 w') (first|exact hC (by assumption)|exact hC (Below.refl _ _).drew|exact hC (hA _ (by assumption))|exact hC (hA _ (Below.refl _ _).drew)) ((go_at_call 105;refine (HK2.out _ (by first|assumption|exact (Below.refl _ _).drew|exact hA _ (by assumption)|exact hA _ (Below.refl _ _).drew)).mono ?_;rintro e w1 ⟨rfl,hw1,hw2⟩))
 ·go_wp2_with fail
  go_ret2
  have hs:=hw2.size
  refine ⟨_,rfl,⟨⟨126,(hw1.block _ (by simp;omega)).trans (by rw [←hsz];exact heap_alloc_new W1.drew _)⟩,⟨rfl,.inl ⟨rfl,rfl⟩⟩,(fun e=>by cases e),by omega⟩,h0.trans (hw2.mono (Nat.le_succ _))⟩
 ·go_wp2_with fail
  go_ret2
  have hs:=hw2.size
  exact ⟨_,rfl,⟨⟨126,heap_alloc_new w1 _⟩,⟨rfl,.inl ⟨rfl,rfl⟩⟩,(fun e=>by cases e),by omega⟩,(h0.trans (hw2.mono (Nat.le_succ _))).alloc (by omega) _⟩
end Go.Proofs.YtmokmalepelinaaGreatDoor.K
namespace Go.Proofs.YtmokmalepelinaaGreatDoor.K
open Go.RowKit Go.Region Go.Sort Go.Lib
attribute [local go_sem ↓] Go.wp_at_zero Go.wp_at_succ
set_option linter.unusedSectionVars false
theorem meets_callsX {P:Program}{f:FuncId}{a:Ty}{ok:a.T->Bool}{F:a.T->V}(h: ∀ x,ok x=true→ ∀ X w σ vs,Fin2 X w->Cs X w σ (V.ds (a.canon x)) vs→
  Calls P f vs.toArray w fun e w'=> ∃ u X' σ',e= .returned u/\C X' w' σ' (F x).d u/\Ends X w σ 0 X' w' σ' []) (hlt:f<1000000:=by decide):Meets P f (strip (spec a ok F)):=by
 intro args objs r os hF X w σ vs hfin hl hc
 unfold strip spec at hF
 cases objs with
 |cons o os'=>simp at hF
 |nil=>
  simp only at hF
  cases ha:a.args args with
  |none=>rw [ha] at hF;cases hF
  |some x=>
   rw [ha] at hF
   simp only at hF
   split at hF
   ·rename_i r' os' hq
    simp only [Option.some.injEq,Prod.mk.injEq] at hF hq
    obtain ⟨rfl,rfl⟩:=hF
    obtain ⟨h1,rfl,rfl⟩:=hq
    exact does_of hlt (h x h1 X w σ vs hfin (canon_cs ha hc))
   ·cases hF
section
variable {X X':Nat->Nat->Prop}{w w1 w':World}{σ σ':Pl}
theorem fin2_belowF (h:Fin2 X w)(hb:Below w.heap.size w w1):Fin2 X w1:=⟨fun b q hq=>Nat.lt_of_lt_of_le (h b q hq) hb.size,h.tab.ext ⟨hb.size,fun b o hlt hx=>⟨hx,World.cell?_of_block (w:=w) (a:=⟨b,o,none⟩) (hb.block b hlt)⟩⟩⟩
theorem ends_pre (hb:Below w.heap.size w w1)(h:Ends X w1 σ 0 X' w' σ' []):Ends X w σ 0 X' w' σ' []:=
 ⟨h.fin,fun j o hj=>by simp at hj,fun i j b _ hi=>by simp at hi,h.le,fun j hj=>absurd hj (Nat.not_lt_zero _),fun j b _ hj=>by simp at hj,
  ⟨h.fr.os.trans hb.os,h.fr.tape.trans hb.tape,h.fr.output.trans hb.output,Nat.le_trans hb.size h.fr.size,fun b hb' hm=>(h.fr.keep b (Nat.lt_of_lt_of_le hb' hb.size) hm).trans (hb.block b hb')⟩,
  fun b q hb' hx=>h.sub b q (Nat.lt_of_lt_of_le hb' hb.size) hx,fun b q hb' hn hx=>h.old b q (Nat.lt_of_lt_of_le hb' hb.size) (fun i hi=>absurd hi (Nat.not_lt_zero _)) hx⟩
theorem sl_cells {y:Ty}{enc:y.T->List Value}(hE:EncY y enc){l:List y.T}{s:Value}(hC:C X w nowhere (.sl l.length (l.flatMap y.cells)) s):
  ∃ A c,s= .slice A l.length c/\(0<l.length→ ∃ g off,A=some ⟨g,off,none⟩/\g<w.heap.size∧ ∀ j v,(l.flatMap enc)[j]? = some v->w.cell? ⟨g,off+j,none⟩=some v):=by
 simp only [C] at hC
 obtain ⟨A,c,rfl,_,_,_,h5⟩:=hC
 refine ⟨A,c,rfl,fun h=> ?_⟩
 obtain ⟨g,off,us,rfl,h6,h7,_,h9,_⟩:=h5 h
 rw [hE.flat] at h6
 have:=plain_run _ _ h6
 subst this
 exact ⟨g,off,rfl,h7,h9⟩
theorem own_cK {y:Ty}{enc:y.T->List Value}(hE:EncY y enc){e n B:Nat}{sv:Value}{l:List y.T}(hfin:Fin2 X w)(hB:w.heap.size<=B)(hn:n=l.length)(h:w'.ownsRow B e y.sz sv n (l.flatMap enc)):C X w' σ (V.t (.sl y) l).d sv:=by
 subst hn
 rcases h.2 with ⟨rfl,h0⟩|⟨g,cap,cur,rfl,h1,hh,h2,h3,h4,h5⟩
 ·have:l=[]:=List.eq_nil_of_length_eq_zero h0
  subst this
  simp only [V.d,Ty.d,C]
  exact ⟨none,0,rfl,Nat.le_refl _,by simp [maxLen],fun _=>rfl,fun h=>absurd (show 0<([]:List y.T).length from h) (by simp)⟩
 ·simp only [V.d,Ty.d,C]
  refine ⟨some ⟨g,0,none⟩,cap,rfl,h2,h3,fun h0=>by rw [List.eq_nil_of_length_eq_zero h0];rfl,fun h0=>⟨g,0,_,rfl,hE.cs _,(h.lt g rfl).2,fun j _ hx=> ?_,fun j u hu=> ?_,hE.fone _⟩⟩
  ·have:=hfin _ _ hx
   omega
  ·have hj:j<l.length*y.sz:=by
    have:=(List.getElem?_eq_some_iff.1 hu).1
    rwa [hE.flen] at this
   rw [Nat.zero_add,h.cellAt j hj,hu]
end
theorem flat_get {α:Type}{enc:α->List Value}{n:Nat}(hk: ∀ x,(enc x).length=n): ∀ (l:List α) (k c:Nat) (h:k<l.length),c<n->(l.flatMap enc)[k*n+c]? = (enc l[k])[c]?
 |x::l,0,c,_,hc=>by
  rw [List.flatMap_cons,Nat.zero_mul,Nat.zero_add,List.getElem?_append_left (by rw [hk];exact hc)]
  rfl
 |x::l,k+1,c,h,hc=>by
  have:=flat_get hk l k c (Nat.lt_of_succ_lt_succ h) hc
  rw [List.flatMap_cons,List.getElem?_append_right (by rw [hk,Nat.add_mul];omega),hk,show (k+1)*n+c-n=k*n+c by rw [Nat.add_mul];omega]
  exact this
theorem norm_calls {X:Nat->Nat->Prop}{w:World}{σ:Pl}{s:Value}{l:List Finding}(hfin:Fin2 X w)(hC:C X w σ (V.t (.sl tyFinding) l).d s)(hok:nrmOk l=true):
  Calls Tryz.prog 53 #[s] w fun e w'=> ∃ u X' σ',e= .returned u/\C X' w' σ' (V.tu [.t (.sl tyFinding) (nrmFd l).1,.t tI (nrmFd l).2]).d u/\Ends X w σ 0 X' w' σ' []:=by
 have hF:strip sp_f53 [.t (.sl tyFinding) l] []=some (.tu [.t (.sl tyFinding) (nrmFd l).1,.t tI (nrmFd l).2],[]):=by
  unfold sp_f53
  exact strip_spec (a:= .pr (.sl tyFinding) .nil) (x:=(l,())) (by simp [Ty.args,as_t]) hok
 exact of_does (by decide) (ms_f53 _ _ _ _ hF X w σ [s] hfin lentN0 ⟨s,[],rfl,hC,rfl⟩)
def ntU (x:Finding)(u:Keep):Finding:=setFd (at0 x) 1 u 0
def fusF (x:Finding)(l:List Keep):List Finding×Int:=bif ine (fdChk (at0 x)) 0 then ([],fdChk (at0 x)) else bif !(l.all validF) then ([],7) else nrmFd (l.map (ntU x))
def fusOk (x:Finding)(l:List Keep):Bool:=fdOk x&&decide (l.length<=100000)
theorem ntU_ok {x:Finding}(h:fdOk x=true)(l:List Keep)(hl:l.length<=100000):nrmOk (l.map (ntU x))=true:=by
 obtain ⟨h1,h2⟩:=Bool.and_eq_true_iff.1 h
 obtain ⟨h2,_⟩:=Bool.and_eq_true_iff.1 h2
 refine Bool.and_eq_true_iff.2 ⟨decide_eq_true (by rw [List.length_map];exact hl),List.all_eq_true.2 fun f hf=> ?_⟩
 obtain ⟨u,_,rfl⟩:=List.mem_map.1 hf
 exact Bool.and_eq_true_iff.2 ⟨h1,Bool.and_eq_true_iff.2 ⟨h2,show nameG (ByteArray.mk #[])=true from rfl⟩⟩
set_option maxHeartbeats 4000000 in
theorem fromuses_calls {X:Nat->Nat->Prop}{w:World}{σ:Pl}{s:Value}{x:Finding}{l:List Keep}(hfin:Fin2 X w)(hC:C X w nowhere (.sl l.length (l.flatMap tyKeep.cells)) s)(hok:fusOk x l=true):
  Calls Tryz.prog 14 #[.agg (encF x).toArray,s] w fun e w'=> ∃ u X' σ',e= .returned u/\C X' w' σ' (V.tu [.t (.sl tyFinding) (fusF x l).1,.t tI (fusF x l).2]).d u/\Ends X w σ 0 X' w' σ' []:=by
 obtain ⟨h1,h2⟩:=Bool.and_eq_true_iff.1 hok
 have h2:l.length<=100000:=of_decide_eq_true h2
 obtain ⟨A,c,rfl,hcell⟩:=sl_cells encYU hC
 have hTB:TabB w.heap.size w:=TabB.of hfin.tab
 have HO:=Lib.hid fun w1 (hb:Below w.heap.size w w1)=>open_calls x w1 (hTB.below hb).tab h1
 have HV:=Lib.hid fun u w1 (hb:Below w.heap.size w w1)=>valid_calls u w1 (hTB.below hb).tab
 have HTB:=Lib.hid hTB
 have HFIN:=Lib.hid hfin
 have HCELL:=Lib.hid hcell
 have HX:=Lib.hid h1
 have hret: ∀ (n:Int) (w':World),Below w.heap.size w w'→ ∃ u X' σ',Ending.returned (.tuple #[.slice none 0 0,.int .i64 n])= .returned u/\C X' w' σ' (V.tu [.t (.sl tyFinding) [],.t tI n]).d u/\Ends X w σ 0 X' w' σ' []:=fun n w' hb=>by
  refine ⟨_,X,σ,rfl, ?_,ends_none rfl hfin hb⟩
  simp only [V.d,V.ds,Ty.d,C,Cs]
  exact ⟨_,rfl,_,_,rfl,⟨none,0,rfl,Nat.le_refl _,by simp [maxLen],fun _=>rfl,fun h=>absurd (show 0<([]:List Finding).length from h) (by simp)⟩,_,_,rfl,⟨rfl,rfl⟩,rfl⟩
 have HR:=Lib.hid hret
 clear hC hok hTB hfin hcell h1 hret
 have hn0:((l.length:Nat):Int)<=100000:=by omega
 have hB0:Below w.heap.size w (w.alloc (.cells (encF x).toArray 37)):=(Below.refl _ _).alloc (Nat.le_refl _) _
 have HO2:=Lib.hid (HO.out _ hB0)
 have HB0:=Lib.hid hB0
 clear hB0 HO
 have hfu:fusF x l=bif ine (fdChk (at0 x)) 0 then ([],fdChk (at0 x)) else bif !(l.all validF) then ([],7) else nrmFd (l.map (ntU x)):=rfl
 obtain ⟨r,hr⟩: ∃ r,fdChk (at0 x)=r:=⟨_,rfl⟩
 rw [hr] at hfu HO2
 clear hr
 by_cases h0:r=0
 ·subst h0
  have hfu:fusF x l=bif !(l.all validF) then ([],7) else nrmFd (l.map (ntU x)):=hfu
  obtain ⟨R,hR⟩: ∃ R,fusF x l=R:=⟨_,rfl⟩
  rw [hR] at hfu ⊢
  have HRES:=Lib.hid hfu
  clear hfu hR
  unfold encF
  go_enter Tryz.func14,Tryz.ntmps14
  go_wp2_with (go_at_call 51;refine HO2.out.mono ?_;rintro e w1 ⟨bp,rfl,hpad,hb1⟩;have HP:=Lib.hid (show PadB w.heap.size w1 bp (at0 x) [] (.slice none 0 0) from ⟨hpad.bk,⟨rfl,.inl ⟨rfl,rfl⟩⟩,hpad.ne,Nat.le_trans (by simp) hpad.le⟩);have HB1:=Lib.hid (show Below w.heap.size w w1 from HB0.out.trans (hb1.mono (by simp)));clear hpad hb1)
  go_loopw [20] (fun s20 wr=> ∃ (k:Nat) (sv:Value),k<=l.length/\s20= .int .i64 k/\Hid (PadB w.heap.size wr bp (at0 x) ((l.take k).map (ntU x)) sv/\Below w.heap.size w wr/\(l.take k).all validF=true)) (fun iv _=>l.length-(intOf iv).toNat)
  case atStart=>exact ⟨0,_,Nat.zero_le _,rfl,Lib.hid ⟨HP.out,HB1.out,rfl⟩⟩
  case round=>
   obtain ⟨k,sv,hk,rfl,HRR⟩:=hrel
   by_cases hlt:k<l.length
   ·obtain ⟨g,off,rfl,hg,hcells⟩:=HCELL.out (by omega)
    have hget:l[k]? = some l[k]:=List.getElem?_eq_getElem hlt
    obtain ⟨⟨ua,ub,uu⟩,hu⟩: ∃ u,l[k]=u:=⟨_,rfl⟩
    have hrow: ∀ c v,c<2->(encU (ua,ub,uu))[c]? = some v->wr.cell? ⟨g,off+(k*2+c),none⟩=some v:=fun c v hc hv=>by
     have e1:(l.flatMap encU)[k*2+c]? = some v:=by
      have:=flat_get (enc:=encU) encU_len l k c hlt hc
      rw [this,hu,hv]
     exact (World.cell?_of_block (w:=w) (a:=⟨g,off+(k*2+c),none⟩) (HRR.out.2.1.block g hg)).trans (hcells _ _ e1)
    have z0:wr.cell? ⟨g,off+k*2,none⟩=some (.int .i64 ua):=hrow 0 _ (by omega) rfl
    have z1:wr.cell? ⟨g,off+k*2+1,none⟩=some (.int .i64 ub):=hrow 1 _ (by omega) rfl
    have HU:=Lib.hid hu
    clear hrow hcells hget hu
    have i1:((k:Nat):Int)<((l.length:Nat):Int):=by omega
    have i0:(0:Int)<=(k:Int):=by omega
    have HB2:=Lib.hid (show Below w.heap.size w (wr.alloc (.cells #[.int .i64 ua,.int .i64 ub] 35)) from HRR.out.2.1.alloc HRR.out.2.1.size _)
    have hval:=HV.out (ua,ub,uu) _ HB2.out
    obtain ⟨b,hb⟩: ∃ b,validF (ua,ub,uu)=b:=⟨_,rfl⟩
    rw [hb] at hval
    have HVAL:=Lib.hid hval
    have HVB:=Lib.hid hb
    clear hval hb
    cases b with
    |false=>
     go_wp2_with (go_at_call 46;refine HVAL.out.mono ?_;rintro e w2 ⟨rfl,hb2⟩;have HB3:=Lib.hid (show Below w.heap.size w w2 from HB2.out.trans (hb2.mono HB2.out.size));clear hb2)
     go_ret2
     have hall:l.all validF=false:=by
      rw [List.all_eq_false]
      exact ⟨l[k],List.getElem_mem _,by rw [HU.out,HVB.out];simp⟩
     have hR:=HRES.out
     rw [hall] at hR
     have hR:R=([],7):=hR
     rw [hR]
     exact HR.out 7 _ HB3.out
    |true=>
     go_wp2_with (first|(go_at_call 46;refine HVAL.out.mono ?_;rintro e w2 ⟨rfl,hb2⟩;have y0:=(hb2.cell (p:=⟨wr.heap.size,0,none⟩) (by simp)).trans (show (wr.alloc (.cells #[.int .i64 ua,.int .i64 ub] 35)).cell? ⟨wr.heap.size,0,none⟩=some (.int .i64 ua) from by simp);have y1:=(hb2.cell (p:=⟨wr.heap.size,1,none⟩) (by simp)).trans (show (wr.alloc (.cells #[.int .i64 ua,.int .i64 ub] 35)).cell? ⟨wr.heap.size,1,none⟩=some (.int .i64 ub) from by simp);have HB3:=Lib.hid (show Below w.heap.size w w2 from HB2.out.trans (hb2.mono HB2.out.size));have HP3:=Lib.hid ((HRR.out.1.grown ((Below.refl _ _).alloc (Nat.le_refl _) _)).grown hb2);clear hb2)|(go_at_call 52;refine (note_calls HP3.out 1 0 (ua,ub,uu) (by rw [List.length_map,List.length_take];omega) (HTB.out.below HB3.out)).mono ?_;rintro e w3 ⟨rfl,sv',hp3,hb3⟩;have HP4:=Lib.hid hp3;have HB4:=Lib.hid (HB3.out.trans hb3);clear hp3 hb3))
     refine ⟨⟨k+1,sv',by omega,by simp,Lib.hid ⟨?_,HB4.out, ?_⟩⟩, ?_⟩
     ·rw [List.take_succ_eq_append_getElem hlt,List.map_append,HU.out]
      exact HP4.out
     ·rw [List.take_succ_eq_append_getElem hlt,List.all_append,HRR.out.2.2,HU.out]
      simp [HVB.out]
     ·simp [intOf]
      omega
   ·obtain rfl:k=l.length:=by omega
    have i1: ¬ ((l.length:Nat):Int)<((l.length:Nat):Int):=by omega
    obtain ⟨T,hbk⟩:=HRR.out.1.bk
    have z11:wr.cell? ⟨bp,11,none⟩=some sv:=by
     simp only [World.cell?, hbk]
     rfl
    have hp:=HRR.out.1
    rw [List.take_length] at hp
    have hnrm:=norm_calls (σ:=σ) (w:=wr) (fin2_belowF HFIN.out HRR.out.2.1) (own_cK (w:=w) (w':=wr) (X:=X) encYFt HFIN.out (Nat.le_refl _) (by rw [List.length_map]) hp.own) (ntU_ok HX.out l h2)
    have hR:=HRES.out
    rw [show l.all validF=true from by have:=HRR.out.2.2;rwa [List.take_length] at this] at hR
    have HRZ:=Lib.hid (show R=nrmFd (l.map (ntU x)) from hR)
    have HN:=Lib.hid hnrm
    clear hnrm hR hbk hp
    go_wp2_with (go_at_call 53;refine HN.out.mono ?_;rintro e w' ⟨u,X',σ',rfl,hc',he'⟩;simp only [V.d,V.ds,Ty.d,C,Cs] at hc';obtain ⟨_,rfl,s',_,rfl,hs',e',_,rfl,⟨rfl,_⟩,rfl⟩:=hc')
    go_ret2
    refine ⟨_,X',σ',rfl, ?_,ends_pre HRR.out.2.1 he'⟩
    rw [HRZ.out]
    simp only [V.d,V.ds,Ty.d,C,Cs]
    exact ⟨_,rfl,_,_,rfl,hs',_,_,rfl,⟨rfl,rfl⟩,rfl⟩
 ·have hfu:fusF x l=([],r):=by
   rw [hfu,show ine r 0=true by simp [ine,h0]]
   rfl
  rw [hfu]
  clear hfu
  unfold encF
  go_enter Tryz.func14,Tryz.ntmps14
  go_wp2_with (go_at_call 51;refine HO2.out.mono ?_;rintro e w1 ⟨bp,rfl,hpad,hb1⟩;have HB1:=Lib.hid (show Below w.heap.size w w1 from HB0.out.trans (hb1.mono (by simp)));clear hpad hb1)
  go_ret2
  exact HR.out r _ HB1.out
def sp_f14:Ent:=spec (.pr tyFinding (.pr (.sl tyKeep) .nil)) (fun x=>(fusOk x.1 x.2.1)) (fun x=>(.tu [(.t (.sl tyFinding) ((fusF x.1 x.2.1).1)),(.t tI ((fusF x.1 x.2.1).2))]))
theorem en_f14:Entered Tryz.prog 14:= .inr ⟨by decide,_,Tryz.func14,by kernel_rfl,by kernel_rfl⟩
theorem ms_f14:Meets Tryz.prog 14 (strip sp_f14):=by
 unfold sp_f14
 refine meets_callsX (fun x hok X w σ vs hfin hc=> ?_)
 obtain ⟨x,l,u⟩:=x
 have hc:Cs X w σ [.ag (tyFinding.cells x),.sl l.length (l.flatMap tyKeep.cells)] vs:=hc
 obtain ⟨s1,_,rfl,hC,hc⟩:=hc
 obtain ⟨s2,rfl,hD⟩:=hc.one
 simp only [C] at hC
 obtain ⟨vs,rfl,hv⟩:=hC
 have hv:Cs X w σ ((encF x).map D.v) vs:=by rw [←encYFt.cells];exact hv
 have:=plain_run _ _ hv
 subst this
 have hD:C X w nowhere (.sl l.length (l.flatMap tyKeep.cells)) s2:=by simp only [C] at hD ⊢; exact hD
 exact fromuses_calls hfin hD hok
end Go.Proofs.YtmokmalepelinaaGreatDoor.K
