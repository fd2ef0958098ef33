import Derived.Test.YtkkoedniahnneaaDoorQ4
import Derived.Test.YtkkoedniahnneaaDoorQ3
import Derived.Shelf.Strings.Replace
import Derived.Deep.LoopGhost
set_option linter.unusedSimpArgs false
set_option linter.unusedVariables false
namespace Go.Proofs.YtkkoedniahnneaaDoor.K
open Go.RowKit
attribute [local go_sem ↓] Go.wp_at_zero Go.wp_at_succ
noncomputable section
set_option linter.unusedSectionVars false
theorem elemBlk:ElemOk Tryd.prog 35 38 4 64:=ElemOk.of (.agg #[nilS,.bool false,nilS,.int .i64 0]) (by kernel_rfl) (by kernel_rfl) (by kernel_rfl) (by decide)
structure LJ (w:World) (b:Nat) (y:ParserX) (x:ParserXX) (lv:Int) (rows:List BlkT) (cells:List Value) (q:Prop) (g:Nat) (x':ParserXX) (y':ParserX) (acc:List BlkT) (ca:List Value) (wr:World):Prop where
 eq:stX lv [] x=stX lv acc x'
 sa:SA wr b y' x' (rows++acc) (cells++ca)
 cs:Cs (XN (pall y') (pall y) w.heap.size) wr nowhere (acc.flatMap tyBlkT.cells) ca
 dp:DP (q∨(acc≠[]/\16<lv)) x' y'
 fr:FrS b (pall y) w (pall y') wr
 ms:rmX x'<=g
 rm:rmX x'<=rmX x
theorem rows_len: ∀ l:List BlkT,(l.flatMap tyBlkT.cells).length=l.length*4
 | []=>rfl
 |k::l=>by
  rw [List.flatMap_cons,List.length_append,rows_len l,Ty.cells_len tyBlkT,List.length_cons]
  show 4+l.length*4=_
  omega
theorem ca_len {X:Nat->Nat->Prop}{w:World}{l:List BlkT}{ca:List Value}(h:Cs X w nowhere (l.flatMap tyBlkT.cells) ca):ca.length=l.length*4:=by
 rw [h.len,rows_len]
theorem own_succ {w:World}{base:Nat}{e:TypeId}{size n:Nat}{v:Value}{xs:List Value}(h:w.ownsRow base e size v (n+1) xs): ∃ g c,v= .slice (some ⟨g,0,none⟩) (n+1) c:=by
 rcases h.2 with ⟨_,h0⟩|⟨g,cap,cur,rfl,_⟩
 ·omega
 ·exact ⟨g,cap,rfl⟩
theorem own_pos {w:World}{base:Nat}{e:TypeId}{size n:Nat}{v:Value}{xs:List Value}(h:w.ownsRow base e size v n xs)(hn:0<n): ∃ g c,v= .slice (some ⟨g,0,none⟩) n c:=by
 rcases h.2 with ⟨_,h0⟩|⟨g,cap,cur,rfl,_⟩
 ·omega
 ·exact ⟨g,cap,rfl⟩
theorem FrS.extN {b n:Nat}{v v' v0:Value}{w w':World}(h:FrS b v w v' w')(hb:b<n)(h0:v0.ownBlock≠some b)(hn:n<=w.heap.size):Ext0 (XN v v0 n) w (XN v' v0 n) w':=by
 refine ⟨h.fr.size,fun g o hg hx=>⟨fun hx'=> ?_, ?_⟩⟩
 ·rcases hx' with e|e
  ·exact hx (.inl e)
  ·rcases h.own with q|⟨g',q,q2⟩
   ·exact hx (.inr (q▸e))
   ·rw [q] at e
    have:=Option.some.inj e
    omega
 ·exact World.cell?_of_block (h.fr.block g hg (fun e=>hx (.inl (by rw [e];exact ⟨hb,h0⟩))) (fun e=>hx (.inr e.symm)))
theorem FrS.setg {b:Nat}{v v':Value}{w w':World}(h:FrS b v w v' w')(p:Addr)(u:Value)(hp:p.block=b∨v'.ownBlock=some p.block):FrS b v w v' (w'.setCell p u):=by
 refine ⟨⟨h.fr.os,h.fr.tape,h.fr.output,by simpa [World.setCell] using h.fr.size,fun j hj h1 h2=>(Below.heap_setCell _ _ _ _ (fun e=> ?_)).trans (h.fr.block j hj h1 h2)⟩,h.own⟩
 rcases hp with q|q
 ·omega
 ·rcases h.own with r|⟨g',r,r2⟩
  ·rw [r] at q
   exact h2 (by rw [e,q])
  ·rw [r] at q
   have:=Option.some.inj q
   omega
theorem FrS.app {b:Nat}{v v':Value}{w w1 w':World}(h:FrS b v w v w1)(k:w1.grownBy w' v.ownBlock)(ho:v'.ownBlock=v.ownBlock∨v'.ownBlock=some w1.heap.size):FrS b v w v' w':=
 ⟨⟨k.os.trans h.fr.os,k.tape.trans h.fr.tape,k.output.trans h.fr.output,Nat.le_trans h.fr.size k.size,fun j hj h1 h2=>(k.block j (Nat.lt_of_lt_of_le hj h.fr.size) h2).trans (h.fr.block j hj h1 h2)⟩,ho.imp id (fun e=>⟨_,e,h.fr.size⟩)⟩
theorem set4_app: ∀ (xs:List Value) (a b c d p q r s:Value),(((((xs++[a,b,c,d]).set xs.length p).set (xs.length+1) q).set (xs.length+2) r).set (xs.length+3) s)=xs++[p,q,r,s]
 | [],a,b,c,d,p,q,r,s=>rfl
 |x::xs,a,b,c,d,p,q,r,s=>by
  have:=set4_app xs a b c d p q r s
  simp only [List.cons_append,List.length_cons]
  rw [show xs.length+1+1=(xs.length+1)+1 from rfl,show xs.length+1+2=(xs.length+2)+1 by omega,show xs.length+1+3=(xs.length+3)+1 by omega]
  simp only [List.set_cons_succ,this]
theorem own_put4 {w:World}{B g n cap k:Nat}{e:TypeId}{xs:List Value}{a b c d:Value}(h:w.ownsRow B e 4 (.slice (some ⟨g,0,none⟩) n cap) n (xs++[a,b,c,d]))(hk:k=xs.length)(p q r s:Value):
  ((((w.setCell ⟨g,k,none⟩ p).setCell ⟨g,k+1,none⟩ q).setCell ⟨g,k+2,none⟩ r).setCell ⟨g,k+3,none⟩ s).ownsRow B e 4 (.slice (some ⟨g,0,none⟩) n cap) n (xs++[p,q,r,s]):=by
 subst hk
 rw [←set4_app xs a b c d p q r s]
 exact ((((((h.stored _ p).1).stored _ q).1.stored _ r).1).stored _ s).1
theorem lj_next {w:World}{b:Nat}{y:ParserX}{x:ParserXX}{lv:Int}{rows:List BlkT}{cells:List Value}{q:Prop}{g:Nat}{x':ParserXX}{y':ParserX}{acc:List BlkT}{ca:List Value}{wr w1 wF:World}{k:BlkT}{z:ParserXX}{y1 y2:ParserX}{vs:List Value}{v':Value}
  (HJ:LJ w b y x lv rows cells q g x' y' acc ca wr) (hb:b<w.heap.size) (h0:(pall y).ownBlock≠some b) (h1:x'.2.1.1=119) (h2:x'.2.1.2.2.1=true) (hst:st1 lv x'= .inl (k,z)) (hsa:SA w1 b y1 z (rows++acc) (cells++ca)) (hdp:DP ((q∨(acc≠[]/\16<lv))∨16<lv) z y1) (hrm:rmX z+1<=rmX x')
  (hcs:Cs (XN (pall y1) (pall y') wr.heap.size) w1 nowhere (tyBlkT.cells k) vs) (hfr:FrS b (pall y') wr (pall y1) w1) (hF:FrS b (pall y1) w1 v' wF) (hy:y2=(y1.1,(y1.2.1,(y1.2.2.1,(y1.2.2.2.1,(v',())))))) (hQ:QB wF b y2)
  (hown:wF.ownsRow (b+1) 38 4 v' ((rows++acc).length+1) ((cells++ca)++vs)):
  LJ w b y x lv rows cells q (rmX z) z y2 (acc++[k]) (ca++vs) wF:=by
 have hsz:=HJ.fr.fr.size
 have hpl: ∀ g,(pall y').ownBlock=some g->b+1<=g:=fun g e=>(HJ.sa.row.own.lt g e).1
 have hall:pall y2=v':=by rw [hy]
 have e1:(rows++(acc++[k])).length=(rows++acc).length+1:=by rw [←List.append_assoc,List.length_append,List.length_singleton]
 have hk1:([k]:List BlkT).flatMap tyBlkT.cells=tyBlkT.cells k:=by rw [List.flatMap_cons,List.flatMap_nil,List.append_nil]
 refine ⟨?_,⟨hQ, ?_,hsa.ok,hsa.ln,hsa.err,⟨?_, ?_⟩,hsa.sz, ?_⟩, ?_, ?_, ?_,Nat.le_refl _, ?_⟩
 ·rw [HJ.eq,st1_eq HJ.sa.ok HJ.sa.err h1 h2 lv acc,hst]
 ·rw [hy]
  exact ⟨hsa.tok.kind,hsa.tok.line,hsa.tok.text,hsa.tok.body,hsa.tok.at_,hsa.tok.end_,hsa.tok.k6⟩
 ·rw [hall,e1, ← List.append_assoc]
  exact hown
 ·rw [hall, ← List.append_assoc, ← List.append_assoc,List.flatMap_append,hk1]
  refine Cs.app (Cs.ext0 hF.ext _ _ (by rw [rows_refs];simp) hsa.row.cs) (Cs.ext0 hF.ext _ _ (by rw [Ty.refs_cells];simp) (Cs.less hcs (fun g q hx=>hx.imp (fun h=>⟨by omega,fun e=>by have:=hpl g e;omega⟩) id) (Ty.refs_cells _ _)))
 ·rw [e1]
  have:=HJ.sa.len
  omega
 ·rw [hall,List.flatMap_append,hk1]
  refine Cs.app (Cs.ext0 ((hfr.trans hF).extN hb h0 hsz) _ _ (by rw [rows_refs];simp) HJ.cs) (Cs.ext0 (hF.extN hb h0 (Nat.le_trans hsz hfr.fr.size)) _ _ (by rw [Ty.refs_cells];simp) (Cs.less hcs (fun g q hx=>hx.imp (fun h=>⟨Nat.lt_of_lt_of_le h.1 hsz,fun e=>by rcases HJ.fr.own with q|⟨g',q,q2⟩;exact h.2 (q▸e);rw [q] at e;have:=Option.some.inj e;omega⟩) id) (Ty.refs_cells _ _)))
 ·unfold DP at hdp ⊢
  rw [hdp,hy]
  constructor
  ·rintro (h|h|(h|h)|h)
   ·exact .inl h
   ·exact .inr (.inl h)
   ·exact .inr (.inr (.inl h))
   ·exact .inr (.inr (.inr ⟨by simp,h.2⟩))
   ·exact .inr (.inr (.inr ⟨by simp,h⟩))
  ·rintro (h|h|h|h)
   ·exact .inl h
   ·exact .inr (.inl h)
   ·exact .inr (.inr (.inl (.inl h)))
   ·exact .inr (.inr (.inr h.2))
 ·rw [hall]
  exact (HJ.fr.trans hfr).trans hF
 ·have:=HJ.rm
  omega
theorem kindT_6 {x:ParserXX}{y:ParserX}(ht:PTok x y)(h0:x.2.1.1≠0):y.2.1.1≠6:=fun h=>h0 (ht.k6 h)
theorem stx_end {x:ParserXX}{y:ParserX}(hx:okR x=true)(he:x.2.2.1=0)(ht:PTok x y)(hk:y.2.1.1≠3)(lv:Int)(acc:List BlkT):
  stX lv acc x=(acc,x)∨(stX lv acc x=(acc,flD x)/\x.2.1.1≠0/\x.2.1.1≠125):=by
 rw [stX_eq hx,he]
 by_cases h0:x.2.1.1=0
 ·rw [h0]
  exact .inl rfl
 ·by_cases h125:x.2.1.1=125
  ·rw [h125]
   exact .inl rfl
  ·refine .inr ⟨?_,h0,h125⟩
   rw [show ine x.2.1.1 0=true from bne_iff_ne.2 h0,show ine x.2.1.1 125=true from bne_iff_ne.2 h125]
   have:(ine x.2.1.1 119|| !x.2.1.2.2.1)=true:=by
    by_cases h119:x.2.1.1=119
    ·cases hp:x.2.1.2.2.1 with
     |false=>simp
     |true=>
      refine absurd ?_ hk
      rw [ht.kind]
      unfold kindT
      rw [h119,hp]
      rfl
    ·rw [show ine x.2.1.1 119=true from bne_iff_ne.2 h119]
     rfl
   rw [this]
   rfl
theorem Sl.pre {w:World}{A:Option Addr}{n c size:Nat}{xs:List Value}(h:Sl w (.slice A n c) size n xs)(k:Nat)(hk:k<=n):Sl w (.slice A k c) size k (xs.take (k*size)):=by
 obtain ⟨h1,A',c',hv,h2,h3,h4⟩:=h
 injection hv with e1 _ e2
 subst e1 e2
 have hm:k*size<=n*size:=Nat.mul_le_mul_right _ hk
 refine ⟨by rw [List.length_take,h1,Nat.min_eq_left hm],_,_,rfl,by omega,h3,fun hp=> ?_⟩
 obtain ⟨b,off,e,hb,hc⟩:=h4 (by omega)
 refine ⟨b,off,e,hb,fun j u hu=>hc j u ?_⟩
 have hj:j<k*size:=by
  have:=(List.getElem?_eq_some_iff.1 hu).1
  simp at this
  omega
 rwa [List.getElem?_take_of_lt hj] at hu
theorem FrS.new_ {b:Nat}{v v1 v':Value}{w w1 w':World}{r:Option Nat}(h:FrS b v w v1 w1)(k:w1.grownBy w' r)(hr: ∀ g,r=some g->w.heap.size<=g)(ho: ∃ g,v'.ownBlock=some g/\w.heap.size<=g):FrS b v w v' w':=
 ⟨⟨k.os.trans h.fr.os,k.tape.trans h.fr.tape,k.output.trans h.fr.output,Nat.le_trans h.fr.size k.size,fun j hj h1 h2=>(k.block j (Nat.lt_of_lt_of_le hj h.fr.size) (fun e=>by have:=hr j e.symm;omega)).trans (h.fr.block j hj h1 h2)⟩,.inr ho⟩
theorem dp_nil {q:Prop}{x:ParserXX}{y y3:ParserX}{lv:Int}(h:DP (q∨(([]:List BlkT)≠[]/\16<lv)) x y)(h1:y3.2.2.1=y.2.2.1)(h2:y3.2.2.2.1=y.2.2.2.1):DP q x y3:=by
 unfold DP at h ⊢
 rw [h,h1,h2]
 simp
theorem dp_max {q:Prop}{x:ParserXX}{y y3:ParserX}{lv:Int}{acc:List BlkT}(ha:acc≠[])(h:DP (q∨(acc≠[]/\16<lv)) x y)(h1:y3.2.2.1=y.2.2.1)(h2:y3.2.2.2.1=max y.2.2.2.1 lv):DP q x y3:=by
 unfold DP at h ⊢
 rw [h,h1,h2]
 simp only [ne_eq,ha,not_false_eq_true,true_and]
 constructor
 ·rintro (h|h|h|h)
  ·exact .inl (by omega)
  ·exact .inr (.inl h)
  ·exact .inr (.inr h)
  ·exact .inl (by omega)
 ·rintro (h|h|h)
  ·by_cases h2:16<lv
   ·exact .inr (.inr (.inr h2))
   ·exact .inl (by omega)
  ·exact .inr (.inl h)
  ·exact .inr (.inr (.inl h))
theorem fin_stmts {w:World}{b:Nat}{y:ParserX}{x:ParserXX}{lv:Int}{rows:List BlkT}{cells:List Value}{q:Prop}{g:Nat}{x':ParserXX}{y' y3:ParserX}{acc:List BlkT}{ca:List Value}{wr wF:World}{v' sv:Value}{dep:Int}
  (HS:SA w b y x rows cells) (HJ:LJ w b y x lv rows cells q g x' y' acc ca wr) (hk:y'.2.1.1≠3) (hy:y3=(y'.1,(y'.2.1,(y'.2.2.1,(dep,(v',())))))) (hd:DP q x' y3) (hQ:QB wF b y3)
  (hown:wF.ownsRow (b+1) 38 4 v' rows.length cells) (hF:FrS b (pall y) w v' wF) (hC:C (XN v' (pall y) w.heap.size) wF nowhere (.sl acc.length (acc.flatMap tyBlkT.cells)) sv):
  StmtsPost b y x lv rows cells w q (.returned (.tuple #[sv,.bool true])) wF:=by
 have hall:pall y3=v':=by rw [hy]
 have ht:PTok x' y3:=by
  rw [hy]
  exact ⟨HJ.sa.tok.kind,HJ.sa.tok.line,HJ.sa.tok.text,HJ.sa.tok.body,HJ.sa.tok.at_,HJ.sa.tok.end_,HJ.sa.tok.k6⟩
 have hk3:y3.2.1.1≠3:=by rw [hy];exact hk
 rcases stx_end HJ.sa.ok HJ.sa.err HJ.sa.tok hk lv acc with h|⟨h,h0,h125⟩
 ·have e:stX lv [] x=(acc,x'):=HJ.eq.trans h
  refine .inl ⟨sv,y3,rfl, ?_, ?_, ?_, ?_,hk3, ?_, ?_⟩
  ·rw [e]
   exact HJ.sa.err
  ·rw [e]
   refine ⟨hQ,ht,HJ.sa.ok,HJ.sa.ln,HJ.sa.err, ?_,HJ.sa.sz, ?_⟩
   ·rw [hall]
    exact ⟨hown,Cs.ext0 hF.ext _ _ (by rw [rows_refs];simp) HS.row.cs⟩
   ·have:=HJ.sa.len
    have h2:(rows++acc).length=rows.length+acc.length:=List.length_append
    show rows.length+rmX x'<=20000
    omega
  ·rw [e]
   exact hd
  ·rw [e]
   exact HJ.rm
  ·rw [e,hall]
   exact hC
  ·rw [hall]
   exact hF
 ·have e:stX lv [] x=(acc,flD x'):=HJ.eq.trans h
  refine .inr ⟨sv,y3,true,rfl, ?_,hQ, ?_,fun _=>⟨fun h2=> ?_,kindT_6 ht h0⟩,hF.fr⟩
  ·rw [e]
   exact bne_iff_ne.1 (fl_err HJ.sa.ok)
  ·rw [e]
   exact fl_line ht HJ.sa.err
  ·exact h125 (kindT_2 (ht.kind.symm.trans h2))
theorem win_c {w:World}{b:Nat}{y:ParserX}{x:ParserXX}{lv:Int}{rows:List BlkT}{cells:List Value}{q:Prop}{g:Nat}{x':ParserXX}{y':ParserX}{acc:List BlkT}{ca:List Value}{wr wF:World}{v':Value}{gb N c1:Nat}
  (HS:SA w b y x rows cells) (HJ:LJ w b y x lv rows cells q g x' y' acc ca wr) (hall:pall y'= .slice (some ⟨gb,0,none⟩) N c1) (hN:N=(rows++acc).length)
  (hF:FrS b (pall y') wr v' wF) (hnew: ∃ g,v'.ownBlock=some g/\wr.heap.size<=g) (hsame:wF.heap[gb]? = wr.heap[gb]?):
  C (XN v' (pall y) w.heap.size) wF nowhere (.sl acc.length (acc.flatMap tyBlkT.cells)) (.slice (some ⟨gb,rows.length*4,none⟩) (N-rows.length) (N-rows.length)):=by
 have hown:=HJ.sa.row.own
 rw [hall, ← hN] at hown
 have hgl:=hown.lt gb rfl
 have hcl:cells.length=rows.length*4:=HS.row.own.1
 have hca:ca.length=acc.length*4:=ca_len HJ.cs
 have hNl:N=rows.length+acc.length:=by rw [hN,List.length_append]
 have hsz:=HJ.fr.fr.size
 have h0:(pall y).ownBlock≠some b:=fun e=>by have:=(HS.row.own.lt b e).1;omega
 have hm:N<=maxLen:=by
  obtain ⟨_,A,c,e,h2,h3,_⟩:=Sl.of_own hown
  injection e with _ e2 e3
  omega
 simp only [C]
 refine ⟨_,N-rows.length,by rw [show N-rows.length=acc.length by omega],by omega,by omega,fun h=> ?_,fun h=> ?_⟩
 ·rw [List.eq_nil_of_length_eq_zero h]
  rfl
 ·refine ⟨gb,rows.length*4,ca,rfl,Cs.ext0 (hF.extN HS.blk.lt h0 hsz) _ _ (by rw [rows_refs];simp) HJ.cs,Nat.lt_of_lt_of_le hgl.2 hF.fr.size,fun j _ hx=> ?_,fun j u hu=> ?_,Cs.cell1 HJ.cs ?_⟩
  ·rcases hx with ⟨e1,e2⟩|e
   ·rcases HJ.fr.own with q|⟨g',q,q2⟩
    ·rw [hall] at q
     exact e2 q.symm
    ·rw [hall] at q
     have h7:gb=g':=Option.some.inj q
     omega
   ·obtain ⟨g',q,q2⟩:=hnew
    rw [q] at e
    have h7:g'=gb:=Option.some.inj e
    omega
  ·have hj:j<ca.length:=(List.getElem?_eq_some_iff.1 hu).1
   have h1:wr.cell? ⟨gb,rows.length*4+j,none⟩=some u:=by
    rw [hown.cellAt (rows.length*4+j) (show rows.length*4+j<N*4 by omega), ← hcl,List.getElem?_append_right (by omega),Nat.add_sub_cancel_left]
    exact hu
   exact (World.cell?_of_block hsame).trans h1
  ·rw [List.all_flatMap]
   exact List.all_eq_true.2 fun k _=>Ty.cells_cell1 tyBlkT k
theorem kindT_3 {t:TokenX}(h:kindT t=3):t.1=119/\t.2.2.1=true:=by
 unfold kindT at h
 by_cases h1:t.1=119
 ·refine ⟨h1, ?_⟩
  rw [h1] at h
  cases hp:t.2.2.1 with
  |true=>rfl
  |false=>rw [hp] at h;exact absurd h (by decide)
 ·rw [ne_ieq h1] at h
  revert h
  cases t.2.2.1<;>cases ieq t.1 59<;>cases ieq t.1 123<;>cases ieq t.1 125<;>cases ieq t.1 63<;>exact fun h=>absurd h (by decide)
theorem vs_form {X:Nat->Nat->Prop}{w:World}{k:BlkT}{vs:Array Value}(h:Cs X w nowhere (tyBlkT.cells k) vs.toList): ∃ A n c o A2 n2 c2 ln,vs= #[.slice A n c,.bool o,.slice A2 n2 c2,.int .i64 ln]:=by
 have h:Cs X w nowhere [.sl k.1.length (k.1.flatMap (Ty.cells .str)),.v (.bool k.2.1),.sl k.2.2.1.length (Blk.dss k.2.2.1),.v (.int .i64 k.2.2.2.1)] vs.toList:=h
 simp only [Cs,C] at h
 obtain ⟨u1,r1,e1,⟨A,c,rfl,_⟩,u2,r2,rfl,⟨rfl,_⟩,u3,r3,rfl,⟨A2,c2,rfl,_⟩,u4,r4,rfl,⟨rfl,_⟩,rfl⟩:=h
 exact ⟨A,_,c,_,A2,_,c2,_,Array.toList_inj.1 e1⟩
set_option maxHeartbeats 4000000 in
theorem stmts_any (m:Nat)(IH:StmtOK m):StmtsOK m:=by
 intro b y x lv rows cells w q hs hdp hlv hlvm hrm
 have HS:=Lib.hid hs
 have HDP:=Lib.hid hdp
 have HIH:=Lib.hid IH
 have HRM:=Lib.hid hrm
 have HLV:=Lib.hid (And.intro hlv hlvm)
 obtain ⟨A0,c0,hall⟩:=own_slice hs.row.own
 have z9:=hs.blk.cell 9
 simp only [pcs,List.getElem?_toArray,List.getElem?_cons_zero,List.getElem?_cons_succ] at z9
 rw [show y.2.2.2.2.1= .slice A0 rows.length c0 from hall] at z9
 have HALL:=Lib.hid hall
 clear hs hdp hrm hlv hlvm IH hall
 go_enter Tryd.func80,Tryd.ntmps80
 go_wp2_with fail
 have HLJ:Hid (LJ w b y x lv rows cells q (rmX x) x y [] [] w):=Lib.hid ⟨rfl,by rw [List.append_nil,List.append_nil];exact HS.out,by simp [Cs],by
   have:=HDP.out
   unfold DP at this ⊢
   simpa using this,FrS.refl _ _ _,Nat.le_refl _,Nat.le_refl _⟩
 go_loopg [16] (rmX x) (fun g _ wr=> ∃ x' y' acc ca,Hid (LJ w b y x lv rows cells q g x' y' acc ca wr))
 case atStart=>exact ⟨_,_,_,_,HLJ⟩
 case round=>
  obtain ⟨x',y',acc,ca,HJ⟩:=hrel
  clear HLJ
  have z4:=HJ.out.sa.blk.cell 4
  simp only [pcs,List.getElem?_toArray,List.getElem?_cons_zero,List.getElem?_cons_succ] at z4
  by_cases hk:y'.2.1.1=3
  ·rw [hk] at z4
   have hkt:=kindT_3 (HJ.out.sa.tok.kind.symm.trans hk)
   have HK3:=Lib.hid hk
   clear hk
   go_wp2_with fail
   refine (HIH.out b y' x' lv (rows++acc) (cells++ca) wr (q∨(acc≠[]/\16<lv)) HJ.out.sa hkt.1 hkt.2 HJ.out.dp HLV.out.1 (by have:=HLV.out.2;have:=HJ.out.rm;omega) (by have:=HRM.out;have:=HJ.out.rm;omega)).mono ?_
   rintro e w1 hpost
   clear z4
   have HKT:=Lib.hid hkt
   clear hkt
   rcases hpost with ⟨k,z,vs,y1,hst,rfl,hsa1,hdp1,hrm1,hcs1,hfr1⟩|⟨A,n,c,ln,z,y1,hst,rfl,herr,hQ1,hline,hfr1⟩
   ·obtain ⟨Aw,nw,cw,ob,Ai,ni,ci,ln,hvs⟩:=vs_form hcs1
    subst hvs
    have HST:=Lib.hid hst
    have HSA1:=Lib.hid hsa1
    have HDP1:=Lib.hid hdp1
    have HRM1:=Lib.hid hrm1
    have HCS1:=Lib.hid hcs1
    have HFR1:=Lib.hid hfr1
    clear hst hsa1 hdp1 hrm1 hcs1 hfr1
    go_wp2_with fail
    obtain ⟨A1,c1,hall1⟩:=own_slice HSA1.out.row.own
    obtain ⟨N,hN⟩: ∃ N,N=(rows++acc).length:=⟨_,rfl⟩
    rw [←hN] at hall1
    obtain ⟨bb,hbb⟩: ∃ bb,bb=w1.heap.size:=⟨_,rfl⟩
    obtain ⟨w2,hw2⟩: ∃ w2,w2=w1.alloc (Obj.cells #[Value.slice Aw nw cw,Value.bool ob,Value.slice Ai ni ci,Value.int .i64 ln] 38):=⟨_,rfl⟩
    have HB2:Hid (QB w2 b y1):=Lib.hid (by rw [hw2];exact HSA1.out.blk.alloc _)
    have HBK2:Hid (Go.Proofs.YtkkoedniahnneaaDoor.Blk w2 bb 38 #[Value.slice Aw nw cw,Value.bool ob,Value.slice Ai ni ci,Value.int .i64 ln]):=Lib.hid (by rw [hw2,hbb];exact Go.Proofs.YtkkoedniahnneaaDoor.Blk.new w1 _ _)
    have HFS2:Hid (FrS b (pall y') wr (pall y1) w2):=Lib.hid (HFR1.out.trans (FrS.bel (by rw [hw2];exact (Below.refl _ _).alloc (Nat.le_refl _) _)))
    have HROW2:Hid (w2.ownsRow (b+1) 38 4 (.slice A1 N c1) N (cells++ca)):=Lib.hid (by rw [hw2, ← hall1,hN];exact HSA1.out.row.own.alloc _)
    have HF12:Hid (Below w1.heap.size w1 w2):=Lib.hid (by rw [hw2];exact (Below.refl _ _).alloc (Nat.le_refl _) _)
    have HBB:=Lib.hid hbb
    have HNN:=Lib.hid hN
    have HA1:Hid (pall y1= .slice A1 N c1):=Lib.hid hall1
    rw [←hw2, ← hbb]
    clear hw2 hbb hN hall1
    have z9:=HB2.out.cell 9
    have b0:=HBK2.out.cell 0
    have b1:=HBK2.out.cell 1
    have b2:=HBK2.out.cell 2
    have b3:=HBK2.out.cell 3
    simp only [pcs,List.getElem?_toArray,List.getElem?_cons_zero,List.getElem?_cons_succ] at z9 b0 b1 b2 b3
    rw [show y1.2.2.2.2.1= .slice A1 N c1 from HA1.out] at z9
    have ha:=HBK2.out.alloc (.cells #[nilS,.bool false,nilS,.int .i64 0] 38)
    have a0:=ha.cell 0
    have a1:=ha.cell 1
    have a2:=ha.cell 2
    have a3:=ha.cell 3
    have hz:=(HB2.out.alloc (.cells #[nilS,.bool false,nilS,.int .i64 0] 38)).cell 9
    simp only [pcs,List.getElem?_toArray,List.getElem?_cons_zero,List.getElem?_cons_succ] at a0 a1 a2 a3 hz
    rw [show y1.2.2.2.2.1= .slice A1 N c1 from HA1.out] at hz
    have HAL:=Lib.hid (And.intro a0 (And.intro a1 (And.intro a2 a3)))
    clear ha a0 a1 a2 a3
    refine wp_region_held_drew (S:=fun w'=>w'.cell? ⟨bb,0,none⟩=some (.slice Aw nw cw)/\w'.cell? ⟨bb,1,none⟩=some (.bool ob)/\w'.cell? ⟨bb,2,none⟩=some (.slice Ai ni ci)/\w'.cell? ⟨bb,3,none⟩=some (.int .i64 ln)) (by kernel_rfl) ⟨b0,b1,b2,b3⟩ (fun hS=> ?_)
    refine anyH_val 0 30 (.pointer (some ⟨b,0,none⟩)) (by assumption) rfl (by kernel_rfl) (by kernel_rfl) (by kernel_rfl) (fun o ho=>by cases ho;exact ⟨rfl,fun w hw=>by (try dsimp only at hw);(try obtain ⟨hw0,hw1,hw2,hw3⟩:=hw);go_simp⟩) (fun _ _ _ _ _ h=>h) ?_
    simp only [List.setIfInBounds_toArray,List.set_cons_zero,List.set_cons_succ]
    refine anyH_val 1 31 (.pointer (some ⟨b,0,none⟩)) (by assumption) rfl (by kernel_rfl) (by kernel_rfl) (by kernel_rfl) (fun o ho=>by cases ho;exact ⟨rfl,fun w hw=>by (try dsimp only at hw);(try obtain ⟨hw0,hw1,hw2,hw3⟩:=hw);go_simp⟩) (fun _ _ _ _ _ h=>h) ?_
    simp only [List.setIfInBounds_toArray,List.set_cons_zero,List.set_cons_succ]
    refine anyH_val 2 32 (.pointer (some ⟨b,9,none⟩)) (by assumption) rfl (by kernel_rfl) (by kernel_rfl) (by kernel_rfl) (fun o ho=>by cases ho;exact ⟨rfl,fun w hw=>by (try dsimp only at hw);(try obtain ⟨hw0,hw1,hw2,hw3⟩:=hw);go_simp⟩) (fun _ _ _ _ _ h=>h) ?_
    simp only [List.setIfInBounds_toArray,List.set_cons_zero,List.set_cons_succ]
    refine anyH_val 4 34 (.agg #[.slice Aw nw cw,.bool ob,.slice Ai ni ci,.int .i64 ln]) (by assumption) rfl (by kernel_rfl) (by kernel_rfl) (by kernel_rfl) (fun o ho=>by cases ho;exact ⟨rfl,fun w hw=>by (try dsimp only at hw);(try obtain ⟨hw0,hw1,hw2,hw3⟩:=hw);go_simp⟩) (fun _ _ _ _ _ h=>h) ?_
    simp only [List.setIfInBounds_toArray,List.set_cons_zero,List.set_cons_succ]
    refine wpAnyH_ready (rs:=[3,6]) (by kernel_rfl) (by simp) ?_
    refine AllReadyH.cons rfl (fun K hK=> ?_) (AllReadyH.cons rfl (fun K hK=> ?_) AllReadyH.nil)
    ·skip
     go_simp
     refine hK.out _ _ ⟨b0,b1,b2,b3⟩ (fun hS=> ?_)
     clear hK K
     (try simp only [Act.put,List.setIfInBounds_toArray,List.set_cons_zero,List.set_cons_succ])
     refine anyH_val 5 35 (.int .i64 ((N:Nat):Int)) (by assumption) rfl (by kernel_rfl) (by kernel_rfl) (by kernel_rfl) (fun o ho=>by cases ho;exact ⟨rfl,fun w hw=>by (try dsimp only at hw);(try obtain ⟨hw0,hw1,hw2,hw3⟩:=hw);go_simp⟩) (fun _ _ _ _ _ h=>h) ?_
     simp only [List.setIfInBounds_toArray,List.set_cons_zero,List.set_cons_succ]
     refine wpAnyH_ready (rs:=[6]) (by kernel_rfl) (by simp) ?_
     refine AllReadyH.cons rfl (fun K hK=> ?_) AllReadyH.nil
     go_simp
     refine hK.out _ _ HAL.out (fun hS=> ?_)
     clear hK K
     (try simp only [Act.put,List.setIfInBounds_toArray,List.set_cons_zero,List.set_cons_succ])
     refine wpAnyH_ready (rs:=[7]) (by kernel_rfl) (by simp) ?_
     refine AllReadyH.cons rfl (fun K hK=> ?_) AllReadyH.nil
     clear b0 b1 b2 b3
     refine step_app 37 rfl elemBlk rfl _ _ rfl (b+1) (.slice A1 N c1) N (cells++ca) rfl (HROW2.out.alloc (.cells #[nilS,.bool false,nilS,.int .i64 0] 38)) _ _ _ _ rfl (Sl.made _ _ 1 4 _ rfl (by decide)) (by simp [Value.oneCell']) (by have:=HSA1.out.len;have:=HNN.out;omega) (by decide) (by have:=HB2.out.lt;simp;omega) ?_
     intro v' w5 hown5 hg5 hat5
     obtain ⟨g,c',rfl⟩:=own_succ hown5
     have hown1: ∀ j,(Value.slice A1 N c1).ownBlock=some j->b+1<=j/\j<bb:=fun j hj=>by rw [←HA1.out] at hj;have:=HSA1.out.row.own.lt j hj;have:=HBB.out;omega
     have hG5:(w2.alloc (.cells #[nilS,.bool false,nilS,.int .i64 0] 38)).drew.grownBy w5 (Value.slice A1 N c1).ownBlock:=hg5
     have hgg:=(hown5.lt g rfl)
     have hbbl:bb<w2.heap.size:=HBK2.out.lt
     have hgb:g≠bb:=by
      rcases hat5 with e|e
      ·have:=hown1 g e.symm;omega
      ·have:=Option.some.inj e
       have h3:(w2.alloc (.cells #[nilS,.bool false,nilS,.int .i64 0] 38)).heap.size=w2.heap.size+1:=by simp
       have h4:g=(w2.alloc (.cells #[nilS,.bool false,nilS,.int .i64 0] 38)).heap.size:=this
       omega
     have hgb2:b≠g:=by omega
     have HB5:=Lib.hid ((HB2.out.alloc (.cells #[nilS,.bool false,nilS,.int .i64 0] 38)).drew.grown hG5 (fun e=>by have:=hown1 b e.symm;omega))
     have HBK5:=Lib.hid ((HBK2.out.alloc (.cells #[nilS,.bool false,nilS,.int .i64 0] 38)).drew.grown hG5 (fun e=>by have:=hown1 bb e.symm;omega))
     have HF5:Hid (FrS b (pall y1) w1 (.slice (some ⟨g,0,none⟩) (N+1) c') w5):=Lib.hid (by
      have h1:FrS b (pall y1) w1 (pall y1) (w2.alloc (.cells #[nilS,.bool false,nilS,.int .i64 0] 38)).drew:=FrS.bel ((HF12.out.trans (((Below.refl w2.heap.size w2).alloc (Nat.le_refl _) _).drew.mono HF12.out.size)))
      rw [HA1.out] at h1 ⊢
      exact h1.app hG5 hat5)
     have HOWN5:=Lib.hid hown5
     have hlen5:(cells++ca).length=N*4:=HROW2.out.1
     have n0:=(hown5.cellAt (N*4) (by omega))
     have n1:=(hown5.cellAt (N*4+1) (by omega))
     have n2:=(hown5.cellAt (N*4+2) (by omega))
     have n3:=(hown5.cellAt (N*4+3) (by omega))
     rw [←hlen5] at n0 n1 n2 n3
     simp only [List.getElem?_append_right (Nat.le_refl _),List.getElem?_append_right (Nat.le_add_right _ _),Nat.sub_self,Nat.add_sub_cancel_left,List.getElem?_cons_zero,List.getElem?_cons_succ] at n0 n1 n2 n3
     rw [hlen5] at n0 n1 n2 n3
     have fn0:=hown5.frozenAt (N*4)
     have fn1:=hown5.frozenAt (N*4+1)
     have fn2:=hown5.frozenAt (N*4+2)
     have fn3:=hown5.frozenAt (N*4+3)
     have y9:=HB5.out.cell 9
     have fy9:=HB5.out.frozen 9
     have e0:=HBK5.out.cell 0
     have e1:=HBK5.out.cell 1
     have e2:=HBK5.out.cell 2
     have e3:=HBK5.out.cell 3
     simp only [pcs,List.getElem?_toArray,List.getElem?_cons_zero,List.getElem?_cons_succ] at y9 e0 e1 e2 e3
     have HLEN5:=Lib.hid hlen5
     have HGB:=Lib.hid hgb
     have HGB2:=Lib.hid hgb2
     have hNN:((N:Nat):Int)<((N+1:Nat):Int):=by omega
     clear hown5 hg5 hat5 hG5 hown1 hgg hlen5 hgb hgb2 hz hbbl
     refine hK.out _ _ ⟨e0,e1,e2,e3⟩ (fun hS=> ?_)
     clear hK K
     (try simp only [Act.put,List.setIfInBounds_toArray,List.set_cons_zero,List.set_cons_succ])
     refine anyH_val 8 38 (.pointer (some ⟨g,N*4,none⟩)) (by assumption) rfl (by kernel_rfl) (by kernel_rfl) (by kernel_rfl) (fun o ho=>by cases ho;exact ⟨rfl,fun w hw=>by (try dsimp only at hw);(try obtain ⟨hw0,hw1,hw2,hw3⟩:=hw);(go_simp;(try (intro h;exfalso;omega)))⟩) (fun _ _ _ _ _ h=>h) ?_
     simp only [List.setIfInBounds_toArray,List.set_cons_zero,List.set_cons_succ]
     refine anyH_val 10 39 (.pointer (some ⟨b,0,none⟩)) (by assumption) rfl (by kernel_rfl) (by kernel_rfl) (by kernel_rfl) (fun o ho=>by cases ho;exact ⟨rfl,fun w hw=>by (try dsimp only at hw);(try obtain ⟨hw0,hw1,hw2,hw3⟩:=hw);go_simp⟩) (fun _ _ _ _ _ h=>h) ?_
     simp only [List.setIfInBounds_toArray,List.set_cons_zero,List.set_cons_succ]
     refine anyH_val 11 40 (.pointer (some ⟨b,9,none⟩)) (by assumption) rfl (by kernel_rfl) (by kernel_rfl) (by kernel_rfl) (fun o ho=>by cases ho;exact ⟨rfl,fun w hw=>by (try dsimp only at hw);(try obtain ⟨hw0,hw1,hw2,hw3⟩:=hw);go_simp⟩) (fun _ _ _ _ _ h=>h) ?_
     simp only [List.setIfInBounds_toArray,List.set_cons_zero,List.set_cons_succ]
     refine wpAnyH_ready (rs:=[9,12]) (by kernel_rfl) (by simp) ?_
     refine AllReadyH.cons rfl (fun K hK=> ?_) (AllReadyH.cons rfl (fun K hK=> ?_) AllReadyH.nil)
     ·skip
      go_simp
      have hkk:=((((HBK5.out.far (p:=⟨g,N*4,none⟩) (fun e=>HGB.out e.symm) (.slice Aw nw cw)).far (p:=⟨g,N*4+1,none⟩) (fun e=>HGB.out e.symm) (.bool ob)).far (p:=⟨g,N*4+2,none⟩) (fun e=>HGB.out e.symm) (.slice Ai ni ci)).far (p:=⟨g,N*4+3,none⟩) (fun e=>HGB.out e.symm) (.int .i64 ln))
      have e0':=hkk.cell 0
      have e1':=hkk.cell 1
      have e2':=hkk.cell 2
      have e3':=hkk.cell 3
      simp only [List.getElem?_toArray,List.getElem?_cons_zero,List.getElem?_cons_succ] at e0' e1' e2' e3'
      refine hK.out _ _ ⟨e0',e1',e2',e3'⟩ (fun hS=> ?_)
      clear hK K
      (try simp only [Act.put,List.setIfInBounds_toArray,List.set_cons_zero,List.set_cons_succ])
      have y9':=(((((HB5.out.far (p:=⟨g,N*4,none⟩) (fun e=>HGB2.out e) (.slice Aw nw cw)).far (p:=⟨g,N*4+1,none⟩) (fun e=>HGB2.out e) (.bool ob)).far (p:=⟨g,N*4+2,none⟩) (fun e=>HGB2.out e) (.slice Ai ni ci)).far (p:=⟨g,N*4+3,none⟩) (fun e=>HGB2.out e) (.int .i64 ln))).cell 9
      have fy9':=(((((HB5.out.far (p:=⟨g,N*4,none⟩) (fun e=>HGB2.out e) (.slice Aw nw cw)).far (p:=⟨g,N*4+1,none⟩) (fun e=>HGB2.out e) (.bool ob)).far (p:=⟨g,N*4+2,none⟩) (fun e=>HGB2.out e) (.slice Ai ni ci)).far (p:=⟨g,N*4+3,none⟩) (fun e=>HGB2.out e) (.int .i64 ln))).frozen 9
      simp only [pcs,List.getElem?_toArray,List.getElem?_cons_zero,List.getElem?_cons_succ] at y9'
      refine wpAnyH_ready (rs:=[12]) (by kernel_rfl) (by simp) ?_
      refine AllReadyH.cons rfl (fun K hK=> ?_) AllReadyH.nil
      go_simp
      have hkl:=((((HBK5.out.far (p:=⟨g,N*4,none⟩) (fun e=>HGB.out e.symm) (.slice Aw nw cw)).far (p:=⟨g,N*4+1,none⟩) (fun e=>HGB.out e.symm) (.bool ob)).far (p:=⟨g,N*4+2,none⟩) (fun e=>HGB.out e.symm) (.slice Ai ni ci)).far (p:=⟨g,N*4+3,none⟩) (fun e=>HGB.out e.symm) (.int .i64 ln)).far (p:=⟨b,9,none⟩) (by have:=HBB.out;have:=HSA1.out.blk.lt;show bb≠b;omega) (Value.slice (some ⟨g,0,none⟩) (N+1) c')
      have f0':=hkl.cell 0
      have f1':=hkl.cell 1
      have f2':=hkl.cell 2
      have f3':=hkl.cell 3
      simp only [List.getElem?_toArray,List.getElem?_cons_zero,List.getElem?_cons_succ] at f0' f1' f2' f3'
      refine hK.out _ _ ⟨f0',f1',f2',f3'⟩ (fun hS=> ?_)
      clear hK K
      (try simp only [Act.put,List.setIfInBounds_toArray,List.set_cons_zero,List.set_cons_succ])
      refine wpAnyH_done (by kernel_rfl) ?_ _
      clear e0' e1' e2' e3' f0' f1' f2' f3' y9' fy9' hkk hkl
      clear hS
      have HJN:=Lib.hid (lj_next (y2:=(y1.1,(y1.2.1,(y1.2.2.1,(y1.2.2.2.1,(Value.slice (some ⟨g,0,none⟩) (N+1) c',())))))) HJ.out (Nat.lt_of_lt_of_le HS.out.blk.lt (Nat.le_refl _)) (fun e=>by have:=(HS.out.row.own.lt b e).1;omega) HKT.out.1 HKT.out.2 HST.out HSA1.out HDP1.out HRM1.out HCS1.out HFR1.out (((((HF5.out.setg ⟨g,N*4,none⟩ (.slice Aw nw cw) (.inr rfl)).setg ⟨g,N*4+1,none⟩ (.bool ob) (.inr rfl)).setg ⟨g,N*4+2,none⟩ (.slice Ai ni ci) (.inr rfl)).setg ⟨g,N*4+3,none⟩ (.int .i64 ln) (.inr rfl)).setg ⟨b,9,none⟩ (Value.slice (some ⟨g,0,none⟩) (N+1) c') (.inl rfl)) rfl (((((HB5.out.far (p:=⟨g,N*4,none⟩) (fun e=>HGB2.out e) (.slice Aw nw cw)).far (p:=⟨g,N*4+1,none⟩) (fun e=>HGB2.out e) (.bool ob)).far (p:=⟨g,N*4+2,none⟩) (fun e=>HGB2.out e) (.slice Ai ni ci)).far (p:=⟨g,N*4+3,none⟩) (fun e=>HGB2.out e) (.int .i64 ln)).set_ 9 (Value.slice (some ⟨g,0,none⟩) (N+1) c') _ rfl) (by rw [←HNN.out];exact (ownsRow_setCell_below (own_put4 HOWN5.out HLEN5.out.symm (.slice Aw nw cw) (.bool ob) (.slice Ai ni ci) (.int .i64 ln)) (a:=⟨b,9,none⟩) (Nat.lt_succ_self b) (Value.slice (some ⟨g,0,none⟩) (N+1) c'))))
      clear n0 n1 n2 n3 fn0 fn1 fn2 fn3 y9 fy9 e0 e1 e2 e3 z9
      go_wp2_with fail
      go_roundg (rmX z)
      case measure=>have:=HJ.out.ms;have:=HRM1.out;omega
      case rel=>exact ⟨_,_,_,_,HJN⟩
     ·skip
      go_simp
      have hkk:=HBK5.out.far (p:=⟨b,9,none⟩) (by have:=HBB.out;have:=HSA1.out.blk.lt;show bb≠b;omega) (Value.slice (some ⟨g,0,none⟩) (N+1) c')
      have e0':=hkk.cell 0
      have e1':=hkk.cell 1
      have e2':=hkk.cell 2
      have e3':=hkk.cell 3
      simp only [List.getElem?_toArray,List.getElem?_cons_zero,List.getElem?_cons_succ] at e0' e1' e2' e3'
      refine hK.out _ _ ⟨e0',e1',e2',e3'⟩ (fun hS=> ?_)
      clear hK K
      (try simp only [Act.put,List.setIfInBounds_toArray,List.set_cons_zero,List.set_cons_succ])
      have HO6:=Lib.hid (ownsRow_setCell_below HOWN5.out (a:=⟨b,9,none⟩) (Nat.lt_succ_self b) (Value.slice (some ⟨g,0,none⟩) (N+1) c'))
      have m0:=(HO6.out.cellAt (N*4) (by have:=HLEN5.out;omega))
      have m1:=(HO6.out.cellAt (N*4+1) (by have:=HLEN5.out;omega))
      have m2:=(HO6.out.cellAt (N*4+2) (by have:=HLEN5.out;omega))
      have m3:=(HO6.out.cellAt (N*4+3) (by have:=HLEN5.out;omega))
      rw [←HLEN5.out] at m0 m1 m2 m3
      simp only [List.getElem?_append_right (Nat.le_refl _),List.getElem?_append_right (Nat.le_add_right _ _),Nat.sub_self,Nat.add_sub_cancel_left,List.getElem?_cons_zero,List.getElem?_cons_succ] at m0 m1 m2 m3
      rw [HLEN5.out] at m0 m1 m2 m3
      have fm0:=HO6.out.frozenAt (N*4)
      have fm1:=HO6.out.frozenAt (N*4+1)
      have fm2:=HO6.out.frozenAt (N*4+2)
      have fm3:=HO6.out.frozenAt (N*4+3)
      refine wpAnyH_ready (rs:=[9]) (by kernel_rfl) (by simp) ?_
      refine AllReadyH.cons rfl (fun K hK=> ?_) AllReadyH.nil
      go_simp
      have hkl:=(((((HBK5.out.far (p:=⟨b,9,none⟩) (by have:=HBB.out;have:=HSA1.out.blk.lt;show bb≠b;omega) (Value.slice (some ⟨g,0,none⟩) (N+1) c')).far (p:=⟨g,N*4,none⟩) (fun e=>HGB.out e.symm) (.slice Aw nw cw)).far (p:=⟨g,N*4+1,none⟩) (fun e=>HGB.out e.symm) (.bool ob)).far (p:=⟨g,N*4+2,none⟩) (fun e=>HGB.out e.symm) (.slice Ai ni ci)).far (p:=⟨g,N*4+3,none⟩) (fun e=>HGB.out e.symm) (.int .i64 ln))
      have f0':=hkl.cell 0
      have f1':=hkl.cell 1
      have f2':=hkl.cell 2
      have f3':=hkl.cell 3
      simp only [List.getElem?_toArray,List.getElem?_cons_zero,List.getElem?_cons_succ] at f0' f1' f2' f3'
      refine hK.out _ _ ⟨f0',f1',f2',f3'⟩ (fun hS=> ?_)
      clear hK K
      (try simp only [Act.put,List.setIfInBounds_toArray,List.set_cons_zero,List.set_cons_succ])
      refine wpAnyH_done (by kernel_rfl) ?_ _
      clear e0' e1' e2' e3' f0' f1' f2' f3' m0 m1 m2 m3 fm0 fm1 fm2 fm3 hkk hkl
      clear hS
      have HJN:=Lib.hid (lj_next (y2:=(y1.1,(y1.2.1,(y1.2.2.1,(y1.2.2.2.1,(Value.slice (some ⟨g,0,none⟩) (N+1) c',())))))) HJ.out (Nat.lt_of_lt_of_le HS.out.blk.lt (Nat.le_refl _)) (fun e=>by have:=(HS.out.row.own.lt b e).1;omega) HKT.out.1 HKT.out.2 HST.out HSA1.out HDP1.out HRM1.out HCS1.out HFR1.out (((((HF5.out.setg ⟨b,9,none⟩ (Value.slice (some ⟨g,0,none⟩) (N+1) c') (.inl rfl)).setg ⟨g,N*4,none⟩ (.slice Aw nw cw) (.inr rfl)).setg ⟨g,N*4+1,none⟩ (.bool ob) (.inr rfl)).setg ⟨g,N*4+2,none⟩ (.slice Ai ni ci) (.inr rfl)).setg ⟨g,N*4+3,none⟩ (.int .i64 ln) (.inr rfl)) rfl (((((HB5.out.set_ 9 (Value.slice (some ⟨g,0,none⟩) (N+1) c') _ rfl).far (p:=⟨g,N*4,none⟩) (fun e=>HGB2.out e) (.slice Aw nw cw)).far (p:=⟨g,N*4+1,none⟩) (fun e=>HGB2.out e) (.bool ob)).far (p:=⟨g,N*4+2,none⟩) (fun e=>HGB2.out e) (.slice Ai ni ci)).far (p:=⟨g,N*4+3,none⟩) (fun e=>HGB2.out e) (.int .i64 ln)) (by rw [←HNN.out];exact (own_put4 HO6.out HLEN5.out.symm (.slice Aw nw cw) (.bool ob) (.slice Ai ni ci) (.int .i64 ln))))
      clear n0 n1 n2 n3 fn0 fn1 fn2 fn3 y9 fy9 e0 e1 e2 e3 z9
      go_wp2_with fail
      go_roundg (rmX z)
      case measure=>have:=HJ.out.ms;have:=HRM1.out;omega
      case rel=>exact ⟨_,_,_,_,HJN⟩
    ·skip
     go_simp
     refine hK.out _ _ HAL.out (fun hS=> ?_)
     clear hK K
     (try simp only [Act.put,List.setIfInBounds_toArray,List.set_cons_zero,List.set_cons_succ])
     refine wpAnyH_ready (rs:=[3]) (by kernel_rfl) (by simp) ?_
     refine AllReadyH.cons rfl (fun K hK=> ?_) AllReadyH.nil
     go_simp
     refine hK.out _ _ HAL.out (fun hS=> ?_)
     clear hK K
     (try simp only [Act.put,List.setIfInBounds_toArray,List.set_cons_zero,List.set_cons_succ])
     refine anyH_val 5 35 (.int .i64 ((N:Nat):Int)) (by assumption) rfl (by kernel_rfl) (by kernel_rfl) (by kernel_rfl) (fun o ho=>by cases ho;exact ⟨rfl,fun w hw=>by (try dsimp only at hw);(try obtain ⟨hw0,hw1,hw2,hw3⟩:=hw);go_simp⟩) (fun _ _ _ _ _ h=>h) ?_
     simp only [List.setIfInBounds_toArray,List.set_cons_zero,List.set_cons_succ]
     refine wpAnyH_ready (rs:=[7]) (by kernel_rfl) (by simp) ?_
     refine AllReadyH.cons rfl (fun K hK=> ?_) AllReadyH.nil
     clear b0 b1 b2 b3
     refine step_app 37 rfl elemBlk rfl _ _ rfl (b+1) (.slice A1 N c1) N (cells++ca) rfl (HROW2.out.alloc (.cells #[nilS,.bool false,nilS,.int .i64 0] 38)) _ _ _ _ rfl (Sl.made _ _ 1 4 _ rfl (by decide)) (by simp [Value.oneCell']) (by have:=HSA1.out.len;have:=HNN.out;omega) (by decide) (by have:=HB2.out.lt;simp;omega) ?_
     intro v' w5 hown5 hg5 hat5
     obtain ⟨g,c',rfl⟩:=own_succ hown5
     have hown1: ∀ j,(Value.slice A1 N c1).ownBlock=some j->b+1<=j/\j<bb:=fun j hj=>by rw [←HA1.out] at hj;have:=HSA1.out.row.own.lt j hj;have:=HBB.out;omega
     have hG5:(w2.alloc (.cells #[nilS,.bool false,nilS,.int .i64 0] 38)).drew.grownBy w5 (Value.slice A1 N c1).ownBlock:=hg5
     have hgg:=(hown5.lt g rfl)
     have hbbl:bb<w2.heap.size:=HBK2.out.lt
     have hgb:g≠bb:=by
      rcases hat5 with e|e
      ·have:=hown1 g e.symm;omega
      ·have:=Option.some.inj e
       have h3:(w2.alloc (.cells #[nilS,.bool false,nilS,.int .i64 0] 38)).heap.size=w2.heap.size+1:=by simp
       have h4:g=(w2.alloc (.cells #[nilS,.bool false,nilS,.int .i64 0] 38)).heap.size:=this
       omega
     have hgb2:b≠g:=by omega
     have HB5:=Lib.hid ((HB2.out.alloc (.cells #[nilS,.bool false,nilS,.int .i64 0] 38)).drew.grown hG5 (fun e=>by have:=hown1 b e.symm;omega))
     have HBK5:=Lib.hid ((HBK2.out.alloc (.cells #[nilS,.bool false,nilS,.int .i64 0] 38)).drew.grown hG5 (fun e=>by have:=hown1 bb e.symm;omega))
     have HF5:Hid (FrS b (pall y1) w1 (.slice (some ⟨g,0,none⟩) (N+1) c') w5):=Lib.hid (by
      have h1:FrS b (pall y1) w1 (pall y1) (w2.alloc (.cells #[nilS,.bool false,nilS,.int .i64 0] 38)).drew:=FrS.bel ((HF12.out.trans (((Below.refl w2.heap.size w2).alloc (Nat.le_refl _) _).drew.mono HF12.out.size)))
      rw [HA1.out] at h1 ⊢
      exact h1.app hG5 hat5)
     have HOWN5:=Lib.hid hown5
     have hlen5:(cells++ca).length=N*4:=HROW2.out.1
     have n0:=(hown5.cellAt (N*4) (by omega))
     have n1:=(hown5.cellAt (N*4+1) (by omega))
     have n2:=(hown5.cellAt (N*4+2) (by omega))
     have n3:=(hown5.cellAt (N*4+3) (by omega))
     rw [←hlen5] at n0 n1 n2 n3
     simp only [List.getElem?_append_right (Nat.le_refl _),List.getElem?_append_right (Nat.le_add_right _ _),Nat.sub_self,Nat.add_sub_cancel_left,List.getElem?_cons_zero,List.getElem?_cons_succ] at n0 n1 n2 n3
     rw [hlen5] at n0 n1 n2 n3
     have fn0:=hown5.frozenAt (N*4)
     have fn1:=hown5.frozenAt (N*4+1)
     have fn2:=hown5.frozenAt (N*4+2)
     have fn3:=hown5.frozenAt (N*4+3)
     have y9:=HB5.out.cell 9
     have fy9:=HB5.out.frozen 9
     have e0:=HBK5.out.cell 0
     have e1:=HBK5.out.cell 1
     have e2:=HBK5.out.cell 2
     have e3:=HBK5.out.cell 3
     simp only [pcs,List.getElem?_toArray,List.getElem?_cons_zero,List.getElem?_cons_succ] at y9 e0 e1 e2 e3
     have HLEN5:=Lib.hid hlen5
     have HGB:=Lib.hid hgb
     have HGB2:=Lib.hid hgb2
     have hNN:((N:Nat):Int)<((N+1:Nat):Int):=by omega
     clear hown5 hg5 hat5 hG5 hown1 hgg hlen5 hgb hgb2 hz hbbl
     refine hK.out _ _ ⟨e0,e1,e2,e3⟩ (fun hS=> ?_)
     clear hK K
     (try simp only [Act.put,List.setIfInBounds_toArray,List.set_cons_zero,List.set_cons_succ])
     refine anyH_val 8 38 (.pointer (some ⟨g,N*4,none⟩)) (by assumption) rfl (by kernel_rfl) (by kernel_rfl) (by kernel_rfl) (fun o ho=>by cases ho;exact ⟨rfl,fun w hw=>by (try dsimp only at hw);(try obtain ⟨hw0,hw1,hw2,hw3⟩:=hw);(go_simp;(try (intro h;exfalso;omega)))⟩) (fun _ _ _ _ _ h=>h) ?_
     simp only [List.setIfInBounds_toArray,List.set_cons_zero,List.set_cons_succ]
     refine anyH_val 10 39 (.pointer (some ⟨b,0,none⟩)) (by assumption) rfl (by kernel_rfl) (by kernel_rfl) (by kernel_rfl) (fun o ho=>by cases ho;exact ⟨rfl,fun w hw=>by (try dsimp only at hw);(try obtain ⟨hw0,hw1,hw2,hw3⟩:=hw);go_simp⟩) (fun _ _ _ _ _ h=>h) ?_
     simp only [List.setIfInBounds_toArray,List.set_cons_zero,List.set_cons_succ]
     refine anyH_val 11 40 (.pointer (some ⟨b,9,none⟩)) (by assumption) rfl (by kernel_rfl) (by kernel_rfl) (by kernel_rfl) (fun o ho=>by cases ho;exact ⟨rfl,fun w hw=>by (try dsimp only at hw);(try obtain ⟨hw0,hw1,hw2,hw3⟩:=hw);go_simp⟩) (fun _ _ _ _ _ h=>h) ?_
     simp only [List.setIfInBounds_toArray,List.set_cons_zero,List.set_cons_succ]
     refine wpAnyH_ready (rs:=[9,12]) (by kernel_rfl) (by simp) ?_
     refine AllReadyH.cons rfl (fun K hK=> ?_) (AllReadyH.cons rfl (fun K hK=> ?_) AllReadyH.nil)
     ·skip
      go_simp
      have hkk:=((((HBK5.out.far (p:=⟨g,N*4,none⟩) (fun e=>HGB.out e.symm) (.slice Aw nw cw)).far (p:=⟨g,N*4+1,none⟩) (fun e=>HGB.out e.symm) (.bool ob)).far (p:=⟨g,N*4+2,none⟩) (fun e=>HGB.out e.symm) (.slice Ai ni ci)).far (p:=⟨g,N*4+3,none⟩) (fun e=>HGB.out e.symm) (.int .i64 ln))
      have e0':=hkk.cell 0
      have e1':=hkk.cell 1
      have e2':=hkk.cell 2
      have e3':=hkk.cell 3
      simp only [List.getElem?_toArray,List.getElem?_cons_zero,List.getElem?_cons_succ] at e0' e1' e2' e3'
      refine hK.out _ _ ⟨e0',e1',e2',e3'⟩ (fun hS=> ?_)
      clear hK K
      (try simp only [Act.put,List.setIfInBounds_toArray,List.set_cons_zero,List.set_cons_succ])
      have y9':=(((((HB5.out.far (p:=⟨g,N*4,none⟩) (fun e=>HGB2.out e) (.slice Aw nw cw)).far (p:=⟨g,N*4+1,none⟩) (fun e=>HGB2.out e) (.bool ob)).far (p:=⟨g,N*4+2,none⟩) (fun e=>HGB2.out e) (.slice Ai ni ci)).far (p:=⟨g,N*4+3,none⟩) (fun e=>HGB2.out e) (.int .i64 ln))).cell 9
      have fy9':=(((((HB5.out.far (p:=⟨g,N*4,none⟩) (fun e=>HGB2.out e) (.slice Aw nw cw)).far (p:=⟨g,N*4+1,none⟩) (fun e=>HGB2.out e) (.bool ob)).far (p:=⟨g,N*4+2,none⟩) (fun e=>HGB2.out e) (.slice Ai ni ci)).far (p:=⟨g,N*4+3,none⟩) (fun e=>HGB2.out e) (.int .i64 ln))).frozen 9
      simp only [pcs,List.getElem?_toArray,List.getElem?_cons_zero,List.getElem?_cons_succ] at y9'
      refine wpAnyH_ready (rs:=[12]) (by kernel_rfl) (by simp) ?_
      refine AllReadyH.cons rfl (fun K hK=> ?_) AllReadyH.nil
      go_simp
      have hkl:=((((HBK5.out.far (p:=⟨g,N*4,none⟩) (fun e=>HGB.out e.symm) (.slice Aw nw cw)).far (p:=⟨g,N*4+1,none⟩) (fun e=>HGB.out e.symm) (.bool ob)).far (p:=⟨g,N*4+2,none⟩) (fun e=>HGB.out e.symm) (.slice Ai ni ci)).far (p:=⟨g,N*4+3,none⟩) (fun e=>HGB.out e.symm) (.int .i64 ln)).far (p:=⟨b,9,none⟩) (by have:=HBB.out;have:=HSA1.out.blk.lt;show bb≠b;omega) (Value.slice (some ⟨g,0,none⟩) (N+1) c')
      have f0':=hkl.cell 0
      have f1':=hkl.cell 1
      have f2':=hkl.cell 2
      have f3':=hkl.cell 3
      simp only [List.getElem?_toArray,List.getElem?_cons_zero,List.getElem?_cons_succ] at f0' f1' f2' f3'
      refine hK.out _ _ ⟨f0',f1',f2',f3'⟩ (fun hS=> ?_)
      clear hK K
      (try simp only [Act.put,List.setIfInBounds_toArray,List.set_cons_zero,List.set_cons_succ])
      refine wpAnyH_done (by kernel_rfl) ?_ _
      clear e0' e1' e2' e3' f0' f1' f2' f3' y9' fy9' hkk hkl
      clear hS
      have HJN:=Lib.hid (lj_next (y2:=(y1.1,(y1.2.1,(y1.2.2.1,(y1.2.2.2.1,(Value.slice (some ⟨g,0,none⟩) (N+1) c',())))))) HJ.out (Nat.lt_of_lt_of_le HS.out.blk.lt (Nat.le_refl _)) (fun e=>by have:=(HS.out.row.own.lt b e).1;omega) HKT.out.1 HKT.out.2 HST.out HSA1.out HDP1.out HRM1.out HCS1.out HFR1.out (((((HF5.out.setg ⟨g,N*4,none⟩ (.slice Aw nw cw) (.inr rfl)).setg ⟨g,N*4+1,none⟩ (.bool ob) (.inr rfl)).setg ⟨g,N*4+2,none⟩ (.slice Ai ni ci) (.inr rfl)).setg ⟨g,N*4+3,none⟩ (.int .i64 ln) (.inr rfl)).setg ⟨b,9,none⟩ (Value.slice (some ⟨g,0,none⟩) (N+1) c') (.inl rfl)) rfl (((((HB5.out.far (p:=⟨g,N*4,none⟩) (fun e=>HGB2.out e) (.slice Aw nw cw)).far (p:=⟨g,N*4+1,none⟩) (fun e=>HGB2.out e) (.bool ob)).far (p:=⟨g,N*4+2,none⟩) (fun e=>HGB2.out e) (.slice Ai ni ci)).far (p:=⟨g,N*4+3,none⟩) (fun e=>HGB2.out e) (.int .i64 ln)).set_ 9 (Value.slice (some ⟨g,0,none⟩) (N+1) c') _ rfl) (by rw [←HNN.out];exact (ownsRow_setCell_below (own_put4 HOWN5.out HLEN5.out.symm (.slice Aw nw cw) (.bool ob) (.slice Ai ni ci) (.int .i64 ln)) (a:=⟨b,9,none⟩) (Nat.lt_succ_self b) (Value.slice (some ⟨g,0,none⟩) (N+1) c'))))
      clear n0 n1 n2 n3 fn0 fn1 fn2 fn3 y9 fy9 e0 e1 e2 e3 z9
      go_wp2_with fail
      go_roundg (rmX z)
      case measure=>have:=HJ.out.ms;have:=HRM1.out;omega
      case rel=>exact ⟨_,_,_,_,HJN⟩
     ·skip
      go_simp
      have hkk:=HBK5.out.far (p:=⟨b,9,none⟩) (by have:=HBB.out;have:=HSA1.out.blk.lt;show bb≠b;omega) (Value.slice (some ⟨g,0,none⟩) (N+1) c')
      have e0':=hkk.cell 0
      have e1':=hkk.cell 1
      have e2':=hkk.cell 2
      have e3':=hkk.cell 3
      simp only [List.getElem?_toArray,List.getElem?_cons_zero,List.getElem?_cons_succ] at e0' e1' e2' e3'
      refine hK.out _ _ ⟨e0',e1',e2',e3'⟩ (fun hS=> ?_)
      clear hK K
      (try simp only [Act.put,List.setIfInBounds_toArray,List.set_cons_zero,List.set_cons_succ])
      have HO6:=Lib.hid (ownsRow_setCell_below HOWN5.out (a:=⟨b,9,none⟩) (Nat.lt_succ_self b) (Value.slice (some ⟨g,0,none⟩) (N+1) c'))
      have m0:=(HO6.out.cellAt (N*4) (by have:=HLEN5.out;omega))
      have m1:=(HO6.out.cellAt (N*4+1) (by have:=HLEN5.out;omega))
      have m2:=(HO6.out.cellAt (N*4+2) (by have:=HLEN5.out;omega))
      have m3:=(HO6.out.cellAt (N*4+3) (by have:=HLEN5.out;omega))
      rw [←HLEN5.out] at m0 m1 m2 m3
      simp only [List.getElem?_append_right (Nat.le_refl _),List.getElem?_append_right (Nat.le_add_right _ _),Nat.sub_self,Nat.add_sub_cancel_left,List.getElem?_cons_zero,List.getElem?_cons_succ] at m0 m1 m2 m3
      rw [HLEN5.out] at m0 m1 m2 m3
      have fm0:=HO6.out.frozenAt (N*4)
      have fm1:=HO6.out.frozenAt (N*4+1)
      have fm2:=HO6.out.frozenAt (N*4+2)
      have fm3:=HO6.out.frozenAt (N*4+3)
      refine wpAnyH_ready (rs:=[9]) (by kernel_rfl) (by simp) ?_
      refine AllReadyH.cons rfl (fun K hK=> ?_) AllReadyH.nil
      go_simp
      have hkl:=(((((HBK5.out.far (p:=⟨b,9,none⟩) (by have:=HBB.out;have:=HSA1.out.blk.lt;show bb≠b;omega) (Value.slice (some ⟨g,0,none⟩) (N+1) c')).far (p:=⟨g,N*4,none⟩) (fun e=>HGB.out e.symm) (.slice Aw nw cw)).far (p:=⟨g,N*4+1,none⟩) (fun e=>HGB.out e.symm) (.bool ob)).far (p:=⟨g,N*4+2,none⟩) (fun e=>HGB.out e.symm) (.slice Ai ni ci)).far (p:=⟨g,N*4+3,none⟩) (fun e=>HGB.out e.symm) (.int .i64 ln))
      have f0':=hkl.cell 0
      have f1':=hkl.cell 1
      have f2':=hkl.cell 2
      have f3':=hkl.cell 3
      simp only [List.getElem?_toArray,List.getElem?_cons_zero,List.getElem?_cons_succ] at f0' f1' f2' f3'
      refine hK.out _ _ ⟨f0',f1',f2',f3'⟩ (fun hS=> ?_)
      clear hK K
      (try simp only [Act.put,List.setIfInBounds_toArray,List.set_cons_zero,List.set_cons_succ])
      refine wpAnyH_done (by kernel_rfl) ?_ _
      clear e0' e1' e2' e3' f0' f1' f2' f3' m0 m1 m2 m3 fm0 fm1 fm2 fm3 hkk hkl
      clear hS
      have HJN:=Lib.hid (lj_next (y2:=(y1.1,(y1.2.1,(y1.2.2.1,(y1.2.2.2.1,(Value.slice (some ⟨g,0,none⟩) (N+1) c',())))))) HJ.out (Nat.lt_of_lt_of_le HS.out.blk.lt (Nat.le_refl _)) (fun e=>by have:=(HS.out.row.own.lt b e).1;omega) HKT.out.1 HKT.out.2 HST.out HSA1.out HDP1.out HRM1.out HCS1.out HFR1.out (((((HF5.out.setg ⟨b,9,none⟩ (Value.slice (some ⟨g,0,none⟩) (N+1) c') (.inl rfl)).setg ⟨g,N*4,none⟩ (.slice Aw nw cw) (.inr rfl)).setg ⟨g,N*4+1,none⟩ (.bool ob) (.inr rfl)).setg ⟨g,N*4+2,none⟩ (.slice Ai ni ci) (.inr rfl)).setg ⟨g,N*4+3,none⟩ (.int .i64 ln) (.inr rfl)) rfl (((((HB5.out.set_ 9 (Value.slice (some ⟨g,0,none⟩) (N+1) c') _ rfl).far (p:=⟨g,N*4,none⟩) (fun e=>HGB2.out e) (.slice Aw nw cw)).far (p:=⟨g,N*4+1,none⟩) (fun e=>HGB2.out e) (.bool ob)).far (p:=⟨g,N*4+2,none⟩) (fun e=>HGB2.out e) (.slice Ai ni ci)).far (p:=⟨g,N*4+3,none⟩) (fun e=>HGB2.out e) (.int .i64 ln)) (by rw [←HNN.out];exact (own_put4 HO6.out HLEN5.out.symm (.slice Aw nw cw) (.bool ob) (.slice Ai ni ci) (.int .i64 ln))))
      clear n0 n1 n2 n3 fn0 fn1 fn2 fn3 y9 fy9 e0 e1 e2 e3 z9
      go_wp2_with fail
      go_roundg (rmX z)
      case measure=>have:=HJ.out.ms;have:=HRM1.out;omega
      case rel=>exact ⟨_,_,_,_,HJN⟩
   ·have HST:=Lib.hid hst
    have HERR:=Lib.hid herr
    have HLINE:=Lib.hid hline
    have HQ1:=Lib.hid hQ1
    have HFR1:=Lib.hid hfr1
    clear hst herr hline hQ1 hfr1
    go_wp2_with fail
    go_ret2
    have he:stX lv [] x=(acc,z):=by rw [HJ.out.eq,st1_eq HJ.out.sa.ok HJ.out.sa.err HKT.out.1 HKT.out.2 lv acc,HST.out]
    refine .inr ⟨nilS,y1,false,rfl, ?_,HQ1.out.alloc _, ?_,(fun h=>by cases h), ?_⟩
    ·rw [he]
     exact HERR.out
    ·rw [he]
     exact HLINE.out
    ·exact ((HJ.out.fr.trans ⟨HFR1.out,.inl rfl⟩).trans (FrS.bel (v:=pall y') ((Below.refl _ _).alloc (Nat.le_refl _) _))).fr
  ·have hk3:=beq_eq_false_iff_ne.2 hk
   have HK3:=Lib.hid hk
   clear hk
   obtain ⟨A1,c1,hall1⟩:=own_slice HJ.out.sa.row.own
   obtain ⟨N,hN⟩: ∃ N,N=(rows++acc).length:=⟨_,rfl⟩
   rw [←hN] at hall1
   have z9:=HJ.out.sa.blk.cell 9
   simp only [pcs,List.getElem?_toArray,List.getElem?_cons_zero,List.getElem?_cons_succ] at z9
   rw [show y'.2.2.2.2.1= .slice A1 N c1 from hall1] at z9
   have HNN:=Lib.hid hN
   have HA1:Hid (pall y'= .slice A1 N c1):=Lib.hid hall1
   clear hN hall1
   obtain ⟨wa,hwa⟩: ∃ wa,wa=wr.alloc (Obj.cells #[] 38):=⟨_,rfl⟩
   have hBa:QB wa b y':=by rw [hwa];exact HJ.out.sa.blk.alloc _
   have hslN:=Sl.of_own HJ.out.sa.row.own
   have hlenN:=HJ.out.sa.len
   have hcl:cells.length=rows.length*4:=HS.out.row.own.1
   have hkN:rows.length<=N:=by rw [HNN.out,List.length_append];omega
   have hslk:Sl wr (.slice A1 rows.length c1) 4 rows.length cells:=by
    have h2:Sl wr (.slice A1 N c1) 4 N (cells++ca):=by rw [HA1.out, ← HNN.out] at hslN;exact hslN
    have h1:=Sl.pre h2 rows.length hkN
    rw [←hcl,List.take_left] at h1
    exact h1
   have hNc:N<=c1:=by
    obtain ⟨_,A,c,e,h2,h3,_⟩:=hslN
    rw [HA1.out] at e
    injection e with _ e2 e3
    omega
   have HSK:=Lib.hid (show Sl wa (.slice A1 rows.length c1) 4 rows.length cells by rw [hwa];exact hslk.alloc _)
   have HM:Hid (wa.ownsRow (b+1) 38 4 (.slice (some ⟨wr.heap.size,0,none⟩) 0 0) 0 []):=Lib.hid (by rw [hwa];exact World.ownsRow_made wr #[] (size:=4) (e:=38) (base:=b+1) 0 (by have:=HJ.out.sa.blk.lt;omega) (Nat.zero_le _) rfl)
   have HFA:Hid (FrS b (pall y') wr (pall y') wa):=Lib.hid (FrS.bel (by rw [hwa];exact (Below.refl _ _).alloc (Nat.le_refl _) _))
   have HSZA:Hid (wa.heap.size=wr.heap.size+1):=Lib.hid (by rw [hwa];simp)
   have HBA:=Lib.hid hBa
   have z9a:=hBa.cell 9
   simp only [pcs,List.getElem?_toArray,List.getElem?_cons_zero,List.getElem?_cons_succ] at z9a
   rw [show y'.2.2.2.2.1= .slice A1 N c1 from HA1.out,hwa] at z9a
   have i1:((N:Nat):Int)<=(c1:Int):=by omega
   have i2:((rows.length:Nat):Int)<=((N:Nat):Int):=by omega
   have i3:((rows.length:Nat):Int)<=(c1:Int):=by omega
   have HLN:=Lib.hid hlenN
   have HCL:=Lib.hid hcl
   have HKN:=Lib.hid hkN
   clear hBa hslN hlenN hcl hslk hNc hkN
   by_cases hacc:acc=[]
   ·subst hacc
    obtain rfl:N=rows.length:=by rw [HNN.out,List.append_nil]
    have HWA:=Lib.hid hwa
    clear hwa
    go_wp2_with (at_builtin;rw [←HWA.out];refine wpList_app elemBlk rfl _ _ rfl (b+1) (.slice (some ⟨wr.heap.size,0,none⟩) 0 0) 0 [] rfl HM.out A1 rows.length c1 cells rfl HSK.out HS.out.row.one (by have:=HS.out.len;omega) (by decide) (by have:=HBA.out.lt;omega) ?_;intro v' w4 hown4 hg4 hat4;have HB4:=Lib.hid (HBA.out.grown hg4 (fun e=>by have:=Option.some.inj e;have h7:=HJ.out.sa.blk.lt;have h8:b=wr.heap.size:=this;omega));have y9:=HB4.out.cell 9;have fy9:=HB4.out.frozen 9;have y8:=HB4.out.cell 8;have fy8:=HB4.out.frozen 8;simp only [pcs,List.getElem?_toArray,List.getElem?_cons_zero,List.getElem?_cons_succ] at y9 y8;rw [show y'.2.2.2.2.1= .slice A1 rows.length c1 from HA1.out] at y9;obtain ⟨A',c',rfl⟩:=own_slice hown4;have HO4:=Lib.hid hown4;have HG4:=Lib.hid hg4;have HAT4:=Lib.hid hat4;clear hown4 hg4 hat4)
    go_ret2
    have hO:w4.ownsRow (b+1) 38 4 (.slice A' rows.length c') rows.length cells:=by have:=HO4.out;simpa using this
    have hnew: ∃ g,(Value.slice A' rows.length c').ownBlock=some g/\wr.heap.size<=g:=by
     have h7:(Value.slice A' rows.length c').ownBlock=(Value.slice A' (0+rows.length) c').ownBlock:=by cases A'<;>rfl
     rw [h7]
     rcases HAT4.out with e|e
     ·exact ⟨_,e,Nat.le_refl _⟩
     ·exact ⟨_,e,by have:=HSZA.out;omega⟩
    have hFr:FrS b (pall y') wr (.slice A' rows.length c') w4:=FrS.new_ HFA.out HG4.out (fun g e=>by have h7:wr.heap.size=g:=Option.some.inj e;omega) hnew
    have hF2:=hFr.setg ⟨b,9,none⟩ (.slice A' rows.length c') (.inl rfl)
    exact fin_stmts (y3:=(y'.1,(y'.2.1,(y'.2.2.1,(y'.2.2.2.1,(Value.slice A' rows.length c',())))))) HS.out HJ.out HK3.out rfl (dp_nil HJ.out.dp rfl rfl) (HB4.out.set_ 9 (.slice A' rows.length c') _ rfl)
     (ownsRow_setCell_below hO (a:=⟨b,9,none⟩) (Nat.lt_succ_self b) _) (HJ.out.fr.trans hF2) nil_c
   ·have hlt:rows.length<N:=by
     rw [HNN.out,List.length_append]
     have:0<acc.length:=List.length_pos_iff.2 hacc
     omega
    have hne:(((N:Nat):Int)==((rows.length:Nat):Int))=false:=beq_eq_false_iff_ne.2 (by omega)
    have HACC:=Lib.hid hacc
    have HLT:=Lib.hid hlt
    have hne2: ¬ (N=rows.length):=by omega
    clear hacc hlt
    have HWA:=Lib.hid hwa
    clear hwa
    have hA: ∃ gb,A1=some ⟨gb,0,none⟩:=by
     obtain ⟨gb,c,e⟩:=own_pos HJ.out.sa.row.own (by rw [←HNN.out];have:=HLT.out;omega)
     rw [HA1.out] at e
     injection e with e1 _ _
     exact ⟨gb,e1⟩
    obtain ⟨gb,rfl⟩:=hA
    have z8:=HBA.out.cell 8
    simp only [pcs,List.getElem?_toArray,List.getElem?_cons_zero,List.getElem?_cons_succ] at z8
    go_wp2_with (at_builtin;rw [←HWA.out];refine wpList_app elemBlk rfl _ _ rfl (b+1) (.slice (some ⟨wr.heap.size,0,none⟩) 0 0) 0 [] rfl HM.out (some ⟨gb,0,none⟩) rows.length c1 cells rfl HSK.out HS.out.row.one (by have:=HS.out.len;omega) (by decide) (by have:=HBA.out.lt;omega) ?_;intro v' w4 hown4 hg4 hat4;have HB4:=Lib.hid (HBA.out.grown hg4 (fun e=>by have:=Option.some.inj e;have h7:=HJ.out.sa.blk.lt;have h8:b=wr.heap.size:=this;omega));have y9:=HB4.out.cell 9;have fy9:=HB4.out.frozen 9;have y8:=HB4.out.cell 8;have fy8:=HB4.out.frozen 8;simp only [pcs,List.getElem?_toArray,List.getElem?_cons_zero,List.getElem?_cons_succ] at y9 y8;rw [show y'.2.2.2.2.1= .slice (some ⟨gb,0,none⟩) N c1 from HA1.out] at y9;obtain ⟨A',c',rfl⟩:=own_slice hown4;have HO4:=Lib.hid hown4;have HG4:=Lib.hid hg4;have HAT4:=Lib.hid hat4;clear hown4 hg4 hat4)
    go_ret2
    have hO:w4.ownsRow (b+1) 38 4 (.slice A' rows.length c') rows.length cells:=by have:=HO4.out;simpa using this
    have hnew: ∃ g,(Value.slice A' rows.length c').ownBlock=some g/\wr.heap.size<=g:=by
     have h7:(Value.slice A' rows.length c').ownBlock=(Value.slice A' (0+rows.length) c').ownBlock:=by cases A'<;>rfl
     rw [h7]
     rcases HAT4.out with e|e
     ·exact ⟨_,e,Nat.le_refl _⟩
     ·exact ⟨_,e,by have:=HSZA.out;omega⟩
    have hFr:FrS b (pall y') wr (.slice A' rows.length c') w4:=FrS.new_ HFA.out HG4.out (fun g e=>by have h7:wr.heap.size=g:=Option.some.inj e;omega) hnew
    have hF2:=(hFr.setg ⟨b,9,none⟩ (.slice A' rows.length c') (.inl rfl)).setg ⟨b,8,none⟩ (.int .i64 (max y'.2.2.2.1 lv)) (.inl rfl)
    have hgl:b+1<=gb/\gb<wr.heap.size:=HJ.out.sa.row.own.lt gb (by rw [HA1.out];rfl)
    have hsame:((w4.setCell ⟨b,9,none⟩ (.slice A' rows.length c')).setCell ⟨b,8,none⟩ (.int .i64 (max y'.2.2.2.1 lv))).heap[gb]? = wr.heap[gb]? :=by
     rw [Below.heap_setCell _ _ _ _ (by show gb≠b;omega),Below.heap_setCell _ _ _ _ (by show gb≠b;omega)]
     refine (HG4.out.block gb (by have:=HSZA.out;omega) (fun e=>by have h7:gb=wr.heap.size:=Option.some.inj e;omega)).trans ?_
     rw [HWA.out]
     exact Below.heap_alloc _ _ _ hgl.2
    exact fin_stmts (y3:=(y'.1,(y'.2.1,(y'.2.2.1,(max y'.2.2.2.1 lv,(Value.slice A' rows.length c',())))))) HS.out HJ.out HK3.out rfl (dp_max HACC.out HJ.out.dp rfl rfl) ((HB4.out.set_ 9 (.slice A' rows.length c') (y'.1,(y'.2.1,(y'.2.2.1,(y'.2.2.2.1,(Value.slice A' rows.length c',()))))) rfl).set_ 8 (.int .i64 (max y'.2.2.2.1 lv)) _ rfl)
     (ownsRow_setCell_below (ownsRow_setCell_below hO (a:=⟨b,9,none⟩) (Nat.lt_succ_self b) _) (a:=⟨b,8,none⟩) (Nat.lt_succ_self b) _) (HJ.out.fr.trans hF2) (win_c HS.out HJ.out HA1.out HNN.out hF2 hnew hsame)
end
end Go.Proofs.YtkkoedniahnneaaDoor.K
namespace Go.Proofs.YtkkoedniahnneaaDoor.K
open Go.RowKit
attribute [local go_sem ↓] Go.wp_at_zero Go.wp_at_succ
noncomputable section
set_option linter.unusedSectionVars false
theorem stmts_all (m:Nat):StmtsOK m:=by
 induction m using Nat.strongRecOn with
 |ind m ih=>exact stmts_any m (stmt_any m ih)
theorem count_calls (s:ByteArray)(w:World):Calls Tryd.prog 56 #[.string s,.string ⟨#[10]⟩] w fun e w'=>e= .returned (.int .i64 (endN s))/\w'=w:=by
 refine (Any.strings_Count_one Tryd.lays138 s 10 w).mono ?_
 rintro e w' ⟨rfl,rfl⟩
 exact ⟨rfl,rfl⟩
def py0 (s:ByteArray):ParserX:=((s,(0,(1,(false,())))),((0,(0,(ByteArray.mk #[],()))),(0,(0,(nilS,())))))
theorem px_init {s:ByteArray}(h:s.size<=8192):PTok (tkD (psX s)) (psD (py0 s))/\((tkD (psX s)).2.1.1≠63->LN (tkD (psX s)))/\px1 (py0 s)=true:=by
 obtain ⟨_,_,h2⟩:=okR_ps h
 obtain ⟨t1,t2,_⟩:=tok_step (x:=psX s) (y:=py0 s) rfl h2 (by
  show (1:Int)=1+(nlC ((bytesL s).take (0:Int).toNat):Int)
  rfl)
 exact ⟨t1,t2,px_of rfl h2⟩
theorem sa_init {s:ByteArray}(h:s.size<=8192){w:World}{b:Nat}(hQ:QB w b (psD (py0 s))):SA w b (psD (py0 s)) (tkD (psX s)) [] []/\DP False (tkD (psX s)) (psD (py0 s)):=by
 obtain ⟨o1,o2,h2⟩:=okR_ps h
 obtain ⟨t1,t2,_⟩:=px_init h
 have ht:=tk_ok h2
 have hp:pall (psD (py0 s))=nilS:=by rw [show pall (psD (py0 s))=(psD (py0 s)).2.2.2.2.1 from rfl,psD_all];rfl
 refine ⟨⟨hQ,t1,o1,t2, ?_, ?_, ?_, ?_⟩, ?_⟩
 ·rw [ht.rest]
  rfl
 ·rw [hp]
  exact RowAt.nil_ w b
 ·rw [ht.text]
  exact h
 ·show 0+rmX _<=20000
  omega
 ·unfold DP
  rw [ht.rest,psD_all]
  show (false=true)↔((16:Int)<0∨(64:Int)<0∨False)
  simp
theorem paB_in {s:ByteArray}(h:s.size<=8192)(h2:endN s<=200):paB s=bif ine (psZ s).2.2.1 0 then ([],((psZ s).2.2.1,1)) else bif (psZ s).2.2.2.1 then ([],(0,3)) else (stF (tkD (psX s)) 1,(0,0)):=by
 unfold paB
 rw [show igt (slen s) 8192=false from decide_eq_false (by simp only [slen];omega),show igt (endN s) 200=false from decide_eq_false (by omega)]
 rfl
theorem paB_bad {s:ByteArray}(h:s.size<=8192)(h2:endN s<=200)(he:(psY s).2.2.1≠0):paB s=([],((psY s).2.2.1,1)):=by
 have hz:psZ s=psY s:=by
  unfold psZ
  rw [ne_ieq he]
  rfl
 rw [paB_in h h2,hz,show ine (psY s).2.2.1 0=true from bne_iff_ne.2 he]
 rfl
theorem paB_end {s:ByteArray}(h:s.size<=8192)(h2:endN s<=200)(he:(psY s).2.2.1=0)(ht:(psY s).2.1.1≠0)(hk:okR (psY s)=true):paB s=([],((flD (psY s)).2.2.1,1)):=by
 have hz:psZ s=flD (psY s):=by
  unfold psZ
  rw [he,show ine (psY s).2.1.1 0=true from bne_iff_ne.2 ht]
  rfl
 rw [paB_in h h2,hz,fl_err hk]
 rfl
theorem paB_ok {s:ByteArray}(h:s.size<=8192)(h2:endN s<=200)(he:(psY s).2.2.1=0)(ht:(psY s).2.1.1=0):paB s=bif (psY s).2.2.2.1 then ([],(0,3)) else ((stX 1 [] (tkD (psX s))).1,(0,0)):=by
 have hz:psZ s=psY s:=by
  unfold psZ
  rw [ht]
  cases ieq (psY s).2.2.1 0<;>rfl
 have hf:stF (tkD (psX s)) 1=(stX 1 [] (tkD (psX s))).1:=by
  unfold stF stBad
  rw [show (stX 1 [] (tkD (psX s))).2=psY s from rfl,he]
  simp
 rw [paB_in h h2,hz,he,hf]
 rfl
def ParsePost (s:ByteArray)(w:World)(e:Ending)(w':World):Prop:=
 ∃ v,e= .returned (.tuple #[v,.int .i64 (paB s).2.1,.int .i64 (paB s).2.2])/\C (fun g _=>g<w.heap.size) w' nowhere (V.t (.sl tyBlkT) (paB s).1).d v/\Below w.heap.size w w'
theorem post_nil {s:ByteArray}{w w':World}{n e:Int}(h:paB s=([],(n,e)))(hb:Below w.heap.size w w'):ParsePost s w (.returned (.tuple #[nilS,.int .i64 n,.int .i64 e])) w':=by
 refine ⟨nilS, ?_, ?_,hb⟩
 ·rw [h]
 ·rw [h]
  exact nil_c
theorem post_ok {s:ByteArray}{w w1 w':World}{y':ParserX}{v0 v:Value}(h:paB s=((stX 1 [] (tkD (psX s))).1,(0,0)))(hn:v0.ownBlock=none)(hv:pall y'=v)(ho: ∀ g,v.ownBlock=some g->w.heap.size<=g)(hw:w.heap.size<=w1.heap.size)
  {sv:Value} (hC:C (XN v v0 w1.heap.size) w' nowhere (.sl (stX 1 [] (tkD (psX s))).1.length ((stX 1 [] (tkD (psX s))).1.flatMap tyBlkT.cells)) sv) (hb:Below w.heap.size w w'):ParsePost s w (.returned (.tuple #[sv,.int .i64 0,.int .i64 0])) w':=by
 refine ⟨sv, ?_, ?_,hb⟩
 ·rw [h]
 ·rw [h]
  exact C.less hC (fun g q hg=> .inl ⟨Nat.lt_of_lt_of_le hg hw,by rw [hn];simp⟩) rfl
set_option maxHeartbeats 4000000 in
theorem parseB_any (s:ByteArray)(w:World):Calls Tryd.prog 42 #[.string s] w (ParsePost s w):=by
 by_cases h1:s.size<=8192
 ·by_cases h2:endN s<=200
  ·have i1: ¬ ((s.size:Nat):Int) > 8192:=by omega
   have i2: ¬ endN s > 200:=by omega
   have H1:=Lib.hid h1
   have H2:=Lib.hid h2
   clear h1 h2
   go_enter Tryd.func42,Tryd.ntmps42
   go_wp2_with (go_at_call 56;refine (count_calls s _).mono ?_;rintro e w1 ⟨rfl,hw⟩;obtain rfl:=hw.symm)
   obtain ⟨b,hb⟩: ∃ b,b=w.heap.size:=⟨_,rfl⟩
   obtain ⟨wx,hwx⟩: ∃ wx,wx=w.alloc (Obj.cells #[.string s,.int .i64 0,.int .i64 1,.bool false,.int .i64 0,.int .i64 0,.string ⟨#[]⟩,.int .i64 0,.int .i64 0,nilS] 108):=⟨_,rfl⟩
   have hQ0:QB wx b (py0 s):=⟨_,by rw [hwx,hb];exact Go.Proofs.YtkkoedniahnneaaDoor.Blk.new w _ _⟩
   have hB0:Below w.heap.size w wx:=by rw [hwx];exact (Below.refl _ _).alloc (Nat.le_refl _) _
   rw [←hwx, ← hb]
   have HB:=Lib.hid hb
   have HB0:=Lib.hid hB0
   clear hwx hb hB0
   refine (step_calls hQ0 (px_init H1.out).2.2 rfl).mono ?_
   rintro e w1 ⟨rfl,hb1,hg1⟩
   obtain ⟨hsa,hdp⟩:=sa_init H1.out hb1
   have HB1:Hid (Below w.heap.size w w1):=Lib.hid (HB0.out.trans (below_of_only' hg1 (by rw [HB.out];exact Nat.le_refl _) HB0.out.size))
   have HSA:=Lib.hid hsa
   have hih:=stmts_all (rmX (tkD (psX s))) b _ _ 1 [] [] w1 False hsa hdp (by decide) (by have:=(okR_ps H1.out).2.1;omega) (Nat.le_refl _)
   have HIH:=Lib.hid hih
   clear hQ0 hb1 hg1 hsa hdp hih
   go_wp2_with fail
   refine HIH.out.mono ?_
   rintro e w2 hpost
   have hpn:pall (psD (py0 s))=nilS:=by rw [show pall (psD (py0 s))=(psD (py0 s)).2.2.2.2.1 from rfl,psD_all];rfl
   have bel:FrP b (pall (psD (py0 s))) w1 w2->Below w.heap.size w w2:=fun hF=>HB1.out.trans (by
    have:=hF.below (e:=38) (size:=4) (n:=0) (xs:=[]) (by rw [hpn];exact World.ownsRow_nil _ _ _ _) (by have:=HSA.out.blk.lt;omega)
    rw [HB.out] at this
    exact this)
   rcases hpost with ⟨sv,y',rfl,herr,hsa2,hdp2,hrm2,hk3,hC,hF⟩|⟨sv,y',ok2,rfl,herr,hQ2,hline,hkk,hF⟩
   ·have z4:=hsa2.blk.cell 4
    have z5:=hsa2.blk.cell 5
    have z7:=hsa2.blk.cell 7
    have z8:=hsa2.blk.cell 8
    simp only [pcs,List.getElem?_toArray,List.getElem?_cons_zero,List.getElem?_cons_succ] at z4 z5 z7 z8
    have hBel:=bel hF.fr
    have hown:=hF.own
    have HSA2:=Lib.hid hsa2
    have HC:=Lib.hid hC
    have HBEL:=Lib.hid hBel
    have HERR:=Lib.hid herr
    have HOWN:=Lib.hid hown
    have HPN:=Lib.hid hpn
    have HDP2:=Lib.hid hdp2
    clear bel hsa2 hdp2 hC hF hBel herr hrm2 hk3 hown hpn
    by_cases ht:(psY s).2.1.1=0
    ·have hk6:y'.2.1.1=6:=by
      have h7:=HSA2.out.tok.kind
      rw [h7]
      unfold kindT
      rw [show (stX 1 [] (tkD (psX s))).2.2.1.1=0 from ht]
      rfl
     rw [hk6] at z4
     have HT:=Lib.hid ht
     clear ht hk6
     cases hdeep:(psY s).2.2.2.1 with
     |true=>
      have h7:=HDP2.out.1 hdeep
      have HR:Hid (paB s=([],(0,3))):=Lib.hid (by rw [paB_ok H1.out H2.out HERR.out HT.out,hdeep];rfl)
      clear hdeep
      by_cases hd:16<y'.2.2.2.1
      ·clear h7
       go_wp2_with fail
       go_ret3
       exact post_nil HR.out HBEL.out
      ·have hw:64<y'.2.2.1:=by rcases h7 with h|h|h;exact absurd h hd;exact h;exact h.elim
       clear h7
       go_wp2_with fail
       go_ret3
       exact post_nil HR.out HBEL.out
     |false=>
      have h7: ¬ (16<y'.2.2.2.1∨64<y'.2.2.1∨False):=fun h=>by
       have:=HDP2.out.2 h
       rw [show (stX 1 [] (tkD (psX s))).2.2.2.2.1=false from hdeep] at this
       cases this
      have hd1: ¬ 16<y'.2.2.2.1:=fun h=>h7 (.inl h)
      have hd2: ¬ 64<y'.2.2.1:=fun h=>h7 (.inr (.inl h))
      have HR:Hid (paB s=((stX 1 [] (tkD (psX s))).1,(0,0))):=Lib.hid (by rw [paB_ok H1.out H2.out HERR.out HT.out,hdeep];rfl)
      clear hdeep h7
      go_wp2_with fail
      go_ret3
      exact post_ok HR.out (by rw [HPN.out];rfl) rfl (fun g hg=>by have:=(HSA2.out.row.own.lt g hg).1;have:=HB.out;omega) HB1.out.size HC.out HBEL.out
    ·have hk6:=beq_eq_false_iff_ne.2 (kindT_6 HSA2.out.tok ht)
     have HR:Hid (paB s=([],(y'.2.1.2.1,1))):=Lib.hid (by rw [fl_line HSA2.out.tok HERR.out];exact paB_end H1.out H2.out HERR.out ht HSA2.out.ok)
     clear ht
     go_wp2_with fail
     go_region_held3 (fun w'=>w'.cell? ⟨b,5,none⟩=some (.int .i64 y'.2.1.2.1)/\w'=w2.drew) (first|exact ⟨by assumption,rfl⟩|exact ⟨z5,rfl⟩|go_keep) (fail)
     go_wp2_with fail
     go_ret3
     exact post_nil HR.out HBEL.out.drew
   ·have z4:=hQ2.cell 4
    have z5:=hQ2.cell 5
    simp only [pcs,List.getElem?_toArray,List.getElem?_cons_zero,List.getElem?_cons_succ] at z4 z5
    have HR:Hid (paB s=([],(y'.2.1.2.1,1))):=Lib.hid (by rw [hline];exact paB_bad H1.out H2.out herr)
    have HBEL:=Lib.hid (bel hF)
    clear bel herr hQ2 hline hF
    cases ok2 with
    |true=>
     have hk6:=beq_eq_false_iff_ne.2 (hkk rfl).2
     clear hkk
     go_wp2_with fail
     go_region_held3 (fun w'=>w'.cell? ⟨b,5,none⟩=some (.int .i64 y'.2.1.2.1)/\w'=w2.drew) (first|exact ⟨by assumption,rfl⟩|exact ⟨z5,rfl⟩|go_keep) (fail)
     go_wp2_with fail
     go_ret3
     exact post_nil HR.out HBEL.out.drew
    |false=>
     clear hkk
     go_wp2_with fail
     go_region_held3 (fun w'=>w'.cell? ⟨b,5,none⟩=some (.int .i64 y'.2.1.2.1)/\w'=w2.drew) (first|exact ⟨by assumption,rfl⟩|exact ⟨z5,rfl⟩|go_keep) (fail)
     go_wp2_with fail
     go_ret3
     exact post_nil HR.out HBEL.out.drew
  ·have i1: ¬ ((s.size:Nat):Int) > 8192:=by omega
   have i2:endN s > 200:=by omega
   have HR:Hid (paB s=([],(0,3))):=Lib.hid (by
    unfold paB
    rw [show igt (slen s) 8192=false from decide_eq_false (by simp only [slen];omega),show igt (endN s) 200=true from decide_eq_true i2]
    rfl)
   clear h1 h2
   go_enter Tryd.func42,Tryd.ntmps42
   go_wp2_with (go_at_call 56;refine (count_calls s _).mono ?_;rintro e w1 ⟨rfl,hw⟩;obtain rfl:=hw.symm)
   go_ret3
   exact post_nil HR.out (Below.refl _ _)
 ·have i1:((s.size:Nat):Int) > 8192:=by omega
  have HR:Hid (paB s=([],(0,3))):=Lib.hid (by
   unfold paB
   rw [show igt (slen s) 8192=true from decide_eq_true (by simp only [slen];omega)]
   rfl)
  clear h1
  go_enter Tryd.func42,Tryd.ntmps42
  go_wp2_with fail
  go_ret3
  exact post_nil HR.out (Below.refl _ _)
end
end Go.Proofs.YtkkoedniahnneaaDoor.K
namespace Go.Proofs.YtkkoedniahnneaaDoor.K
open Go.RowKit
noncomputable section
set_option linter.unusedSectionVars false
def sp_f42:Ent:=spec (.pr .str .nil) (fun x=>(paOk x.1)) (fun x=>(.tu [(.t (.sl tyBlkT) ((paB x.1).1)),(.t tI (((paB x.1).2).1)),(.t tI (((paB x.1).2).2))]))
theorem en_f42:Entered Tryd.prog 42:= .inr ⟨by decide,_,Tryd.func42,by kernel_rfl,by kernel_rfl⟩
theorem ms_f42:Meets Tryd.prog 42 (strip sp_f42):=by
 unfold sp_f42
 refine meets_calls (fun x hok X w σ vs hfin hc=> ?_)
 obtain ⟨s,u⟩:=x
 simp only [Ty.canon,V.ds,V.d,Ty.d,Cs,C] at hc
 obtain ⟨v1,r1,rfl,⟨rfl,_⟩,rfl⟩:=hc
 refine (parseB_any s w).mono ?_
 rintro e w' ⟨v,rfl,hC,hb⟩
 refine ⟨_,rfl, ?_,hb⟩
 have hv:C X w' σ (V.t (.sl tyBlkT) (paB s).1).d v:=C.up _ _ (C.less hC (fun b q hq=>hfin b q hq) rfl)
 show C X w' σ (.tu [(V.t (.sl tyBlkT) (paB s).1).d,.v (.int .i64 (paB s).2.1),.v (.int .i64 (paB s).2.2)]) _
 simp only [C,Cs]
 exact ⟨_,rfl,_,_,rfl,hv,_,_,rfl,⟨rfl,rfl⟩,_,_,rfl,⟨rfl,rfl⟩,rfl⟩
end
end Go.Proofs.YtkkoedniahnneaaDoor.K
namespace Go.Proofs
open Go.Shelf
def Tryd.lays154_ren:Go.Shelf.Ren:=⟨fun|154=>153|138=>56|165=>126|143=>100|166=>60|197=>167|169=>55|195=>98|218=>99|240=>108|241=>152|219=>128|260=>172|276=>132|277=>166|217=>154|225=>155|224=>156|267=>157|266=>168|314=>169|n=>n,fun|9=>9|3=>3|4=>4|72=>75|0=>0|76=>84|105=>176|21=>21|5=>5|70=>73|20=>20|37=>28|75=>83|127=>127|164=>154|46=>148|119=>184|139=>187|138=>186|146=>169|51=>168|80=>77|n=>n,fun|1=>0|3=>1|4=>2|n=>n⟩
theorem Tryd.lays154:Go.Proofs.Lays.n154 Tryd.prog Tryd.lays154_ren:={
 mixed:=by kernel_rfl
 f138:=Tryd.func56.trans (congrArg some (by kernel_rfl))
 f143:=Tryd.func100.trans (congrArg some (by kernel_rfl))
 f154:=Tryd.func153.trans (congrArg some (by kernel_rfl))
 f165:=Tryd.func126.trans (congrArg some (by kernel_rfl))
 f166:=Tryd.func60.trans (congrArg some (by kernel_rfl))
 f169:=Tryd.func55.trans (congrArg some (by kernel_rfl))
 f195:=Tryd.func98.trans (congrArg some (by kernel_rfl))
 f197:=Tryd.func167.trans (congrArg some (by kernel_rfl))
 f217:=Tryd.func154.trans (congrArg some (by kernel_rfl))
 f218:=Tryd.func99.trans (congrArg some (by kernel_rfl))
 f219:=Tryd.func128.trans (congrArg some (by kernel_rfl))
 f224:=Tryd.func156.trans (congrArg some (by kernel_rfl))
 f225:=Tryd.func155.trans (congrArg some (by kernel_rfl))
 f240:=Tryd.func108.trans (congrArg some (by kernel_rfl))
 f241:=Tryd.func152.trans (congrArg some (by kernel_rfl))
 f260:=Tryd.func172.trans (congrArg some (by kernel_rfl))
 f266:=Tryd.func168.trans (congrArg some (by kernel_rfl))
 f267:=Tryd.func157.trans (congrArg some (by kernel_rfl))
 f276:=Tryd.func132.trans (congrArg some (by kernel_rfl))
 f277:=Tryd.func166.trans (congrArg some (by kernel_rfl))
 f314:=Tryd.func169.trans (congrArg some (by kernel_rfl))
 t0:=Tryd.underlying0
 a0:=Tryd.isAgg0
 z0:=Tryd.sizeOf0
 v0:=Tryd.zeroValue0
 t3:=Tryd.underlying3
 a3:=Tryd.isAgg3
 z3:=Tryd.sizeOf3
 v3:=Tryd.zeroValue3
 t4:=Tryd.underlying4
 a4:=Tryd.isAgg4
 z4:=Tryd.sizeOf4
 v4:=Tryd.zeroValue4
 t5:=Tryd.underlying5
 a5:=Tryd.isAgg5
 z5:=Tryd.sizeOf5
 v5:=Tryd.zeroValue5
 t9:=Tryd.underlying9
 a9:=Tryd.isAgg9
 z9:=Tryd.sizeOf9
 v9:=Tryd.zeroValue9
 t20:=Tryd.underlying20
 a20:=Tryd.isAgg20
 z20:=Tryd.sizeOf20
 v20:=Tryd.zeroValue20
 t21:=Tryd.underlying21
 a21:=Tryd.isAgg21
 z21:=Tryd.sizeOf21
 v21:=Tryd.zeroValue21
 t37:=Tryd.underlying28
 a37:=Tryd.isAgg28
 z37:=Tryd.sizeOf28
 v37:=Tryd.zeroValue28
 t46:=Tryd.underlying148
 a46:=Tryd.isAgg148
 z46:=Tryd.sizeOf148
 v46:=Tryd.zeroValue148
 t51:=Tryd.underlying168
 a51:=Tryd.isAgg168
 z51:=Tryd.sizeOf168
 v51:=Tryd.zeroValue168
 t70:=Tryd.underlying73
 a70:=Tryd.isAgg73
 z70:=Tryd.sizeOf73
 v70:=Tryd.zeroValue73
 t72:=Tryd.underlying75
 a72:=Tryd.isAgg75
 z72:=Tryd.sizeOf75
 v72:=Tryd.zeroValue75
 t75:=Tryd.underlying83
 a75:=Tryd.isAgg83
 z75:=Tryd.sizeOf83
 v75:=Tryd.zeroValue83
 t76:=Tryd.underlying84
 a76:=Tryd.isAgg84
 z76:=Tryd.sizeOf84
 v76:=Tryd.zeroValue84
 t105:=Tryd.underlying176
 a105:=Tryd.isAgg176
 z105:=Tryd.sizeOf176
 v105:=Tryd.zeroValue176
 t119:=Tryd.underlying184
 a119:=Tryd.isAgg184
 z119:=Tryd.sizeOf184
 t127:=Tryd.underlying127
 a127:=Tryd.isAgg127
 z127:=Tryd.sizeOf127
 v127:=Tryd.zeroValue127
 t138:=Tryd.underlying186
 a138:=Tryd.isAgg186
 z138:=Tryd.sizeOf186
 v138:=Tryd.zeroValue186
 t139:=Tryd.underlying187
 a139:=Tryd.isAgg187
 z139:=Tryd.sizeOf187
 v139:=Tryd.zeroValue187
 t146:=Tryd.underlying169
 a146:=Tryd.isAgg169
 z146:=Tryd.sizeOf169
 v146:=Tryd.zeroValue169
 t164:=Tryd.underlying154
 a164:=Tryd.isAgg154
 z164:=Tryd.sizeOf154
 v164:=Tryd.zeroValue154
 g1:=by kernel_rfl
 g3:=by kernel_rfl
 g4:=by kernel_rfl}
end Go.Proofs
namespace Go.Proofs.YtkkoedniahnneaaDoor.K
open Go.RowKit Go.Shelf
attribute [local go_sem ↓] Go.wp_at_zero Go.wp_at_succ
def repB (c:UInt8)(n:List UInt8)(l:List UInt8):List UInt8:=l.flatMap fun b=>if b=c then n else [b]
theorem repB_cons (c:UInt8)(n:List UInt8)(b:UInt8)(l:List UInt8):repB c n (b::l)=(if b=c then n else [b])++repB c n l:=rfl
theorem repB_none {c:UInt8}{n:List UInt8}: ∀ {l:List UInt8},l.count c=0->repB c n l=l
 | [],_=>rfl
 |b::l,h=>by
  rw [List.count_cons] at h
  have hb:b≠c:=fun e=>by rw [e] at h;simp at h
  rw [repB_cons,if_neg hb,repB_none (l:=l) (by omega)]
  rfl
theorem index_at: ∀ {l:List UInt8} {c:UInt8},0<l.count c→ ∃ j:Nat,Lib.indexByte l c=j/\j<l.length/\(∀ n,repB c n l=l.take j++(n++repB c n (l.drop (j+1))))/\(l.drop (j+1)).count c+1=l.count c
 | [],_,h=>by simp at h
 |b::l,c,h=>by
  by_cases hb:b=c
  ·subst hb
   refine ⟨0, ?_,by simp,fun n=> ?_, ?_⟩
   ·unfold Lib.indexByte
    simp
   ·rw [repB_cons,if_pos rfl]
    rfl
   ·rw [List.count_cons]
    simp
  ·rw [List.count_cons] at h
   have hbq:(b==c)=false:=beq_eq_false_iff_ne.2 hb
   rw [hbq] at h
   obtain ⟨j,h1,h2,h3,h4⟩:=index_at (l:=l) (c:=c) (by simpa using h)
   refine ⟨j+1, ?_,by rw [List.length_cons];omega,fun n=> ?_, ?_⟩
   ·unfold Lib.indexByte
    rw [h1,hbq,if_neg Bool.false_ne_true,show ((j:Int)== -1)=false from beq_eq_false_iff_ne.2 (by omega),if_neg Bool.false_ne_true]
    rfl
   ·rw [repB_cons,if_neg hb,h3 n]
    rfl
   ·rw [List.count_cons,hbq]
    simpa using h4
theorem repB_len (c:UInt8)(n:List UInt8)(hn:n.length=2): ∀ l:List UInt8,(repB c n l).length=l.length+l.count c
 | []=>rfl
 |b::l=>by
  rw [repB_cons,List.length_append,repB_len c n hn l,List.count_cons,List.length_cons]
  by_cases hb:b=c
  ·rw [if_pos hb,hn]
   simp [hb]
   omega
  ·rw [if_neg hb]
   simp [hb]
   omega
section
variable {P:Program}{ρ:Ren}
set_option maxHeartbeats 16000000 in
set_option maxRecDepth 1000000 in
/-- strings.Replace of one letter by two -/
theorem rep_some (L:Lays.n154 P ρ)(X:Builder.Extra P ρ)(s:ByteArray)(c:UInt8)(new:ByteArray)(w:World)(hs:s.size<=4000000000)(hn2:new.size=2)(hc0:0<(bl s).count c):
  Calls P (ρ.f 154) #[.string s,.string ⟨#[c]⟩,.string new,.int .i64 (-1)] w fun e w'=>e= .returned (.string (mkB (repB c (bl new) (bl s))))/\Below w.heap.size w w':=by
 have hC:=Any.strings_Count_one {L with} s c w
 obtain ⟨old,hold⟩: ∃ old:ByteArray,old=⟨#[c]⟩:=⟨_,rfl⟩
 obtain ⟨K,hK⟩: ∃ K:Nat,K=(bl s).count c:=⟨_,rfl⟩
 have hcc:Lib.countByte s.data.toList c=K:=hK.symm
 rw [hcc] at hC
 have hKs:K<=s.size:=by rw [hK, ← bl_len];exact List.count_le_length
 rw [←hK] at hc0
 have hne:old≠new:=fun e=>by rw [←e,hold] at hn2;have:(⟨#[c]⟩:ByteArray).size=1:=rfl;omega
 have ho1:old.size=1:=by rw [hold];rfl
 have hbeq:(old.toList==new.toList)=false:=(Lib.bytes_beq_false_iff old new).2 hne
 have hnz:((-1:Int)==0)=false:=rfl
 have hcz:((K:Int)==0)=false:=beq_eq_false_iff_ne.2 (by omega)
 have HKC:=Lib.hid hK
 have hod:decide (0<old.size)=true:=decide_eq_true (by omega)
 have hI: ∀ (t:ByteArray) (w:World),Calls P (ρ.f 143) #[.string t,.string old] w fun e w'=>e= .returned (.int .i64 (Lib.indexByte t.data.toList c))/\w'=w:=fun t w=>by rw [hold];exact Any.strings_Index_one {L with} t c w
 have HI:=Lib.hid hI
 rw [←hold] at hC ⊢
 clear hI hold hK hcc hne
 have mixed:=L.mixed
 have t72:=L.t72;have a72:=L.a72;have z72:=L.z72;have v72:=L.v72;have u72:=run_underlying L.t72
 have t70:=L.t70;have a70:=L.a70;have z70:=L.z70;have v70:=L.v70;have u70:=run_underlying L.t70
 have t37:=L.t37;have a37:=L.a37;have z37:=L.z37;have v37:=L.v37;have u37:=run_underlying L.t37
 have t3:=L.t3;have a3:=L.a3;have z3:=L.z3;have v3:=L.v3;have u3:=run_underlying L.t3
 have t9:=L.t9;have a9:=L.a9;have z9:=L.z9;have v9:=L.v9;have u9:=run_underlying L.t9
 have t4:=L.t4;have a4:=L.a4;have z4:=L.z4;have v4:=L.v4;have u4:=run_underlying L.t4
 have e138: ∀ args w,(callFunc (ρ.f 138) args).run P w= .ok (.enter (ρ.f 138) args) w:=enters_of L.f138 (by kernel_rfl) rfl
 have e143: ∀ args w,(callFunc (ρ.f 143) args).run P w= .ok (.enter (ρ.f 143) args) w:=enters_of L.f143 (by kernel_rfl) rfl
 have e165: ∀ args w,(callFunc (ρ.f 165) args).run P w= .ok (.enter (ρ.f 165) args) w:=enters_of L.f165 (by kernel_rfl) rfl
 have e166: ∀ args w,(callFunc (ρ.f 166) args).run P w= .ok (.enter (ρ.f 166) args) w:=enters_of L.f166 (by kernel_rfl) rfl
 have e169: ∀ args w,(callFunc (ρ.f 169) args).run P w= .ok (.enter (ρ.f 169) args) w:=enters_of L.f169 (by kernel_rfl) rfl
 go_enter L.f154,Body.n154_ntmps ρ
 go_wp2_with (first|(go_at_fn (ρ.f 138);refine hC.mono ?_;rintro e w' ⟨rfl,hw⟩;rw [hw]))
 clear hC
 rw [show ((s.size:Int)+(K:Int))=((s.size+K:Nat):Int) from (Int.natCast_add _ _).symm]
 refine (Any.Builder_Grow_fresh {L with} X w.heap.size w.heap.size _ _ (Nat.le_refl _) (heap_alloc_new w _) (by simp) (by omega)).mono ?_
 rintro e w1 ⟨rfl,hb0,hb1⟩
 have H1:=Lib.hid (Or.inr hb0:Lib.IsBuilder (ρ.t 72) (ρ.t 5) w.heap.size w.heap.size (Lib.byteCells []) w1)
 have Hb1:=Lib.hid (((Below.refl w.heap.size w).alloc (Nat.le_refl _) _).trans hb1)
 clear hb0 hb1
 go_wp2_with fail
 go_loopg [11,53] K (fun g s11 s53 wx=> ∃ (i start:Nat) (acc:List UInt8),s53= .int .i64 i/\s11= .int .i64 start/\i+g=K/\start<=s.size∧
  Hid (Lib.IsBuilder (ρ.t 72) (ρ.t 5) w.heap.size w.heap.size (Lib.byteCells acc) wx)/\Hid (Below w.heap.size w wx)/\Hid (acc++repB c (bl new) ((bl s).drop start)=repB c (bl new) (bl s)/\((bl s).drop start).count c=g)/\acc.length<=start+i)
 case atStart=>exact ⟨0,0,[],rfl,rfl,by omega,Nat.zero_le _,H1,Hb1,Lib.hid ⟨rfl,HKC.out.symm⟩,by simp⟩
 case round=>
  obtain ⟨i,start,acc,rfl,rfl,hig,hst,HB,HW,HR,hbd⟩:=hrel
  have hBw:w.heap.size<=wr.heap.size:=HW.out.size
  have c1:(0:Int)<=(start:Int):=by omega
  have c2:(start:Int)<=(s.size:Int):=by omega
  cases gk with
  |zero=>
   have hiK: ¬ ((i:Int)<(K:Int)):=by omega
   go_wp2_with fail
   refine (Any.Builder_WriteString {L with} X w.heap.size w.heap.size _ _ wr HB.out (by rw [Lib.byteCells_length,ByteArray.size_extract];omega) hBw).mono ?_
   rintro e w3 ⟨rfl,h3,hb3⟩
   rw [Lib.strCells_eq,Lib.extract_to_end, ← Lib.byteCells_append] at h3
   have hfin:acc++(bl s).drop start=repB c (bl new) (bl s):=by
    have:=HR.out
    rw [repB_none this.2] at this
    exact this.1
   rw [show s.data.toList=bl s from rfl,hfin] at h3
   have H3:=Lib.hid (Or.inr h3:Lib.IsBuilder (ρ.t 72) (ρ.t 5) w.heap.size w.heap.size _ w3)
   have Hb3:=Lib.hid (HW.out.trans hb3)
   have hBw3:w.heap.size<=w3.heap.size:=Hb3.out.size
   clear h3 hb3 hfin
   go_wp2_with fail
   refine (Any.Builder_String_any {L with} X w.heap.size w.heap.size _ w3 H3.out hBw3).mono ?_
   rintro e w5 ⟨rfl,hb5⟩
   have Hb5:=Lib.hid (Hb3.out.trans hb5)
   clear hb5
   go_wp2
   go_ret
   exact ⟨rfl,Hb5.out⟩
  |succ g=>
   have hiK:(i:Int)<(K:Int):=by omega
   obtain ⟨j,j1,j2,j3,j4⟩:=index_at (l:=(bl s).drop start) (c:=c) (by rw [HR.out.2];omega)
   have j2:j<s.size-start:=by rw [List.length_drop,bl_len] at j2;exact j2
   have c3:(start:Int)<=(start:Int)+(j:Int):=by omega
   have c4:(start:Int)+(j:Int)<=(s.size:Int):=by omega
   have hnext:Lib.byteCells acc++Lib.strCells (s.extract start (start+j))++Lib.strCells new=Lib.byteCells (acc++((bl s).drop start).take j++bl new):=by
    rw [Lib.strCells_eq,Lib.strCells_eq,Lib.extract_data,Nat.add_sub_cancel_left, ← Lib.byteCells_append, ← Lib.byteCells_append]
   have hrep:(acc++((bl s).drop start).take j++bl new)++repB c (bl new) ((bl s).drop (start+j+1))=repB c (bl new) (bl s)/\((bl s).drop (start+j+1)).count c=g:=by
    have h1:=HR.out.1
    have h2:=HR.out.2
    rw [j3,List.drop_drop] at h1
    rw [List.drop_drop] at j4
    rw [show start+j+1=start+(j+1) by omega]
    refine ⟨?_,by omega⟩
    rw [←h1]
    simp only [List.append_assoc]
   have hal:(acc++((bl s).drop start).take j++bl new).length<=(start+j+1)+(i+1):=by
    simp only [List.length_append,List.length_take,List.length_drop,bl_len]
    omega
   have HJ:=Lib.hid j1
   have HAL:=Lib.hid hal
   have Hn:=Lib.hid hnext
   have Hrep:=Lib.hid hrep
   clear hnext hrep HR j1 j3 j4 hal
   go_wp2_with (first|(go_at_fn (ρ.f 143);refine (HI.out _ _).mono ?_;rintro e w' ⟨rfl,hw⟩;rw [hw,Lib.extract_to_end,show s.data.toList=bl s from rfl,HJ.out]))
   refine (Any.Builder_WriteString {L with} X w.heap.size w.heap.size _ (s.extract start (start+j)) wr HB.out (by rw [Lib.byteCells_length,ByteArray.size_extract];omega) hBw).mono ?_
   rintro e w3 ⟨rfl,h3,hb3⟩
   have hBw3:w.heap.size<=w3.heap.size:=Nat.le_trans hBw hb3.size
   have H3:=Lib.hid h3
   have Hb3:=Lib.hid hb3
   clear h3 hb3
   go_wp2_with fail
   refine (Any.Builder_WriteString {L with} X w.heap.size w.heap.size _ new w3 (Or.inr H3.out) (by rw [List.length_append,Lib.byteCells_length,Lib.strCells_length,ByteArray.size_extract];omega) hBw3).mono ?_
   rintro e w4 ⟨rfl,h4,hb4⟩
   rw [Hn.out] at h4
   have H4:=Lib.hid (Or.inr h4:Lib.IsBuilder (ρ.t 72) (ρ.t 5) w.heap.size w.heap.size _ w4)
   have Hb4:=Lib.hid ((HW.out.trans Hb3.out).trans hb4)
   clear h4 hb4
   go_wp2
   go_roundg g
   case measure=>omega
   case rel=>exact ⟨i+1,start+j+1,_,by first|rfl|(simp;unfold wrap64;omega),by first|rfl|simp|(simp;unfold wrap64;omega),by omega,by omega,H4,Hb4,Hrep,HAL.out⟩
set_option maxHeartbeats 4000000 in
set_option maxRecDepth 1000000 in
theorem rep_absent (L:Lays.n154 P ρ)(s:ByteArray)(c:UInt8)(new:ByteArray)(w:World)(hn2:new.size=2)(hc0:(bl s).count c=0):
  Calls P (ρ.f 154) #[.string s,.string ⟨#[c]⟩,.string new,.int .i64 (-1)] w fun e w'=>e= .returned (.string s)/\w'=w:=by
 have hC:=Any.strings_Count_one {L with} s c w
 have hcc:Lib.countByte s.data.toList c=0:=hc0
 rw [hcc] at hC
 obtain ⟨old,hold⟩: ∃ old:ByteArray,old=⟨#[c]⟩:=⟨_,rfl⟩
 have hne:old≠new:=fun e=>by rw [←e,hold] at hn2;have:(⟨#[c]⟩:ByteArray).size=1:=rfl;omega
 have hbeq:(old.toList==new.toList)=false:=(Lib.bytes_beq_false_iff old new).2 hne
 have hnz:((-1:Int)==0)=false:=rfl
 rw [←hold] at hC ⊢
 clear hold hcc hne
 have t3:=L.t3;have a3:=L.a3;have z3:=L.z3;have v3:=L.v3
 have t9:=L.t9;have a9:=L.a9;have z9:=L.z9;have v9:=L.v9
 have t4:=L.t4;have a4:=L.a4;have z4:=L.z4;have v4:=L.v4
 have e138: ∀ args w,(callFunc (ρ.f 138) args).run P w= .ok (.enter (ρ.f 138) args) w:=enters_of L.f138 (by kernel_rfl) rfl
 go_enter L.f154,Body.n154_ntmps ρ
 go_wp2_with (first|(go_at_fn (ρ.f 138);refine hC.mono ?_;rintro e w' ⟨rfl,hw⟩;rw [hw]))
 go_ret
 exact ⟨rfl,rfl⟩
end
theorem bX2:Builder.Extra Tryd.prog Tryd.lays154_ren where
 sizeBuilder:=by kernel_rfl
 liesBuilder:=by kernel_rfl
 t5:=Tryd.lays105.t5
 a5:=Tryd.lays105.a5
 z5:=Tryd.lays105.z5
 v5:=Tryd.lays105.v5
 infoByte:=by kernel_rfl
 cellsByte:=by kernel_rfl
 sizeByte:=by kernel_rfl
 neB5:=by decide
noncomputable section
def esB (l:List UInt8):List UInt8:=l.flatMap fun b=>if b=34 then [92,34] else if b=92 then [92,92] else [b]
theorem esB_cons (b:UInt8)(l:List UInt8):esB (b::l)=(if b=34 then [92,34] else if b=92 then [92,92] else [b])++esB l:=rfl
theorem repB_app (c:UInt8)(n a b:List UInt8):repB c n (a++b)=repB c n a++repB c n b:=List.flatMap_append
theorem rp2: ∀ l:List UInt8,repB 34 [92,34] (repB 92 [92,92] l)=esB l
 | []=>rfl
 |b::l=>by
  rw [repB_cons,repB_app,rp2 l,esB_cons]
  congr 1
  by_cases h1:b=92
  ·subst h1
   rfl
  ·rw [if_neg h1,repB_cons]
   exact List.append_nil _
theorem byI_34 (b:UInt8):ieq ((b.toNat:Nat):Int) 34=decide (b=34):=by
 simp only [ieq]
 rw [Bool.eq_iff_iff,beq_iff_eq,decide_eq_true_eq, ← UInt8.toNat_inj]
 show _↔b.toNat=34
 omega
theorem byI_92 (b:UInt8):ieq ((b.toNat:Nat):Int) 92=decide (b=92):=by
 simp only [ieq]
 rw [Bool.eq_iff_iff,beq_iff_eq,decide_eq_true_eq, ← UInt8.toNat_inj]
 show _↔b.toNat=92
 omega
abbrev byI (b:UInt8):Int:=((b.toNat:Nat):Int)
theorem escL_bl: ∀ l:List UInt8,escL (l.map byI)=(esB l).map byI
 | []=>rfl
 |b::l=>by
  rw [List.map_cons,escL_cons,escL_bl l,esB_cons,List.map_append]
  congr 1
  unfold escI
  rw [show byI b=((b.toNat:Nat):Int) from rfl,byI_34,byI_92]
  by_cases h1:b=34
  ·subst h1
   rfl
  ·by_cases h2:b=92
   ·subst h2
    rfl
   ·rw [decide_eq_false h1,decide_eq_false h2,if_neg h1,if_neg h2]
    rfl
theorem qtI_bl (s:ByteArray):qtI s=([34]++esB (bl s)++[34]).map byI:=by
 unfold qtI
 rw [bytesL_bl,escL_bl,List.map_append,List.map_append]
 rfl
theorem strOf_map (l:List UInt8):bl (strOf (l.map byI))=l:=by
 show ((l.map byI).map fun n=>UInt8.ofNat n.toNat).toArray.toList=l
 rw [List.map_map]
 have:((fun n:Int=>UInt8.ofNat n.toNat) ∘ byI)=id:=by
  funext b
  show UInt8.ofNat (((b.toNat:Nat):Int)).toNat=b
  rw [Int.toNat_natCast,UInt8.ofNat_toNat]
 rw [this,List.map_id]
def rpF (s old new:ByteArray):ByteArray:=mkB (repB (old.data.toList.headD 0) (bl new) (bl s))
def rplF (s old new:ByteArray)(_n:Int):ByteArray:=rpF s old new
def rpOk (s old new:ByteArray):Bool:=decide (s.size<=4000000000/\old.size=1/\new.size=2)
def rplOk (s old new:ByteArray)(n:Int):Bool:=rpOk s old new&&decide (n= -1)
def sp_f153:Ent:=spec (.pr .str (.pr .str (.pr .str (.pr tI .nil)))) (fun x=>(rplOk x.1 x.2.1 x.2.2.1 x.2.2.2.1)) (fun x=>(.t .str (rplF x.1 x.2.1 x.2.2.1 x.2.2.2.1)))
theorem en_f153:Entered Tryd.prog 153:= .inr ⟨by decide,_,Tryd.func153,by kernel_rfl,by kernel_rfl⟩
theorem ms_f153:Meets Tryd.prog 153 (strip sp_f153):=meets_calls fun x hok X w σ vs hfin hc=>by
 obtain ⟨s,⟨d⟩,new,n,u⟩:=x
 obtain ⟨h1,h2⟩:=Bool.and_eq_true_iff.1 hok
 obtain ⟨h1,h3,h4⟩:=of_decide_eq_true h1
 obtain rfl:n= -1:=of_decide_eq_true h2
 obtain ⟨c,rfl⟩:=one_byte (show d.size=1 from h3)
 simp only [Ty.canon,V.ds,V.d,Ty.d,Cs,C] at hc
 obtain ⟨v1,r1,rfl,⟨rfl,_⟩,v2,r2,rfl,⟨rfl,_⟩,v3,r3,rfl,⟨rfl,_⟩,v4,r4,rfl,⟨rfl,_⟩,rfl⟩:=hc
 rcases Nat.eq_zero_or_pos ((bl s).count c) with h0|h0
 ·refine (rep_absent Tryd.lays154 s c new w h4 h0).mono ?_
  rintro e w' ⟨rfl,rfl⟩
  refine ⟨_,rfl, ?_,Below.refl _ _⟩
  simp only [V.d,Ty.d,C]
  have:rplF s ⟨#[c]⟩ new (-1)=s:=by
   show mkB (repB c (bl new) (bl s))=s
   rw [repB_none h0]
  rw [this]
  exact ⟨rfl,rfl⟩
 ·refine (rep_some Tryd.lays154 bX2 s c new w h1 h4 h0).mono ?_
  rintro e w' ⟨rfl,hb⟩
  refine ⟨_,rfl, ?_,hb⟩
  simp only [V.d,Ty.d,C]
  exact ⟨rfl,rfl⟩
def tc_f127:TC:=(.sq (.reg [(oP 6 (.mv (.c (.v (.string (ByteArray.mk #[]))))))]) (.sq (.reg [(oV 7 0),(oV 8 1),(oV 9 2),(oC 10 153 [(.t 7),(.t 8),(.t 9),(cI (-1))]),(oV 6 10)]) .rt))
def rv_f127:List (RV×Option Ty):=[((.t 6),some .str)]
def g_f127:G:=⟨TYs,[],11,EL [(153,sp_f153)],keeps,(fun _ _=>none),IL [],RL []⟩
def r_f127 (p0:ByteArray)(p1:ByteArray)(p2:ByteArray):Option (V×List VO):=
 br ((rplOk p0 p1 p2 (-1)))
  (some (.t .str (rplF p0 p1 p2 (-1)),[]))
  (none)
theorem e_f127 (p0:ByteArray)(p1:ByteArray)(p2:ByteArray):runF g_f127 tc_f127 rv_f127 false [.t .str p0,.t .str p1,.t .str p2] []=r_f127 p0 p1 p2:=by kernel_rfl
theorem ok_f127:Option.map (trC Tryd.prog) Tryd.f127.body=some tc_f127.er:=by kernel_rfl
theorem rok_f127:trVs Tryd.prog Tryd.f127.results.toList=some (rv_f127.map Prod.fst):=by kernel_rfl
theorem en_f127:Entered Tryd.prog 127:= .inr ⟨by decide,_,Tryd.func127,by kernel_rfl,by kernel_rfl⟩
theorem gk_f127:GOk Tryd.prog g_f127:=gok_of _ (by
 intro p hp
 simp only [List.mem_cons,List.not_mem_nil,or_false] at hp
 rcases hp with rfl
 ·exact ⟨en_f153,ms_f153⟩)
theorem lk_f127:tc_f127.lok g_f127:=by repeat (first|exact trivial|refine ⟨?_, ?_⟩)
theorem s_f127 (s old new:ByteArray)(h:rpOk s old new=true):r_f127 s old new=some (.t .str (rpF s old new),[]):=by
 unfold r_f127
 exact brY (Bool.and_eq_true_iff.2 ⟨h,rfl⟩) rfl
def sp_f127:Ent:=spec (.pr .str (.pr .str (.pr .str .nil))) (fun x=>(rpOk x.1 x.2.1 x.2.2.1)) (fun x=>(.t .str (rpF x.1 x.2.1 x.2.2.1)))
theorem ms_f127:Meets Tryd.prog 127 (strip sp_f127):=by
 obtain ⟨c,hc,hi⟩:=Option.map_eq_some_iff.1 ok_f127
 exact meets_spec (R:=runF g_f127 tc_f127 rv_f127 false) (meets_of (by decide) Tryd.func127 hc hi Tryd.ntmps127 rok_f127 gk_f127 lk_f127 mixed) fun x hok=>(e_f127 x.1 x.2.1 x.2.2.1).trans (s_f127 x.1 x.2.1 x.2.2.1 hok)
def tc_f97:TC:=(.sq (.reg [(oP 2 (.mv (.c (.v (.string (ByteArray.mk #[]))))))]) (.sq (.sq (.reg [(oV 6 0),(oC 7 114 [(.t 6)]),(oV 5 7),(oP 8 (.ext 0 (.t 5))),(oP 9 (.ext 1 (.t 5))),(oV 3 8),(oV 4 9)]) (.sq (.reg [(oV 10 4)]) (.cd (.t 10) (.sq (.reg [(oV 11 0),(oV 2 11)]) .rt) .sk))) (.sq (.reg [(oV 12 0),(oC 13 127 [(.t 12),(.c (.v (.string (ByteArray.mk #[92])))),(.c (.v (.string (ByteArray.mk #[92,92]))))]),(oC 14 127 [(.t 13),(.c (.v (.string (ByteArray.mk #[34])))),(.c (.v (.string (ByteArray.mk #[92,34]))))]),(oP 15 (.bin false .add (.c (.v (.string (ByteArray.mk #[34])))) (.t 14))),(oP 16 (.bin false .add (.t 15) (.c (.v (.string (ByteArray.mk #[34])))))),(oV 2 16)]) .rt)))
def rv_f97:List (RV×Option Ty):=[((.t 2),some .str)]
def g_f97:G:=⟨TYs,[],17,EL [(114,sp_f114),(127,sp_f127)],keeps,(fun _ _=>none),IL [],RL []⟩
def r_f97 (p0:ByteArray):Option (V×List VO):=
 br ((wdOk p0))
  (br ((wdF p0).2)
   (some (.t .str p0,[]))
   (br ((rpOk p0 (ByteArray.mk #[92]) (ByteArray.mk #[92,92])))
    (br ((rpOk (rpF p0 (ByteArray.mk #[92]) (ByteArray.mk #[92,92])) (ByteArray.mk #[34]) (ByteArray.mk #[92,34])))
     (br (cCat (ByteArray.mk #[34]) (rpF (rpF p0 (ByteArray.mk #[92]) (ByteArray.mk #[92,92])) (ByteArray.mk #[34]) (ByteArray.mk #[92,34])))
      (br (cCat (scat (ByteArray.mk #[34]) (rpF (rpF p0 (ByteArray.mk #[92]) (ByteArray.mk #[92,92])) (ByteArray.mk #[34]) (ByteArray.mk #[92,34]))) (ByteArray.mk #[34]))
       (some (.t .str (scat (scat (ByteArray.mk #[34]) (rpF (rpF p0 (ByteArray.mk #[92]) (ByteArray.mk #[92,92])) (ByteArray.mk #[34]) (ByteArray.mk #[92,34]))) (ByteArray.mk #[34])),[]))
       (none))
      (none))
     (none))
    (none)))
  (none)
theorem e_f97 (p0:ByteArray):runF g_f97 tc_f97 rv_f97 false [.t .str p0] []=r_f97 p0:=by kernel_rfl
theorem ok_f97:Option.map (trC Tryd.prog) Tryd.f97.body=some tc_f97.er:=by kernel_rfl
theorem rok_f97:trVs Tryd.prog Tryd.f97.results.toList=some (rv_f97.map Prod.fst):=by kernel_rfl
theorem gk_f97:GOk Tryd.prog g_f97:=gok_of _ (by
 intro p hp
 simp only [List.mem_cons,List.not_mem_nil,or_false] at hp
 rcases hp with rfl|rfl
 ·exact ⟨en_f114,ms_f114⟩
 ·exact ⟨en_f127,ms_f127⟩)
theorem lk_f97:tc_f97.lok g_f97:=by repeat (first|exact trivial|refine ⟨?_, ?_⟩)
theorem s_f97 (s:ByteArray)(h:wsz s=true):r_f97 s=some (.t .str (qtF s),[]):=by
 have h0:s.size<=2000000000:=of_decide_eq_true h
 unfold r_f97 qtF
 have hd:rpOk s (ByteArray.mk #[92]) (ByteArray.mk #[92,92])=true:=decide_eq_true ⟨by omega,rfl,rfl⟩
 have l1:(repB 92 [92,92] (bl s)).length<=2*s.size:=by
  rw [repB_len 92 [92,92] rfl, ← bl_len]
  have:(bl s).count 92<=(bl s).length:=List.count_le_length
  omega
 have l2:(repB 34 [92,34] (repB 92 [92,92] (bl s))).length<=4*s.size:=by
  rw [repB_len 34 [92,34] rfl]
  have:(repB 92 [92,92] (bl s)).count 34<=(repB 92 [92,92] (bl s)).length:=List.count_le_length
  omega
 have e1:rpF s (ByteArray.mk #[92]) (ByteArray.mk #[92,92])=mkB (repB 92 [92,92] (bl s)):=rfl
 have e2:rpF (mkB (repB 92 [92,92] (bl s))) (ByteArray.mk #[34]) (ByteArray.mk #[92,34])=mkB (repB 34 [92,34] (repB 92 [92,92] (bl s))):=rfl
 have z1:(mkB (repB 92 [92,92] (bl s))).size=(repB 92 [92,92] (bl s)).length:=rfl
 have z2:(mkB (repB 34 [92,34] (repB 92 [92,92] (bl s)))).size=(repB 34 [92,34] (repB 92 [92,92] (bl s))).length:=rfl
 have hd2:rpOk (mkB (repB 92 [92,92] (bl s))) (ByteArray.mk #[34]) (ByteArray.mk #[92,34])=true:=decide_eq_true ⟨by omega,rfl,rfl⟩
 rw [e1,e2]
 refine brY (decide_eq_true (by omega)) ?_
 show br (plnB s) _ _=_
 cases plnB s with
 |true=>rfl
 |false=>
  rw [br_false,cond_false]
  refine brY hd (brY hd2 (brY (decide_eq_true ?_) (brY (decide_eq_true ?_) ?_)))
  ·rw [z2]
   show 1+_<=_
   omega
  ·rw [show (scat (ByteArray.mk #[34]) (mkB (repB 34 [92,34] (repB 92 [92,92] (bl s))))).size=1+(mkB (repB 34 [92,34] (repB 92 [92,92] (bl s)))).size from ByteArray.size_append,z2]
   show 1+_+1<=_
   omega
  ·have:scat (scat (ByteArray.mk #[34]) (mkB (repB 34 [92,34] (repB 92 [92,92] (bl s))))) (ByteArray.mk #[34])=strOf (qtI s):=by
    refine bl_ext ?_
    rw [qtI_bl,strOf_map,bl_app,bl_app,rp2]
   rw [this]
def sp_f97:Ent:=spec (.pr .str .nil) (fun x=>(wsz x.1)) (fun x=>(.t .str (qtF x.1)))
theorem ms_f97:Meets Tryd.prog 97 (strip sp_f97):=by
 obtain ⟨c,hc,hi⟩:=Option.map_eq_some_iff.1 ok_f97
 exact meets_spec (R:=runF g_f97 tc_f97 rv_f97 false) (meets_of (by decide) Tryd.func97 hc hi Tryd.ntmps97 rok_f97 gk_f97 lk_f97 mixed) fun x hok=>(e_f97 x.1).trans (s_f97 x.1 hok)
end
end Go.Proofs.YtkkoedniahnneaaDoor.K
namespace Go.Proofs.YtkkoedniahnneaaDoor.K
open Go.RowKit Go.Shelf
noncomputable section
set_option linter.unusedSectionVars false
theorem Bld.below {w w':World}{b:Nat}{l:List UInt8}(h:Bld w b l)(hb:Below w.heap.size w w'):Bld w' b l:=by
 have hlt:=h.lt
 unfold Bld Lib.IsBuilderF Lib.BuilderAtF at h ⊢
 rcases h with ⟨hB,v,hv,hown,hne⟩|⟨hB,v,hv,hown,hne⟩
 ·exact .inl ⟨hB,v,(hb.block b hlt).trans hv,hown.kept (row:=none) ⟨hb.os,hb.tape,hb.output,hb.size,fun k hk _=>hb.block k hk⟩ (Classical.em _),hne⟩
 ·exact .inr ⟨hB,v,(hb.block b hlt).trans hv,hown.kept (row:=none) ⟨hb.os,hb.tape,hb.output,hb.size,fun k hk _=>hb.block k hk⟩ (Classical.em _),hne⟩
def BI (w:World)(b:Nat)(L:List Int):Prop:= ∃ U:List UInt8,Bld w b U/\U.map byI=L
theorem BI.alloc {w:World}{b:Nat}{L:List Int}(h:BI w b L)(o:Obj):BI (w.alloc o) b L:=by obtain ⟨U,h,e⟩:=h;exact ⟨U,h.alloc o,e⟩
theorem BI.below {w w':World}{b:Nat}{L:List Int}(h:BI w b L)(hb:Below w.heap.size w w'):BI w' b L:=by obtain ⟨U,h,e⟩:=h;exact ⟨U,h.below hb,e⟩
theorem BI.lt {w:World}{b:Nat}{L:List Int}(h:BI w b L):b<w.heap.size:=by obtain ⟨U,h,e⟩:=h;exact h.lt
theorem BI.new_ (w:World):BI (w.alloc (.cells #[.pointer none,.slice none 0 0] 75)) w.heap.size []:=⟨[],Bld.new w,rfl⟩
theorem wr_calls {b:Nat}{L:List Int}{s:ByteArray}{w:World}(h:BI w b L)(hlen:L.length+s.size<=140737488355328):
  Calls Tryd.prog 60 #[.pointer (some ⟨b,0,none⟩),.string s] w fun e w'=>e= .returned (.tuple #[.int .i64 s.size,.nilIface])/\BI w' b (L++bytesL s)/\Below b w w'/\Lib.OthersKept 5 (some b) w w':=by
 obtain ⟨U,h,rfl⟩:=h
 rw [List.length_map] at hlen
 refine (write_calls b U s w h hlen).mono ?_
 rintro e w' ⟨rfl,h1,h2,h3⟩
 exact ⟨rfl,⟨_,h1,by rw [List.map_append];rfl⟩,h2,h3⟩
theorem strI_calls {b:Nat}{L:List Int}{w:World}(h:BI w b L):Calls Tryd.prog 55 #[.pointer (some ⟨b,0,none⟩)] w fun e w'=>e= .returned (.string (strOf L))/\Below b w w':=by
 obtain ⟨U,h,rfl⟩:=h
 refine (str_calls b U w h).mono ?_
 rintro e w' ⟨rfl,h1⟩
 refine ⟨?_,h1⟩
 rw [show strOf (U.map byI)=mkB U from bl_ext (strOf_map U)]
theorem rep_ind: ∀ n:Nat,(Lib.repeatL (ByteArray.mk #[32,32]).data.toList n).map byI=indL n
 |0=>rfl
 |n+1=>by
  have ih:=rep_ind n
  unfold Lib.repeatL
  rw [List.map_append,ih]
  unfold indL
  rw [show 2*(n+1)=2*n+1+1 by omega,List.replicate_succ,List.replicate_succ]
  rfl
theorem rep_calls (n:Nat)(w:World)(h:n<=10000000):Calls Tryd.prog 96 #[.string ⟨#[32,32]⟩,.int .i64 n] w fun e w'=> ∃ t:ByteArray,e= .returned (.string t)/\bytesL t=indL n/\t.size=2*n/\Below w.heap.size w w':=by
 refine (Any.strings_Repeat Tryd.lays105 bX (ByteArray.mk #[32,32]) n w (by omega) (by show 2*n<=_;omega)).mono ?_
 rintro e w' ⟨rfl,hb⟩
 have e1:bytesL ⟨(Lib.repeatL (ByteArray.mk #[32,32]).data.toList n).toArray⟩=indL n:=rep_ind n
 refine ⟨_,rfl,e1, ?_,hb⟩
 have:=congrArg List.length e1
 rw [show (bytesL (⟨(Lib.repeatL (ByteArray.mk #[32,32]).data.toList n).toArray⟩:ByteArray)).length=_ from bytesG_len _] at this
 rw [this]
 unfold indL
 rw [List.length_replicate]
theorem written_calls (s:ByteArray)(w:World)(h:wsz s=true):Calls Tryd.prog 97 #[.string s] w fun e w'=>e= .returned (.string (qtF s))/\Below w.heap.size w w':=by
 have hF:strip sp_f97 [.t .str s] []=some (.t .str (qtF s),[]):=by
  unfold sp_f97
  exact strip_spec (a:= .pr .str .nil) (x:=(s,())) (by simp [Ty.args,as_t]) h
 refine (sc_calls ms_f97 hF w fun X=>⟨_,_,rfl,⟨rfl,rfl⟩,rfl⟩).mono ?_
 rintro en w' ⟨u,X',σ',rfl,h1,h2⟩
 have h1:C X' w' σ' (.v (.string (qtF s))) u:=h1
 simp only [C] at h1
 obtain ⟨rfl,_⟩:=h1
 exact ⟨rfl,h2⟩
theorem flat_at {α:Type}(f:α->List D)(m:Nat)(hf: ∀ x,(f x).length=m): ∀ (l:List α) (k:Nat) (x:α),l[k]? = some x->((l.flatMap f).drop (k*m)).take m=f x
 | [],k,x,h=>by simp at h
 |y::l,0,x,h=>by
  simp only [List.getElem?_cons_zero,Option.some.injEq] at h
  subst h
  rw [Nat.zero_mul,List.drop_zero,List.flatMap_cons, ← hf y,List.take_left]
 |y::l,k+1,x,h=>by
  simp only [List.getElem?_cons_succ] at h
  rw [List.flatMap_cons,Nat.succ_mul,Nat.add_comm,List.drop_append,List.drop_eq_nil_of_le (by rw [hf];omega),hf y,Nat.add_sub_cancel_left,List.nil_append]
  exact flat_at f m hf l k x h
theorem row_at {X:Nat->Nat->Prop}{w:World}{l:List BlkT}{sv:Value}(h:C X w nowhere (.sl l.length (l.flatMap tyBlkT.cells)) sv){k:Nat}{x:BlkT}(hx:l[k]? = some x):
  ∃ g off c Aw nw cw Ai ni ci,sv= .slice (some ⟨g,off,none⟩) l.length c/\g<w.heap.size/\w.cell? ⟨g,off+k*4,none⟩=some (.slice Aw nw cw)/\w.cell? ⟨g,off+k*4+1,none⟩=some (.bool x.2.1)/\w.cell? ⟨g,off+k*4+2,none⟩=some (.slice Ai ni ci)/\w.cell? ⟨g,off+k*4+3,none⟩=some (.int .i64 x.2.2.2.1)∧
   C X w nowhere (.sl x.1.length (x.1.flatMap (Ty.cells .str))) (.slice Aw nw cw)/\C X w nowhere (.sl (x.2.2.1.map Blk.un).length ((x.2.2.1.map Blk.un).flatMap tyBlkT.cells)) (.slice Ai ni ci):=by
 have hk:k<l.length:=(List.getElem?_eq_some_iff.1 hx).1
 simp only [C] at h
 obtain ⟨A,c,rfl,_,_,_,h6⟩:=h
 obtain ⟨g,off,vs,rfl,hcs,hfx⟩:=h6 (by omega)
 have h1:=(hcs.drop_ (k*4)).take_ 4
 rw [flat_at tyBlkT.cells 4 (fun x=>Ty.cells_len tyBlkT x) l k x hx] at h1
 have h1:Cs X w nowhere [.sl x.1.length (x.1.flatMap (Ty.cells .str)),.v (.bool x.2.1),.sl x.2.2.1.length (Blk.dss x.2.2.1),.v (.int .i64 x.2.2.2.1)] ((vs.drop (k*4)).take 4):=h1
 simp only [Cs] at h1
 obtain ⟨u1,r1,e1,q1,u2,r2,rfl,q2,u3,r3,rfl,q3,u4,r4,rfl,q4,rfl⟩:=h1
 have q2:=(C.v q2).1
 have q4:=(C.v q4).1
 subst q2 q4
 have hw: ∃ A n c,u1= .slice A n c:=by simp only [C] at q1;obtain ⟨A,c,rfl,_⟩:=q1;exact ⟨_,_,_,rfl⟩
 have hi: ∃ A n c,u3= .slice A n c:=by simp only [C] at q3;obtain ⟨A,c,rfl,_⟩:=q3;exact ⟨_,_,_,rfl⟩
 obtain ⟨Aw,nw,cw,rfl⟩:=hw
 obtain ⟨Ai,ni,ci,rfl⟩:=hi
 have at_: ∀ (i:Nat) u,i<4->([Value.slice Aw nw cw,.bool x.2.1,.slice Ai ni ci,.int .i64 x.2.2.2.1]:List Value)[i]? = some u->w.cell? ⟨g,off+k*4+i,none⟩=some u:=fun i u hi hu=>by
  rw [←e1,List.getElem?_take_of_lt hi,List.getElem?_drop] at hu
  have:=hfx.at_ (k*4+i) u hu
  rwa [←Nat.add_assoc] at this
 refine ⟨g,off,c,Aw,nw,cw,Ai,ni,ci,rfl,hfx.lt,at_ 0 _ (by omega) rfl,at_ 1 _ (by omega) rfl,at_ 2 _ (by omega) rfl,at_ 3 _ (by omega) rfl,q1, ?_⟩
 have:=blks_sl x.2.2.1
 have h3:C X w nowhere (V.t (.sl tyBlkT) (x.2.2.1.map Blk.un)).d (.slice Ai ni ci):=by rw [this];exact q3
 exact h3
theorem wd_at {X:Nat->Nat->Prop}{w:World}{l:List ByteArray}{A:Option Addr}{n c:Nat}(h:C X w nowhere (.sl l.length (l.flatMap (Ty.cells .str))) (.slice A n c)):
  n=l.length∧ ∀ (k:Nat) (s:ByteArray),l[k]? = some s→ ∃ g off,A=some ⟨g,off,none⟩/\w.cell? ⟨g,off+k,none⟩=some (.string s):=by
 simp only [C] at h
 obtain ⟨A',c',e,_,_,_,h6⟩:=h
 injection e with e1 e2 e3
 subst e1 e2
 refine ⟨rfl,fun k s hs=> ?_⟩
 have hk:k<l.length:=(List.getElem?_eq_some_iff.1 hs).1
 obtain ⟨g,off,vs,rfl,hcs,hfx⟩:=h6 (by omega)
 have hv:=cs_strs' _ _ hcs
 subst hv
 exact ⟨g,off,rfl,hfx.at_ k (.string s) (by rw [List.getElem?_map,hs];rfl)⟩
end
end Go.Proofs.YtkkoedniahnneaaDoor.K
namespace Go.Proofs.YtkkoedniahnneaaDoor.K
open Go.RowKit Go.Shelf
attribute [local go_sem ↓] Go.wp_at_zero Go.wp_at_succ
noncomputable section
set_option linter.unusedSectionVars false
def pnO (x:BlkT)(n:Nat):List Int:=(indL n++wdsL x.1)++(bif !x.2.1 then [59,10] else ([32,123,10]++(pnT (x.2.2.1.map Blk.un) (n+1)++(indL n++[125,10]))))
theorem pnT_app: ∀ (a b:List BlkT) (n:Nat),pnT (a++b) n=pnT a n++pnT b n
 | [],_,_=>rfl
 |x::a,b,n=>by
  rw [List.cons_append,prT_cons,prT_cons,pnT_app a b n]
  simp only [List.append_assoc]
theorem pnT_one (x:BlkT)(n:Nat):pnT [x] n=pnO x n:=by
 rw [prT_cons]
 show pnO x n++[]=_
 rw [List.append_nil]
theorem pnT_snoc {l:List BlkT}{k:Nat}{x:BlkT}(h:l[k]? = some x)(n:Nat):pnT (l.take (k+1)) n=pnT (l.take k) n++pnO x n:=by
 rw [take_snoc h,pnT_app,pnT_one]
theorem pnT_le (l:List BlkT)(k n:Nat):(pnT (l.take k) n).length<=(pnT l n).length:=by
 conv=>rhs;rw [←List.take_append_drop k l,pnT_app,List.length_append]
 omega
theorem wds_snoc {ws:List ByteArray}{j:Nat}{s:ByteArray}(h:ws[j]? = some s):wdsL (ws.take (j+1))=wdsL (ws.take j)++((if j=0 then [] else [32])++bytesL (qtF s)):=by
 rw [take_snoc h]
 cases ws with
 |nil=>simp at h
 |cons w r=>
  cases j with
  |zero=>
   simp only [List.take_zero,List.nil_append]
   show bytesL (qtF s)++[]=[]++([]++bytesL (qtF s))
   rw [List.append_nil,List.nil_append,List.nil_append]
  |succ j=>
   rw [List.take_succ_cons,List.cons_append]
   show bytesL (qtF w)++wdsT (r.take j++[s])=(bytesL (qtF w)++wdsT (r.take j))++_
   unfold wdsT
   rw [List.flatMap_append,if_neg (Nat.succ_ne_zero j),List.append_assoc]
   simp
theorem wds_le (ws:List ByteArray)(j:Nat):(wdsL (ws.take j)).length<=(wdsL ws).length:=by
 cases ws with
 |nil=>simp
 |cons w r=>
  cases j with
  |zero=>exact Nat.zero_le _
  |succ j=>
   rw [List.take_succ_cons]
   show (bytesL (qtF w)++wdsT (r.take j)).length<=(bytesL (qtF w)++wdsT r).length
   conv=>rhs;rw [←List.take_append_drop j r]
   unfold wdsT
   rw [List.flatMap_append,List.length_append,List.length_append,List.length_append]
   omega
theorem wd_len {ws:List ByteArray}{j:Nat}{s:ByteArray}(h:ws[j]? = some s):(wdsL (ws.take j)).length+(qtF s).size+1<=(wdsL ws).length+1/\(qtF s).size<=(wdsL ws).length:=by
 have h1:=wds_le ws (j+1)
 rw [wds_snoc h,List.length_append,List.length_append,bytesG_len] at h1
 omega
theorem pnO_len {l:List BlkT}{k:Nat}{x:BlkT}(h:l[k]? = some x)(n:Nat):(pnT (l.take k) n).length+(pnO x n).length<=(pnT l n).length:=by
 have h1:=pnT_le l (k+1) n
 rw [pnT_snoc h,List.length_append] at h1
 exact h1
theorem b32:bytesL (ByteArray.mk #[32])=[32]:=by kernel_rfl
theorem b59:bytesL (ByteArray.mk #[59,10])=[59,10]:=by kernel_rfl
theorem b123:bytesL (ByteArray.mk #[32,123,10])=[32,123,10]:=by kernel_rfl
theorem b125:bytesL (ByteArray.mk #[125,10])=[125,10]:=by kernel_rfl
theorem wds_0 {ws:List ByteArray}{s:ByteArray}(h:wdsL (ws.take (0+1))=wdsL (ws.take 0)++((if 0=0 then [] else [32])++bytesL (qtF s)))(M:List Int):M++wdsL (ws.take 1)=(M++wdsL (ws.take 0))++bytesL (qtF s):=by
 rw [show (1:Nat)=0+1 from rfl,h,if_pos rfl,List.nil_append,List.append_assoc]
theorem wds_1 {ws:List ByteArray}{s:ByteArray}{j:Nat}(h:wdsL (ws.take (j+1))=wdsL (ws.take j)++((if j=0 then [] else [32])++bytesL (qtF s)))(hj: ¬ j=0)(M:List Int):M++wdsL (ws.take (j+1))=((M++wdsL (ws.take j))++bytesL (ByteArray.mk #[32]))++bytesL (qtF s):=by
 rw [h,if_neg hj,b32]
 simp only [List.append_assoc]
theorem fin_59 {T L1:List Int}{x:BlkT}{n:Nat}(h:T=L1++pnO x n)(h2:pnO x n=(indL n++wdsL x.1)++(bif !false then [59,10] else ([32,123,10]++(pnT (x.2.2.1.map Blk.un) (n+1)++(indL n++[125,10]))))):T=((L1++indL n)++wdsL x.1)++bytesL (ByteArray.mk #[59,10]):=by
 rw [h,h2,b59]
 simp only [Bool.not_false,cond_true,List.append_assoc]
theorem fin_125 {T L1:List Int}{x:BlkT}{n:Nat}{t:ByteArray}(h:T=L1++pnO x n)(h2:pnO x n=(indL n++wdsL x.1)++(bif !true then [59,10] else ([32,123,10]++(pnT (x.2.2.1.map Blk.un) (n+1)++(indL n++[125,10])))))(ht:bytesL t=indL n):
  T=((((L1++indL n)++wdsL x.1)++bytesL (ByteArray.mk #[32,123,10]))++pnT (x.2.2.1.map Blk.un) (n+1))++bytesL (t++ByteArray.mk #[125,10]):=by
 have e:bytesL (t++ByteArray.mk #[125,10])=bytesL t++bytesL (ByteArray.mk #[125,10]):=by
  rw [bytesL_bl,bytesL_bl,bytesL_bl,bl_app,List.map_append]
 rw [h,h2,b123,e,ht,b125]
 simp only [Bool.not_true,cond_false,List.append_assoc]
def PrOK (N:Nat):Prop:= ∀ (l:List BlkT) (n:Nat) (L:List Int) (bb:Nat) (w0 w:World) (X0:Nat->Nat->Prop) (sv:Value),okN N l=true->n+N<=1000001->C X0 w0 nowhere (.sl l.length (l.flatMap tyBlkT.cells)) sv->w0.heap.size<=bb->Below w0.heap.size w0 w->BI w bb L→
 L.length+(pnT l n).length<=50000000000->Calls Tryd.prog 54 #[.pointer (some ⟨bb,0,none⟩),sv,.int .i64 n] w fun e w'=>e= .returned (.tuple #[])/\BI w' bb (L++pnT l n)/\Below bb w w'
theorem c_below {X0:Nat->Nat->Prop}{w0 w:World}{d:D}{u:Value}(h:C X0 w0 nowhere d u)(hb:Below w0.heap.size w0 w)(hr:d.refs=[]):C X0 w nowhere d u:=
 C.ext0 ⟨hb.size,fun g o hg hx=>⟨hx,World.cell?_of_block (hb.block g hg)⟩⟩ d u (by rw [hr];simp) h
set_option maxHeartbeats 4000000 in
theorem print_any' (N:Nat)(IH:PrOK N):PrOK (N+1):=by
 intro l n L bb w0 w X0 sv hok hn hC hbb hbel hBI hlen
 obtain ⟨g1,g2,g3⟩:=okN_p hok
 have hsv: ∃ A c,sv= .slice A l.length c:=by simp only [C] at hC;obtain ⟨A,c,rfl,_⟩:=hC;exact ⟨_,_,rfl⟩
 obtain ⟨A,c,rfl⟩:=hsv
 have HC:=Lib.hid hC
 have HBB:=Lib.hid hbb
 have HBEL:=Lib.hid hbel
 have HBI:=Lib.hid hBI
 have HLEN:=Lib.hid hlen
 have HG3:=Lib.hid g3
 have HIH:=Lib.hid IH
 have HNN:=Lib.hid hn
 clear hC hbb hbel hBI hlen g3 IH hok g2 hn
 go_enter Tryd.func54,Tryd.ntmps54
 go_wp2_with (go_at_call 96;refine (rep_calls n _ (by have:=HNN.out;omega)).mono ?_;rintro e w1 ⟨t,rfl,ht,hts,hb1⟩;have HT:=Lib.hid ht;have HTS:=Lib.hid hts;have HB1:=Lib.hid hb1;clear ht hts hb1)
 go_loopw [15] (fun iv wr=> ∃ k:Nat,k<=l.length/\iv= .int .i64 k/\Hid (BI wr bb (L++pnT (l.take k) n))/\Hid (Below bb w wr)) (fun iv _=>l.length-(intOf iv).toNat)
 case atStart=>exact ⟨0,Nat.zero_le _,rfl,Lib.hid (by rw [List.take_zero];show BI w1 bb (L++[]);rw [List.append_nil];exact HBI.out.below HB1.out),Lib.hid (HB1.out.mono (Nat.le_of_lt HBI.out.lt))⟩
 case round=>
  obtain ⟨k,hk,rfl,HR,HW⟩:=hrel
  by_cases hlt:k<l.length
  ·obtain ⟨x,hx⟩: ∃ x,l[k]? = some x:=⟨_,List.getElem?_eq_getElem hlt⟩
   have HWW:Hid (Below w0.heap.size w0 wr):=Lib.hid (HBEL.out.trans (HW.out.mono HBB.out))
   obtain ⟨g,off,c',Aw,nw,cw,Ai,ni,ci,e1,hg,c0,c1,c2,c3,hCw,hCi⟩:=row_at HC.out hx
   injection e1 with e2 _ e3
   subst e2 e3
   have hww:=HWW.out
   replace c0:=(hww.cell (p:=⟨g,off+k*4,none⟩) hg).trans c0
   replace c1:=(hww.cell (p:=⟨g,off+k*4+1,none⟩) hg).trans c1
   replace c2:=(hww.cell (p:=⟨g,off+k*4+2,none⟩) hg).trans c2
   replace c3:=(hww.cell (p:=⟨g,off+k*4+3,none⟩) hg).trans c3
   obtain ⟨hnw,hwd⟩:=wd_at hCw
   subst hnw
   have HX:=Lib.hid hx
   have HWD:=Lib.hid hwd
   have HCI:=Lib.hid hCi
   have hti:((k:Nat):Int)<((l.length:Nat):Int):=by omega
   have HPL:=Lib.hid (pnO_len hx n)
   have HGX:=Lib.hid (HG3.out x (List.mem_of_getElem? hx))
   have hm1:x.1.length<=100000:=HGX.out.1
   obtain ⟨xo,hxo⟩: ∃ o,o=x.2.1:=⟨_,rfl⟩
   obtain ⟨xl,hxl⟩: ∃ o,o=x.2.2.2.1:=⟨_,rfl⟩
   obtain ⟨m,hm⟩: ∃ m,m=x.1.length:=⟨_,rfl⟩
   obtain ⟨L1,hL1⟩: ∃ L1,L1=L++pnT (l.take k) n:=⟨_,rfl⟩
   have hN:L++pnT (l.take (k+1)) n=L1++pnO x n:=by rw [hL1,pnT_snoc hx,List.append_assoc]
   have hO:pnO x n=(indL n++wdsL x.1)++(bif !xo then [59,10] else ([32,123,10]++(pnT (x.2.2.1.map Blk.un) (n+1)++(indL n++[125,10])))):=by rw [hxo];rfl
   have hK:L1.length+(pnO x n).length<=50000000000:=by
    have:=HPL.out
    have:=HLEN.out
    rw [hL1,List.length_append]
    omega
   have hKw:L1.length+(indL n).length+(wdsL x.1).length<=50000000000:=by
    rw [hO,List.length_append,List.length_append] at hK
    omega
   rw [←hL1] at HR
   rw [←hm] at c0 hm1
   rw [←hxo] at c1
   rw [←hxl] at c3
   have HNX:=Lib.hid hN
   have HO:=Lib.hid hO
   have HK:=Lib.hid hK
   have HKW:=Lib.hid hKw
   have HM:=Lib.hid hm
   clear hx hCw hCi hwd hxo hxl hL1 hN hO hK hKw hww hm
   go_wp2_with fail
   obtain ⟨xb,hxb⟩: ∃ xb,xb=wr.heap.size:=⟨_,rfl⟩
   have hbx:bb<xb:=by rw [hxb];exact HR.out.lt
   have hX0:Go.Proofs.YtkkoedniahnneaaDoor.Blk (wr.alloc (Obj.cells #[.slice Aw m cw,.bool xo,.slice Ai ni ci,.int .i64 xl] 38)) xb 38 #[.slice Aw m cw,.bool xo,.slice Ai ni ci,.int .i64 xl]:=by rw [hxb];exact Go.Proofs.YtkkoedniahnneaaDoor.Blk.new wr _ _
   have hBx:Below bb wr (wr.alloc (Obj.cells #[.slice Aw m cw,.bool xo,.slice Ai ni ci,.int .i64 xl] 38)):=(Below.refl _ _).alloc (Nat.le_of_lt HR.out.lt) _
   have hRx:=HR.out.alloc (Obj.cells #[.slice Aw m cw,.bool xo,.slice Ai ni ci,.int .i64 xl] 38)
   rw [←hxb]
   generalize wr.alloc (Obj.cells #[.slice Aw m cw,.bool xo,.slice Ai ni ci,.int .i64 xl] 38)=wq at*
   clear c0 c1 c2 c3 hxb
   refine (wr_calls hRx (by rw [HTS.out];have:=HKW.out;have:=HNN.out;omega)).mono ?_
   rintro e w2 ⟨rfl,hb2,hl2,hk2⟩
   have hX2:=kept_blk hk2 hX0 (by omega) (by decide)
   have HX2:=Lib.hid hX2
   have HB2:Hid (BI w2 bb (L1++indL n)):=Lib.hid (by rw [←HT.out];exact hb2)
   have HL2:Hid (Below bb w w2):=Lib.hid ((HW.out.trans hBx).trans hl2)
   have x0:=hX2.cell 0
   simp only [List.getElem?_toArray,List.getElem?_cons_zero] at x0
   have HBX:=Lib.hid hbx
   clear hX0 hBx hRx hb2 hl2 hk2 hX2 hbx
   go_wp2_with fail
   go_loopw [25] (fun iv wy=> ∃ j:Nat,j<=m/\iv= .int .i64 j/\Hid (BI wy bb ((L1++indL n)++wdsL (x.1.take j)))/\Hid (Go.Proofs.YtkkoedniahnneaaDoor.Blk wy xb 38 #[.slice Aw m cw,.bool xo,.slice Ai ni ci,.int .i64 xl])/\Hid (Below bb w wy)) (fun iv _=>m-(intOf iv).toNat)
   case atStart=>exact ⟨0,Nat.zero_le _,rfl,Lib.hid (by rw [List.take_zero];show BI w2 bb ((L1++indL n)++[]);rw [List.append_nil];exact HB2.out),HX2,HL2⟩
   case round=>
    obtain ⟨j,hj,rfl,HY,HXY,HLY⟩:=hrel
    have HWY:Hid (Below w0.heap.size w0 wr):=Lib.hid (HBEL.out.trans (HLY.out.mono HBB.out))
    by_cases hjm:j<m
    ·obtain ⟨s,hs⟩: ∃ s,x.1[j]? = some s:=⟨_,List.getElem?_eq_getElem (by rw [←HM.out];exact hjm)⟩
     obtain ⟨gw,ow,rfl,hcs⟩:=HWD.out j s hs
     have hgw:gw<w0.heap.size:=World.block_lt_of_cell? w0 _ hcs
     replace hcs:=(HWY.out.cell (p:=⟨gw,ow+j,none⟩) hgw).trans hcs
     have hwz:wsz s=true:=List.all_eq_true.1 HGX.out.2.1 s (List.mem_of_getElem? hs)
     have hsz:s.size<=2000000000:=of_decide_eq_true hwz
     have hwl:=wd_len hs
     have HSN:=Lib.hid (wds_snoc hs)
     have HWZ:=Lib.hid hwz
     have HWL:=Lib.hid hwl
     have hji:((j:Nat):Int)<((m:Nat):Int):=by omega
     have hq:(qtF s).size<=50000000000:=by have:=HKW.out;omega
     have hLen:((L1++indL n)++wdsL (x.1.take j)).length<=50000000000:=by
      have:=HKW.out
      rw [List.length_append,List.length_append]
      omega
     have HLen:=Lib.hid hLen
     have HQ:=Lib.hid hq
     clear hs hwz hsz hwl hgw hq hLen
     by_cases hj0:j=0
     ·subst hj0
      rw [Nat.add_zero] at hcs
      go_wp2_with (go_at_call 97;refine (written_calls s _ HWZ.out).mono ?_;rintro e w3 ⟨rfl,hb3⟩;have HB3:=Lib.hid hb3;clear hb3)
      refine (wr_calls (HY.out.below HB3.out) (by have:=HLen.out;have:=HQ.out;omega)).mono ?_
      rintro e w4 ⟨rfl,hb4,hl4,hk4⟩
      have HB4:=Lib.hid hb4
      have HX4:=Lib.hid (kept_blk hk4 (HXY.out.ext HB3.out) (by have:=HBX.out;omega) (by decide))
      have HL4:=Lib.hid ((HLY.out.trans (HB3.out.mono (Nat.le_of_lt HY.out.lt))).trans hl4)
      clear hb4 hl4 hk4 hcs
      go_wp2_with fail
      refine ⟨⟨1,by omega,by simp,Lib.hid ?_,HX4,HL4⟩,by simp [intOf];omega⟩
      rw [wds_0 HSN.out]
      exact HB4.out
     ·have hj1:(0:Int)<((j:Nat):Int):=by omega
      have HJ0:=Lib.hid hj0
      clear hj0
      go_wp2_with fail
      refine (wr_calls HY.out (by have:=HLen.out;have h7:(ByteArray.mk #[32]).size=1:=rfl;omega)).mono ?_
      rintro e w3 ⟨rfl,hb3,hl3,hk3⟩
      have HB3:=Lib.hid hb3
      have HX3:=Lib.hid (kept_blk hk3 HXY.out (by have:=HBX.out;omega) (by decide))
      have HL3:=Lib.hid (HLY.out.trans hl3)
      clear hb3 hl3 hk3 hcs
      go_wp2_with (go_at_call 97;refine (written_calls s _ HWZ.out).mono ?_;rintro e w4 ⟨rfl,hb4⟩;have HW4:=Lib.hid hb4;clear hb4)
      refine (wr_calls (HB3.out.below HW4.out) (by have:=HLen.out;have:=HQ.out;have h7:(bytesL (ByteArray.mk #[32])).length=1:=rfl;rw [List.length_append];omega)).mono ?_
      rintro e w5 ⟨rfl,hb5,hl5,hk5⟩
      have HB5:=Lib.hid hb5
      have HX5:=Lib.hid (kept_blk hk5 (HX3.out.ext HW4.out) (by have:=HBX.out;omega) (by decide))
      have HL5:=Lib.hid ((HL3.out.trans (HW4.out.mono (Nat.le_of_lt HB3.out.lt))).trans hl5)
      clear hb5 hl5 hk5
      go_wp2_with fail
      refine ⟨⟨j+1,by omega,by simp,Lib.hid ?_,HX5,HL5⟩,by simp [intOf];omega⟩
      rw [wds_1 HSN.out HJ0.out]
      exact HB5.out
    ·obtain rfl:j=m:=by omega
     have hnl: ¬ ((j:Nat):Int)<((j:Nat):Int):=by omega
     have y1:=HXY.out.cell 1
     have y2:=HXY.out.cell 2
     simp only [List.getElem?_toArray,List.getElem?_cons_zero,List.getElem?_cons_succ] at y1 y2
     have HYW:Hid (BI wr bb ((L1++indL n)++wdsL x.1)):=Lib.hid (by have:=HY.out;rw [HM.out,List.take_length] at this;exact this)
     have hw1:((L1++indL n)++wdsL x.1).length<=50000000000:=by
      have:=HKW.out
      rw [List.length_append,List.length_append]
      omega
     have HW1:=Lib.hid hw1
     clear hw1
     cases xo with
     |false=>
      go_wp2_with fail
      refine (wr_calls HYW.out (by have:=HW1.out;have h7:(ByteArray.mk #[59,10]).size=2:=rfl;omega)).mono ?_
      rintro e w3 ⟨rfl,hb3,hl3,hk3⟩
      have HB3:=Lib.hid hb3
      have HL3:=Lib.hid (HLY.out.trans hl3)
      clear hb3 hl3 hk3
      go_wp2_with fail
      go_roundw
      case rel=>
       refine ⟨k+1,by omega,by simp,Lib.hid ?_,HL3⟩
       rw [fin_59 HNX.out HO.out]
       exact HB3.out
      case measure=>simp [intOf];omega
     |true=>
      have hlast:L1.length+((indL n).length+(wdsL x.1).length)+(3+((pnT (x.2.2.1.map Blk.un) (n+1)).length+((indL n).length+2)))<=50000000000:=by
       have h7:=HK.out
       rw [HO.out] at h7
       simp only [Bool.not_true,cond_false,List.length_append,List.length_cons,List.length_nil] at h7
       omega
      have HLA:=Lib.hid hlast
      clear hlast
      go_wp2_with fail
      refine (wr_calls HYW.out (by have:=HW1.out;have h7:(ByteArray.mk #[32,123,10]).size=3:=rfl;omega)).mono ?_
      rintro e w3 ⟨rfl,hb3,hl3,hk3⟩
      have hX3:=kept_blk hk3 HXY.out (by have:=HBX.out;omega) (by decide)
      have y2':=hX3.cell 2
      simp only [List.getElem?_toArray,List.getElem?_cons_zero,List.getElem?_cons_succ] at y2'
      have HB3:=Lib.hid hb3
      have HL3:=Lib.hid (HLY.out.trans hl3)
      have hn1:(n:Int)+1<=9223372036854775807:=by have:=HNN.out;omega
      have hn2: -9223372036854775808<=(n:Int)+1:=by omega
      clear hb3 hl3 hk3 hX3 y1 y2
      go_wp2_with fail
      have hcall:=HIH.out (x.2.2.1.map Blk.un) (n+1) _ bb w0 w3 X0 (.slice Ai ni ci) HGX.out.2.2 (by have:=HNN.out;omega) HCI.out HBB.out (HBEL.out.trans (HL3.out.mono HBB.out)) HB3.out (by
       have:=HLA.out
       rw [b123]
       simp only [List.length_append,List.length_cons,List.length_nil]
       omega)
      rw [show ((n+1:Nat):Int)=(n:Int)+1 by omega] at hcall
      refine hcall.mono ?_
      rintro e w4 ⟨rfl,hb4,hl4⟩
      have HB4:=Lib.hid hb4
      have HL4:=Lib.hid (HL3.out.trans hl4)
      obtain ⟨y5,e5⟩: ∃ y,y=t++ByteArray.mk #[125,10]:=⟨_,rfl⟩
      have s5:y5.size=2*n+2:=by rw [e5,ByteArray.size_append,HTS.out];have:(ByteArray.mk #[125,10]).size=2:=rfl;omega
      have q5: ∀ wz:World,(Op.stringOp .add t (ByteArray.mk #[125,10])).run Tryd.prog wz= .ok (.string y5) wz:=fun wz=>by rw [e5];exact run_string_add_sum (P:=Tryd.prog) wz _ _ (by rw [←ByteArray.size_append, ← e5,s5];have:=HNN.out;omega)
      have E5:=Lib.hid e5
      have S5:=Lib.hid s5
      clear hcall hb4 hl4 e5 s5 y2'
      go_wp2_with fail
      refine (wr_calls HB4.out (by
       have:=HLA.out
       rw [b123,S5.out]
       have h8:=HNN.out
       simp only [List.length_append,List.length_cons,List.length_nil]
       omega)).mono ?_
      rintro e w5 ⟨rfl,hb5,hl5,hk5⟩
      have HB5:=Lib.hid hb5
      have HL5:=Lib.hid (HL4.out.trans hl5)
      clear hb5 hl5 hk5 q5
      go_wp2_with fail
      go_roundw
      case rel=>
       refine ⟨k+1,by omega,by simp,Lib.hid ?_,HL5⟩
       rw [fin_125 HNX.out HO.out HT.out, ← E5.out]
       exact HB5.out
      case measure=>simp [intOf];omega
  ·obtain rfl:k=l.length:=by omega
   have hnl: ¬ ((l.length:Nat):Int)<((l.length:Nat):Int):=by omega
   go_wp2_with fail
   go_end0
   refine ⟨rfl, ?_,HW.out⟩
   have:=HR.out
   rw [List.take_length] at this
   exact this
end
end Go.Proofs.YtkkoedniahnneaaDoor.K
namespace Go.Proofs.YtkkoedniahnneaaDoor.K
open Go.RowKit Go.Shelf
attribute [local go_sem ↓] Go.wp_at_zero Go.wp_at_succ
noncomputable section
set_option linter.unusedSectionVars false
theorem print_all: ∀ N:Nat,PrOK N
 |0=>fun l n L bb w0 w X0 sv hok=>by
  obtain ⟨h,_⟩:=okN_b hok
  cases h
 |N+1=>print_any' N (print_all N)
theorem scx_calls {f:FuncId}{E:Ent}{vs:List V}{r:V}{us:List Value}(hm:Meets Tryd.prog f (strip E))(hF:strip E vs []=some (r,[]))(X:Nat->Nat->Prop)(w:World)(hfin: ∀ b q,X b q->b<w.heap.size)(hc:Cs X w nowhere (V.ds vs) us)(hlt:f<1000000:=by decide):
  Calls Tryd.prog f us.toArray w fun en w'=> ∃ u X' σ',en= .returned u/\C X' w' σ' r.d u/\Below w.heap.size w w':=by
 refine (of_does hlt (hm _ _ _ _ hF X w nowhere us hfin lent_nil hc)).mono ?_
 rintro en w' ⟨u,X',σ',rfl,h1,h2⟩
 exact ⟨u,X',σ',rfl,h1,ends_below h2⟩
theorem check_calls {l:List BlkT}{X:Nat->Nat->Prop}{w:World}{sv:Value}(hfin: ∀ b q,X b q->b<w.heap.size)(hC:C X w nowhere (.sl l.length (l.flatMap tyBlkT.cells)) sv)(h:okT l=true):
  Calls Tryd.prog 33 #[sv] w fun e w'=>e= .returned (.int .i64 (chF l))/\Below w.heap.size w w':=by
 have hF:strip sp_f33 [.t (.sl tyBlkT) l] []=some (.t tI (chF l),[]):=by
  unfold sp_f33
  exact strip_spec (a:= .pr (.sl tyBlkT) .nil) (x:=(l,())) (by simp [Ty.args,as_t]) h
 refine (scx_calls ms_f33 hF X w hfin (us:=[sv]) ?_).mono ?_
 ·exact Cs.cons hC (by simp [Cs,V.ds])
 rintro en w' ⟨u,X',σ',rfl,h1,h2⟩
 have h1:C X' w' σ' (.v (.int .i64 (chF l))) u:=h1
 simp only [C] at h1
 obtain ⟨rfl,_⟩:=h1
 exact ⟨rfl,h2⟩
theorem strOf_size (L:List Int):(strOf L).size=L.length:=by
 show (L.map fun n=>UInt8.ofNat n.toNat).toArray.size=L.length
 simp
theorem pnt_bad {l:List BlkT}(h:chF l≠0):pntF l=(ByteArray.mk #[],chF l):=by
 unfold pntF
 rw [show ine (chF l) 0=true from bne_iff_ne.2 h]
 rfl
theorem pnt_ok {l:List BlkT}(h:chF l=0):pntF l=bif decide (8192<(pnT l 0).length) then (ByteArray.mk #[],3) else bif igt (endN (strOf (pnT l 0))) 200 then (ByteArray.mk #[],3) else (strOf (pnT l 0),0):=by
 unfold pntF
 rw [h]
 rfl
def PrintPost (l:List BlkT)(w:World)(e:Ending)(w':World):Prop:=e= .returned (.tuple #[.string (pntF l).1,.int .i64 (pntF l).2])/\Below w.heap.size w w'
theorem prp {l:List BlkT}{w w':World}{s:ByteArray}{n:Int}(h:pntF l=(s,n))(hb:Below w.heap.size w w'):PrintPost l w (.returned (.tuple #[.string s,.int .i64 n])) w':=⟨by rw [h],hb⟩
set_option maxHeartbeats 4000000 in
theorem printB_any {l:List BlkT}{X:Nat->Nat->Prop}{w:World}{sv:Value}(hfin: ∀ b q,X b q->b<w.heap.size)(hC:C X w nowhere (.sl l.length (l.flatMap tyBlkT.cells)) sv)(h:pntOk l=true):
  Calls Tryd.prog 24 #[sv] w (PrintPost l w):=by
 obtain ⟨hok,h2⟩:=Bool.and_eq_true_iff.1 h
 have h2:=cP_of h2
 obtain ⟨N,hN⟩:=okT_fuel hok
 have HN:=Lib.hid hN
 have HC:=Lib.hid hC
 have HFN:=Lib.hid hfin
 have HOK:=Lib.hid hok
 have HLEN:=Lib.hid h2
 clear hN hC hfin hok h2 h
 by_cases h0:chF l=0
 ·have HP:=Lib.hid (pnt_ok h0)
  have h0b:(chF l==0)=true:=beq_iff_eq.2 h0
  have H0:=Lib.hid h0
  go_enter Tryd.func24,Tryd.ntmps24
  go_wp2_with (go_at_call 33;refine (check_calls HFN.out HC.out HOK.out).mono ?_;rw [H0.out];rintro e w1 ⟨rfl,hb1⟩;have HB1:=Lib.hid hb1;clear hb1)
  obtain ⟨bb,hbb⟩: ∃ bb,bb=w1.heap.size:=⟨_,rfl⟩
  obtain ⟨wx,hwx⟩: ∃ wx,wx=w1.alloc (.cells #[.pointer none,.slice none 0 0] 75):=⟨_,rfl⟩
  have hBI:BI wx bb []:=by rw [hwx,hbb];exact BI.new_ w1
  have hbx:Below w1.heap.size w1 wx:=by rw [hwx];exact (Below.refl _ _).alloc (Nat.le_refl _) _
  have hC1:=c_below HC.out HB1.out rfl
  have hcall:=print_all N l 0 [] bb w1 wx X sv HN.out (by have:=(okN_b HN.out).2;omega) hC1 (by rw [hbb];exact Nat.le_refl _) hbx hBI (by have:=HLEN.out;show 0+(pnT l 0).length<=_;omega)
  rw [←hwx, ← hbb]
  have HBX:=Lib.hid (HB1.out.trans (hbx.mono HB1.out.size))
  have HBW:Hid (w.heap.size<=bb):=Lib.hid (by rw [hbb];exact HB1.out.size)
  clear hwx hbb hBI hbx hC1
  refine hcall.mono ?_
  rintro e w2 ⟨rfl,hb2,hl2⟩
  have HB2:Hid (BI w2 bb (pnT l 0)):=Lib.hid hb2
  have HL2:=Lib.hid (HBX.out.trans (hl2.mono HBW.out))
  clear hb2 hl2 hcall
  obtain ⟨s,hs⟩: ∃ s,s=strOf (pnT l 0):=⟨_,rfl⟩
  have hsz:s.size=(pnT l 0).length:=by rw [hs];exact strOf_size _
  have hstr:=strI_calls HB2.out
  rw [←hs] at hstr
  have HSTR:=Lib.hid hstr
  have HSZ:=Lib.hid hsz
  have HPS:Hid (pntF l=bif decide (8192<s.size) then (ByteArray.mk #[],3) else bif igt (endN s) 200 then (ByteArray.mk #[],3) else (s,0)):=Lib.hid (by rw [HP.out,hsz,hs])
  clear hs hstr hsz
  by_cases h8:s.size<=8192
  ·have i1: ¬ ((s.size:Nat):Int) > 8192:=by omega
   by_cases h200:endN s<=200
   ·have i2: ¬ endN s > 200:=by omega
    have HR:Hid (pntF l=(s,0)):=Lib.hid (by rw [HPS.out,decide_eq_false (show ¬ 8192<s.size by omega),show igt (endN s) 200=false from decide_eq_false i2];rfl)
    clear h8 h200 h0 h0b
    go_wp2_with (first|(go_at_call 55;refine HSTR.out.mono ?_;rintro e w3 ⟨rfl,hb3⟩;have HB3:=Lib.hid hb3;clear hb3)|(go_at_call 56;refine (count_calls s _).mono ?_;rintro e w4 ⟨rfl,hw4⟩;obtain rfl:=hw4.symm))
    go_ret2
    exact prp HR.out (HL2.out.trans (HB3.out.mono HBW.out))
   ·have i2:endN s > 200:=by omega
    have HR:Hid (pntF l=(ByteArray.mk #[],3)):=Lib.hid (by rw [HPS.out,decide_eq_false (show ¬ 8192<s.size by omega),show igt (endN s) 200=true from decide_eq_true i2];rfl)
    clear h8 h200 h0 h0b
    go_wp2_with (first|(go_at_call 55;refine HSTR.out.mono ?_;rintro e w3 ⟨rfl,hb3⟩;have HB3:=Lib.hid hb3;clear hb3)|(go_at_call 56;refine (count_calls s _).mono ?_;rintro e w4 ⟨rfl,hw4⟩;obtain rfl:=hw4.symm))
    go_ret2
    exact prp HR.out (HL2.out.trans (HB3.out.mono HBW.out))
  ·have i1:((s.size:Nat):Int) > 8192:=by omega
   have HR:Hid (pntF l=(ByteArray.mk #[],3)):=Lib.hid (by rw [HPS.out,decide_eq_true (show 8192<s.size by omega)];rfl)
   clear h8 h0 h0b
   go_wp2_with (go_at_call 55;refine HSTR.out.mono ?_;rintro e w3 ⟨rfl,hb3⟩;have HB3:=Lib.hid hb3;clear hb3)
   go_ret2
   exact prp HR.out (HL2.out.trans (HB3.out.mono HBW.out))
 ·have h0b:=beq_eq_false_iff_ne.2 h0
  have HP:=Lib.hid (pnt_bad h0)
  clear h0
  go_enter Tryd.func24,Tryd.ntmps24
  go_wp2_with (go_at_call 33;refine (check_calls HFN.out HC.out HOK.out).mono ?_;rintro e w1 ⟨rfl,hb1⟩;have HB1:=Lib.hid hb1;clear hb1)
  go_ret2
  exact prp HP.out HB1.out
def sp_f24:Ent:=spec (.pr (.sl tyBlkT) .nil) (fun x=>(pntOk x.1)) (fun x=>(.tu [(.t .str ((pntF x.1).1)),(.t tI ((pntF x.1).2))]))
theorem en_f24:Entered Tryd.prog 24:= .inr ⟨by decide,_,Tryd.func24,by kernel_rfl,by kernel_rfl⟩
theorem ms_f24:Meets Tryd.prog 24 (strip sp_f24):=by
 unfold sp_f24
 refine meets_calls (fun x hok X w σ vs hfin hc=> ?_)
 obtain ⟨l,u⟩:=x
 have hc:Cs X w σ [.sl l.length (l.flatMap tyBlkT.cells)] vs:=hc
 obtain ⟨sv,rfl,hC⟩:=hc.one
 have hC:C X w nowhere (.sl l.length (l.flatMap tyBlkT.cells)) sv:=by simp only [C] at hC ⊢; exact hC
 refine (printB_any hfin hC hok).mono ?_
 rintro e w' ⟨rfl,hb⟩
 refine ⟨_,rfl, ?_,hb⟩
 show C X w' σ (.tu [.v (.string (pntF l).1),.v (.int .i64 (pntF l).2)]) _
 simp only [C,Cs]
 exact ⟨_,rfl,_,_,rfl,⟨rfl,rfl⟩,_,_,rfl,⟨rfl,rfl⟩,rfl⟩
end
end Go.Proofs.YtkkoedniahnneaaDoor.K
namespace Go.Proofs.YtkkoedniahnneaaDoor.K
open Go.RowKit
noncomputable section
set_option linter.unusedSectionVars false
end
end Go.Proofs.YtkkoedniahnneaaDoor.K
namespace Go.Proofs.YtkkoedniahnneaaDoor.K
open Go.RowKit
noncomputable section
set_option linter.unusedSectionVars false
abbrev awS:ByteArray:=ByteArray.mk #[97,32,98,123,99,32,34,100,32,101,34,59,125]
def awL:List BlkT:=[([ByteArray.mk #[97],ByteArray.mk #[98]],(true,([Blk.mk [ByteArray.mk #[99],ByteArray.mk #[100,32,101]] false [] 1],(1,()))))]
theorem aw_pa:paB awS=(awL,(0,0)):=by kernel_rfl
theorem aw_pn:pntF awL=(ByteArray.mk #[97,32,98,32,123,10,32,32,99,32,34,100,32,101,34,59,10,125,10],0):=by kernel_rfl
theorem aw_ok:okT awL=true:=cP_in ⟨3,okN_i (by kernel_rfl) (by decide)⟩
theorem aw_pk:pntOk awL=true:=Bool.and_eq_true_iff.2 ⟨aw_ok,cP_in (by
 have:(pnT awL 0).length=19:=by kernel_rfl
 omega)⟩
def awk7:Bool:=true
def tc_f21:TC:=(.sq (.reg [(oP 0 (.mv (cB false)))]) (.sq (.reg [(oC 7 42 [(.c (.v (.string (ByteArray.mk #[97,32,98,123,99,32,34,100,32,101,34,59,125]))))]),(oV 6 7),(oP 8 (.ext 0 (.t 6))),(oP 9 (.ext 1 (.t 6))),(oP 10 (.ext 2 (.t 6))),(oV 1 8),(oV 2 9),(oV 3 10)]) (.sq (.reg [(oV 12 1),(oC 13 24 [(.t 12)]),(oV 11 13),(oP 14 (.ext 0 (.t 11))),(oP 15 (.ext 1 (.t 11))),(oV 4 14),(oV 5 15)]) (.sq (.reg [(oV 16 3),(oP 17 (.bin false .eql (.t 16) (cI 0))),(oV 18 17),(oQ 19 18 true (.mv (.t 5))),(oQ 20 18 true (.bin false .eql (.t 19) (cI 0))),(oP 21 (.pick (.t 18) (.t 20) (cB false))),(oV 22 21),(oQ 23 22 true (.mv (.t 2))),(oQ 24 22 true (.bin false .eql (.t 23) (cI 0))),(oP 25 (.pick (.t 22) (.t 24) (cB false))),(oV 26 25),(oQ 27 26 true (.mv (.t 1))),(oQ 28 26 true (.len false (.t 27))),(oQ 29 26 true (.bin false .eql (.t 28) (cI 1))),(oP 30 (.pick (.t 26) (.t 29) (cB false))),(oV 31 30),(oQ 32 31 true (.mv (.t 4))),(oQ 33 31 true (.bin false .eql (.t 32) (.c (.v (.string (ByteArray.mk #[97,32,98,32,123,10,32,32,99,32,34,100,32,101,34,59,10,125,10])))))),(oP 34 (.pick (.t 31) (.t 33) (cB false))),(oV 35 34),(oQ 36 35 true (.mv (.t 1))),(oG 37 35 true (.call 35 [(.t 36)])),(oQ 38 35 true (.bin false .eql (.t 37) (cI 2))),(oP 39 (.pick (.t 35) (.t 38) (cB false))),(oV 40 39),(oQ 41 40 true (.mv (.t 1))),(oG 42 40 true (.call 38 [(.t 41),(.c (.v (.string (ByteArray.mk #[97]))))])),(oQ 43 40 true (.len false (.t 42))),(oQ 44 40 true (.bin false .eql (.t 43) (cI 1))),(oP 45 (.pick (.t 40) (.t 44) (cB false))),(oV 0 45)]) .rt))))
def rv_f21:List (RV×Option Ty):=[((.t 0),some .bool)]
def g_f21:G:=⟨TYs,[],46,EL [(24,sp_f24),(35,sp_f35),(38,sp_f38),(42,sp_f42)],keeps,(fun _ _=>none),IL [],RL []⟩
def r_f21  : Option (V×List VO):=
 br ((paOk (ByteArray.mk #[97,32,98,123,99,32,34,100,32,101,34,59,125])))
  (br ((pntOk ((paB (ByteArray.mk #[97,32,98,123,99,32,34,100,32,101,34,59,125])).1)))
   (br ((ieq (((paB (ByteArray.mk #[97,32,98,123,99,32,34,100,32,101,34,59,125])).2).2) 0))
    (br ((ieq ((pntF ((paB (ByteArray.mk #[97,32,98,123,99,32,34,100,32,101,34,59,125])).1)).2) 0))
     (br ((ieq (((paB (ByteArray.mk #[97,32,98,123,99,32,34,100,32,101,34,59,125])).2).1) 0))
      (br ((ieq (llen ((paB (ByteArray.mk #[97,32,98,123,99,32,34,100,32,101,34,59,125])).1)) 1))
       (br ((seq ((pntF ((paB (ByteArray.mk #[97,32,98,123,99,32,34,100,32,101,34,59,125])).1)).1) (ByteArray.mk #[97,32,98,32,123,10,32,32,99,32,34,100,32,101,34,59,10,125,10])))
        (br ((okT ((paB (ByteArray.mk #[97,32,98,123,99,32,34,100,32,101,34,59,125])).1)))
         (br ((ieq (dpF ((paB (ByteArray.mk #[97,32,98,123,99,32,34,100,32,101,34,59,125])).1)) 2))
          (br ((fdOk ((paB (ByteArray.mk #[97,32,98,123,99,32,34,100,32,101,34,59,125])).1) (ByteArray.mk #[97])))
           (some (.t .bool (ieq (llen (fdT ((paB (ByteArray.mk #[97,32,98,123,99,32,34,100,32,101,34,59,125])).1) (ByteArray.mk #[97]))) 1),[]))
           (none))
          (some (.t .bool false,[])))
         (none))
        (some (.t .bool false,[])))
       (some (.t .bool false,[])))
      (some (.t .bool false,[])))
     (some (.t .bool false,[])))
    (some (.t .bool false,[])))
   (none))
  (none)
theorem e_f21  : runF g_f21 tc_f21 rv_f21 false [] []=r_f21  :=by kernel_rfl
theorem ok_f21:Option.map (trC Tryd.prog) Tryd.f21.body=some tc_f21.er:=by kernel_rfl
theorem rok_f21:trVs Tryd.prog Tryd.f21.results.toList=some (rv_f21.map Prod.fst):=by kernel_rfl
theorem en_f21:Entered Tryd.prog 21:= .inr ⟨by decide,_,Tryd.func21,by kernel_rfl,by kernel_rfl⟩
theorem gk_f21:GOk Tryd.prog g_f21:=gok_of _ (by
 intro p hp
 simp only [List.mem_cons,List.not_mem_nil,or_false] at hp
 rcases hp with rfl|rfl|rfl|rfl
 ·exact ⟨en_f24,ms_f24⟩
 ·exact ⟨en_f35,ms_f35⟩
 ·exact ⟨en_f38,ms_f38⟩
 ·exact ⟨en_f42,ms_f42⟩)
theorem lk_f21:tc_f21.lok g_f21:=by repeat (first|exact trivial|refine ⟨?_, ?_⟩)
theorem s_f21:r_f21=some (.t .bool awk7,[]):=by
 unfold r_f21
 rw [show paB (ByteArray.mk #[97,32,98,123,99,32,34,100,32,101,34,59,125])=(awL,(0,0)) from aw_pa]
 simp only
 rw [aw_pk,aw_pn,aw_ok,show fdOk awL (ByteArray.mk #[97])=true from aw_ok]
 kernel_rfl
def sp_f21:Ent:=spec .nil (fun x=>true) (fun x=>(.t .bool awk7))
theorem ms_f21:Meets Tryd.prog 21 (strip sp_f21):=by
 obtain ⟨c,hc,hi⟩:=Option.map_eq_some_iff.1 ok_f21
 exact meets_spec (R:=runF g_f21 tc_f21 rv_f21 false) (meets_of (by decide) Tryd.func21 hc hi Tryd.ntmps21 rok_f21 gk_f21 lk_f21 mixed) fun x _=>(e_f21 ).trans (s_f21)
end
end Go.Proofs.YtkkoedniahnneaaDoor.K
set_option linter.unusedSectionVars false
namespace Go.Proofs.YtkkoedniahnneaaDoor.K
open Go.RowKit
noncomputable section
set_option linter.unusedSectionVars false
abbrev bw1:List ByteArray:=[(ByteArray.mk #[]),(ByteArray.mk #[32]),(ByteArray.mk #[10]),(ByteArray.mk #[35,32,110,111,116,101,10]),(ByteArray.mk #[9])]
abbrev bw2:List ByteArray:=[(ByteArray.mk #[97]),(ByteArray.mk #[115,101,114,118,101,114]),(ByteArray.mk #[98,45,49]),(ByteArray.mk #[120,58,121]),(ByteArray.mk #[34,113,32,114,34]),(ByteArray.mk #[34,34]),(ByteArray.mk #[34,97,92,34,98,34]),(ByteArray.mk #[43,118,52,33])]
abbrev bw3:List ByteArray:=[(ByteArray.mk #[32]),(ByteArray.mk #[32,32]),(ByteArray.mk #[10]),(ByteArray.mk #[32]),(ByteArray.mk #[])]
abbrev bw4:List ByteArray:=[(ByteArray.mk #[125]),(ByteArray.mk #[125]),(ByteArray.mk #[125,10]),(ByteArray.mk #[])]
abbrev bw5:List ByteArray:=[(ByteArray.mk #[59]),(ByteArray.mk #[59,10]),(ByteArray.mk #[59,32]),(ByteArray.mk #[])]
abbrev SD:Type:=ByteArray×Dice
def tx0G:Nat->ByteArray->Dice->SD
 |0,s,d=>(s,d)
 |k+1,s,d=>tx0G k (scat (scat s (dwdG d bw2)) (dwdG (dwdGN d bw2) bw3)) (dwdGN (dwdGN d bw2) bw3)
def txB (rec:Dice->SD)(dep:Bool)(r:SD):SD:=
 bif dep then (bif done r.2 3 then (scat (scat (scat r.1 (ByteArray.mk #[123])) (rec (dnext r.2 3)).1) (dwdG (rec (dnext r.2 3)).2 bw4),dwdGN (rec (dnext r.2 3)).2 bw4)
  else (scat r.1 (dwdG (dnext r.2 3) bw5),dwdGN (dnext r.2 3) bw5)) else (scat r.1 (dwdG r.2 bw5),dwdGN r.2 bw5)
def txA (s:ByteArray)(d:Dice):SD:=tx0G (1+dval (dwdGN d bw1) 3).toNat (scat s (dwdG d bw1)) (dnext (dwdGN d bw1) 3)
def tx1G (rec:Dice->SD)(dep:Bool):Nat->ByteArray->Dice->SD
 |0,s,d=>(s,d)
 |i+1,s,d=>tx1G rec dep i (txB rec dep (txA s d)).1 (txB rec dep (txA s d)).2
def txG:Nat->Dice->SD
 |0,d=>tx1G (fun d=>(ByteArray.mk #[],d)) false (dval d 5).toNat (ByteArray.mk #[]) (dnext d 5)
 |n+1,d=>tx1G (txG n) true (dval d 5).toNat (ByteArray.mk #[]) (dnext d 5)
def tx7F (d:Dice)(n:Int):ByteArray:=(txG n.toNat d).1
def tx7N (d:Dice)(n:Int):Dice:=(txG n.toNat d).2
def tx7S:Nat->Dice->Int->Bool
 |0,_,_=>false
 |k+1,d,n=>dOk d&&cP (0<=n/\n<=k/\n<=3)
def sp_f22R [Fuel]:Ent:=specP tyDice (.pr tI .nil) (fun d x=>(tx7S fuel d x.1)) (fun d x=>(.t .str (tx7F d x.1))) (fun d x=>(tx7N d x.1))
section
variable [Fuel][Nonempty (PLift (Meets Tryd.prog 22 (strip sp_f22R)))]
-- loop 0: (x1 : Int) (x5 : ByteArray) (x6 : Int) (x7 : Int) (y50000 : Dice); out: ('exit', 2) (x1 : Int) (x5 : ByteArray) (x6 : Int) (y50000 : Dice)
-- loop 1: (x1 : Int) (x5 : ByteArray) (x6 : Int) (y50000 : Dice); out: ('exit', 0) (x5 : ByteArray) (y50000 : Dice)
end
end
end Go.Proofs.YtkkoedniahnneaaDoor.K
